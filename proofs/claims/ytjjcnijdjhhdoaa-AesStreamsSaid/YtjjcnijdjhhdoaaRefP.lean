/- The walk of compeerref05.Product: it answers rprod. -/
import Derived.Test.YtjjcnijdjhhdoaaRefFn
import Derived.Test.YtjjcnijdjhhdoaaInts
import Derived.Test.YtjjcnijdjhhdoaaLaw
import Derived.Test.YtjjcnijdjhhdoaaQT
namespace Go.Proofs.Ytjjcnijdjhhdoaa
open Go.RowKit Go.QT
attribute [local go_sem] bits_xor8 bits_or8 bits_and8 u8_ub
theorem mulTo_lt (a b k : Nat) (ha : a < 256) (hk : k ≤ 8) : mulTo a b k < 2 ^ 15 := by
  induction k with
  | zero => simp [mulTo]
  | succ k ih =>
    have h1 := ih (by omega)
    have h2 := pow_lt8 k (by omega)
    have h3 : a * 2 ^ k < 2 ^ 15 := by
      have : a * 2 ^ k ≤ 255 * 128 := Nat.mul_le_mul (by omega) h2
      omega
    rw [mulTo]; split
    · exact Nat.xor_lt_two_pow h1 h3
    · exact h1
theorem redTo_lt (n j : Nat) (hn : n < 2 ^ 15) (hj : j ≤ 7) : redTo n j < 2 ^ 15 := by
  induction j with
  | zero => exact hn
  | succ j ih =>
    have h1 := ih (by omega)
    have h2 : 2 ^ (14 - j - 8) ≤ 64 := by
      have h : 14 - j - 8 ≤ 6 := by omega
      exact Nat.pow_le_pow_right (n := 2) (by omega) h
    have h3 : 283 * 2 ^ (14 - j - 8) < 2 ^ 15 := by
      have : 283 * 2 ^ (14 - j - 8) ≤ 283 * 64 := Nat.mul_le_mul (by omega) h2
      omega
    rw [redTo]; split
    · exact Nat.xor_lt_two_pow h1 h3
    · exact h1
set_option maxRecDepth 100000 in
set_option maxHeartbeats 400000 in
theorem rprod_any (x y : Int) (hx : 0 ≤ x) (hx' : x ≤ 255) (hy : 0 ≤ y) (hy' : y ≤ 255) (w : World) :
    Calls Try.prog 63 #[.int .u8 x, .int .u8 y] w fun e w' => e = .returned (.int .u8 (ub (rprod (toB x) (toB y)))) ∧ w = w' := by
  obtain ⟨a, rfl⟩ : ∃ a, x = ub a := ⟨toB x, (ub_u8 hx hx').symm⟩
  obtain ⟨b, rfl⟩ : ∃ a, y = ub a := ⟨toB y, (ub_u8 hy hy').symm⟩
  rw [u8_ub, u8_ub]
  go_enter Try.func63, Try.ntmps63
  go_wp2
  go_loop [5, 6] (fun n k => ∃ k' : Nat, k' ≤ 8 ∧ k = .int .i64 k' ∧ n = .int .i64 ((mulTo (nb a) (nb b) k' : Nat) : Int)) (fun _ k => 8 - (intOf k).toNat)
  case atStart => exact ⟨0, by omega, rfl, rfl⟩
  case round =>
    obtain ⟨k, hk, rfl, rfl⟩ := hrel
    by_cases hlt : k < 8
    · have hN := mulTo_lt (nb a) (nb b) k (nb_lt a) (by omega)
      have h2 := pow_lt8 k hlt
      have h3 : nb a * 2 ^ k < 2 ^ 15 := by
        have := nb_lt a
        have : nb a * 2 ^ k ≤ 255 * 128 := Nat.mul_le_mul (by omega) h2
        omega
      have hs : mulTo (nb a) (nb b) (k+1) = if (nb b / 2 ^ k) % 2 = 1 then mulTo (nb a) (nb b) k ^^^ (nb a * 2 ^ k) else mulTo (nb a) (nb b) k := rfl
      have Hs := Lib.hid hs
      have H3 := Lib.hid h3
      have HN := Lib.hid hN
      clear hs h3 h2 hN
      generalize mulTo (nb a) (nb b) k = N at *
      by_cases hb : nb b / 2 ^ k % 2 = 1
      · have ht : ((ub b / 2 ^ k).tmod 2 == 1) = true := by rw [ub_nb, bit_test]; simpa using hb
        have Hb := Lib.hid hb
        clear hb
        go_wp2
        refine ⟨⟨k + 1, by omega, by go_num, ?_⟩, by simp [intOf]; omega⟩
        rw [Hs.out, if_pos Hb.out, ub_nb, xor_shl N (nb a) k 15 (Nat.lt_trans HN.out (by decide)) H3.out (by decide)]
      · have ht : ((ub b / 2 ^ k).tmod 2 == 1) = false := by rw [ub_nb, bit_test]; simpa using hb
        have Hb := Lib.hid hb
        clear hb
        go_wp2
        refine ⟨⟨k + 1, by omega, by go_num, ?_⟩, by simp [intOf]; omega⟩
        rw [Hs.out, if_neg Hb.out]
    · have hk8 : k = 8 := by omega
      have hM := mulTo_lt (nb a) (nb b) 8 (nb_lt a) (by omega)
      have hr : rprod a b = UInt8.ofNat (redTo (mulTo (nb a) (nb b) 8) 7) := rfl
      rw [hk8]
      have Hr := Lib.hid hr
      have HM := Lib.hid hM
      clear hr hM hk8 hlt hk
      generalize mulTo (nb a) (nb b) 8 = M at *
      go_wp2
      go_loop [5, 7] (fun n k => ∃ j : Nat, j ≤ 7 ∧ k = .int .i64 (14 - (j : Int)) ∧ n = .int .i64 ((redTo M j : Nat) : Int)) (fun _ k => (intOf k).toNat)
      case atStart => exact ⟨0, by omega, by go_num, rfl⟩
      case round =>
        obtain ⟨j, hj, rfl, rfl⟩ := hrel
        by_cases hlt : j < 7
        · have hN := redTo_lt M j HM.out hj
          have h3 : 283 * 2 ^ (14 - j - 8) < 2 ^ 15 := by
            have h : 14 - j - 8 ≤ 6 := by omega
            have : 2 ^ (14 - j - 8) ≤ 2 ^ 6 := Nat.pow_le_pow_right (n := 2) (by omega) h
            omega
          have hs : redTo M (j+1) = if (redTo M j / 2 ^ (14 - j)) % 2 = 1 then redTo M j ^^^ (283 * 2 ^ (14 - j - 8)) else redTo M j := rfl
          have Hs := Lib.hid hs
          have H3 := Lib.hid h3
          have HN := Lib.hid hN
          clear hs h3 hN
          generalize redTo M j = N at *
          by_cases hb : N / 2 ^ (14 - j) % 2 = 1
          · have ht : (((N : Int) / 2 ^ (14 - j)).tmod 2 == 1) = true := by rw [bit_test]; simpa using hb
            have Hb := Lib.hid hb
            clear hb
            go_wp2
            refine ⟨⟨j + 1, by omega, by go_num, ?_⟩, by simp [intOf]; omega⟩
            have hx := xor_shl N 283 (14 - j - 8) 15 (Nat.lt_trans HN.out (by decide)) H3.out (by decide)
            rw [Hs.out, if_pos Hb.out, ← hx]; rfl
          · have ht : (((N : Int) / 2 ^ (14 - j)).tmod 2 == 1) = false := by rw [bit_test]; simpa using hb
            have Hb := Lib.hid hb
            clear hb
            go_wp2
            refine ⟨⟨j + 1, by omega, by go_num, ?_⟩, by simp [intOf]; omega⟩
            rw [Hs.out, if_neg Hb.out]
        · have hj7 : j = 7 := by omega
          have hN := redTo_lt M j HM.out hj
          have hr := Hr.out
          rw [← hj7] at hr
          have Hr2 := Lib.hid hr
          have HN := Lib.hid hN
          clear hr hN hj7
          generalize redTo M j = N at *
          go_wp2
          go_ret
          exact ⟨by rw [Hr2.out, ub_ofNat]; rfl, rfl⟩
end Go.Proofs.Ytjjcnijdjhhdoaa
