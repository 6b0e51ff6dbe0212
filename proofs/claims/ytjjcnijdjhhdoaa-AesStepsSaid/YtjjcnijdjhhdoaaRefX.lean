/- The walk of compeerref05.Box: it answers rbox. -/
import Derived.Test.YtjjcnijdjhhdoaaRefP

namespace Go.Proofs.Ytjjcnijdjhhdoaa
open Go.RowKit Go.QT
attribute [local go_sem] bits_xor8 bits_or8 bits_and8 u8_ub
theorem bitTo_le (x : UInt8) (k j : Nat) : bitTo x k j ≤ j := by
  induction j with
  | zero => exact Nat.le_refl _
  | succ j ih => rw [bitTo]; omega
set_option maxRecDepth 100000 in
set_option maxHeartbeats 400000 in
theorem rbox_any (y : Int) (hy : 0 ≤ y) (hy' : y ≤ 255) (w : World) :
    Calls Try.prog 64 #[.int .u8 y] w fun e w' => e = .returned (.int .u8 (ub (rbox (toB y)))) ∧ w = w' := by
  obtain ⟨b, rfl⟩ : ∃ a, y = ub a := ⟨toB y, (ub_u8 hy hy').symm⟩
  rw [u8_ub]
  go_enter Try.func64, Try.ntmps64
  go_wp2
  go_loop [3, 4] (fun x k => ∃ k' : Nat, k' ≤ 254 ∧ k = .int .i64 k' ∧ x = .int .u8 (ub (powTo b k'))) (fun _ k => 254 - (intOf k).toNat)
  case atStart => exact ⟨0, by omega, rfl, by simp [powTo, ub]⟩
  case round =>
    obtain ⟨k, hk, rfl, rfl⟩ := hrel
    by_cases hlt : k < 254
    · have Hs : Hid (powTo b (k+1) = rprod (powTo b k) b) := rfl
      generalize powTo b k = x at *
      go_wp2_with (go_at_call 63; refine (rprod_any _ _ (by simp) (by simp) (by simp) (by simp) _).mono ?_; rintro e w' ⟨rfl, rfl⟩)
      exact ⟨⟨k + 1, by omega, by go_num, by rw [Hs.out]⟩, by simp [intOf]; omega⟩
    · have Hx : Hid (rbox b = outTo (powTo b k) 8) := by
        have : k = 254 := by omega
        rw [this]; rfl
      generalize powTo b k = x at *
      go_wp2
      go_loop [5, 6] (fun o k => ∃ k' : Nat, k' ≤ 8 ∧ k = .int .i64 k' ∧ o = .int .u8 (ub (outTo x k'))) (fun _ k => 8 - (intOf k).toNat)
      case atStart => exact ⟨0, by omega, rfl, by simp [outTo, ub]⟩
      case round =>
        obtain ⟨k2, hk2, rfl, rfl⟩ := hrel
        by_cases hlt2 : k2 < 8
        · have Hs : Hid (outTo x (k2+1) = outTo x k2 + UInt8.ofNat ((bitTo x k2 5 + 99 / 2 ^ k2 % 2) % 2 * 2 ^ k2)) := rfl
          generalize outTo x k2 = o at *
          go_wp2
          go_loop [7, 8] (fun t j => ∃ j' : Nat, j' ≤ 5 ∧ j = .int .i64 j' ∧ t = .int .i64 ((bitTo x k2 j' : Nat) : Int)) (fun _ j => 5 - (intOf j).toNat)
          case atStart => exact ⟨0, by omega, rfl, rfl⟩
          case round =>
            obtain ⟨j, hj, rfl, rfl⟩ := hrel
            have hbt : bitTo x k2 j ≤ j := bitTo_le x k2 j
            by_cases hlt3 : j < 5
            · have Hs2 : Hid (bitTo x k2 (j+1) = bitTo x k2 j + nb x / 2 ^ ((k2 + 8 - j) % 8) % 2) := rfl
              generalize bitTo x k2 j = t at *
              go_wp2
              refine ⟨⟨j + 1, by omega, by go_num, ?_⟩, by simp [intOf]; omega⟩
              rw [Hs2.out, wrap64_ub, ub_nb, div_pow, tmod_nat, ← Int.natCast_add, wrap64_nat _ (by omega)]
            · have hj5 : j = 5 := by omega
              have hs := Hs.out
              rw [← hj5] at hs
              have Hs3 := Lib.hid hs
              clear hs hj5 Hs
              generalize bitTo x k2 j = t at *
              go_wp2
              refine ⟨⟨k2 + 1, by omega, by go_num, ?_⟩, by simp [intOf]; omega⟩
              have hp := pow_lt8 k2 hlt2
              have hm : (t + 99 / 2 ^ k2 % 2) % 2 * 2 ^ k2 ≤ 1 * 128 := Nat.mul_le_mul (by omega) hp
              have e1 : ((99 : Int) / 2 ^ k2) = ((99 / 2 ^ k2 : Nat) : Int) := div_pow 99 k2
              rw [Hs3.out, e1, tmod_nat, ← Int.natCast_add, wrap64_nat _ (by omega), tmod_nat, pow_cast, ← Int.natCast_mul, wrap64_nat _ (by omega), ← ub_ofNat, ub_add]
        · have hk8 : k2 = 8 := by omega
          have hx := Hx.out
          rw [← hk8] at hx
          have Hx2 := Lib.hid hx
          clear hx hk8 Hx
          generalize outTo x k2 = o at *
          go_wp2
          go_ret
          exact ⟨by rw [Hx2.out]; rfl, rfl⟩
end Go.Proofs.Ytjjcnijdjhhdoaa
