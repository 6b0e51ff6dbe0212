/- The walks of package aes: double, product, mix. -/
import Derived.Test.YtjjcnijdjhhdoaaMem
import Derived.Test.YtjjcnijdjhhdoaaQT
import Derived.BigQuiet
import Derived.Deep.MidRow
import Derived.Deep.DeepCutAuto
namespace Go.Proofs.Ytjjcnijdjhhdoaa
open Go.RowKit Go.QT
attribute [local go_sem] bits_xor8 bits_or8 bits_and8 u8_ub
theorem dbl_hi (a : UInt8) (h : 128 ≤ ub a) : bits .xor .u8 (ub a * 2 % 256) 27 = ub (dbl a) := by
  have := all8 (fun a => !(decide (128 ≤ ub a)) || decide (bits .xor .u8 (ub a * 2 % 256) 27 = ub (dbl a))) (by decide +kernel) a
  simpa [h] using this
theorem dbl_lo (a : UInt8) (h : ub a < 128) : ub a * 2 = ub (dbl a) := by
  have := all8 (fun a => !(decide (ub a < 128)) || decide (ub a * 2 = ub (dbl a))) (by decide +kernel) a
  simpa [h] using this
set_option maxRecDepth 100000 in
set_option maxHeartbeats 400000 in
theorem double_any (x : Int) (h0 : 0 ≤ x) (h1 : x ≤ 255) (w : World) :
    Calls Try.prog 60 #[.int .u8 x] w fun e w' => e = .returned (.int .u8 (ub (dbl (toB x)))) ∧ w = w' := by
  obtain ⟨a, rfl⟩ : ∃ a, x = ub a := ⟨toB x, (ub_u8 h0 h1).symm⟩
  rw [u8_ub]
  go_enter Try.func60, Try.ntmps60
  go_wp2
  all_goals go_ret
  · exact ⟨by rw [← dbl_hi a (by assumption)]; rfl, rfl⟩
  · exact ⟨by rw [← dbl_lo a (by assumption)]; rfl, rfl⟩
theorem prodLoop_zero (k : Nat) (a p : UInt8) : prodLoop k a 0 p = p := by cases k <;> simp [prodLoop]
theorem ub_zero : ub 0 = 0 := by unfold ub; rfl
theorem ub_half (b : UInt8) : ub b / (2 : Int) = ub (b >>> 1) := by
  have := all8 (fun b => decide (ub b / (2 : Int) = ub (b >>> 1))) (by decide +kernel) b
  simpa using this
theorem ub_odd (b : UInt8) : (bits .and .u8 (ub b) 1 == 1) = decide (b &&& 1 = 1) := by
  have := all8 (fun b => (bits .and .u8 (ub b) 1 == 1) == decide (b &&& 1 = 1)) (by decide +kernel) b
  simpa using this
theorem half_lt (b : UInt8) (k : Nat) (h : b.toNat < 2 ^ (k + 1)) : (b >>> 1).toNat < 2 ^ k := by
  have e : (b >>> 1).toNat = b.toNat / 2 := by
    have := all8 (fun b => decide ((b >>> 1).toNat = b.toNat / 2)) (by decide +kernel) b
    simpa using this
  rw [e]; omega
set_option maxRecDepth 100000 in
set_option maxHeartbeats 400000 in
theorem prod_any (x y : Int) (hx : 0 ≤ x) (hx' : x ≤ 255) (hy : 0 ≤ y) (hy' : y ≤ 255) (w : World) :
    Calls Try.prog 82 #[.int .u8 x, .int .u8 y] w fun e w' => e = .returned (.int .u8 (ub (prod (toB x) (toB y)))) ∧ w = w' := by
  obtain ⟨a, rfl⟩ : ∃ a, x = ub a := ⟨toB x, (ub_u8 hx hx').symm⟩
  obtain ⟨b, rfl⟩ : ∃ a, y = ub a := ⟨toB y, (ub_u8 hy hy').symm⟩
  rw [u8_ub, u8_ub]
  go_enter Try.func82, Try.ntmps82
  go_wp2
  go_loop [0, 1, 5] (fun x y p => ∃ (k : Nat) (a' b' p' : UInt8), x = .int .u8 (ub a') ∧ y = .int .u8 (ub b') ∧ p = .int .u8 (ub p') ∧ prodLoop k a' b' p' = prod a b ∧ b'.toNat < 2 ^ k) (fun _ y _ => (intOf y).toNat)
  case atStart => exact ⟨8, a, b, 0, rfl, rfl, by rw [ub_zero], rfl, b.toNat_lt⟩
  case round =>
    obtain ⟨k, a', b', p', rfl, rfl, rfl, hl, hk⟩ := hrel
    have H := Lib.hid hl; clear hl
    have H2 := Lib.hid hk; clear hk
    go_wp2_with (go_at_call 60; refine (double_any _ (by simp) (by simp) _).mono ?_; rintro e w' ⟨rfl, rfl⟩)
    · go_round
      case rel =>
        have hodd : (bits .and .u8 (ub b') 1 == 1) = true := by assumption
        rw [ub_odd, decide_eq_true_eq] at hodd
        have hl := H.out; have hk := H2.out
        rcases k with _ | k
        · exfalso
          have : 0 < ub b' := by assumption
          have : b' = 0 := by apply UInt8.toNat_inj.1; simp at hk ⊢; omega
          subst this; rw [ub_zero] at *; omega
        · refine ⟨k, dbl a', b' >>> 1, p' ^^^ a', rfl, by rw [ub_half], rfl, ?_, half_lt _ _ hk⟩
          rw [prodLoop, if_neg, if_pos hodd] at hl
          · exact hl
          · rintro rfl; simp at hodd
      case measure =>
        have hpos : 0 < ub b' := by assumption
        simp only [intOf]; omega
    · go_round
      case rel =>
        have hodd : (bits .and .u8 (ub b') 1 == 1) = false := by assumption
        have hpos : 0 < ub b' := by assumption
        rw [ub_odd, decide_eq_false_iff_not] at hodd
        have hl := H.out; have hk := H2.out
        have hne : b' ≠ 0 := by rintro rfl; rw [ub_zero] at hpos; omega
        rcases k with _ | k
        · exfalso
          apply hne
          apply UInt8.toNat_inj.1; simp at hk ⊢; omega
        · refine ⟨k, dbl a', b' >>> 1, p', rfl, by rw [ub_half], rfl, ?_, half_lt _ _ hk⟩
          rw [prodLoop, if_neg hne, if_neg hodd] at hl
          exact hl
      case measure =>
        have hpos : 0 < ub b' := by assumption
        simp only [intOf]; omega
    · go_ret
      have hz : ub b' ≤ 0 := by assumption
      have hz' : b' = 0 := by rw [← ub_inj, ub_zero]; have := ub_nonneg b'; omega
      have hl := H.out
      subst hz'
      rw [prodLoop_zero] at hl
      exact ⟨by rw [← hl]; rfl, rfl⟩
theorem prod_q (x y : Int) (hx : 0 ≤ x) (hx' : x ≤ 255) (hy : 0 ≤ y) (hy' : y ≤ 255) (w : World) (a n : Nat) :
    Calls Try.prog 82 #[.int .u8 x, .int .u8 y] (w.drewN (a + n)) fun e w'' => e = .returned (.int .u8 (ub (prod (toB x) (toB y)))) ∧ ∃ m, w'' = w.drewN (a + m) :=
  (prod_any x y hx hx' hy hy' _).mono fun _ _ ⟨he, hw⟩ => ⟨he, n, hw.symm⟩
theorem prod_q0 (x y : Int) (hx : 0 ≤ x) (hx' : x ≤ 255) (hy : 0 ≤ y) (hy' : y ≤ 255) (w : World) (n : Nat) :
    Calls Try.prog 82 #[.int .u8 x, .int .u8 y] (w.drewN n) fun e w'' => e = .returned (.int .u8 (ub (prod (toB x) (toB y)))) ∧ ∃ m, w'' = w.drewN m :=
  (prod_any x y hx hx' hy hy' _).mono fun _ _ ⟨he, hw⟩ => ⟨he, n, hw.symm⟩
theorem u8_2 : toB 2 = 2 := rfl
theorem u8_3 : toB 3 = 3 := rfl
theorem gb_set_ne (l : Bytes) (i j : Nat) (v : UInt8) (h : i ≠ j) : gb (l.set i v) j = gb l j := by simp [gb, h]
theorem mix_len (l : Bytes) (i : Nat) : (mixCol l i).length = l.length := by simp [mixCol]
set_option maxRecDepth 100000 in
set_option maxHeartbeats 800000 in
theorem mix_any (p T at_ : Nat) (t : Bytes) (w : World) (x : Int) (hx : x = at_) (hat : at_ + 4 ≤ 16) (ht : t.length = 16) (hp : Row w p T t) :
    Calls Try.prog 61 #[.pointer (some ⟨p, 0, none⟩), .int .i64 x] w fun e w' => e = .returned (.tuple #[]) ∧ Row w' p T (mixCol t at_) ∧ w.grownBy w' (some p) := by
  subst hx
  have h0 := Row.cell hp (i := at_) (by omega)
  have h1 := Row.cell hp (i := at_ + 1) (by omega)
  have h2 := Row.cell hp (i := at_ + 2) (by omega)
  have h3 := Row.cell hp (i := at_ + 3) (by omega)
  have f0 := Row.frozen hp at_
  have f1 := Row.frozen hp (at_ + 1)
  have f2 := Row.frozen hp (at_ + 2)
  have f3 := Row.frozen hp (at_ + 3)
  have HP := Lib.hid hp
  have HT := Lib.hid ht
  clear hp ht
  go_enter Try.func61, Try.ntmps61
  go_wp2
  go_quiet (fail)
  go_wp2
  refine wp_region_qt 13 (by kernel_rfl) (by kernel_rfl) ?_
  simp only [List.take_succ_cons, List.take_zero, List.drop_succ_cons, List.drop_zero]
  repeat (go_big_quiet_step ((go_at_call 82; exact prod_q _ _ (by simp) (by simp) (by simp) (by simp) _ _ _)))
  refine wpQuiet_nil ?_
  rintro _ ⟨nq1, rfl⟩
  go_wp2
  refine wp_region_qt 14 (by kernel_rfl) (by kernel_rfl) ?_
  simp only [List.take_succ_cons, List.take_zero, List.drop_succ_cons, List.drop_zero]
  repeat (go_big_quiet_step ((go_at_call 82; exact prod_q0 _ _ (by simp) (by simp) (by simp) (by simp) _ _)))
  refine wpQuiet_nil ?_
  rintro _ ⟨nq2, rfl⟩
  go_wp2
  refine wp_region_qt 14 (by kernel_rfl) (by kernel_rfl) ?_
  simp only [List.take_succ_cons, List.take_zero, List.drop_succ_cons, List.drop_zero]
  repeat (go_big_quiet_step ((go_at_call 82; exact prod_q0 _ _ (by simp) (by simp) (by simp) (by simp) _ _)))
  refine wpQuiet_nil ?_
  rintro _ ⟨nq3, rfl⟩
  go_wp2
  refine wp_region_qt 14 (by kernel_rfl) (by kernel_rfl) ?_
  simp only [List.take_succ_cons, List.take_zero, List.drop_succ_cons, List.drop_zero]
  repeat (go_big_quiet_step ((go_at_call 82; exact prod_q0 _ _ (by simp) (by simp) (by simp) (by simp) _ _)))
  refine wpQuiet_nil ?_
  rintro _ ⟨nq4, rfl⟩
  go_wp2
  go_end0
  refine ⟨rfl, ?_, ?_⟩
  · simp only [u8_2, u8_3, mixCol]
    have g1 := (HP.out.drewN (nq + nq1)).set at_ (prod (gb t at_) 2 ^^^ prod (gb t (at_ + 1)) 3 ^^^ gb t (at_ + 2) ^^^ gb t (at_ + 3))
    have g2 := (g1.drewN nq2).set (at_ + 1) (gb t at_ ^^^ prod (gb t (at_ + 1)) 2 ^^^ prod (gb t (at_ + 2)) 3 ^^^ gb t (at_ + 3))
    have g3 := (g2.drewN nq3).set (at_ + 2) (gb t at_ ^^^ gb t (at_ + 1) ^^^ prod (gb t (at_ + 2)) 2 ^^^ prod (gb t (at_ + 3)) 3)
    have g4 := (g3.drewN nq4).set (at_ + 3) (prod (gb t at_) 3 ^^^ gb t (at_ + 1) ^^^ gb t (at_ + 2) ^^^ prod (gb t (at_ + 3)) 2)
    with_reducible exact g4
  · with_reducible
      refine only_setCell (only_drewN (only_setCell (only_drewN (only_setCell (only_drewN (only_setCell (only_drewN ?_ _) ?_ _) _) ?_ _) _) ?_ _) _) ?_ _
    · exact only_refl _ _
    all_goals exact .inl rfl
end Go.Proofs.Ytjjcnijdjhhdoaa
