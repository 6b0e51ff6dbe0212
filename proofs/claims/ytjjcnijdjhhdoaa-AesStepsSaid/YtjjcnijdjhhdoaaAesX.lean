/- The walk of box: it answers a pointer to a new row, sbox. -/
import Derived.Test.YtjjcnijdjhhdoaaAesW

namespace Go.Proofs.Ytjjcnijdjhhdoaa
open Go.RowKit Go.QT
theorem bits_sh1 (q : UInt8) : bits .xor .u8 (ub q) (ub q * (2 : Int) % (256 : Int)) = ub (sh1 q) := by
  have := all8 (fun q => decide (bits .xor .u8 (ub q) (ub q * (2 : Int) % (256 : Int)) = ub (sh1 q))) (by decide +kernel) q
  simpa using this
theorem bits_sh2 (q : UInt8) : bits .xor .u8 (ub q) (ub q * (4 : Int) % (256 : Int)) = ub (sh2 q) := by
  have := all8 (fun q => decide (bits .xor .u8 (ub q) (ub q * (4 : Int) % (256 : Int)) = ub (sh2 q))) (by decide +kernel) q
  simpa using this
theorem bits_sh4 (q : UInt8) : bits .xor .u8 (ub q) (ub q * (16 : Int) % (256 : Int)) = ub (sh4 q) := by
  have := all8 (fun q => decide (bits .xor .u8 (ub q) (ub q * (16 : Int) % (256 : Int)) = ub (sh4 q))) (by decide +kernel) q
  simpa using this
theorem bits_9 (q : UInt8) : bits .xor .u8 (ub q) 9 = ub (q ^^^ 9) := by
  have := all8 (fun q => decide (bits .xor .u8 (ub q) 9 = ub (q ^^^ 9))) (by decide +kernel) q
  simpa using this
theorem bits_99 (q : UInt8) : bits .xor .u8 (ub q) 99 = ub (q ^^^ 99) := by
  have := all8 (fun q => decide (bits .xor .u8 (ub q) 99 = ub (q ^^^ 99))) (by decide +kernel) q
  simpa using this
theorem bits_rot1 (q : UInt8) : bits .or .u8 (ub q * (2 : Int) % (256 : Int)) (ub q / (128 : Int)) = ub (rot q 1) := by
  have := all8 (fun q => decide (bits .or .u8 (ub q * (2 : Int) % (256 : Int)) (ub q / (128 : Int)) = ub (rot q 1))) (by decide +kernel) q
  simpa using this
theorem bits_rot2 (q : UInt8) : bits .or .u8 (ub q * (4 : Int) % (256 : Int)) (ub q / (64 : Int)) = ub (rot q 2) := by
  have := all8 (fun q => decide (bits .or .u8 (ub q * (4 : Int) % (256 : Int)) (ub q / (64 : Int)) = ub (rot q 2))) (by decide +kernel) q
  simpa using this
theorem bits_rot3 (q : UInt8) : bits .or .u8 (ub q * (8 : Int) % (256 : Int)) (ub q / (32 : Int)) = ub (rot q 3) := by
  have := all8 (fun q => decide (bits .or .u8 (ub q * (8 : Int) % (256 : Int)) (ub q / (32 : Int)) = ub (rot q 3))) (by decide +kernel) q
  simpa using this
theorem bits_rot4 (q : UInt8) : bits .or .u8 (ub q * (16 : Int) % (256 : Int)) (ub q / (16 : Int)) = ub (rot q 4) := by
  have := all8 (fun q => decide (bits .or .u8 (ub q * (16 : Int) % (256 : Int)) (ub q / (16 : Int)) = ub (rot q 4))) (by decide +kernel) q
  simpa using this
attribute [local go_sem] bits_rot1 bits_rot2 bits_rot3 bits_rot4 bits_xor8 bits_or8 bits_and8 u8_ub bits_sh1 bits_sh2 bits_sh4 bits_9 bits_99
theorem i135 : (Try.prog.info? 135).map (·.size) = some 256 := by kernel_rfl
theorem boxTo_length (n : Nat) : (boxTo n).out.length = 256 := by
  induction n with
  | zero => exact List.length_replicate
  | succ n ih => exact List.length_set.trans ih
set_option maxRecDepth 100000 in
set_option maxHeartbeats 400000 in
theorem box_any (w : World) :
    Calls Try.prog 59 #[] w fun e w' => e = .returned (.pointer (some ⟨w.heap.size, 0, none⟩)) ∧ Row w' w.heap.size 135 sbox ∧ Below w.heap.size w w' := by
  go_enter Try.func59, Try.ntmps59
  have hz : Row (w.alloc (.cells Try.zeroCells135 135)) w.heap.size 135 (List.replicate 256 0) := by
    have h := heap_alloc_new w (.cells Try.zeroCells135 135)
    have e : Try.zeroCells135 = (List.replicate 256 (Value.int .u8 0)).toArray := by kernel_rfl
    unfold Row Blk; rw [vb_zeros, h, e]
  go_upto_region 2 with (fail)
  have hB : Below w.heap.size w (w.alloc (.cells Try.zeroCells135 135)) := (Below.refl _ _).alloc (Nat.le_refl _) _
  generalize w.alloc (.cells Try.zeroCells135 135) = w1 at *
  go_wp2
  go_loopw [2, 3, 6] (fun p q i wr => ∃ n : Nat, n ≤ 255 ∧ i = .int .i64 n ∧ p = .int .u8 (ub (boxTo n).p) ∧ q = .int .u8 (ub (boxTo n).q) ∧ Row wr w.heap.size 135 (boxTo n).out ∧ Below w.heap.size w wr) (fun _ _ i _ => 255 - (intOf i).toNat)
  case atStart => exact ⟨0, by omega, rfl, by rw [show (boxTo 0).p = 1 from rfl]; simp [ub], by rw [show (boxTo 0).q = 1 from rfl]; simp [ub], hz, hB⟩
  case round =>
    clear hz hB
    obtain ⟨n, hn, rfl, rfl, rfl, hR, hB⟩ := hrel
    have HR := Lib.hid hR
    clear hR
    by_cases hlt : n < 255
    · have hpn : (boxTo (n+1)).p = (boxTo n).p ^^^ dbl (boxTo n).p := rfl
      have hqn : (boxTo (n+1)).q = boxQ (boxTo n).q := rfl
      have hon : (boxTo (n+1)).out = (boxTo n).out.set (nb ((boxTo n).p ^^^ dbl (boxTo n).p)) (boxX (boxQ (boxTo n).q) 4 ^^^ 99) := rfl
      have HP := Lib.hid hpn
      have HQ := Lib.hid hqn
      have HO := Lib.hid hon
      clear hpn hqn hon
      generalize (boxTo n).p = p at *
      generalize (boxTo n).q = q at *
      by_cases hq : 128 ≤ sh4 (sh2 (sh1 q))
      · have hq' : 128 ≤ ub (sh4 (sh2 (sh1 q))) := by
          rw [UInt8.le_iff_toNat_le] at hq; unfold ub; simp at hq ⊢; omega
        have e : sh4 (sh2 (sh1 q)) ^^^ 9 = boxQ q := by rw [boxQ, if_pos hq]
        go_wp2_with (go_at_call 60; refine (double_any _ (by simp) (by simp) _).mono ?_; rintro e w' ⟨rfl, rfl⟩)
        obtain ⟨w2, rfl⟩ : ∃ w1 : World, w1 = wr := ⟨_, rfl⟩
        clear e hq' hq
        generalize boxQ q = q' at *
        go_loopw [4, 5] (fun x n wr => ∃ k m : Nat, k ≤ 4 ∧ x = .int .u8 (ub (boxX q' k)) ∧ n = .int .i64 (↑k + 1) ∧ wr = w2.drewN m) (fun _ n _ => 5 - (intOf n).toNat)
        case atStart => exact ⟨0, 0, by omega, rfl, by go_num, rfl⟩
        case round =>
          obtain ⟨k, m, hk, rfl, rfl, rfl⟩ := hrel
          by_cases hk4 : k < 4
          · have hk' : k = 0 ∨ k = 1 ∨ k = 2 ∨ k = 3 := by omega
            have Hx : Hid (boxX q' (k+1) = boxX q' k ^^^ rot q' (k+1)) := rfl
            rcases hk' with rfl | rfl | rfl | rfl
            all_goals
              go_wp2
              go_quiet (fail)
              go_wp2
              refine ⟨⟨_, m + nq, ?_, by rw [← Hx.out], ?_, rfl⟩, by simp [intOf]⟩
              · omega
              · rfl
          · have hk' : k = 4 := by omega
            rw [hk'] at *
            have HR' : Row w2 w.heap.size 135 (boxTo n).out := HR.out
            have hlen : (boxTo n).out.length = 256 := boxTo_length n
            have c1 := Row.cell HR' (i := nb (p ^^^ dbl p)) (by rw [hlen]; exact nb_lt _)
            have f1 := Row.frozen HR' (nb (p ^^^ dbl p))
            have hnb : nb (p ^^^ dbl p) < 256 := nb_lt _
            clear hlen
            have HR2 := Lib.hid HR'
            clear HR'
            go_wp2
            refine ⟨⟨n + 1, by omega, by go_num, by rw [HP.out], by rw [HQ.out], by rw [HO.out]; exact (HR2.out.drewN _).set _ _, (below_drewN hB _).setCell (Nat.le_refl _) _⟩, by simp [intOf]; omega⟩
      · have hq' : ub (boxQ q) < 128 := by
          rw [boxQ, if_neg hq]; rw [UInt8.le_iff_toNat_le] at hq; unfold ub; simp at hq ⊢; omega
        have e : sh4 (sh2 (sh1 q)) = boxQ q := by rw [boxQ, if_neg hq]
        go_wp2_with (go_at_call 60; refine (double_any _ (by simp) (by simp) _).mono ?_; rintro e w' ⟨rfl, rfl⟩)
        obtain ⟨w2, rfl⟩ : ∃ w1 : World, w1 = wr := ⟨_, rfl⟩
        clear hq' hq
        clear e
        generalize boxQ q = q' at *
        go_loopw [4, 5] (fun x n wr => ∃ k m : Nat, k ≤ 4 ∧ x = .int .u8 (ub (boxX q' k)) ∧ n = .int .i64 (↑k + 1) ∧ wr = w2.drewN m) (fun _ n _ => 5 - (intOf n).toNat)
        case atStart => exact ⟨0, 0, by omega, rfl, by go_num, rfl⟩
        case round =>
          obtain ⟨k, m, hk, rfl, rfl, rfl⟩ := hrel
          by_cases hk4 : k < 4
          · have hk' : k = 0 ∨ k = 1 ∨ k = 2 ∨ k = 3 := by omega
            have Hx : Hid (boxX q' (k+1) = boxX q' k ^^^ rot q' (k+1)) := rfl
            rcases hk' with rfl | rfl | rfl | rfl
            all_goals
              go_wp2
              go_quiet (fail)
              go_wp2
              refine ⟨⟨_, m + nq, ?_, by rw [← Hx.out], ?_, rfl⟩, by simp [intOf]⟩
              · omega
              · rfl
          · have hk' : k = 4 := by omega
            rw [hk'] at *
            have HR' : Row w2 w.heap.size 135 (boxTo n).out := HR.out
            have hlen : (boxTo n).out.length = 256 := boxTo_length n
            have c1 := Row.cell HR' (i := nb (p ^^^ dbl p)) (by rw [hlen]; exact nb_lt _)
            have f1 := Row.frozen HR' (nb (p ^^^ dbl p))
            have hnb : nb (p ^^^ dbl p) < 256 := nb_lt _
            clear hlen
            have HR2 := Lib.hid HR'
            clear HR'
            go_wp2
            refine ⟨⟨n + 1, by omega, by go_num, by rw [HP.out], by rw [HQ.out], by rw [HO.out]; exact (HR2.out.drewN _).set _ _, (below_drewN hB _).setCell (Nat.le_refl _) _⟩, by simp [intOf]; omega⟩
    · have hn' : n = 255 := by omega
      have HR' : Row wr w.heap.size 135 (boxTo 255).out := by rw [← hn']; exact HR.out
      have c1 := Row.cell HR' (i := 0) (by rw [boxTo_length]; omega)
      have f1 := Row.frozen HR' 0
      have HR2 := Lib.hid HR'
      clear HR' hn'
      go_wp2
      go_ret
      refine ⟨rfl, ?_, hB.setCell (Nat.le_refl _) _⟩
      have h99 : ub 99 = 99 := by simp [ub]
      have := HR2.out.set 0 99
      rw [h99] at this
      exact this
end Go.Proofs.Ytjjcnijdjhhdoaa
