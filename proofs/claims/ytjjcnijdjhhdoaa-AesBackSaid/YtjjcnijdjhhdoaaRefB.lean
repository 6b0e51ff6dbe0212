/- The walk of compeerref05.Boxes. -/
import Derived.Test.YtjjcnijdjhhdoaaOB
import Derived.Test.YtjjcnijdjhhdoaaRefX

namespace Go.Proofs.Ytjjcnijdjhhdoaa
open Go.RowKit Go.QT
attribute [local go_sem] bits_xor8 bits_or8 bits_and8 u8_ub
/-- What a call leaves that makes a row of bytes. -/
def BPost (w : World) (l : Bytes) (e : Ending) (w' : World) : Prop := ∃ v, e = .returned v ∧ OB w' w.heap.size v l ∧ Below w.heap.size w w'
theorem boxesTo_length (n : Nat) : (boxesTo n).length = n := by
  induction n with
  | zero => rfl
  | succ n ih => rw [boxesTo, List.length_append, ih]; rfl
set_option maxRecDepth 100000 in
set_option maxHeartbeats 400000 in
theorem rboxes_any (w : World) : Calls Try.prog 20 #[] w (BPost w rboxes) := by
  go_enter Try.func20, Try.ntmps20
  go_upto_region 2 with (fail)
  have hv : OB (w.alloc (.cells #[] 5)) w.heap.size (.slice (some ⟨w.heap.size, 0, none⟩) 0 0) (boxesTo 0) := OB.new _ _ [] (by simp) (Row.new w 5 []) (Nat.le_refl _)
  have hB : Below w.heap.size w (w.alloc (.cells #[] 5)) := (Below.refl _ _).alloc (Nat.le_refl _) _
  generalize w.alloc (.cells #[] 5) = w1 at *
  go_wp2
  go_loopw [1, 2] (fun v k wr => ∃ n : Nat, n ≤ 256 ∧ k = .int .i64 n ∧ OB wr w.heap.size v (boxesTo n) ∧ Below w.heap.size w wr) (fun _ k _ => 256 - (intOf k).toNat)
  case atStart => exact ⟨0, by omega, rfl, hv, hB⟩
  case round =>
    clear hv hB
    obtain ⟨n, hn, rfl, hv, hB⟩ := hrel
    have hlen := boxesTo_length n
    by_cases hlt : n < 256
    · have hub : ub (UInt8.ofNat n) = (n : Int) := by rw [ub_ofNat]; omega
      have Hub := Lib.hid hub
      have Hs : Hid (boxesTo (n+1) = boxesTo n ++ [rbox (UInt8.ofNat n)]) := rfl
      clear hub
      have Hl := Lib.hid hlen
      clear hlen
      generalize boxesTo n = l at *
      go_wp2_with (first | (go_at_call 64; refine (rbox_any _ (by simp) (by omega) _).mono ?_; rintro e w' ⟨rfl, rfl⟩) | (at_builtin; refine wl_push rfl (.tmp 8) (.tmp 12) rfl w.heap.size _ l _ wr.heap.size rfl rfl (hv.alloc _) (Row.new _ 5 [_]) (by rw [Hl.out]; omega) (by have := hB.size; simp; omega) ?_; intro v' w' hv' hg' hat))
      refine ⟨⟨n + 1, by omega, by go_num, ?_, (hv.alloc _).grownBelow (hB.alloc hB.size _) hg' (Nat.le_refl _) (Nat.le_refl _)⟩, by simp [intOf]; omega⟩
      rw [Hs.out]
      have e : toB (n : Int) = UInt8.ofNat n := by simp [toB]
      rwa [e] at hv'
    · have hn' : n = 256 := by omega
      have Hv := Lib.hid hv
      clear hv hlen
      go_wp2
      go_ret
      have hv := Hv.out
      rw [hn'] at hv
      exact ⟨_, rfl, hv, hB⟩
end Go.Proofs.Ytjjcnijdjhhdoaa
