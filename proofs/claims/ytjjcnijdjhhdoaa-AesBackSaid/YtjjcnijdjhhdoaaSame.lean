/- The walk of compeerref01.Same. -/
import Derived.Test.YtjjcnijdjhhdoaaSB
import Derived.Test.YtjjcnijdjhhdoaaQT

namespace Go.Proofs.Ytjjcnijdjhhdoaa
open Go.RowKit Go.QT
theorem same_eq (a b : Bytes) (h : a.length = b.length) (hk : ∀ k, k < a.length → gb a k = gb b k) : a = b := by
  apply List.ext_getElem h
  intro i h1 h2
  have := hk i h1
  simpa [gb, h1, h2] using this
set_option maxRecDepth 100000 in
set_option maxHeartbeats 400000 in
theorem same_any (va vb' : Value) (a b : Bytes) (w : World) (ha : SB w va a) (hb : SB w vb' b) :
    Calls Try.prog 18 #[va, vb'] w (QPost w (.bool (decide (a = b)))) := by
  obtain ⟨A, c, rfl, hc, hm, ha⟩ := ha
  obtain ⟨B, d, rfl, hd, hm', hb⟩ := hb
  unfold maxLen at hm hm'
  by_cases hl : a.length = b.length
  · have hl1 : ((a.length : Int) != (b.length : Int)) = false := by simp [hl]
    have HA := Lib.hid ha
    have HB := Lib.hid hb
    have HL := Lib.hid hl
    clear ha hb hl
    go_enter Try.func18, Try.ntmps18
    go_wp2
    go_loopw [5] (fun i wr => ∃ k m : Nat, k ≤ a.length ∧ i = .int .i64 k ∧ wr = w.drewN m ∧ ∀ j, j < k → gb a j = gb b j) (fun i _ => a.length - (intOf i).toNat)
    case atStart => exact ⟨0, 0, by omega, rfl, rfl, fun j h => by omega⟩
    case round =>
      obtain ⟨k, m, hk, rfl, rfl, hj⟩ := hrel
      have HJ := Lib.hid hj
      clear hj
      by_cases hlt : k < a.length
      · have hlb : k < b.length := by have := HL.out; omega
        obtain ⟨ba, oa, rfl, hba, hca⟩ := HA.out (by rintro rfl; simp at hlt)
        obtain ⟨bb, ob, rfl, hbb, hcb⟩ := HB.out (by rintro rfl; simp at hlb)
        have e1 := hca k hlt
        have e2 := hcb k hlb
        clear hca hcb
        by_cases hab : gb a k = gb b k
        · have ht : ((ub (gb a k)) != (ub (gb b k))) = false := by simp [hab]
          have Hab := Lib.hid hab
          clear hab
          go_wp2
          go_quiet (fail)
          go_wp2
          refine ⟨⟨k + 1, m + nq, by omega, by go_num, rfl, fun j hj => ?_⟩, by simp [intOf]; omega⟩
          rcases Nat.lt_or_ge j k with h | h
          · exact HJ.out j h
          · rw [show j = k by omega]; exact Hab.out
        · have ht : ((ub (gb a k)) != (ub (gb b k))) = true := by simp [ub_inj, hab]
          have Hab := Lib.hid hab
          clear hab
          go_wp2
          go_quiet (fail)
          go_wp2
          go_ret
          exact ⟨by rw [decide_eq_false (fun e => Hab.out (by rw [e]))]; rfl, m + nq, by simp⟩
      · go_wp2
        go_ret
        exact ⟨by rw [decide_eq_true (same_eq a b HL.out (fun j h => HJ.out j (by omega)))]; rfl, m, rfl⟩
  · have hl1 : ((a.length : Int) != (b.length : Int)) = true := by simp; omega
    have HL := Lib.hid hl
    clear hl
    go_enter Try.func18, Try.ntmps18
    go_wp2
    go_ret
    exact ⟨by rw [decide_eq_false (fun e => HL.out (by rw [e]))]; rfl, 0, rfl⟩
end Go.Proofs.Ytjjcnijdjhhdoaa
