/- Slices that read as bytes. -/
import Derived.Test.YtjjcnijdjhhdoaaLaw
import Derived.Test.YtjjcnijdjhhdoaaWords
import Derived.Test.YtjjcnijdjhhdoaaQT
import Derived.Deep.DeepCutAuto
import Derived.BigQuiet
namespace Go.Proofs.Ytjjcnijdjhhdoaa
open Go.RowKit
/-- The slice value v reads as the bytes l. -/
def SB (w : World) (v : Value) (l : Bytes) : Prop :=
  ∃ A c, v = .slice A l.length c ∧ l.length ≤ c ∧ c ≤ maxLen ∧ (l ≠ [] → ∃ b o, A = some ⟨b, o, none⟩ ∧ b < w.heap.size ∧ ∀ i, i < l.length → w.cell? ⟨b, o + i, none⟩ = some (.int .u8 (ub (gb l i))))
/-- What a call that only reads leaves. -/
def QPost (w : World) (v : Value) (e : Ending) (w' : World) : Prop := e = .returned v ∧ ∃ n, w' = w.drewN n
section
variable {w w' : World} {v : Value} {l : Bytes}
theorem SB.keep (h : SB w v l) (hs : w.heap.size ≤ w'.heap.size) (hk : ∀ b o, b < w.heap.size → w'.cell? ⟨b, o, none⟩ = w.cell? ⟨b, o, none⟩) : SB w' v l := by
  obtain ⟨A, c, rfl, hc, hm, h⟩ := h
  refine ⟨A, c, rfl, hc, hm, fun hl => ?_⟩
  obtain ⟨b, o, hA, hb, hcell⟩ := h hl
  exact ⟨b, o, hA, by omega, fun i hi => (hk b _ hb).trans (hcell i hi)⟩
theorem SB.below (h : SB w v l) (hb : Below w.heap.size w w') : SB w' v l := h.keep hb.size fun _ _ h => hb.cell h
theorem SB.drewN (h : SB w v l) (n : Nat) : SB (w.drewN n) v l := h
theorem SB.drew (h : SB w v l) : SB w.drew v l := h
theorem SB.alloc (h : SB w v l) (o : Obj) : SB (w.alloc o) v l := h.below ((Below.refl _ _).alloc (Nat.le_refl _) o)
theorem SB.nil (w : World) (c : Nat) (hc : c ≤ maxLen) (A : Option Addr) : SB w (.slice A 0 c) [] := ⟨A, c, rfl, Nat.zero_le _, hc, fun h => absurd rfl h⟩
theorem SB.row {b T : Nat} (h : Row w b T l) (hl : l.length ≤ maxLen) : SB w (.slice (some ⟨b, 0, none⟩) l.length l.length) l :=
  ⟨_, _, rfl, Nat.le_refl _, hl, fun _ => ⟨b, 0, rfl, h.lt, fun i hi => by rw [Nat.zero_add]; exact h.cell hi⟩⟩
/-- What the call owns reads as its bytes. -/
theorem SB.own {base : Nat} (h : w.ownsRow base 5 1 v l.length (vb l)) : SB w v l := by
  obtain ⟨_, h⟩ := h
  rcases h with ⟨rfl, hl⟩ | ⟨g, cap, cur, rfl, _, hg, hn, hm, _, htk⟩
  · have : l = [] := List.eq_nil_of_length_eq_zero hl
    subst this
    exact ⟨none, 0, rfl, Nat.le_refl _, by unfold maxLen; omega, fun h => absurd rfl h⟩
  · refine ⟨_, cap, rfl, hn, hm, fun _ => ⟨g, 0, rfl, ?_, fun i hi => ?_⟩⟩
    · rcases Nat.lt_or_ge g w.heap.size with h' | h'
      · exact h'
      · rw [Array.getElem?_eq_none h'] at hg; cases hg
    · rw [Nat.zero_add, cell_of_row w g i cur 5 (0, 0) hg]
      have h1 : (cur.toList.take (l.length * 1))[i]? = (vb l)[i]? := by rw [htk]
      rw [List.getElem?_take, if_pos (by omega), vb_get l i hi] at h1
      simpa using h1
theorem SB.open_ (h : SB w v l) (hl : l ≠ []) : ∃ b o c, v = .slice (some ⟨b, o, none⟩) l.length c ∧ l.length ≤ c ∧ c ≤ maxLen ∧ b < w.heap.size ∧ ∀ i, i < l.length → w.cell? ⟨b, o + i, none⟩ = some (.int .u8 (ub (gb l i))) := by
  obtain ⟨A, c, rfl, hc, hm, h⟩ := h
  obtain ⟨b, o, rfl, hb, hcell⟩ := h hl
  exact ⟨b, o, c, rfl, hc, hm, hb, hcell⟩
/-- As the append's law asks it. -/
theorem SB.reads {A : Option Addr} {n c : Nat} (h : SB w (.slice A n c) l) : n = l.length ∧ Reads w w.heap.size 1 A n (vb l) := by
  obtain ⟨A', c', e, _, _, h⟩ := h
  injection e with e1 e2 e3
  subst e1; subst e2; subst e3
  refine ⟨rfl, by simp, fun hn => ?_⟩
  obtain ⟨b, o, rfl, hb, hc⟩ := h (by rintro rfl; simp at hn)
  refine ⟨_, rfl, hb, fun j u hu => ?_⟩
  rw [Addr.add_mid]
  have hj : j < l.length := by
    rcases Nat.lt_or_ge j l.length with h' | h'
    · exact h'
    · rw [List.getElem?_eq_none (by simpa using h')] at hu; cases hu
  rw [vb_get l j hj] at hu
  rw [hc j hj, hu]
end
end Go.Proofs.Ytjjcnijdjhhdoaa
