/- An array of sixteen bytes, opened and shut. -/
import Derived.Test.YtjjcnijdjhhdoaaLaw
import Derived.ProofKit
namespace Go.Proofs.Ytjjcnijdjhhdoaa
open Go.ChangeShapes Go.WideShapes Go.ChangeAt Go.RowKit
set_option maxRecDepth 100000
variable {H : Type} {enc : TypeId × Value → H} {w : World} {base : Nat} {spare : Nat → Bool} {held : Bool}
theorem wf_ub (a : UInt8) : (Lit.int .u8 (ub a)).wf = true := by
  have := nb_lt a
  simp [Lit.wf, IntKind.min, IntKind.max, IntKind.signed, IntKind.bits, ub]
  unfold nb at this; omega
theorem tb1 (m : Nat) (a : UInt8) : DataW.trod enc Try.prog w base spare held (m+1) 5 [.int .u8 (ub a)] = some (.lit (.int .u8 (ub a)), []) := by
  simp [DataW.trod, Try.underlying5, wf_ub]
def db {H : Type} (b : Bytes) : DataW H := .agg (b.map fun a => .lit (.int .u8 (ub a)))
theorem all_vb (cs : List Value) (h : ∀ c ∈ cs, ∃ a, c = .int .u8 (ub a)) : ∃ b : Bytes, cs = vb b := by
  induction cs with
  | nil => exact ⟨[], rfl⟩
  | cons c cs ih =>
    obtain ⟨a, rfl⟩ := h c (by simp)
    obtain ⟨b, rfl⟩ := ih fun c hc => h c (by simp [hc])
    exact ⟨a :: b, rfl⟩
theorem c22 : Try.prog.cellsOf 22 = 16 := by kernel_rfl
theorem c5 : Try.prog.cellsOf 5 = 1 := by kernel_rfl
theorem tb16 (m : Nat) (b : Bytes) (hb : b.length = 16) : DataW.trod enc Try.prog w base spare held (m+2) 22 (vb b) = some (db b, []) := by
  unfold DataW.trod
  rw [Try.underlying22]
  match b, hb with
  | [a0, a1, a2, a3, a4, a5, a6, a7, a8, a9, a10, a11, a12, a13, a14, a15], _ =>
  have r16 : List.range 16 = [0, 1, 2, 3, 4, 5, 6, 7, 8, 9, 10, 11, 12, 13, 14, 15] := rfl
  simp [c22, c5, r16, vb, tb1, db]
theorem tb_int {m : Nat} {c : Value} {x : DataW H × List MemPlace} (h : DataW.trod enc Try.prog w base spare held m 5 [c] = some x) : ∃ a, c = .int .u8 (ub a) := by
  obtain ⟨n, hc, _, hw⟩ := DataW.trod_int Try.underlying5 h
  have := bounds_u8 hw
  exact ⟨toB n, by rw [ub_u8 (by omega) (by omega)]; simpa using hc⟩
theorem open_b16 {r : Reach} {b0 : Nat} {v : Value} {d : DataW H} {p : List MemPlace} (hv : Value.okWide Try.prog w r b0 22 v) (h : DataW.Trod enc Try.prog w base spare held 22 v d p) :
    ∃ b : Bytes, b.length = 16 ∧ v = .agg (vb b).toArray ∧ d = db b ∧ p = [] := by
  unfold Value.okWide at hv
  rw [Try.underlying22] at hv
  obtain ⟨cs, rfl, hc, _⟩ := hv
  obtain ⟨fuel, h⟩ := h
  obtain ⟨l, rfl⟩ : ∃ l : List Value, cs = l.toArray := ⟨cs.toList, by simp⟩
  simp only [Value.cells] at h
  rw [c22] at hc
  have hl : l.length = 16 := by simpa using hc
  obtain ⟨xs, m, rfl, hx, _, hxs, hi⟩ := DataW.trod_array Try.underlying22 h
  rw [c5] at hi
  obtain ⟨b, rfl⟩ := all_vb l (by
    intro c hcm
    obtain ⟨i, hil, rfl⟩ := List.getElem_of_mem hcm
    have hi' := hi i (by omega)
    have : (l.drop (i * 1)).take 1 = [l[i]] := by
      rw [Nat.mul_one, List.drop_eq_getElem_cons hil]; rfl
    rw [this, List.getElem?_eq_getElem (by omega)] at hi'
    exact tb_int hi')
  have hb : b.length = 16 := by simpa [vb] using hl
  refine ⟨b, hb, rfl, ?_⟩
  cases m with
  | zero =>
    have := hi 0 (by omega)
    rw [List.getElem?_eq_getElem (by omega)] at this
    simp [DataW.trod] at this
  | succ m =>
    rw [tb16 m b hb] at h
    simp only [Option.some.injEq, Prod.mk.injEq] at h
    exact ⟨h.1.symm, h.2.symm⟩
theorem shut_b16 {b : Bytes} (hb : b.length = 16) : DataW.Trod enc Try.prog w base spare held 22 (.agg (vb b).toArray) (db b) [] :=
  ⟨2, tb16 0 b hb⟩
end Go.Proofs.Ytjjcnijdjhhdoaa
