/- Slices of slices of bytes. -/
import Derived.Test.YtjjcnijdjhhdoaaOB
import Derived.Test.YtjjcnijdjhhdoaaOrd
namespace Go.Proofs.Ytjjcnijdjhhdoaa
open Go.RowKit
/-- v[lo:hi]. -/
def cutS (v : Value) (lo hi : Nat) : Value :=
  match v with
  | .slice A _ c => .slice (if c = lo then A else A.map (·.add lo)) (hi - lo) (c - lo)
  | _ => undef
theorem gb_cut (l : Bytes) (lo hi i : Nat) (h : lo + i < hi) : gb ((l.take hi).drop lo) i = gb l (lo + i) := by
  simp [gb, h]
theorem len_cut (l : Bytes) (lo hi : Nat) (hhi : hi ≤ l.length) : ((l.take hi).drop lo).length = hi - lo := by
  simp; omega
theorem SB.cut {w : World} {v : Value} {l : Bytes} (h : SB w v l) (lo hi : Nat) (hhi : hi ≤ l.length) : SB w (cutS v lo hi) ((l.take hi).drop lo) := by
  obtain ⟨A, c, rfl, hc, hm, hcell⟩ := h
  have hl := len_cut l lo hi hhi
  refine ⟨_, c - lo, by rw [hl]; rfl, by rw [hl]; omega, by omega, fun hne => ?_⟩
  have hpos : lo < hi := by
    have : (((l.take hi).drop lo)).length ≠ 0 := fun h0 => hne (List.eq_nil_of_length_eq_zero h0)
    omega
  obtain ⟨b, o, rfl, hb, hcl⟩ := hcell (by rintro rfl; simp at hhi; omega)
  refine ⟨b, o + lo, ?_, hb, fun i hi' => ?_⟩
  · rw [if_neg (by omega)]; simp [Addr.add]
  · rw [gb_cut l lo hi i (by omega), Nat.add_assoc]
    exact hcl (lo + i) (by omega)
theorem cutS_block {v : Value} {lo hi : Nat} : (cutS v lo hi).ownBlock = v.ownBlock := by
  cases v <;> try rfl
  rename_i A n c
  simp only [cutS]
  by_cases h : c = lo
  · rw [if_pos h]; cases A <;> rfl
  · rw [if_neg h]
    cases A with
    | none => rfl
    | some p => exact congrArg some (block_of_add p lo)
theorem elem28 : Try.prog.elem 28 = 5 := by kernel_rfl
theorem und28 : Try.prog.underlying 28 = some (.slice (Try.prog.elem 28)) := by kernel_rfl
theorem run_size5 (w : World) : (sizeOf 5).run Try.prog w = .ok 1 w := by
  obtain ⟨i0, hi0, hz0, hz1, hz2⟩ := info_parts i5
  simp [sizeOf, typeInfo, hi0, hz1]
theorem run_cut_lh (w : World) (v : Value) (l : Bytes) (h : SB w v l) (k k' : IntKind) (lo hi : Int) (h0 : 0 ≤ lo) (h1 : lo ≤ hi) (h2 : hi ≤ l.length) (W : World) :
    (Instr.sliceAt 28 v (some (.int k lo)) (some (.int k' hi)) none).run Try.prog W = .ok (cutS v lo.toNat hi.toNat) W := by
  obtain ⟨A, c, rfl, hc, hm, hcell⟩ := h
  rw [run_sliceAt_slice W 28 _ _ _ _ und28, run_slice_lh W 28 A _ c und28 k k' lo hi h0 h1 (by omega), elem28, run_size5]
  simp only [Result.andThen_ok, sliced, cutS, Nat.mul_one]
theorem run_cut_h (w : World) (v : Value) (l : Bytes) (h : SB w v l) (k' : IntKind) (hi : Int) (h1 : 0 ≤ hi) (h2 : hi ≤ l.length) (W : World) :
    (Instr.sliceAt 28 v none (some (.int k' hi)) none).run Try.prog W = .ok (cutS v 0 hi.toNat) W := by
  obtain ⟨A, c, rfl, hc, hm, hcell⟩ := h
  rw [run_sliceAt_slice W 28 _ _ _ _ und28, run_slice_h W 28 A _ c und28 k' hi h1 (by omega), elem28, run_size5]
  simp only [Result.andThen_ok, sliced, cutS, Nat.mul_one]
theorem run_cut_l (w : World) (v : Value) (l : Bytes) (h : SB w v l) (k : IntKind) (lo : Int) (h1 : 0 ≤ lo) (h2 : lo ≤ l.length) (W : World) :
    (Instr.sliceAt 28 v (some (.int k lo)) none none).run Try.prog W = .ok (cutS v lo.toNat l.length) W := by
  obtain ⟨A, c, rfl, hc, hm, hcell⟩ := h
  rw [run_sliceAt_slice W 28 _ _ _ _ und28, run_slice_l W 28 A _ c und28 k lo h1 h2, elem28, run_size5]
  simp only [Result.andThen_ok, sliced, cutS, Nat.mul_one]
section
variable {ops : Array Oper} {rest : List Oper} {o : Oper} {a : Act} {w : World} {Q : Exit → Act → World → Prop}
theorem exec_cut_lh (x lo hi : Operand) (ho : o.op = .slice 28 x (some lo) (some hi) none) (v : Value) (l : Bytes) (hx : a.eval x = v) (h : SB w v l) (k k' : IntKind) (i j : Int) (hlo : a.eval lo = .int k i) (hhi : a.eval hi = .int k' j)
    (h0 : 0 ≤ i) (h1 : i ≤ j) (h2 : j ≤ l.length) (W : World) : (execOp a.eval o).run Try.prog W = .ok (.value (cutS v i.toNat j.toNat)) W := by
  unfold execOp
  simp only [ho, hx, Option.map_some, Option.map_none, hlo, hhi, Sem.run_bind, run_cut_lh w v l h k k' i j h0 h1 h2 W, Result.andThen_ok, Sem.run_pure]
theorem exec_cut_h (x hi : Operand) (ho : o.op = .slice 28 x none (some hi) none) (v : Value) (l : Bytes) (hx : a.eval x = v) (h : SB w v l) (k' : IntKind) (j : Int) (hhi : a.eval hi = .int k' j)
    (h1 : 0 ≤ j) (h2 : j ≤ l.length) (W : World) : (execOp a.eval o).run Try.prog W = .ok (.value (cutS v 0 j.toNat)) W := by
  unfold execOp
  simp only [ho, hx, Option.map_some, Option.map_none, hhi, Sem.run_bind, run_cut_h w v l h k' j h1 h2 W, Result.andThen_ok, Sem.run_pure]
theorem exec_cut_l (x lo : Operand) (ho : o.op = .slice 28 x (some lo) none none) (v : Value) (l : Bytes) (hx : a.eval x = v) (h : SB w v l) (k : IntKind) (i : Int) (hlo : a.eval lo = .int k i)
    (h0 : 0 ≤ i) (h2 : i ≤ l.length) (W : World) : (execOp a.eval o).run Try.prog W = .ok (.value (cutS v i.toNat l.length)) W := by
  unfold execOp
  simp only [ho, hx, Option.map_some, Option.map_none, hlo, Sem.run_bind, run_cut_l w v l h k i h0 h2 W, Result.andThen_ok, Sem.run_pure]
/-- In a walk. -/
theorem wl_val (hgd : o.guard = none) (v : Value) (hv : (execOp a.eval o).run Try.prog w = .ok (.value v) w) (h : wpList Try.prog ops Q rest (a.put o.dst v) w) : wpList Try.prog ops Q (o :: rest) a w :=
  wpList_plain hgd fun K hK => by
    unfold Oper.wp
    rw [hv]
    exact hK _ _ h
end
end Go.Proofs.Ytjjcnijdjhhdoaa
