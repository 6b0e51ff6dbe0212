/- Keys: rows of sixteen bytes held against one another. -/
import Derived.Test.YtjjcnijdjhhdoaaAesE
import Derived.Test.YtjjcnijdjhhdoaaLaw
import Derived.Test.YtjjcnijdjhhdoaaSame
import Derived.ChangeKeysEq
namespace Go.Proofs.Ytjjcnijdjhhdoaa
open Go.RowKit
theorem pk5 : Try.prog.plainKey 5 = true := by kernel_rfl
theorem cc5 : Try.prog.cellsOf 5 = 1 := by kernel_rfl
theorem run_eqItems_vb (d : Nat) (a b : Bytes) (w : World) : ∀ is : List Nat, (∀ i ∈ is, i < a.length ∧ i < b.length) →
    (Op.eqItems (d + 1) 5 1 (vb a).toArray (vb b).toArray is).run Try.prog w = .ok (is.all fun i => gb a i == gb b i) w
  | [], _ => by simp [Op.eqItems]
  | i :: is, h => by
    have hi := h i (by simp)
    have ha : (vb a).toArray[i * 1]? = some (.int .u8 (ub (gb a i))) := by rw [Nat.mul_one]; simpa using vb_get a i hi.1
    have hb : (vb b).toArray[i * 1]? = some (.int .u8 (ub (gb b i))) := by rw [Nat.mul_one]; simpa using vb_get b i hi.2
    have e : ((ub (gb a i)) == (ub (gb b i))) = (gb a i == gb b i) := ub_beq _ _
    have ih := run_eqItems_vb d a b w is (fun j hj => h j (by simp [hj]))
    simp only [Op.eqItems, Sem.run_bind, run_part_plain w pk5 ha, run_part_plain w pk5 hb, Result.andThen_ok, run_equalIn_int w d 5 .u8 .u8 _ _ Try.underlying5, e]
    cases hc : gb a i == gb b i
    · simp [hc]
    · simp [hc, ih]
theorem all_eq16 (a b : Bytes) (ha : a.length = 16) (hb : b.length = 16) : ((List.range 16).all fun i => gb a i == gb b i) = decide (a = b) := by
  rw [Bool.eq_iff_iff]
  simp only [List.all_eq_true, List.mem_range, beq_iff_eq, decide_eq_true_eq]
  constructor
  · intro h; exact same_eq a b (ha.trans hb.symm) fun k hk => h k (by omega)
  · rintro rfl i _; rfl
theorem info5 : ∃ i, Try.prog.info? 5 = some i := by
  have h : (Try.prog.info? 5).isSome = true := by kernel_rfl
  exact Option.isSome_iff_exists.1 h
/-- Two keys. -/
theorem run_equalIn16 (d : Nat) (t : TypeId) (a b : Bytes) (w : World) (ht : Try.prog.underlying t = some (.array 16 5)) (ha : a.length = 16) (hb : b.length = 16) :
    (Op.equalIn (d + 2) t (.agg (vb a).toArray) (.agg (vb b).toArray)).run Try.prog w = .ok (decide (a = b)) w := by
  obtain ⟨i, hi⟩ := info5
  rw [run_equalIn_array w (d + 1) _ _ ht hi, cc5, run_eqItems_vb d a b w _ (fun j hj => by have := List.mem_range.1 hj; omega), all_eq16 a b ha hb]
theorem run_eql16 (t : TypeId) (a b : Bytes) (w : World) (ht : Try.prog.underlying t = some (.array 16 5)) (ha : a.length = 16) (hb : b.length = 16) :
    (binOp .eql t (.agg (vb a).toArray) (.agg (vb b).toArray)).run Try.prog w = .ok (.bool (decide (a = b))) w := by
  rw [run_eql_struct, run_equalIn16 9998 t a b w ht ha hb]; rfl
theorem run_neq16 (t : TypeId) (a b : Bytes) (w : World) (ht : Try.prog.underlying t = some (.array 16 5)) (ha : a.length = 16) (hb : b.length = 16) :
    (binOp .neq t (.agg (vb a).toArray) (.agg (vb b).toArray)).run Try.prog w = .ok (.bool (!decide (a = b))) w := by
  rw [run_neq_struct, run_equalIn16 9998 t a b w ht ha hb]; rfl
/-- The operation. -/
theorem exec_eql16 {o : Oper} {a : Act} (op : BinOp) (hop : op = .eql ∨ op = .neq) (t t' : TypeId) (x y : Operand) (ho : o.op = .binOp op t x y t') (k l : Bytes) (hx : a.eval x = .agg (vb k).toArray) (hy : a.eval y = .agg (vb l).toArray)
    (ht : Try.prog.underlying t = some (.array 16 5)) (hg : Try.prog.eqGuardType Try.prog.depth t = false) (hk : k.length = 16) (hl : l.length = 16) (w : World) :
    (execOp a.eval o).run Try.prog w = .ok (.value (.bool (if op = .eql then decide (k = l) else !decide (k = l)))) w := by
  unfold execOp
  rcases hop with rfl | rfl
  · simp only [ho, hx, hy, Sem.run_bind, run_eqGuard_agg w _ t x y _ _ hg, Result.andThen_ok, run_eql16 t k l w ht hk hl, Sem.run_pure]; rfl
  · simp only [ho, hx, hy, Sem.run_bind, run_eqGuard_agg w _ t x y _ _ hg, Result.andThen_ok, run_neq16 t k l w ht hk hl, Sem.run_pure]; rfl
theorem exec_eq16 {o : Oper} {a : Act} (t t' : TypeId) (x y : Operand) (ho : o.op = .binOp .eql t x y t') (k l : Bytes) (hx : a.eval x = .agg (vb k).toArray) (hy : a.eval y = .agg (vb l).toArray)
    (ht : Try.prog.underlying t = some (.array 16 5)) (hg : Try.prog.eqGuardType Try.prog.depth t = false) (hk : k.length = 16) (hl : l.length = 16) (w : World) :
    (execOp a.eval o).run Try.prog w = .ok (.value (.bool (decide (k = l)))) w := by
  have := exec_eql16 .eql (.inl rfl) t t' x y ho k l hx hy ht hg hk hl w
  simpa using this
theorem exec_ne16 {o : Oper} {a : Act} (t t' : TypeId) (x y : Operand) (ho : o.op = .binOp .neq t x y t') (k l : Bytes) (hx : a.eval x = .agg (vb k).toArray) (hy : a.eval y = .agg (vb l).toArray)
    (ht : Try.prog.underlying t = some (.array 16 5)) (hg : Try.prog.eqGuardType Try.prog.depth t = false) (hk : k.length = 16) (hl : l.length = 16) (w : World) :
    (execOp a.eval o).run Try.prog w = .ok (.value (.bool (!decide (k = l)))) w := by
  have := exec_eql16 .neq (.inr rfl) t t' x y ho k l hx hy ht hg hk hl w
  simpa using this
theorem exec_eqb {o : Oper} {a : Act} (t t' : TypeId) (x y : Operand) (ho : o.op = .binOp .eql t x y t') (p q : Bool) (hx : a.eval x = .bool p) (hy : a.eval y = .bool q) (ht : Try.prog.underlying t = some .bool) (w : World) :
    (execOp a.eval o).run Try.prog w = .ok (.value (.bool (p == q))) w := by
  have h1 : (eqGuard .eql t x y (.bool p) (.bool q)).run Try.prog w = .ok () w := by simp [eqGuard]
  have h2 : (binOp .eql t (.bool p) (.bool q)).run Try.prog w = .ok (.bool (p == q)) w := by simp [binOp, Op.equal, Op.maxDepth, run_equalIn_bool w 9999 t p q ht]
  unfold execOp
  simp only [ho, hx, hy, Sem.run_bind, h1, h2, Result.andThen_ok, Sem.run_pure]
theorem eg22 : Try.prog.eqGuardType Try.prog.depth 22 = false := by kernel_rfl
theorem eg42 : Try.prog.eqGuardType Try.prog.depth 42 = false := by kernel_rfl
end Go.Proofs.Ytjjcnijdjhhdoaa
