/- A region that draws its order: an operation whose guard says no. -/
import Derived.Test.YtjjcnijdjhhdoaaOrd
import Derived.WalkKit
namespace Go.QT
open Go
section
variable {P : Program} {ops : Array Oper} {md : Region.Mode} {S : World → Prop} {Q : Exit → Act → World → Prop}
/-- An operation whose guard says no. -/
theorem anyH_skip {i : Nat} {o : Oper} {f : Nat} {listed : Array Bool} {a : Act} {w : World} (hi : ops[i]? = some o) (hs : Region.noSelect ops = true) (hf : Region.free md ops listed i = true) (hr : (Region.ready md ops listed).contains i = true)
    (hQ : ∀ c d v a w, Q (.panic c) (Act.put a d v) w → Q (.panic c) a w) (hw : Region.wanted o (yielded ops a.tmps) = false) (hS : S w)
    (h : wpAnyH P md ops Q S f (listed.setIfInBounds i true) (a.put o.dst undef) w) : wpAnyH P md ops Q S (f + 1) listed a w :=
  wpAnyH_take hi hs hf hr (fun c a w h => hQ c _ _ a w h) (.inr ⟨hw, rfl⟩) hS h
/-- A function of the program's own text. -/
def goB (P : Program) (f : FuncId) : Bool := match P.funcs[f]? with | some fn => !(fn.name == "runtime.NumGoroutine") && fn.body.isSome | none => false
theorem run_callFunc_go {f : FuncId} (h : goB P f = true) (args : Array Value) (w : World) : (callFunc f args).run P w = .ok (.enter f args) w := by
  unfold goB at h
  cases hf : P.funcs[f]? with
  | none => simp [hf] at h
  | some fn =>
    rw [hf] at h
    simp only [Bool.and_eq_true, Bool.not_eq_true'] at h
    have h2 : fn.body.isNone = false := by cases hb : fn.body with | none => simp [hb] at h | some b => rfl
    simp only [callFunc, Sem.run_bind, run_program, Result.andThen_ok, hf, h.1, h2, Bool.false_eq_true, if_false, Sem.run_pure]
theorem exec_call {o : Oper} {a : Act} {w : World} (fn : FuncId) (xl : List Operand) (ats : Array TypeId) (ho : o.op = .call { callee := .value (.func fn), args := xl.toArray, argTypes := ats }) (al : List Value) (hargs : xl.map a.eval = al) (hg : goB P fn = true) :
    (execOp a.eval o).run P w = .ok (.enter fn al.toArray) w := by
  obtain ⟨dst, op, type, pos, after, guard⟩ := o
  simp only at ho
  subst ho
  rw [execOp_call_go]
  have e : (#[] ++ xl.toArray.map a.eval ++ #[] : Array Value) = al.toArray := by
    rw [← hargs]; simp
  rw [e]
  exact run_callFunc_go hg _ _
/-- A call that comes up alone. -/
theorem anyH_call {i : Nat} {o : Oper} {f : Nat} {listed : Array Bool} {a : Act} {w : World} {R : Ending → World → Prop} (hi : ops[i]? = some o) (hr : Region.ready md ops listed = [i]) (hw : Region.wanted o (yielded ops a.tmps) = true)
    (fn : FuncId) (xl : List Operand) (ats : Array TypeId) (ho : o.op = .call { callee := .value (.func fn), args := xl.toArray, argTypes := ats }) (al : List Value) (hargs : xl.map a.eval = al) (hg : goB P fn = true)
    (hcall : Calls P fn al.toArray w R) (h : ∀ e w', R e w' → ∃ v, e = .returned v ∧ S w' ∧ wpAnyH P md ops Q S f (listed.setIfInBounds i true) (a.put o.dst v) w') : wpAnyH P md ops Q S (f + 1) listed a w := by
  refine wpAnyH_all hr (by simp) fun j hj => ?_
  have hji : j = i := by simpa using hj
  subst hji
  unfold wpOp
  simp only [hi]
  rw [if_pos hw]
  refine .inl ?_
  unfold Oper.wp
  rw [exec_call fn xl ats ho al hargs hg, Oper.upon_enter]
  refine hcall.mono fun e w' hR => ?_
  obtain ⟨v, rfl, hS, hn⟩ := h e w' hR
  exact ⟨hS, hn⟩
/-- One of two. -/
theorem wpOp_call {i : Nat} {o : Oper} {K : Act → World → Prop} {a : Act} {w : World} {R : Ending → World → Prop} (hi : ops[i]? = some o) (hw : Region.wanted o (yielded ops a.tmps) = true)
    (fn : FuncId) (xl : List Operand) (ats : Array TypeId) (ho : o.op = .call { callee := .value (.func fn), args := xl.toArray, argTypes := ats }) (al : List Value) (hargs : xl.map a.eval = al) (hg : goB P fn = true)
    (hcall : Calls P fn al.toArray w R) (h : ∀ e w', R e w' → ∃ v, e = .returned v ∧ K (a.put o.dst v) w') : wpOp P ops Q i K a w := by
  unfold wpOp
  simp only [hi]
  rw [if_pos hw]
  refine .inl ?_
  unfold Oper.wp
  rw [exec_call fn xl ats ho al hargs hg, Oper.upon_enter]
  refine hcall.mono fun e w' hR => ?_
  obtain ⟨v, rfl, hn⟩ := h e w' hR
  exact hn
/-- A call in a plain region. -/
theorem wl_call {o : Oper} {rest : List Oper} {a : Act} {w : World} {R : Ending → World → Prop} (hgd : o.guard = none)
    (fn : FuncId) (xl : List Operand) (ats : Array TypeId) (ho : o.op = .call { callee := .value (.func fn), args := xl.toArray, argTypes := ats }) (al : List Value) (hargs : xl.map a.eval = al) (hg : goB P fn = true)
    (hcall : Calls P fn al.toArray w R) (h : ∀ e w', R e w' → ∃ v, e = .returned v ∧ wpList P ops Q rest (a.put o.dst v) w') : wpList P ops Q (o :: rest) a w :=
  wpList_plain hgd fun K hK => by
    unfold Oper.wp
    rw [exec_call fn xl ats ho al hargs hg, Oper.upon_enter]
    refine hcall.mono fun e w' hR => ?_
    obtain ⟨v, rfl, hn⟩ := h e w' hR
    exact hK _ _ hn
/-! The same, the slot named. -/
theorem oH_val {i : Nat} {o : Oper} {f : Nat} {listed : Array Bool} {a : Act} {w : World} (d : Option Tmp) (v : Value) (hi : ops[i]? = some o) (hd : o.dst = d) (hs : Region.noSelect ops = true) (hf : Region.free md ops listed i = true) (hr : (Region.ready md ops listed).contains i = true)
    (hQ : ∀ c d v a w, Q (.panic c) (Act.put a d v) w → Q (.panic c) a w) (hw : Region.wanted o (yielded ops a.tmps) = true) (hS : S w)
    (hv : ∀ W, S W → (execOp a.eval o).run P W = .ok (.value v) W) (h : wpAnyH P md ops Q S f (listed.setIfInBounds i true) (a.put d v) w) : wpAnyH P md ops Q S (f + 1) listed a w := by
  subst hd; exact anyH_val v hi hs hf hr hQ hw hS hv h
theorem oH_skip {i : Nat} {o : Oper} {f : Nat} {listed : Array Bool} {a : Act} {w : World} (d : Option Tmp) (hi : ops[i]? = some o) (hd : o.dst = d) (hs : Region.noSelect ops = true) (hf : Region.free md ops listed i = true) (hr : (Region.ready md ops listed).contains i = true)
    (hQ : ∀ c d v a w, Q (.panic c) (Act.put a d v) w → Q (.panic c) a w) (hw : Region.wanted o (yielded ops a.tmps) = false) (hS : S w)
    (h : wpAnyH P md ops Q S f (listed.setIfInBounds i true) (a.put d undef) w) : wpAnyH P md ops Q S (f + 1) listed a w := by
  subst hd; exact anyH_skip hi hs hf hr hQ hw hS h
theorem oH_call {i : Nat} {o : Oper} {f : Nat} {listed : Array Bool} {a : Act} {w : World} {R : Ending → World → Prop} (d : Option Tmp) (hi : ops[i]? = some o) (hd : o.dst = d) (hr : Region.ready md ops listed = [i]) (hw : Region.wanted o (yielded ops a.tmps) = true)
    (fn : FuncId) (xl : List Operand) (ats : Array TypeId) (ho : o.op = .call { callee := .value (.func fn), args := xl.toArray, argTypes := ats }) (al : List Value) (hargs : xl.map a.eval = al) (hg : goB P fn = true)
    (hcall : Calls P fn al.toArray w R) (h : ∀ e w', R e w' → ∃ v, e = .returned v ∧ S w' ∧ wpAnyH P md ops Q S f (listed.setIfInBounds i true) (a.put d v) w') : wpAnyH P md ops Q S (f + 1) listed a w := by
  subst hd; exact anyH_call hi hr hw fn xl ats ho al hargs hg hcall h
/-- Two may come up. -/
theorem oH_two {i j : Nat} {f : Nat} {listed : Array Bool} {a : Act} {w : World} (hr : Region.ready md ops listed = [i, j])
    (h1 : wpOp P ops Q i (fun a' w' => S w' ∧ wpAnyH P md ops Q S f (listed.setIfInBounds i true) a' w') a w)
    (h2 : wpOp P ops Q j (fun a' w' => S w' ∧ wpAnyH P md ops Q S f (listed.setIfInBounds j true) a' w') a w) : wpAnyH P md ops Q S (f + 1) listed a w :=
  wpAnyH_all hr (by simp) fun k hk => by
    have hk' : k = i ∨ k = j := by simpa using hk
    rcases hk' with rfl | rfl
    · exact h1
    · exact h2
/-- What changes the world, come up alone: by its run. -/
theorem oH_run {i : Nat} {o : Oper} {f : Nat} {listed : Array Bool} {a : Act} {w w' : World} (d : Option Tmp) (v : Value) (hi : ops[i]? = some o) (hd : o.dst = d) (hr : Region.ready md ops listed = [i]) (hw : Region.wanted o (yielded ops a.tmps) = true)
    (hv : (execOp a.eval o).run P w = .ok (.value v) w') (hS : S w') (h : wpAnyH P md ops Q S f (listed.setIfInBounds i true) (a.put d v) w') : wpAnyH P md ops Q S (f + 1) listed a w := by
  subst hd
  refine wpAnyH_all hr (by simp) fun j hj => ?_
  have hji : j = i := by simpa using hj
  subst hji
  unfold wpOp
  simp only [hi]
  rw [if_pos hw]
  refine .inl ?_
  unfold Oper.wp
  rw [hv, Oper.upon_value]
  exact ⟨hS, h⟩
theorem oH_begin {id : Nat} {a : Act} {w : World} {l : List Oper} {n : Nat} (S : World → Prop) (hm : P.follows .mixedOrders = true) (hn : l.length = n)
    (h : wpAnyH P .any l.toArray Q S n (Array.replicate n false) a (w.drewN 1)) : (Code.region id l.toArray true).wp P Q a w := by
  subst hn; exact wp_region_any_held S hm h
theorem hQp {Q : Exit → Act → World → Prop} {K : Act → World → Prop} (h : ∀ c d v a w, Q (.panic c) (Act.put a d v) w → Q (.panic c) a w) : ∀ c d v a w, Exit.then K Q (.panic c) (Act.put a d v) w → Exit.then K Q (.panic c) a w := h
end
end Go.QT
