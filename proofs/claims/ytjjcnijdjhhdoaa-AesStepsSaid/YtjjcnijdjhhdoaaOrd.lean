/- A region that draws its order, walked in one order that the prover names: what yields the same in every world of a class may be taken first; each of the others is then the only one that may come up. Over any program. -/
import Derived.OrdersHeld
import Derived.Deep.Draws
import Derived.Tactics
import Derived.Tactics2
import Derived.BigFrame
namespace Go.QT
open Go
section
variable {P : Program} {ops : Array Oper} {md : Region.Mode} {S : World → Prop} {Q : Exit → Act → World → Prop}
/-- What stands behind one operation. -/
def ordQ (Q : Exit → Act → World → Prop) (K : Act → World → Prop) : Exit → Act → World → Prop
  | .normal, a, w => K a w
  | e, a, w => Q e a w
theorem ordQ_norm {Q : Exit → Act → World → Prop} {K : Act → World → Prop} {a : Act} {w : World} (h : K a w) : ordQ Q K .normal a w := h
def wpOrd (P : Program) (ops : Array Oper) (Q : Exit → Act → World → Prop) (S : World → Prop) : List (Nat × Bool) → Act → World → Prop
  | [], a, w => Q .normal a w
  | (i, true) :: r, a, w => ∃ v, YieldsIf P ops S (ops.getD i default) v a ∧ wpOrd P ops Q S r (a.put (ops.getD i default).dst v) w
  | (i, false) :: r, a, w => wpList P ops (ordQ Q fun a' w' => S w' ∧ wpOrd P ops Q S r a' w') [ops.getD i default] a w
def ordB (md : Region.Mode) (ops : Array Oper) : List (Nat × Bool) → Array Bool → Bool
  | [], listed => (Region.ready md ops listed).isEmpty
  | (i, true) :: r, listed => (Region.ready md ops listed).contains i && Region.free md ops listed i && ordB md ops r (listed.setIfInBounds i true)
  | (i, false) :: r, listed => decide (Region.ready md ops listed = [i]) && ordB md ops r (listed.setIfInBounds i true)
theorem wpOp_of_list {i : Nat} {o : Oper} (hi : ops[i]? = some o) {K : Act → World → Prop} {a : Act} {w : World} (h : wpList P ops (ordQ Q K) [o] a w) : wpOp P ops Q i K a w := by
  unfold wpOp
  simp only [hi]
  simp only [wpList] at h
  split
  · rename_i hw
    simp only [hw, if_true] at h
    rcases h with h | h
    · refine .inl ?_
      unfold Oper.wp at *
      generalize (execOp a.eval o).run P w = r at *
      cases r with
      | ok n w' =>
        cases n <;> simp only [Oper.upon] at h ⊢ <;> exact h
      | halt x w' => cases x <;> simp only [Oper.upon] at h ⊢ <;> exact h
    · exact .inr h
  · rename_i hw
    simp only [hw] at h
    exact h
theorem anyH_of_ord (hsel : Region.noSelect ops = true) (hQ : ∀ c d v a w, Q (.panic c) (Act.put a d v) w → Q (.panic c) a w) :
    ∀ (l : List (Nat × Bool)) (listed : Array Bool) (a : Act) (w : World), ordB md ops l listed = true → S w → wpOrd P ops Q S l a w → wpAnyH P md ops Q S l.length listed a w
  | [], listed, a, w, hB, _, h => wpAnyH_done (by simpa [ordB] using hB) h 0
  | (i, true) :: r, listed, a, w, hB, hS, h => by
    simp only [ordB, Bool.and_eq_true] at hB
    obtain ⟨⟨hr, hf⟩, hB'⟩ := hB
    obtain ⟨v, hy, hn⟩ := h
    have hr' : i ∈ Region.ready md ops listed := by simpa using hr
    obtain ⟨_, o, ho, _⟩ := mem_ready.1 hr'
    have hg : ops.getD i default = o := by
      have hlt : i < ops.size := (Array.getElem?_eq_some_iff.1 ho).1
      have := (Array.getElem?_eq_some_iff.1 ho).2
      simp [hlt, this]
    rw [hg] at hy hn
    exact wpAnyH_take ho hsel hf hr (fun c a w h => hQ c _ _ a w h) hy hS (anyH_of_ord hsel hQ r _ _ _ hB' hS hn)
  | (i, false) :: r, listed, a, w, hB, hS, h => by
    simp only [ordB, Bool.and_eq_true, decide_eq_true_eq] at hB
    obtain ⟨hr, hB'⟩ := hB
    have hr' : i ∈ Region.ready md ops listed := by rw [hr]; simp
    obtain ⟨_, o, ho, _⟩ := mem_ready.1 hr'
    have hg : ops.getD i default = o := by
      have hlt : i < ops.size := (Array.getElem?_eq_some_iff.1 ho).1
      have := (Array.getElem?_eq_some_iff.1 ho).2
      simp [hlt, this]
    refine wpAnyH_all (rs := [i]) hr (by simp) fun j hj => ?_
    have hji : j = i := by simpa using hj
    subst hji
    simp only [wpOrd, hg] at h
    exact wpOp_mono (fun a' w' h' => ⟨h'.1, anyH_of_ord hsel hQ r _ _ _ hB' h'.1 h'.2⟩) (wpOp_of_list ho h)
theorem wp_region_ord {id : Nat} {a : Act} {w : World} {l : List Oper} (order : List (Nat × Bool)) (S : World → Prop) (hm : P.follows .mixedOrders = true)
    (hB : (Region.noSelect l.toArray && ordB .any l.toArray order (Array.replicate l.toArray.size false) && decide (order.length = l.toArray.size)) = true)
    (hQ : ∀ c d v a w, Q (.panic c) (Act.put a d v) w → Q (.panic c) a w) (hS : S (w.drewN 1))
    (h : wpOrd P l.toArray Q S order a (w.drewN 1)) : (Code.region id l.toArray true).wp P Q a w := by
  simp only [Bool.and_eq_true, decide_eq_true_eq] at hB
  obtain ⟨⟨hsel, hord⟩, hlen⟩ := hB
  refine wp_region_held (S := S) hm ?_
  have := anyH_of_ord (md := .any) hsel hQ order _ a (w.drewN 1) hord hS h
  rwa [hlen] at this
/-- An operation that may be taken first, walked. -/
theorem ord_take {i : Nat} {r : List (Nat × Bool)} {a : Act} {w : World} (v : Value) (hw : Region.wanted (ops.getD i default) (yielded ops a.tmps) = true)
    (hv : ∀ W, S W → (execOp a.eval (ops.getD i default)).run P W = .ok (.value v) W) (h : wpOrd P ops Q S r (a.put (ops.getD i default).dst v) w) : wpOrd P ops Q S ((i, true) :: r) a w :=
  ⟨v, .inl ⟨hw, hv⟩, h⟩
theorem ord_do {i : Nat} {r : List (Nat × Bool)} {a : Act} {w : World} (h : wpList P ops (ordQ Q fun a' w' => S w' ∧ wpOrd P ops Q S r a' w') [ops.getD i default] a w) : wpOrd P ops Q S ((i, false) :: r) a w := h
/-! ### Step by step, where more than one may come up -/
theorem wp_region_any_held {id : Nat} {a : Act} {w : World} {l : List Oper} (S : World → Prop) (hm : P.follows .mixedOrders = true)
    (h : wpAnyH P .any l.toArray Q S l.length (Array.replicate l.length false) a (w.drewN 1)) : (Code.region id l.toArray true).wp P Q a w := by
  refine wp_region_held (S := S) hm ?_
  have e : l.toArray.size = l.length := by simp
  rw [e]
  exact h
theorem anyH_do {i : Nat} {o : Oper} {f : Nat} {listed : Array Bool} {a : Act} {w : World} (hi : ops[i]? = some o) (hr : Region.ready md ops listed = [i])
    (h : wpList P ops (ordQ Q fun a' w' => S w' ∧ wpAnyH P md ops Q S f (listed.setIfInBounds i true) a' w') [o] a w) : wpAnyH P md ops Q S (f + 1) listed a w :=
  wpAnyH_all hr (by simp) fun j hj => by
    have hji : j = i := by simpa using hj
    subst hji
    exact wpOp_of_list hi h
theorem anyH_do2 {i j : Nat} {o u : Oper} {f : Nat} {listed : Array Bool} {a : Act} {w : World} (hi : ops[i]? = some o) (hj : ops[j]? = some u) (hr : Region.ready md ops listed = [i, j])
    (h : wpList P ops (ordQ Q fun a' w' => S w' ∧ wpAnyH P md ops Q S f (listed.setIfInBounds i true) a' w') [o] a w)
    (h' : wpList P ops (ordQ Q fun a' w' => S w' ∧ wpAnyH P md ops Q S f (listed.setIfInBounds j true) a' w') [u] a w) : wpAnyH P md ops Q S (f + 1) listed a w :=
  wpAnyH_all hr (by simp) fun k hk => by
    have hk' : k = i ∨ k = j := by simpa using hk
    rcases hk' with rfl | rfl
    · exact wpOp_of_list hi h
    · exact wpOp_of_list hj h'
theorem anyH_val {i : Nat} {o : Oper} {f : Nat} {listed : Array Bool} {a : Act} {w : World} (v : Value) (hi : ops[i]? = some o) (hs : Region.noSelect ops = true) (hf : Region.free md ops listed i = true) (hr : (Region.ready md ops listed).contains i = true)
    (hQ : ∀ c d v a w, Q (.panic c) (Act.put a d v) w → Q (.panic c) a w) (hw : Region.wanted o (yielded ops a.tmps) = true) (hS : S w)
    (hv : ∀ W, S W → (execOp a.eval o).run P W = .ok (.value v) W) (h : wpAnyH P md ops Q S f (listed.setIfInBounds i true) (a.put o.dst v) w) : wpAnyH P md ops Q S (f + 1) listed a w :=
  wpAnyH_take hi hs hf hr (fun c a w h => hQ c _ _ a w h) (.inl ⟨hw, hv⟩) hS h
end
end Go.QT
