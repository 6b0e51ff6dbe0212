/- A region that draws its order: its first n operations only read (or call what only draws), the others come in one forced order. One walk in the text's order serves every order. Plain theorems over any program. -/
import Derived.StillTail
import Derived.Deep.Quiet
namespace Go.QT
open Go
section
variable {P : Program} {ops : Array Oper} {md : Region.Mode} {C : World → Prop}

def anyQL (P : Program) (md : Region.Mode) (ops : Array Oper) (C : World → Prop) (n : Nat) (L : Array Bool → Act → Prop) : Nat → Array Bool → Act → Prop
  | 0, listed, a => L listed a
  | f + 1, listed, a =>
    Region.ready md ops listed ≠ [] ∧ ∀ i ∈ Region.ready md ops listed, i < n ∧ qOp P ops C i (anyQL P md ops C n L f (listed.setIfInBounds i true)) a

theorem any_of_head {n g : Nat} {L : Array Bool → Act → Prop} {Q' : Exit → Act → World → Prop} (hL : ∀ listed a w, C w → L listed a → wpAny P md ops Q' g listed a w) :
    ∀ (f : Nat) (listed : Array Bool) (a : Act) (w : World), C w → anyQL P md ops C n L f listed a → wpAny P md ops Q' (f + g) listed a w
  | 0, listed, a, w, hw, h => by rw [Nat.zero_add]; exact hL _ _ _ hw h
  | f + 1, listed, a, w, hw, h => by
    rw [show f + 1 + g = (f + g) + 1 by omega]
    exact ⟨fun h0 => absurd h0 h.1, fun i hi => wpOp_of_qOp hw (fun a' w' hw' h' => any_of_head hL f _ a' w' hw' h') (h.2 i hi).2⟩

theorem anyQL_first {n i : Nat} {oi : Oper} {v : Value} {L : Array Bool → Act → Prop} (hi : ops[i]? = some oi) (hsel : ∀ (j : Nat) (o : Oper) cs b, ops[j]? = some o → o.op ≠ .select cs b)
    (hs : Region.sinkB md ops n = true) (hc : Region.chainB md ops n = true) (hn : n < ops.size) (hin : i < n)
    (hdone : ∀ listed a, L listed a → ∀ j ∈ Region.ready md ops listed, n ≤ j) :
    ∀ (f : Nat) (listed : Array Bool) (a : Act), HeadInv md ops n listed →
      (∀ j oj, ops[j]? = some oj → j ≠ i → listed.getD j true = false → (∀ e ∈ oj.after, Region.binds md e = true → e.on ≠ i) → oi.apart ops oj = true) →
      i ∈ Region.ready md ops listed → YieldsIn P ops C oi v a →
      anyQL P md ops C n L f (listed.setIfInBounds i true) (a.put oi.dst v) → anyQL P md ops C n L (f + 1) listed a := by
  intro f
  induction f with
  | zero =>
    intro listed a inv _ hr hy H
    have hun := (mem_ready.1 hr).1
    refine ⟨fun h => (by rw [h] at hr; cases hr), fun j hj => ?_⟩
    have hjn : j < n := by
      rcases Nat.lt_or_ge j n with h | h
      · exact h
      · exact absurd hj (tail_waits hs hc hn inv _ i rfl hin hun j h)
    refine ⟨hjn, ?_⟩
    by_cases hji : j = i
    · subst hji; exact hy.qOp hi H
    · have := hdone _ _ H j (ready_mono hj hji)
      omega
  | succ f ih =>
    intro listed a inv hfree hr hy H
    have hun := (mem_ready.1 hr).1
    refine ⟨fun h => (by rw [h] at hr; cases hr), fun j hj => ?_⟩
    have hjn : j < n := by
      rcases Nat.lt_or_ge j n with h | h
      · exact h
      · exact absurd hj (tail_waits hs hc hn inv _ i rfl hin hun j h)
    refine ⟨hjn, ?_⟩
    by_cases hji : j = i
    · subst hji; exact hy.qOp hi H
    · have h1 := (H.2 j (ready_mono hj hji)).2
      obtain ⟨hjun, oj, hoj, hall⟩ := mem_ready.1 hj
      have hnot : ∀ e ∈ oj.after, Region.binds md e = true → e.on ≠ i := fun e he hb heq => by
        have h1 := hall e he hb
        rw [heq, getD_both hun] at h1
        cases h1
      have h2 := qOp_put hoj (hfree j oj hoj hji hjun hnot) (fun cs b => hsel i oi cs b hi) (fun cs b => hsel j oj cs b hoj) hy h1
      have hfree' : ∀ k ok, ops[k]? = some ok → k ≠ i → (listed.setIfInBounds j true).getD k true = false →
          (∀ e ∈ ok.after, Region.binds md e = true → e.on ≠ i) → oi.apart ops ok = true := fun k ok hk hki hun hno => by
        refine hfree k ok hk hki ?_ hno
        by_cases hjk : j = k
        · subst hjk; exact hjun
        · rw [getD_set_ne true hjk] at hun; exact hun
      refine qOp_mono (fun a' h3 => ih (listed.setIfInBounds j true) a' (inv.set hj hjn) hfree' (ready_mono hr (Ne.symm hji)) h3.1 ?_) h2
      rw [Array.setIfInBounds_comm _ _ hji]
      exact h3.2

theorem anyQL_lex {n g : Nat} {Lq : Act → Prop} (hsel : Region.noSelect ops = true) (hs : Region.sinkB md ops n = true) (hc : Region.chainB md ops n = true) (hn : n < ops.size) :
    ∀ (l : List Oper) (k : Nat) (listed : Array Bool) (a : Act), (∀ j, j < l.length → l[j]? = ops[k + j]?) → k + l.length = n → HeadInv md ops n listed →
    Region.lexHead md ops g l.length k listed = true → wpQuiet P ops C Lq l a →
    anyQL P md ops C n (fun listed' a' => Region.seqB md ops g n listed' = true ∧ Lq a') l.length listed a
  | [], k, listed, a, _, hk, _, hB, h => by
    have : k = n := by simpa using hk
    subst this
    exact ⟨by simpa [Region.lexHead] using hB, h⟩
  | o :: l, k, listed, a, hl, hk, inv, hB, h => by
    have h0 : ops[k]? = some o := by simpa using (hl 0 (by simp)).symm
    simp only [List.length_cons, Region.lexHead, Bool.and_eq_true] at hB
    obtain ⟨⟨hr, hf⟩, hB'⟩ := hB
    have hkn : k < n := by simp only [List.length_cons] at hk; omega
    have hr' : k ∈ Region.ready md ops listed := by simpa using hr
    have hst : qOp P ops C k (wpQuiet P ops C Lq l) a := by unfold qOp; simp only [h0]; exact h
    obtain ⟨v, hy, hK⟩ := yieldsIn_of_qOp h0 hst
    exact anyQL_first h0 (Region.noSelect_spec hsel) hs hc hn hkn (fun listed' a' hL => seqB_ready hL.1) l.length listed a inv (Region.free_spec h0 hf) hr' hy
      (anyQL_lex hsel hs hc hn l (k + 1) _ _ (fun j hj => by have := hl (j + 1) (by simp; omega); simpa [Nat.add_assoc, Nat.add_comm 1 j] using this) (by simp only [List.length_cons] at hk; omega) (inv.set hr' hkn) hB' hK)

/-- The head only reads, the tail is forced: the head by 'wpQuiet', the tail by 'wpList'. -/
theorem wp_region_qt {id : Nat} {Q : Exit → Act → World → Prop} {a : Act} {w : World} {l : List Oper} (n : Nat) (hm : P.follows .mixedOrders = true) (hB : Region.lexTailB .any l.toArray n = true)
    (h : wpQuiet P l.toArray (fun w' => ∃ k, w' = w.drewN k) (fun a' => ∀ w', (∃ k, w' = w.drewN k) → wpList P l.toArray Q (l.drop n) a' w') (l.take n) a) : (Code.region id l.toArray true).wp P Q a w := by
  simp only [Region.lexTailB, Bool.and_eq_true, decide_eq_true_eq] at hB
  obtain ⟨⟨⟨⟨hsel, hn⟩, hs⟩, hc⟩, hlex⟩ := hB
  have hn' : n < l.length := by simpa using hn
  have htl : (l.take n).length = n := by simp; omega
  have hdl : (l.drop n).length = l.toArray.size - n := by simp
  have inv0 : HeadInv .any l.toArray n (Array.replicate l.toArray.size false) :=
    ⟨by simp, fun j oj _ hl => (by rw [getD_replicate_false] at hl; cases hl), fun t _ ht => getD_in (by simpa using ht) (getD_replicate_false _ _)⟩
  have H := anyQL_lex (md := .any) (g := l.toArray.size - n) hsel hs hc hn (l.take n) 0 _ a (fun j hj => by
    have hj' : j < n := by rw [htl] at hj; exact hj
    simp [hj']) (by simpa using htl) inv0 (by rw [htl]; exact hlex) h
  refine wp_region_any hm ?_
  have := any_of_head (C := fun w' => ∃ k, w' = w.drewN k) (Q' := Q) (g := l.toArray.size - n) (fun listed a' w' hw' hL => by
    have := wpAny_of_seq (md := .any) (Q' := Q) (l.drop n) n listed a' w' (fun j => by simp [List.getElem?_drop]) (by rw [hdl]; exact hL.1) (hL.2 w' hw')
    rwa [hdl] at this) _ _ _ _ ⟨1, rfl⟩ H
  rw [htl, show n + (l.toArray.size - n) = l.toArray.size by omega] at this
  exact this

/-! ### The same, some moves of slots being taken first, which nobody ahead of the tail waits for -/
structure HeadInv2 (md : Region.Mode) (ops : Array Oper) (n : Nat) (pre : List Nat) (listed : Array Bool) : Prop where
  size : listed.size = ops.size
  closed : ∀ j oj, ops[j]? = some oj → listed.getD j false = true → ∀ e ∈ oj.after, Region.binds md e = true → listed.getD e.on false = true
  tail : ∀ t, n ≤ t → t < ops.size → listed.getD t true = false
  pre : ∀ i ∈ pre, listed.getD i true = true
def sinkB2 (md : Region.Mode) (ops : Array Oper) (n : Nat) (pre : List Nat) : Bool :=
  (List.range n).all fun i => pre.contains i || (List.range (n + 1)).any fun j => decide (i < j) && Region.waitsFor md ops j i
theorem HeadInv2.set {n i : Nat} {pre : List Nat} {listed : Array Bool} (inv : HeadInv2 md ops n pre listed) (hi : i ∈ Region.ready md ops listed) (hin : i < n) : HeadInv2 md ops n pre (listed.setIfInBounds i true) := by
  obtain ⟨_, oi, hoi, hall⟩ := mem_ready.1 hi
  refine ⟨by simp [inv.size], fun j oj hj hl e he hb => ?_, fun t ht ht' => by rw [getD_set_ne true (by omega)]; exact inv.tail t ht ht', fun j hj => ?_⟩
  case refine_2 =>
    by_cases hij : i = j
    · subst hij
      rcases Nat.lt_or_ge i listed.size with h | h
      · simp [h]
      · simp
    · rw [getD_set_ne true hij]; exact inv.pre j hj
  by_cases hij : i = j
  · subst hij
    have : oj = oi := Option.some.inj (hj.symm.trans hoi)
    subst this
    exact getD_set_true (hall e he hb)
  · rw [getD_set_ne false hij] at hl
    exact getD_set_true (inv.closed j oj hj hl e he hb)
theorem tail_waits2 {n : Nat} {pre : List Nat} {listed : Array Bool} (hs : sinkB2 md ops n pre = true) (hc : Region.chainB md ops n = true) (hn : n < ops.size) (inv : HeadInv2 md ops n pre listed) :
    ∀ (d i : Nat), n - i = d → i < n → listed.getD i true = false → ∀ t, n ≤ t → t ∉ Region.ready md ops listed := by
  intro d
  induction d using Nat.strongRecOn with
  | _ d ih =>
    intro i hd hi hun t ht hr
    obtain ⟨_, ot, hot, hall⟩ := mem_ready.1 hr
    have htlt : t < ops.size := (Array.getElem?_eq_some_iff.1 hot).1
    by_cases htn : t = n
    · subst htn
      have h1 := List.all_eq_true.1 hs i (List.mem_range.2 hi)
      simp only [Bool.or_eq_true] at h1
      rcases h1 with h1 | h1
      · have := inv.pre i (by simpa using h1)
        rw [this] at hun; cases hun
      obtain ⟨j, hj, hj2⟩ := List.any_eq_true.1 h1
      simp only [Bool.and_eq_true, decide_eq_true_eq] at hj2
      obtain ⟨oj, hoj, e, he, hb, hon⟩ := Region.waitsFor_spec hj2.2
      have hjle : j ≤ t := by have := List.mem_range.1 hj; omega
      by_cases hjt : j = t
      · subst hjt
        have : oj = ot := Option.some.inj (hoj.symm.trans hot)
        subst this
        have h2 := hall e he hb
        rw [hon, getD_both hun] at h2
        cases h2
      · cases hl : listed.getD j false with
        | true =>
          have h2 := inv.closed j oj hoj hl e he hb
          rw [hon, getD_both hun] at h2
          cases h2
        | false =>
          have hjs : j < listed.size := by rw [inv.size]; omega
          exact ih (t - j) (by omega) j rfl (by omega) (getD_in hjs hl) t (Nat.le_refl _) hr
    · have h1 := List.all_eq_true.1 hc t (List.mem_range.2 htlt)
      simp only [Bool.or_eq_true, decide_eq_true_eq] at h1
      rcases h1 with h1 | h1
      · omega
      · obtain ⟨o', ho', e, he, hb, hon⟩ := Region.waitsFor_spec h1
        have : o' = ot := Option.some.inj (ho'.symm.trans hot)
        subst this
        have h2 := hall e he hb
        rw [hon, getD_both (inv.tail (t - 1) (by omega) (by omega))] at h2
        cases h2
theorem anyQL_first2 {n i : Nat} {pre : List Nat} {oi : Oper} {v : Value} {L : Array Bool → Act → Prop} (hi : ops[i]? = some oi) (hsel : ∀ (j : Nat) (o : Oper) cs b, ops[j]? = some o → o.op ≠ .select cs b)
    (hs : sinkB2 md ops n pre = true) (hc : Region.chainB md ops n = true) (hn : n < ops.size) (hin : i < n)
    (hdone : ∀ listed a, L listed a → ∀ j ∈ Region.ready md ops listed, n ≤ j) :
    ∀ (f : Nat) (listed : Array Bool) (a : Act), HeadInv2 md ops n pre listed →
      (∀ j oj, ops[j]? = some oj → j ≠ i → listed.getD j true = false → (∀ e ∈ oj.after, Region.binds md e = true → e.on ≠ i) → oi.apart ops oj = true) →
      i ∈ Region.ready md ops listed → YieldsIn P ops C oi v a →
      anyQL P md ops C n L f (listed.setIfInBounds i true) (a.put oi.dst v) → anyQL P md ops C n L (f + 1) listed a := by
  intro f
  induction f with
  | zero =>
    intro listed a inv _ hr hy H
    have hun := (mem_ready.1 hr).1
    refine ⟨fun h => (by rw [h] at hr; cases hr), fun j hj => ?_⟩
    have hjn : j < n := by
      rcases Nat.lt_or_ge j n with h | h
      · exact h
      · exact absurd hj (tail_waits2 hs hc hn inv _ i rfl hin hun j h)
    refine ⟨hjn, ?_⟩
    by_cases hji : j = i
    · subst hji; exact hy.qOp hi H
    · have := hdone _ _ H j (ready_mono hj hji)
      omega
  | succ f ih =>
    intro listed a inv hfree hr hy H
    have hun := (mem_ready.1 hr).1
    refine ⟨fun h => (by rw [h] at hr; cases hr), fun j hj => ?_⟩
    have hjn : j < n := by
      rcases Nat.lt_or_ge j n with h | h
      · exact h
      · exact absurd hj (tail_waits2 hs hc hn inv _ i rfl hin hun j h)
    refine ⟨hjn, ?_⟩
    by_cases hji : j = i
    · subst hji; exact hy.qOp hi H
    · have h1 := (H.2 j (ready_mono hj hji)).2
      obtain ⟨hjun, oj, hoj, hall⟩ := mem_ready.1 hj
      have hnot : ∀ e ∈ oj.after, Region.binds md e = true → e.on ≠ i := fun e he hb heq => by
        have h1 := hall e he hb
        rw [heq, getD_both hun] at h1
        cases h1
      have h2 := qOp_put hoj (hfree j oj hoj hji hjun hnot) (fun cs b => hsel i oi cs b hi) (fun cs b => hsel j oj cs b hoj) hy h1
      have hfree' : ∀ k ok, ops[k]? = some ok → k ≠ i → (listed.setIfInBounds j true).getD k true = false →
          (∀ e ∈ ok.after, Region.binds md e = true → e.on ≠ i) → oi.apart ops ok = true := fun k ok hk hki hun hno => by
        refine hfree k ok hk hki ?_ hno
        by_cases hjk : j = k
        · subst hjk; exact hjun
        · rw [getD_set_ne true hjk] at hun; exact hun
      refine qOp_mono (fun a' h3 => ih (listed.setIfInBounds j true) a' (inv.set hj hjn) hfree' (ready_mono hr (Ne.symm hji)) h3.1 ?_) h2
      rw [Array.setIfInBounds_comm _ _ hji]
      exact h3.2
/-- The head's other operations, by their numbers. -/
def headB (md : Region.Mode) (ops : Array Oper) (n g : Nat) : List Nat → Array Bool → Bool
  | [], listed => Region.seqB md ops g n listed
  | i :: r, listed => decide (i < n) && (Region.ready md ops listed).contains i && Region.free md ops listed i && headB md ops n g r (listed.setIfInBounds i true)
/-- The moves that are taken first. -/
def preB (md : Region.Mode) (ops : Array Oper) : List Nat → Array Bool → Bool
  | [], _ => true
  | i :: r, listed => (match ops[i]? with | some o => (match o.op, o.guard with | .move _, none => true | _, _ => false) | none => false) && (Region.ready md ops listed).contains i && Region.free md ops listed i && preB md ops r (listed.setIfInBounds i true)
def listedOf (n : Nat) (pre : List Nat) : Array Bool := pre.foldl (fun l i => l.setIfInBounds i true) (Array.replicate n false)
def invB (md : Region.Mode) (ops : Array Oper) (n : Nat) (pre : List Nat) (listed : Array Bool) : Bool :=
  decide (listed.size = ops.size) && ((List.range ops.size).all fun j => match ops[j]? with | some oj => !listed.getD j false || oj.after.all (fun e => !Region.binds md e || listed.getD e.on false) | none => true) &&
  ((List.range ops.size).all fun t => decide (t < n) || !listed.getD t true) && pre.all fun i => listed.getD i true
theorem inv_of {n : Nat} {pre : List Nat} {listed : Array Bool} (h : invB md ops n pre listed = true) : HeadInv2 md ops n pre listed := by
  simp only [invB, Bool.and_eq_true, decide_eq_true_eq] at h
  obtain ⟨⟨⟨h1, h2⟩, h3⟩, h4⟩ := h
  refine ⟨h1, fun j oj hj hl e he hb => ?_, fun t ht ht' => ?_, fun i hi => List.all_eq_true.1 h4 i hi⟩
  · have hlt : j < ops.size := (Array.getElem?_eq_some_iff.1 hj).1
    have := List.all_eq_true.1 h2 j (List.mem_range.2 hlt)
    simp only [hj, hl, Bool.not_true, Bool.false_or, Array.all_eq_true_iff_forall_mem] at this
    have h5 := this e he
    simpa [hb] using h5
  · have := List.all_eq_true.1 h3 t (List.mem_range.2 ht')
    simp only [Bool.or_eq_true, decide_eq_true_eq, Bool.not_eq_true'] at this
    rcases this with h | h
    · omega
    · exact h
theorem anyQL_head {n g : Nat} {pre : List Nat} {Lq : Act → Prop} (hsel : Region.noSelect ops = true) (hs : sinkB2 md ops n pre = true) (hc : Region.chainB md ops n = true) (hn : n < ops.size) :
    ∀ (idx : List Nat) (listed : Array Bool) (a : Act), HeadInv2 md ops n pre listed → headB md ops n g idx listed = true → wpQuiet P ops C Lq (idx.map fun i => ops.getD i default) a →
    anyQL P md ops C n (fun listed' a' => Region.seqB md ops g n listed' = true ∧ Lq a') idx.length listed a
  | [], listed, a, _, hB, h => ⟨hB, h⟩
  | i :: r, listed, a, inv, hB, h => by
    simp only [headB, Bool.and_eq_true, decide_eq_true_eq] at hB
    obtain ⟨⟨⟨hin, hr⟩, hf⟩, hB'⟩ := hB
    have hlt : i < ops.size := by omega
    have h0 : ops[i]? = some (ops.getD i default) := by simp [hlt]
    have hr' : i ∈ Region.ready md ops listed := by simpa using hr
    have hst : qOp P ops C i (wpQuiet P ops C Lq (r.map fun i => ops.getD i default)) a := by unfold qOp; simp only [h0]; exact h
    obtain ⟨v, hy, hK⟩ := yieldsIn_of_qOp h0 hst
    exact anyQL_first2 h0 (Region.noSelect_spec hsel) hs hc hn hin (fun listed' a' hL => seqB_ready hL.1) r.length listed a inv (Region.free_spec h0 hf) hr' hy
      (anyQL_head hsel hs hc hn r _ _ (inv.set hr' hin) hB' hK)
theorem anyPre {Q' : Exit → Act → World → Prop} {f : Nat} {w : World} {Lq : List Oper} {R : Act → Prop} (hsel : Region.noSelect ops = true) (hC : C w) (hQ : ∀ c d v a w, Q' (.panic c) (Act.put a d v) w → Q' (.panic c) a w) :
    ∀ (pre : List Nat) (listed : Array Bool) (a : Act), preB md ops pre listed = true → wpQuiet P ops C R ((pre.map fun i => ops.getD i default) ++ Lq) a →
    (∀ a', wpQuiet P ops C R Lq a' → wpAny P md ops Q' f (pre.foldl (fun l i => l.setIfInBounds i true) listed) a' w) → wpAny P md ops Q' (pre.length + f) listed a w
  | [], listed, a, _, h, hk => by rw [List.length_nil, Nat.zero_add]; exact hk a h
  | i :: r, listed, a, hB, h, hk => by
    simp only [preB, Bool.and_eq_true] at hB
    obtain ⟨⟨⟨hmv, hr⟩, hf⟩, hB'⟩ := hB
    cases ho : ops[i]? with
    | none => simp [ho] at hmv
    | some o =>
      have hgd : ops.getD i default = o := by
        have hlt : i < ops.size := (Array.getElem?_eq_some_iff.1 ho).1
        have := (Array.getElem?_eq_some_iff.1 ho).2
        simp [hlt, this]
      obtain ⟨dst, op, ty, pos, after, guard⟩ := o
      cases op <;> cases guard <;> simp [ho] at hmv
      rename_i x
      rw [List.map_cons, hgd, List.cons_append] at h
      have h' : (⟨dst, .move x, ty, pos, after, none⟩ : Oper).quiet P a C (wpQuiet P ops C R ((r.map fun i => ops.getD i default) ++ Lq)) := by
        have := h
        simp only [wpQuiet, Region.wanted, if_true] at this
        exact this
      obtain ⟨v, hv, hn⟩ := h'
      have hv' := hv w hC
      have e : v = a.eval x := hv'.2.symm
      subst e
      have hy : Yields P ops ⟨dst, .move x, ty, pos, after, none⟩ (a.eval x) a := .inl ⟨rfl, fun _ => rfl⟩
      rw [List.length_cons, show r.length + 1 + f = (r.length + f) + 1 by omega]
      exact wpAny_take ho hsel hf hr (fun c a w h => hQ c _ _ a w h) hy (anyPre hsel hC hQ r _ _ hB' hn (by simpa using hk))
def okPQ (md : Region.Mode) (ops : Array Oper) (pre idx : List Nat) (n : Nat) : Bool :=
  Region.noSelect ops && decide (n < ops.size) && sinkB2 md ops n pre && Region.chainB md ops n && preB md ops pre (Array.replicate ops.size false) &&
  invB md ops n pre (listedOf ops.size pre) && headB md ops n (ops.size - n) idx (listedOf ops.size pre) && decide (pre.length + idx.length = n)
/-- Moves that nobody ahead of the tail waits for are taken first; the other operations ahead of the tail only read; the tail is forced. -/
theorem wp_region_pq {id : Nat} {Q : Exit → Act → World → Prop} {a : Act} {w : World} {l : List Oper} (pre idx : List Nat) (n : Nat) (hm : P.follows .mixedOrders = true) (hB : okPQ .any l.toArray pre idx n = true)
    (hQ : ∀ c d v a w, Q (.panic c) (Act.put a d v) w → Q (.panic c) a w)
    (h : wpQuiet P l.toArray (fun w' => ∃ k, w' = w.drewN k) (fun a' => ∀ w', (∃ k, w' = w.drewN k) → wpList P l.toArray Q (l.drop n) a' w')
      ((pre.map fun i => l.getD i default) ++ (idx.map fun i => l.getD i default)) a) : (Code.region id l.toArray true).wp P Q a w := by
  have eg : (fun i => l.getD i default) = fun i => l.toArray.getD i default := by
    funext i; simp [List.getD]
  rw [eg] at h
  simp only [okPQ, Bool.and_eq_true, decide_eq_true_eq] at hB
  obtain ⟨⟨⟨⟨⟨⟨⟨hsel, hn⟩, hs⟩, hc⟩, hpre⟩, hinv⟩, hhead⟩, hlen⟩ := hB
  refine wp_region_any hm ?_
  have hdl : (l.drop n).length = l.toArray.size - n := by simp
  have hsz : l.toArray.size = pre.length + (idx.length + (l.toArray.size - n)) := by omega
  rw [hsz]
  refine anyPre (C := fun w' => ∃ k, w' = w.drewN k) hsel ⟨1, rfl⟩ hQ pre _ a (by rw [← hsz]; exact hpre) h fun a' h' => ?_
  have H := anyQL_head (md := .any) (g := l.toArray.size - n) hsel hs hc hn idx (listedOf l.toArray.size pre) a' (inv_of hinv) hhead h'
  have := any_of_head (C := fun w' => ∃ k, w' = w.drewN k) (Q' := Q) (g := l.toArray.size - n) (fun listed a' w' hw' hL => by
    have := wpAny_of_seq (md := .any) (Q' := Q) (l.drop n) n listed a' w' (fun j => by simp [List.getElem?_drop]) (by rw [hdl]; exact hL.1) (hL.2 w' hw')
    rwa [hdl] at this) _ _ _ _ ⟨1, rfl⟩ H
  rw [← hsz]
  exact this
end
end Go.QT
