/- More steps on slices: parts of them, their elements' places and cells. (Texts laid one behind the other: Pa, Pf, Rv, ConstB, XS, MapC, MapR, Mask, Rw.) -/
import Derived.MapKept
import Derived.Laws.IdiomRangeMap
import Derived.Test.YtpkelokaammmjaaCA4
/-! Frames of which only some slots are told. Over any program. -/
section
namespace Go.Proofs.Ytpkelokaammmjaa
open Go.RowKit Go.QT
noncomputable def look (x : Nat → Value) (l : List (Nat × Value)) (i : Nat) : Value :=
  List.rec (x i) (fun p _ ih => bif Nat.beq p.1 i then p.2 else ih) l
noncomputable def frL (f : Nat → Value) (n : Nat) : Nat → List Value :=
  Nat.rec (fun _ => []) (fun _ ih i => f i :: ih (i + 1)) n
noncomputable def patch (x : Nat → Value) (n : Nat) (l : List (Nat × Value)) : Act := { tmps := (frL (look x l) n 0).toArray, defers := [] }
theorem frL_get (f : Nat → Value) : ∀ (n k i : Nat), (frL f n k)[i]? = if i < n then some (f (k + i)) else none
  | 0, k, i => by show ([] : List Value)[i]? = _; simp
  | n + 1, k, 0 => by show (f k :: frL f n (k + 1))[0]? = _; simp
  | n + 1, k, i + 1 => by
    have h := frL_get f n (k + 1) i
    show (f k :: frL f n (k + 1))[i + 1]? = _
    rw [List.getElem?_cons_succ, h]
    by_cases hi : i < n
    · rw [if_pos hi, if_pos (by omega)]; congr 2; omega
    · rw [if_neg hi, if_neg (by omega)]
theorem look_dead (x : Nat → Value) (l : List (Nat × Value)) (h : l.map (fun p => x p.1) = l.map (·.2)) (i : Nat) : look x l i = x i := by
  induction l with
  | nil => rfl
  | cons p l ih =>
    simp only [List.map_cons, List.cons.injEq] at h
    show (bif Nat.beq p.1 i then p.2 else look x l i) = x i
    cases hb : Nat.beq p.1 i with
    | true => have := Nat.eq_of_beq_eq_true hb; subst this; exact h.1.symm
    | false => exact ih h.2
theorem patch_eq (a : Act) (n : Nat) (l : List (Nat × Value)) (hs : a.tmps.size = n) (hd : a.defers = []) (h : l.map (fun p => dead a p.1) = l.map (·.2)) : a = patch (dead a) n l := by
  obtain ⟨tmps, defers⟩ := a
  simp only at hs hd
  subst hd
  unfold patch
  congr 1
  apply Array.ext'
  apply List.ext_getElem?
  intro i
  rw [frL_get, Nat.zero_add, look_dead _ _ h]
  by_cases hi : i < n
  · rw [if_pos hi]
    simp [dead, hs, hi]
  · rw [if_neg hi]
    simp [hs]; omega
theorem wp_reset {P : Program} {Q : Exit → Act → World → Prop} {a : Act} {w : World} {c : Code} (n : Nat) (l : List (Nat × Value)) (k : ∀ x, c.wp P Q (patch x n l) w) (hs : a.tmps.size = n := by kernel_rfl) (hd : a.defers = [] := by kernel_rfl) (h : l.map (fun p => dead a p.1) = l.map (·.2) := by kernel_rfl) : c.wp P Q a w := by
  have := k (dead a)
  rwa [← patch_eq a n l hs hd h] at this
/-! ### Steps that keep the frame so -/
def putL : Option Nat → Value → List (Nat × Value) → List (Nat × Value)
  | some d, v, l => (d, v) :: l
  | none, _, l => l
def okD (n : Nat) : Option Nat → Bool
  | some d => decide (d < n)
  | none => true
theorem put_patch (x : Nat → Value) (n : Nat) (l : List (Nat × Value)) (d : Option Nat) (v : Value) (h : okD n d = true) : (patch x n l).put d v = patch x n (putL d v l) := by
  cases d with
  | none => rfl
  | some d =>
    have hd : d < n := of_decide_eq_true h
    show ({ tmps := (patch x n l).tmps.setIfInBounds d v, defers := _ } : Act) = _
    unfold patch
    congr 1
    apply Array.ext'
    simp only [Array.toList_setIfInBounds]
    apply List.ext_getElem?
    intro i
    rw [List.getElem?_set, frL_get, frL_get, Nat.zero_add]
    have hlen : (frL (look x l) n 0).length = n := by
      have h1 := frL_get (look x l) n 0 n
      have h2 : n ≤ (frL (look x l) n 0).length ∨ (frL (look x l) n 0).length < n := by omega
      rcases h2 with h2 | h2
      · rw [if_neg (Nat.lt_irrefl n)] at h1
        have := List.getElem?_eq_none_iff.1 h1
        omega
      · have h3 := frL_get (look x l) n 0 (frL (look x l) n 0).length
        rw [if_pos h2, List.getElem?_eq_none (Nat.le_refl _)] at h3
        cases h3
    show _ = if i < n then some (bif Nat.beq d i then v else look x l i) else none
    by_cases e : d = i
    · subst e
      rw [if_pos rfl, if_pos (by rw [hlen]; exact hd), if_pos hd, Nat.beq_refl]; rfl
    · rw [if_neg e]
      have : Nat.beq d i = false := by
        cases hb : Nat.beq d i with
        | false => rfl
        | true => exact absurd (Nat.eq_of_beq_eq_true hb) e
      rw [this]; rfl
/-! What an operation reads, without a look at the row of slots. -/
theorem frL_len (f : Nat → Value) : ∀ (n k : Nat), (frL f n k).length = n
  | 0, _ => rfl
  | n + 1, k => by
    show (f k :: frL f n (k + 1)).length = n + 1
    rw [List.length_cons, frL_len f n (k + 1)]
noncomputable def evP (x : Nat → Value) (n : Nat) (e : List (Nat × Value)) : Operand → Value
  | .tmp i => bif Nat.blt i n then look x e i else undef
  | y => (patch x 0 []).eval y
theorem patch_get (x : Nat → Value) (n : Nat) (e : List (Nat × Value)) (i : Nat) : (patch x n e).tmps[i]? = if i < n then some (look x e i) else none := by
  show (frL (look x e) n 0).toArray[i]? = _
  rw [List.getElem?_toArray, frL_get, Nat.zero_add]
theorem blt_dec (i n : Nat) : Nat.blt i n = decide (i < n) := by
  cases h : Nat.blt i n with
  | true => exact (decide_eq_true (by rw [Nat.blt_eq] at h; exact h)).symm
  | false => exact (decide_eq_false (fun hh => by rw [← Nat.blt_eq, h] at hh; cases hh)).symm
theorem eval_patch (x : Nat → Value) (n : Nat) (e : List (Nat × Value)) : (patch x n e).eval = evP x n e := by
  funext y
  cases y with
  | tmp i =>
    show (patch x n e).tmps.getD i undef = bif Nat.blt i n then look x e i else undef
    rw [Array.getD_eq_getD_getElem?, patch_get, blt_dec]
    by_cases h : i < n <;> simp [h]
  | _ => rfl
noncomputable def yieldP (ops : Array Oper) (x : Nat → Value) (n : Nat) (e : List (Nat × Value)) (j : Nat) : Option Bool :=
  match (ops[j]?).bind (·.dst) with
  | some d => if Nat.blt d n then (match look x e d with | .bool b => some b | _ => none) else none
  | none => none
theorem yield_patch (ops : Array Oper) (x : Nat → Value) (n : Nat) (e : List (Nat × Value)) : yielded ops (patch x n e).tmps = yieldP ops x n e := by
  funext j
  unfold yielded yieldP
  cases hd : (ops[j]?).bind (·.dst) with
  | none => rfl
  | some d =>
    show (match (patch x n e).tmps[d]? with | some (.bool b) => some b | _ => none) = (if Nat.blt d n = true then (match look x e d with | .bool b => some b | _ => none) else none)
    rw [patch_get, blt_dec]
    by_cases h : d < n
    · simp only [h, if_true, decide_true]
      cases look x e d <;> rfl
    · simp [h]
noncomputable def pureE (P : Program) (o : Oper) (ev : Operand → Value) : Option Value :=
  match pureVal P (execOp ev o) with
  | some (.value v) => some v
  | _ => none
theorem pureE_eq (P : Program) (o : Oper) (x : Nat → Value) (n : Nat) (e : List (Nat × Value)) : pureE P o (evP x n e) = pureOp P o (patch x n e) := by
  unfold pureE pureOp; rw [eval_patch]; rfl
noncomputable def runP (P : Program) (ops : Array Oper) (x : Nat → Value) (n : Nat) : Nat → List Oper → List (Nat × Value) → Option (List Oper × List (Nat × Value))
  | 0, l, e => some (l, e)
  | _ + 1, [], _ => none
  | k + 1, o :: l, e =>
    if okD n o.dst then
      if Region.wanted o (yieldP ops x n e) then
        match pureE P o (evP x n e) with
        | some v => runP P ops x n k l (putL o.dst v e)
        | none => none
      else runP P ops x n k l (putL o.dst undef e)
    else none
section
variable {P : Program} {ops : Array Oper} {rest l l' : List Oper} {o : Oper} {w w' : World} {Q : Exit → Act → World → Prop} {R : Value → World → Prop} {x : Nat → Value} {n : Nat} {e : List (Nat × Value)}
theorem wq_pr : ∀ (k : Nat) (l : List Oper) (e : List (Nat × Value)) (l' : List Oper) (e' : List (Nat × Value)), runP P ops x n k l e = some (l', e') → wpList P ops Q l' (patch x n e') w → wpList P ops Q l (patch x n e) w
  | 0, l, e, l', e', h, k => by simp only [runP, Option.some.injEq, Prod.mk.injEq] at h; obtain ⟨rfl, rfl⟩ := h; exact k
  | _ + 1, [], _, _, _, h, _ => by simp [runP] at h
  | m + 1, o :: l, e, l', e', h, k => by
    unfold runP at h
    split at h
    · rename_i hd
      split at h
      · rename_i hw
        rw [← yield_patch] at hw
        split at h
        · rename_i v hv
          rw [pureE_eq] at hv
          refine wpList_step fun K hK => ?_
          rw [if_pos hw]
          unfold Oper.wp
          rw [pureOp_run hv]
          refine hK _ _ ?_
          rw [put_patch _ _ _ _ _ hd]
          exact wq_pr m l _ l' e' h k
        · cases h
      · rename_i hw
        rw [← yield_patch] at hw
        refine wpList_step fun K hK => ?_
        rw [if_neg hw]
        refine hK _ _ ?_
        rw [put_patch _ _ _ _ _ hd]
        exact wq_pr m l _ l' e' h k
    · cases h
theorem wq_p (k : Nat) (vs : List (Nat × Value)) (hk : WL P ops Q (l.drop k) (patch x n (vs ++ e)) w) (h : runP P ops x n k l e = some (l.drop k, vs ++ e) := by kernel_rfl) : WL P ops Q l (patch x n e) w :=
  ⟨wq_pr k l e _ _ h hk.run⟩
theorem wq_to (d : Option Nat) (h : OpTo P o (patch x n e) w R) (k : ∀ v w', R v w' → WL P ops Q rest (patch x n (putL d v e)) w') (hd : o.dst = d := by kernel_rfl) (ho : okD n d = true := by kernel_rfl) (hw : Region.wanted o (yieldP ops x n e) = true := by kernel_rfl) : WL P ops Q (o :: rest) (patch x n e) w := by
  subst hd
  rw [← yield_patch] at hw
  exact wl_to hw h fun v w' hr => by rw [put_patch _ _ _ _ _ ho]; exact k v w' hr
theorem wq_v (d : Option Nat) (v : Value) (hv : (execOp (patch x n e).eval o).run P w = .ok (.value v) w) (k : WL P ops Q rest (patch x n (putL d v e)) w) (hd : o.dst = d := by kernel_rfl) (ho : okD n d = true := by kernel_rfl) (hw : Region.wanted o (yieldP ops x n e) = true := by kernel_rfl) : WL P ops Q (o :: rest) (patch x n e) w := by
  subst hd
  rw [← yield_patch] at hw
  exact wl_v hw v hv (by rw [put_patch _ _ _ _ _ ho]; exact k)
/-! ### Regions that draw -/
noncomputable def freeP (P : Program) (md : Region.Mode) (ops : Array Oper) (p : Nat) (x : Nat → Value) (n : Nat) : List Nat → Array Bool → List (Nat × Value) → Option (List (Nat × Value))
  | [], _, e => some e
  | i :: r, L, e =>
    match ops[i]? with
    | none => none
    | some o =>
      if (decide (i < p) && okD n o.dst && (Region.ready md ops L).contains i && Region.free md ops L i) then
        if Region.wanted o (yieldP ops x n e) then
          match pureE P o (evP x n e) with
          | some v => freeP P md ops p x n r (L.setIfInBounds i true) (putL o.dst v e)
          | none => none
        else freeP P md ops p x n r (L.setIfInBounds i true) (putL o.dst undef e)
      else none
variable {md : Region.Mode} {S : World → Prop} {p : Nat} {L : Array Bool}
theorem pQ_pr (hs : Region.noSelect ops = true) (hph : phaseB md ops p = true) (hQ : ∀ c d v a w, Q (.panic c) (Act.put a d v) w → Q (.panic c) a w) (hS : S w) (f : Nat) :
    ∀ (is : List Nat) (L : Array Bool) (e e' : List (Nat × Value)), freeP P md ops p x n is L e = some e' → wpAnyT P md ops Q S p f (marks L is) (patch x n e') w → wpAnyT P md ops Q S p (f + is.length) L (patch x n e) w
  | [], L, e, e', h, k => by simp only [freeP, Option.some.injEq] at h; subst h; exact k
  | i :: r, L, e, e', h, k => by
    unfold freeP at h
    split at h
    · cases h
    · rename_i o ho
      split at h
      · rename_i hc
        simp only [Bool.and_eq_true, decide_eq_true_eq] at hc
        obtain ⟨⟨⟨hip, hok⟩, hr⟩, hf⟩ := hc
        split at h
        · rename_i hw
          rw [← yield_patch] at hw
          split at h
          · rename_i v hv
            rw [pureE_eq] at hv
            exact pH_val o.dst v ho rfl hs hf hr hph (decide_eq_true hip) hQ hw hS (fun W _ => pureOp_run hv W) (by rw [put_patch _ _ _ _ _ hok]; exact pQ_pr hs hph hQ hS f r _ _ e' h k)
          · cases h
        · rename_i hw
          rw [← yield_patch] at hw
          exact pH_skip o.dst ho rfl hs hf hr hph (decide_eq_true hip) hQ (by simpa using hw) hS (by rw [put_patch _ _ _ _ _ hok]; exact pQ_pr hs hph hQ hS f r _ _ e' h k)
      · cases h
theorem pQ_p {m : Nat} (f : Nat) (is : List Nat) (vs : List (Nat × Value)) (L' : Array Bool) (hL : marks L is = L') (hn : m = f + is.length) (hs : Region.noSelect ops = true) (hph : phaseB md ops p = true) (hQ : ∀ c d v a w, Q (.panic c) (Act.put a d v) w → Q (.panic c) a w) (hS : S w)
    (h : freeP P md ops p x n is L e = some (vs ++ e)) (k : wpAnyT P md ops Q S p f L' (patch x n (vs ++ e)) w) : wpAnyT P md ops Q S p m L (patch x n e) w := by
  subst hL; subst hn; exact pQ_pr hs hph hQ hS f is L e _ h k
theorem pQ_v {f : Nat} (i : Nat) (d : Option Nat) (v : Value) (L' : Array Bool) (hL : marks L [i] = L') (hi : ops[i]? = some o) (hd : o.dst = d) (hok : okD n d = true) (hs : Region.noSelect ops = true) (hf : Region.free md ops L i = true) (hr : (Region.ready md ops L).contains i = true)
    (hph : phaseB md ops p = true) (hip : decide (i < p) = true) (hQ : ∀ c d v a w, Q (.panic c) (Act.put a d v) w → Q (.panic c) a w) (hw : Region.wanted o (yieldP ops x n e) = true) (hS : S w)
    (hv : ∀ W, S W → (execOp (patch x n e).eval o).run P W = .ok (.value v) W) (k : wpAnyT P md ops Q S p f L' (patch x n (putL d v e)) w) : wpAnyT P md ops Q S p (f + 1) L (patch x n e) w := by
  rw [← put_patch _ _ _ _ _ hok] at k
  rw [← yield_patch] at hw
  exact pH_v i d v L' hL hi hd hs hf hr hph hip hQ hw hS hv k
theorem pQ_to {f : Nat} (i : Nat) (d : Option Nat) (L' : Array Bool) (hL : marks L [i] = L') (hi : ops[i]? = some o) (hd : o.dst = d) (hok : okD n d = true) (hr : Region.ready md ops L = [i]) (hw : Region.wanted o (yieldP ops x n e) = true)
    (h : OpTo P o (patch x n e) w R) (k : ∀ v w', R v w' → (i < p → S w') ∧ wpAnyT P md ops Q S p f L' (patch x n (putL d v e)) w') : wpAnyT P md ops Q S p (f + 1) L (patch x n e) w :=
  pH_to i d L' hL hi hd hr (by rw [yield_patch]; exact hw) h fun v w' hr => by rw [put_patch _ _ _ _ _ hok]; exact k v w' hr
theorem pQ_op {f : Nat} (i : Nat) (d : Option Nat) (L' : Array Bool) (hL : marks L [i] = L') (hi : ops[i]? = some o) (hd : o.dst = d) (hok : okD n d = true) (hw : Region.wanted o (yieldP ops x n e) = true)
    (h : OpTo P o (patch x n e) w R) (k : ∀ v w', R v w' → (i < p → S w') ∧ wpAnyT P md ops Q S p f L' (patch x n (putL d v e)) w') :
    wpOp P ops Q i (fun a' w' => (i < p → S w') ∧ wpAnyT P md ops Q S p f (L.setIfInBounds i true) a' w') (patch x n e) w :=
  pH_op i d L' hL hi hd (by rw [yield_patch]; exact hw) h fun v w' hr => by rw [put_patch _ _ _ _ _ hok]; exact k v w' hr
theorem eq_is {v u : Value} (h : pureE P o (evP x n e) = some v) (hv : v = u) {W : World} : (execOp (patch x n e).eval o).run P W = .ok (.value u) W :=
  e_is (by rw [← pureE_eq]; exact h) hv
end
end Go.Proofs.Ytpkelokaammmjaa
end
/-! A region's edges as numbers: what is ready, and what is free, told fast. Over any program. -/
section
namespace Go.Proofs.Ytpkelokaammmjaa
open Go.RowKit Go.QT
def fmask (l : List Nat) : Nat := l.foldl (fun m d => m ||| (1 <<< d)) 0
theorem bit1 (d i : Nat) : Nat.testBit (1 <<< d) i = decide (d = i) := by
  rw [Nat.one_shiftLeft, Nat.testBit_two_pow]
theorem fmask_go (l : List Nat) : ∀ (m i : Nat), Nat.testBit (l.foldl (fun m d => m ||| (1 <<< d)) m) i = (Nat.testBit m i || l.contains i) := by
  induction l with
  | nil => intro m i; simp
  | cons d l ih =>
    intro m i
    rw [List.foldl_cons, ih, Nat.testBit_or, bit1, List.contains_cons, Bool.or_assoc]
    congr 2
    rw [Bool.eq_iff_iff, decide_eq_true_eq, beq_iff_eq]; exact eq_comm
theorem fmask_bit (l : List Nat) (i : Nat) : Nat.testBit (fmask l) i = l.contains i := by unfold fmask; rw [fmask_go]; simp
def edgesOf (md : Region.Mode) (o : Oper) : List Nat := o.after.toList.filterMap fun e => if Region.binds md e then some e.on else none
def memN (i : Nat) : List Nat → Bool
  | [] => false
  | d :: l => Nat.beq d i || memN i l
theorem memN_eq (i : Nat) : ∀ l : List Nat, memN i l = l.contains i
  | [] => rfl
  | d :: l => by
    rw [List.contains_cons, memN, memN_eq i l]
    congr 1
    rw [Bool.eq_iff_iff, beq_iff_eq]
    exact ⟨fun h => (Nat.eq_of_beq_eq_true h).symm, fun h => by subst h; exact Nat.beq_refl _⟩
def sumO (md : Region.Mode) (ops : Array Oper) (o : Oper) : Nat × List Nat × Nat := (match o.dst with | some d => d + 1 | none => 0, o.looksAt ops, fmask (edgesOf md o))
def sumOf (md : Region.Mode) (ops : Array Oper) : List (Nat × List Nat × Nat) := ops.toList.map (sumO md ops)
def apS (x y : Nat × List Nat × Nat) : Bool :=
  (match x.1 with | 0 => true | d + 1 => !(memN d y.2.1) && !(Nat.beq y.1 (d + 1))) && (match y.1 with | 0 => true | d + 1 => !(memN d x.2.1))
def goF (x : Nat × List Nat × Nat) (M i : Nat) : List (Nat × List Nat × Nat) → Nat → Bool
  | [], _ => true
  | y :: r, j => (Nat.beq j i || Nat.testBit M j || Nat.testBit y.2.2 i || apS x y) && goF x M i r (j + 1)
def freeS (sm : List (Nat × List Nat × Nat)) (M i : Nat) : Bool := match sm[i]? with | none => false | some x => goF x M i sm 0
def rdyY (M i : Nat) (y : Nat × List Nat × Nat) : Bool := !(Nat.testBit M i) && Nat.beq (y.2.2 &&& M) y.2.2
def rdyS (sm : List (Nat × List Nat × Nat)) (M i : Nat) : Bool := match sm[i]? with | none => false | some y => rdyY M i y
def goR (M : Nat) : List (Nat × List Nat × Nat) → Nat → List Nat
  | [], _ => []
  | y :: r, j => if rdyY M j y then j :: goR M r (j + 1) else goR M r (j + 1)
theorem ap_of (md : Region.Mode) (ops : Array Oper) (x y : Oper) (h : apS (sumO md ops x) (sumO md ops y) = true) : x.apart ops y = true := by
  unfold apS sumO at h
  unfold Oper.apart
  simp only at h
  cases hx : x.dst <;> cases hy : y.dst <;> simp only [hx, hy, memN_eq, Bool.and_eq_true, Bool.true_and, Bool.and_true] at h ⊢ <;> try trivial
  · rename_i d d'
    refine ⟨⟨h.1.1, ?_⟩, h.2⟩
    have h2 := h.1.2
    simp only [Bool.not_eq_true'] at h2
    have h3 : d' + 1 ≠ d + 1 := Nat.ne_of_beq_eq_false h2
    have hne : d' ≠ d := fun e => h3 (by rw [e])
    simpa using hne
theorem gofall (x : Nat × List Nat × Nat) (M i : Nat) : ∀ (sm : List (Nat × List Nat × Nat)) (k : Nat), goF x M i sm k = true → ∀ j y, sm[j]? = some y → (Nat.beq (k + j) i || Nat.testBit M (k + j) || Nat.testBit y.2.2 i || apS x y) = true
  | [], _, _, j, y, hy => by simp at hy
  | z :: r, k, h, j, y, hy => by
    unfold goF at h
    rw [Bool.and_eq_true] at h
    cases j with
    | zero => simp at hy; subst hy; exact h.1
    | succ j =>
      have := gofall x M i r (k + 1) h.2 j y (by simpa using hy)
      rwa [show k + 1 + j = k + (j + 1) by omega] at this
theorem bl_size (n M : Nat) : (bl n M).size = n := by simp [bl]
theorem bl_getD (n M i : Nat) (b : Bool) : (bl n M).getD i b = if i < n then Nat.testBit M i else b := by
  rw [Array.getD_eq_getD_getElem?]
  unfold bl
  rw [List.getElem?_toArray, List.getElem?_map]
  by_cases h : i < n
  · rw [List.getElem?_range h]; simp [h]
  · rw [List.getElem?_eq_none (by simpa using h)]; simp [h]
theorem sum_get {md : Region.Mode} {ops : Array Oper} {sm : List (Nat × List Nat × Nat)} (hs : sumOf md ops = sm) (i : Nat) : sm[i]? = (ops[i]?).map (sumO md ops) := by
  subst hs; unfold sumOf; rw [List.getElem?_map, Array.getElem?_toList]
theorem free_of {md : Region.Mode} {ops : Array Oper} {sm : List (Nat × List Nat × Nat)} {N M i : Nat} (hs : sumOf md ops = sm) (hn : ops.size = N) (h : freeS sm M i = true) : Region.free md ops (bl N M) i = true := by
  unfold freeS at h
  rw [sum_get hs] at h
  unfold Region.free
  cases ho : ops[i]? with
  | none => rw [ho] at h; cases h
  | some oi =>
    rw [ho] at h
    simp only [Option.map_some] at h
    simp only
    rw [List.all_eq_true]
    intro j hj
    have hj := List.mem_range.1 hj
    have hoj : ops[j]? = some ops[j] := Array.getElem?_eq_getElem hj
    have h2 := gofall _ M i sm 0 h j (sumO md ops ops[j]) (by rw [sum_get hs, hoj]; rfl)
    rw [Nat.zero_add] at h2
    rw [bl_getD, if_pos (by omega), hoj]
    simp only [Bool.or_eq_true] at h2 ⊢
    rcases h2 with ((h2 | h2) | h2) | h2
    · left; left; simpa using Nat.eq_of_beq_eq_true h2
    · left; right; exact h2
    · right; left
      have h3 : (edgesOf md ops[j]).contains i = true := by rw [← fmask_bit]; exact h2
      have h4 : i ∈ edgesOf md ops[j] := by simpa using h3
      unfold edgesOf at h4
      rw [List.mem_filterMap] at h4
      obtain ⟨e, he, hi⟩ := h4
      split at hi
      · rename_i hb
        injection hi with hi
        rw [Array.any_eq_true']
        exact ⟨e, by simpa using he, by rw [hb, Bool.true_and]; simpa using hi⟩
      · cases hi
    · right; right; exact ap_of md ops _ _ h2
theorem and_self_iff (m M : Nat) : Nat.beq (m &&& M) m = true ↔ ∀ i, Nat.testBit m i = true → Nat.testBit M i = true := by
  constructor
  · intro h i hi
    have e := Nat.eq_of_beq_eq_true h
    have := congrArg (fun z => Nat.testBit z i) e
    simp only [Nat.testBit_and, hi, Bool.true_and] at this
    exact this
  · intro h
    have e : m &&& M = m := by
      apply Nat.eq_of_testBit_eq
      intro i
      rw [Nat.testBit_and]
      cases hm : Nat.testBit m i with
      | false => rfl
      | true => rw [h i hm]; rfl
    rw [e]; exact Nat.beq_refl m
theorem rdy_of {md : Region.Mode} {ops : Array Oper} {N M i : Nat} (hn : ops.size = N) (hM : M < 2 ^ N) (hi : i < N) :
    (!(bl N M).getD i true && ((ops[i]?).map (·.after.all fun e => !Region.binds md e || (bl N M).getD e.on false)).getD false) = rdyY M i (sumO md ops (ops[i]'(by omega))) := by
  have ho : ops[i]? = some ops[i] := Array.getElem?_eq_getElem (by omega)
  rw [bl_getD, if_pos hi, ho]
  unfold rdyY
  congr 1
  simp only [Option.map_some, Option.getD_some]
  rw [Bool.eq_iff_iff, and_self_iff, Array.all_eq_true']
  constructor
  · intro h j hj
    have h3 : (edgesOf md ops[i]).contains j = true := by rw [← fmask_bit]; exact hj
    have h4 : j ∈ edgesOf md ops[i] := by simpa using h3
    unfold edgesOf at h4
    rw [List.mem_filterMap] at h4
    obtain ⟨e, he, hj'⟩ := h4
    split at hj'
    · rename_i hb
      injection hj' with hj'
      have := h e (by simpa using he)
      rw [hb, bl_getD, hj'] at this
      by_cases hlt : j < N
      · simpa [hlt] using this
      · simp [hlt] at this
    · cases hj'
  · intro h e he
    cases hb : Region.binds md e with
    | false => rfl
    | true =>
      have h3 : e.on ∈ edgesOf md ops[i] := by
        unfold edgesOf
        rw [List.mem_filterMap]
        exact ⟨e, by simpa using he, by rw [if_pos hb]⟩
      have h4 := h e.on (by show Nat.testBit (fmask (edgesOf md ops[i])) e.on = true; rw [fmask_bit]; simpa using h3)
      rw [bl_getD]
      by_cases hlt : e.on < N
      · simp [hlt, h4]
      · have := Nat.testBit_lt_two_pow (x := M) (i := e.on) (Nat.lt_of_lt_of_le hM (Nat.pow_le_pow_right (by omega) (by omega)))
        rw [this] at h4; cases h4
theorem goR_filter (M : Nat) : ∀ (sm : List (Nat × List Nat × Nat)) (k : Nat), goR M sm k = (List.range' k sm.length).filter fun i => match sm[i - k]? with | some y => rdyY M i y | none => false
  | [], k => rfl
  | z :: r, k => by
    rw [List.length_cons, List.range'_succ, List.filter_cons]
    simp only [Nat.sub_self, List.getElem?_cons_zero]
    have e : (List.range' (k + 1) r.length).filter (fun i => match (z :: r)[i - k]? with | some y => rdyY M i y | none => false) = goR M r (k + 1) := by
      rw [goR_filter M r (k + 1)]
      apply List.filter_congr
      intro i hi
      have := (List.mem_range'_1.1 hi).1
      rw [show i - k = (i - (k + 1)) + 1 by omega, List.getElem?_cons_succ]
    rw [e]
    rfl
theorem ready_of {md : Region.Mode} {ops : Array Oper} {sm : List (Nat × List Nat × Nat)} {N M : Nat} (hs : sumOf md ops = sm) (hn : ops.size = N) (hM : Nat.blt M (2 ^ N) = true) : Region.ready md ops (bl N M) = goR M sm 0 := by
  have hM : M < 2 ^ N := by rw [Nat.blt_eq] at hM; exact hM
  rw [goR_filter]
  have hl : sm.length = ops.size := by subst hs; simp [sumOf]
  unfold Region.ready
  rw [hl, List.range_eq_range']
  apply List.filter_congr
  intro i hi
  have hi := (List.mem_range'_1.1 hi).2
  rw [rdy_of hn hM (by omega), Nat.sub_zero, sum_get hs, Array.getElem?_eq_getElem (by omega)]
  rfl
theorem rdy_mem {md : Region.Mode} {ops : Array Oper} {sm : List (Nat × List Nat × Nat)} {N M i : Nat} (hs : sumOf md ops = sm) (hn : ops.size = N) (hM : Nat.blt M (2 ^ N) = true) (h : rdyS sm M i = true) : (Region.ready md ops (bl N M)).contains i = true := by
  unfold rdyS at h
  rw [sum_get hs] at h
  cases ho : ops[i]? with
  | none => rw [ho] at h; cases h
  | some o =>
    rw [ho] at h
    have hi : i < ops.size := (Array.getElem?_eq_some_iff.1 ho).1
    have he : ops[i] = o := by rw [Array.getElem?_eq_getElem hi] at ho; injection ho
    have hM' : M < 2 ^ N := by rw [Nat.blt_eq] at hM; exact hM
    rw [List.contains_iff_mem]
    unfold Region.ready
    rw [List.mem_filter, List.mem_range]
    refine ⟨hi, ?_⟩
    rw [rdy_of hn hM' (by omega), he]
    exact h
theorem bl_set (N M i : Nat) : (bl N M).setIfInBounds i true = bl N (M ||| (1 <<< i)) := by
  apply Array.ext'
  simp only [Array.toList_setIfInBounds]
  apply List.ext_getElem?
  intro j
  unfold bl
  rw [List.getElem?_set]
  simp only [List.getElem?_map, List.length_map, List.length_range]
  by_cases hj : j < N
  · rw [List.getElem?_range hj]
    simp only [Option.map_some]
    rw [Nat.testBit_or, bit1]
    by_cases e : i = j
    · subst e; simp [hj]
    · simp [e]
  · rw [List.getElem?_eq_none (by simpa using hj)]
    by_cases e : i = j
    · subst e; simp [hj]
    · simp [e]
def maskOf (M : Nat) (is : List Nat) : Nat := is.foldl (fun M i => M ||| (1 <<< i)) M
theorem marks_bl (N : Nat) : ∀ (is : List Nat) (M : Nat), marks (bl N M) is = bl N (maskOf M is)
  | [], _ => rfl
  | i :: is, M => by
    show marks ((bl N M).setIfInBounds i true) is = _
    rw [bl_set, marks_bl N is]; rfl
noncomputable def freeR (P : Program) (ops : Array Oper) (sm : List (Nat × List Nat × Nat)) (p N : Nat) (x : Nat → Value) (n : Nat) : List Nat → Nat → List (Nat × Value) → Option (List (Nat × Value))
  | [], _, e => some e
  | i :: r, M, e =>
    match ops[i]? with
    | none => none
    | some o =>
      if (Nat.blt i p && okD n o.dst && rdyS sm M i && freeS sm M i && Nat.blt M (2 ^ N)) then
        if Region.wanted o (yieldP ops x n e) then
          match pureE P o (evP x n e) with
          | some v => freeR P ops sm p N x n r (M ||| (1 <<< i)) (putL o.dst v e)
          | none => none
        else freeR P ops sm p N x n r (M ||| (1 <<< i)) (putL o.dst undef e)
      else none
section
variable {P : Program} {ops : Array Oper} {o : Oper} {w w' : World} {Q : Exit → Act → World → Prop} {R : Value → World → Prop} {x : Nat → Value} {n : Nat} {e : List (Nat × Value)} {md : Region.Mode} {S : World → Prop} {p N M : Nat} {sm : List (Nat × List Nat × Nat)}
/-- What is known of a region. -/
structure Rg (md : Region.Mode) (ops : Array Oper) (Q : Exit → Act → World → Prop) (p N : Nat) (sm : List (Nat × List Nat × Nat)) : Prop where
  ns : Region.noSelect ops = true
  ph : phaseB md ops p = true
  sum : sumOf md ops = sm
  sz : ops.size = N
  hQ : ∀ c d v a w, Q (.panic c) (Act.put a d v) w → Q (.panic c) a w
theorem free_freeR (hsum : sumOf md ops = sm) (hN : ops.size = N) : ∀ (is : List Nat) (M : Nat) (e e' : List (Nat × Value)), freeR P ops sm p N x n is M e = some e' → freeP P md ops p x n is (bl N M) e = some e'
  | [], _, _, _, h => h
  | i :: r, M, e, e', h => by
    have h0 : freeR P ops sm p N x n (i :: r) M e = (match ops[i]? with
      | none => none
      | some o =>
        if (Nat.blt i p && okD n o.dst && rdyS sm M i && freeS sm M i && Nat.blt M (2 ^ N)) = true then
          if Region.wanted o (yieldP ops x n e) = true then
            (match pureE P o (evP x n e) with
            | some v => freeR P ops sm p N x n r (M ||| (1 <<< i)) (putL o.dst v e)
            | none => none)
          else freeR P ops sm p N x n r (M ||| (1 <<< i)) (putL o.dst undef e)
        else none) := rfl
    have g0 : freeP P md ops p x n (i :: r) (bl N M) e = (match ops[i]? with
      | none => none
      | some o =>
        if (decide (i < p) && okD n o.dst && (Region.ready md ops (bl N M)).contains i && Region.free md ops (bl N M) i) = true then
          if Region.wanted o (yieldP ops x n e) = true then
            (match pureE P o (evP x n e) with
            | some v => freeP P md ops p x n r ((bl N M).setIfInBounds i true) (putL o.dst v e)
            | none => none)
          else freeP P md ops p x n r ((bl N M).setIfInBounds i true) (putL o.dst undef e)
        else none) := rfl
    rw [h0] at h
    rw [g0]
    clear h0 g0
    generalize ops[i]? = oi at h ⊢
    cases oi with
    | none => exact h
    | some o =>
      by_cases hc : (Nat.blt i p && okD n o.dst && rdyS sm M i && freeS sm M i && Nat.blt M (2 ^ N)) = true
      · have h := (if_pos hc).symm.trans h
        simp only [Bool.and_eq_true] at hc
        obtain ⟨⟨⟨⟨h1, h2⟩, h3⟩, h4⟩, h5⟩ := hc
        rw [Nat.blt_eq] at h1
        refine (if_pos (by rw [decide_eq_true h1, h2, rdy_mem hsum hN h5 h3, free_of hsum hN h4]; rfl)).trans ?_
        by_cases hw : Region.wanted o (yieldP ops x n e) = true
        · have h := (if_pos hw).symm.trans h
          refine (if_pos hw).trans ?_
          generalize pureE P o (evP x n e) = ov at h ⊢
          cases ov with
          | none => exact h
          | some v =>
            have g := free_freeR hsum hN r _ _ e' h
            rw [← bl_set] at g
            exact g
        · have h := (if_neg hw).symm.trans h
          refine (if_neg hw).trans ?_
          have g := free_freeR hsum hN r _ _ e' h
          rw [← bl_set] at g
          exact g
      · have h := (if_neg hc).symm.trans h
        cases h
theorem pR_p {m : Nat} (f : Nat) (is : List Nat) (vs : List (Nat × Value)) (M' : Nat) (hs : Rg md ops Q p N sm) (hS : S w) (k : wpAnyT P md ops Q S p f (bl N M') (patch x n (vs ++ e)) w)
    (hM : maskOf M is = M' := by kernel_rfl) (hn : m = f + is.length := by kernel_rfl) (h : freeR P ops sm p N x n is M e = some (vs ++ e) := by kernel_rfl) : wpAnyT P md ops Q S p m (bl N M) (patch x n e) w :=
  pQ_p f is vs (bl N M') (by rw [marks_bl, hM]) hn hs.ns hs.ph hs.hQ hS (free_freeR hs.sum hs.sz is M e _ h) k
theorem pR_v {f : Nat} (i : Nat) (d : Option Nat) (v : Value) (M' : Nat) (hi : ops[i]? = some o) (hs : Rg md ops Q p N sm) (hS : S w)
    (hv : ∀ W, S W → (execOp (patch x n e).eval o).run P W = .ok (.value v) W) (k : wpAnyT P md ops Q S p f (bl N M') (patch x n (putL d v e)) w)
    (hM : M ||| (1 <<< i) = M' := by kernel_rfl) (hd : o.dst = d := by kernel_rfl) (hok : okD n d = true := by kernel_rfl) (hf : (freeS sm M i && rdyS sm M i && Nat.blt M (2 ^ N) && Nat.blt i p) = true := by kernel_rfl) (hw : Region.wanted o (yieldP ops x n e) = true := by kernel_rfl) : wpAnyT P md ops Q S p (f + 1) (bl N M) (patch x n e) w := by
  simp only [Bool.and_eq_true, Nat.blt_eq] at hf
  obtain ⟨⟨⟨h1, h2⟩, h3⟩, h4⟩ := hf
  have h3' : Nat.blt M (2 ^ N) = true := by rw [Nat.blt_eq]; exact h3
  exact pQ_v i d v (bl N M') (by rw [marks_bl]; show bl N (M ||| (1 <<< i)) = _; rw [hM]) hi hd hok hs.ns (free_of hs.sum hs.sz h1) (rdy_mem hs.sum hs.sz h3' h2) hs.ph (decide_eq_true h4) hs.hQ hw hS hv k
theorem pR_to {f : Nat} (i : Nat) (d : Option Nat) (M' : Nat) (hi : ops[i]? = some o) (hs : Rg md ops Q p N sm)
    (h : OpTo P o (patch x n e) w R) (k : ∀ v w', R v w' → (i < p → S w') ∧ wpAnyT P md ops Q S p f (bl N M') (patch x n (putL d v e)) w')
    (hM : M ||| (1 <<< i) = M' := by kernel_rfl) (hd : o.dst = d := by kernel_rfl) (hok : okD n d = true := by kernel_rfl) (hb : Nat.blt M (2 ^ N) = true := by kernel_rfl) (hr : goR M sm 0 = [i] := by kernel_rfl) (hw : Region.wanted o (yieldP ops x n e) = true := by kernel_rfl) : wpAnyT P md ops Q S p (f + 1) (bl N M) (patch x n e) w :=
  pQ_to i d (bl N M') (by rw [marks_bl]; show bl N (M ||| (1 <<< i)) = _; rw [hM]) hi hd hok (by rw [ready_of hs.sum hs.sz hb, hr]) hw h k
theorem pR_op {f : Nat} (i : Nat) (d : Option Nat) (M' : Nat) (hi : ops[i]? = some o)
    (h : OpTo P o (patch x n e) w R) (k : ∀ v w', R v w' → (i < p → S w') ∧ wpAnyT P md ops Q S p f (bl N M') (patch x n (putL d v e)) w')
    (hM : M ||| (1 <<< i) = M' := by kernel_rfl) (hd : o.dst = d := by kernel_rfl) (hok : okD n d = true := by kernel_rfl) (hw : Region.wanted o (yieldP ops x n e) = true := by kernel_rfl) :
    wpOp P ops Q i (fun a' w' => (i < p → S w') ∧ wpAnyT P md ops Q S p f ((bl N M).setIfInBounds i true) a' w') (patch x n e) w :=
  pQ_op i d (bl N M') (by rw [marks_bl]; show bl N (M ||| (1 <<< i)) = _; rw [hM]) hi hd hok hw h k
theorem pR_or {f : Nat} (i j : Nat) (hs : Rg md ops Q p N sm)
    (h1 : wpOp P ops Q i (fun a' w' => (i < p → S w') ∧ wpAnyT P md ops Q S p f ((bl N M).setIfInBounds i true) a' w') (patch x n e) w)
    (h2 : wpOp P ops Q j (fun a' w' => (j < p → S w') ∧ wpAnyT P md ops Q S p f ((bl N M).setIfInBounds j true) a' w') (patch x n e) w) (hb : Nat.blt M (2 ^ N) = true := by kernel_rfl) (hr : goR M sm 0 = [i, j] := by kernel_rfl) : wpAnyT P md ops Q S p (f + 1) (bl N M) (patch x n e) w :=
  pH_or i j (by rw [ready_of hs.sum hs.sz hb, hr]) h1 h2
theorem pR_done {a : Act} (hs : Rg md ops Q p N sm) (h : Q .normal a w) (fuel : Nat) (hb : Nat.blt M (2 ^ N) = true := by kernel_rfl) (hr : goR M sm 0 = [] := by kernel_rfl) : wpAnyT P md ops Q S p fuel (bl N M) a w :=
  pH_done (by rw [ready_of hs.sum hs.sz hb, hr]) h fuel
theorem pR_go {F0 : Nat → Prop} {w0 : World} {ro rs : List Res} (h : Hp F0 w0 w ro rs) {id : Nat} {l : List Oper} {a : Act} (p : Nat) (S : World → Prop) (sm : List (Nat × List Nat × Nat)) (hn : l.length = N) (hQ : ∀ c d v a w, Q (.panic c) (Act.put a d v) w → Q (.panic c) a w)
    (k : Rg .any l.toArray Q p N sm → ∀ w', Hp F0 w0 w' ro rs → wpAnyT P .any l.toArray Q S p N (bl N 0) a w')
    (hm : P.follows .mixedOrders = true := by kernel_rfl) (hL : Array.replicate N false = bl N 0 := by kernel_rfl) (hs : Region.noSelect l.toArray = true := by kernel_rfl) (hph : phaseB .any l.toArray p = true := by kernel_rfl) (hsum : sumOf .any l.toArray = sm := by kernel_rfl) : (Code.region id l.toArray true).wp P Q a w :=
  pH_go h p S hm hn hL hs hph fun h1 h2 w' hw => k ⟨h1, h2, hsum, by simpa using hn, hQ⟩ w' hw
end
end Go.Proofs.Ytpkelokaammmjaa
end
/-! Slices whose elements have any number of cells: what is read, what is the call's own; steps on them. -/
section
namespace Go.Proofs.Ytpkelokaammmjaa
open Go.RowKit Go.QT
/-- A slice reads as elements of sz cells. -/
structure RV (w : World) (sz : Nat) (A : Option Addr) (c : Nat) (xs : List (List Value)) : Prop where
  le : xs.length ≤ c
  cap : c ≤ maxLen
  len : ∀ x ∈ xs, x.length = sz
  at_ : xs ≠ [] → ∃ b o, A = some ⟨b, o, none⟩ ∧ b < w.heap.size ∧ ∀ i x, xs[i]? = some x → ∀ j u, x[j]? = some u → w.cell? ⟨b, o + i * sz + j, none⟩ = some u
def ownA : Option Addr → Option Nat := fun A => A.map (·.block)
def rRV (sz : Nat) (A : Option Addr) (c : Nat) (xs : List (List Value)) : Res where
  F := fun q => xs ≠ [] ∧ ownA A = some q
  Φ := fun w => RV w sz A c xs
  lt := fun h q hq => by
    obtain ⟨b, o, rfl, hb, _⟩ := h.at_ hq.1
    have : b = q := by simpa [ownA] using hq.2
    omega
  keep := fun h hs hk => ⟨h.le, h.cap, h.len, fun hne => by
    obtain ⟨b, o, rfl, hb, hc⟩ := h.at_ hne
    exact ⟨b, o, rfl, by omega, fun i x hx j u hu => (World.cell?_of_block (hk b ⟨hne, rfl⟩)).trans (hc i x hx j u hu)⟩⟩
/-- The bytes as elements. -/
def bx (l : Bytes) : List (List Value) := l.map fun x => [.int .u8 (ub x)]
@[simp] theorem bx_len (l : Bytes) : (bx l).length = l.length := by simp [bx]
theorem bx_get (l : Bytes) (i : Nat) (hi : i < l.length) : (bx l)[i]? = some [.int .u8 (ub (gb l i))] := by simp [bx, gb, hi]
theorem SB.rv {w : World} {A : Option Addr} {n c : Nat} {l : Bytes} (h : SB w (.slice A n c) l) : RV w 1 A c (bx l) := by
  obtain ⟨A', c', e, hc, hm, hcell⟩ := h
  injection e with e1 e2 e3
  subst e1; subst e3
  refine ⟨by simpa using hc, hm, by simp [bx], fun hne => ?_⟩
  obtain ⟨b, o, rfl, hb, hcl⟩ := hcell (by rintro rfl; exact hne rfl)
  refine ⟨b, o, rfl, hb, fun i x hx j u hu => ?_⟩
  have hi : i < l.length := by have := (List.getElem?_eq_some_iff.1 hx).1; simpa using this
  rw [bx_get l i hi] at hx
  injection hx with hx
  subst hx
  have hj : j = 0 := by have := (List.getElem?_eq_some_iff.1 hu).1; simpa using this
  subst hj
  injection hu with hu
  subst hu
  simpa using hcl i hi
theorem RV.sb {w : World} {A : Option Addr} {c : Nat} {l : Bytes} (h : RV w 1 A c (bx l)) : SB w (.slice A l.length c) l :=
  ⟨A, c, rfl, by simpa using h.le, h.cap, fun hne => by
    obtain ⟨b, o, rfl, hb, hc⟩ := h.at_ (by intro h0; apply hne; simpa [bx] using h0)
    refine ⟨b, o, rfl, hb, fun i hi => ?_⟩
    simpa using hc i _ (bx_get l i hi) 0 _ rfl⟩
/-- Where an element lies. -/
def eAt (A : Option Addr) (k : Nat) : Value := match A with | some a => .pointer (some (a.add k)) | none => undef
section
variable {P : Program} {o : Oper} {a : Act} {w w' : World} {sz c : Nat} {A : Option Addr} {xs : List (List Value)}
theorem RV.keep (h : RV w sz A c xs) (hs : w.heap.size ≤ w'.heap.size) (hk : ∀ q, ownA A = some q → w'.heap[q]? = w.heap[q]?) : RV w' sz A c xs :=
  (rRV sz A c xs).keep h hs fun q hq => hk q hq.2
theorem RV.below (h : RV w sz A c xs) (hb : Below w.heap.size w w') : RV w' sz A c xs :=
  (rRV sz A c xs).keep h hb.size fun q hq => hb.block q ((rRV sz A c xs).lt h q hq)
/-- The place of an element. -/
theorem e_idx (h : RV w sz A c xs) (i : Nat) (hi : i < xs.length) (t : TypeId) (x y : Operand) (ho : o.op = .indexAddr t x y) (k : IntKind) (hx : a.eval x = .slice A xs.length c) (hy : a.eval y = .int k (i : Int)) (E : TypeId) (ht : P.underlying t = some (.slice E)) (hE : pureVal P (sizeOf E) = some sz) (W : World) :
    (execOp a.eval o).run P W = .ok (.value (eAt A (i * sz))) W := by
  obtain ⟨b, o', rfl, hb, hc⟩ := h.at_ (by rintro rfl; simp at hi)
  have h0 : (0 : Int) ≤ i ∧ (i : Int) < xs.length := ⟨by omega, by omega⟩
  have h1 : (Instr.indexAt t (.slice (some ⟨b, o', none⟩) xs.length c) (.int k (i : Int))).run P W = .ok (eAt (some ⟨b, o', none⟩) (i * sz)) W := by
    simp [Instr.indexAt, asIntOf, run_underlying ht, hi, pureVal_run hE, eAt]
  unfold execOp
  simp only [ho, hx, hy, Sem.run_bind, h1, Result.andThen_ok, Sem.run_pure]
theorem eAt_some (h : RV w sz A c xs) (i : Nat) (hi : i < xs.length) : ∃ b k, A = some ⟨b, k, none⟩ ∧ eAt A (i * sz) = pt b (k + i * sz) ∧ ∀ j u, (xs[i]'hi)[j]? = some u → w.cell? ⟨b, k + i * sz + j, none⟩ = some u := by
  obtain ⟨b, o', rfl, hb, hc⟩ := h.at_ (by rintro rfl; simp at hi)
  refine ⟨b, o', rfl, ?_, fun j u hu => hc i _ (List.getElem?_eq_getElem hi) j u hu⟩
  unfold eAt pt
  by_cases h0 : i * sz = 0
  · rw [h0]; simp [Addr.add]
  · simp [Addr.add, h0]
/-- A cell of an element. -/
theorem e_elem (h : RV w sz A c xs) (i : Nat) (hi : i < xs.length) (t : TypeId) (x : Operand) (ho : o.op = .load t x) (v : Value) (hx : a.eval x = eAt A (i * sz)) (hv : (xs[i]'hi)[0]? = some v) (ht : pureVal P (isAgg t) = some false) :
    (execOp a.eval o).run P w = .ok (.value v) w := by
  obtain ⟨b, k, rfl, e, hc⟩ := eAt_some h i hi
  have hcell : w.cell? ⟨b, k + i * sz, none⟩ = some v := by simpa using hc 0 v hv
  have hl : (loadVar t ⟨b, k + i * sz, none⟩).run P w = .ok v w := by simp [loadVar, pureVal_run ht, hcell]
  unfold execOp
  rw [e] at hx
  simp only [ho, hx, pt, Instr.loadAt, Instr.sureAddr, Sem.run_bind, Sem.run_pure, Result.andThen_ok, hl]
/-- An element of more cells. -/
theorem e_elems (h : RV w sz A c xs) (i : Nat) (hi : i < xs.length) (t : TypeId) (x : Operand) (ho : o.op = .load t x) (ds : List Value) (hx : a.eval x = eAt A (i * sz)) (hv : xs[i]'hi = ds) (hB : rowB P t ds.length = true) :
    (execOp a.eval o).run P w = .ok (.value (.agg ds.toArray)) w := by
  obtain ⟨b, k, rfl, e, hc⟩ := eAt_some h i hi
  obtain ⟨d, hu, hr, hs⟩ := rowB_spec hB
  have hl := run_loadVar_mid (P := P) w b (k + i * sz) t ds d (fun j v hj => hc j v (by rw [hv]; exact hj)) hu hr hs
  unfold execOp
  rw [e] at hx
  simp only [ho, hx, pt, Instr.loadAt, Instr.sureAddr, Sem.run_bind, Sem.run_pure, Result.andThen_ok, hl]
theorem OV.rv {base E : Nat} {A : Option Addr} {n : Nat} (h : OV w base E sz (.slice A n c) xs) : n = xs.length ∧ RV w sz A c xs := by
  have hf := h.form
  obtain ⟨A', c', e, h1, h2⟩ := hf
  injection e with e1 e2 e3
  subst e1; subst e2; subst e3
  refine ⟨rfl, h1, h2, h.len, fun hne => ?_⟩
  have hpos : 0 < xs.length := by
    rcases Nat.eq_zero_or_pos xs.length with h0 | h0
    · exact absurd (List.eq_nil_of_length_eq_zero h0) hne
    · exact h0
  obtain ⟨g, cap, e, hb, hlt, _⟩ := h.at_ (i := 0) hpos
  injection e with e1 _ _
  subst e1
  refine ⟨g, 0, rfl, hlt, fun i x hx j u hu => ?_⟩
  have hi : i < xs.length := (List.getElem?_eq_some_iff.1 hx).1
  obtain ⟨g', cap', e', _, _, _, _, cur, hB, hcur⟩ := h.at_ hi
  injection e' with e1' _ _
  injection e1' with e1'
  injection e1' with e2'
  subst e2'
  have hxe : xs[i] = x := by rw [List.getElem?_eq_getElem hi] at hx; injection hx
  subst hxe
  have hj : j < sz := by rw [← h.len _ (List.getElem_mem hi)]; exact (List.getElem?_eq_some_iff.1 hu).1
  rw [Nat.zero_add, hB.cell, hcur j hj]
  exact hu
/-- append of one element, that lies in a block of its own, to a row of the call's own. -/
theorem x_push {F0 : Nat → Prop} {w0 : World} {ro rs : List Res} (h : Hp F0 w0 w ro rs) (i j : Nat) {E : TypeId} {v : Value} {g : Nat} {T : TypeId} {news : List Value} (hi : rs[i]? = some (rOV E sz v xs)) (hj : rs[j]? = some (rBlk g T news)) (_hij : i ≠ j)
    (s x : Operand) (t : TypeId) (ho : o.op = .call { callee := .builtin .append, args := #[s, x], argTypes := #[t, t] }) (bytes : Nat) (z : Value) (ht : P.underlying t = some (.slice E)) (hinf : (P.info? E).map (fun i => (i.zero, i.size, i.bytes)) = some (some z, sz, bytes))
    (hzs : z.cells.size = sz) (hsz : 0 < sz) (hs : a.eval s = v) (c : Nat) (hx : a.eval x = .slice (some ⟨g, 0, none⟩) 1 c) (hn : news.length = sz) (h1 : ∀ u ∈ news, u.oneCell' = true)
    (hlen : (xs.length + 1) * bytes ≤ 140737488355328) (hlen2 : xs.length < maxLen) :
    OpTo P o a w (fun u w' => ∃ A cc, u = .slice A (xs ++ [news]).length cc ∧ Hp F0 w0 w' ro (rs.set i (rOV E sz u (xs ++ [news])))) := by
  have hv : OV w 0 E sz v xs := h.own i _ hi
  have hb : Blk w g T news := h.own j _ hj
  obtain ⟨v', w', hrun, h2, h3, h4⟩ := OV.push (P := P) s x t ho 0 E sz bytes z ht hinf hzs hsz v xs hs hv g T news c hx hb hn h1 hlen hlen2 (Nat.zero_le _)
  obtain ⟨A, cc, e, _, _⟩ := h2.form
  refine OpTo.run v' hrun ⟨A, cc, e, h.upd i hi (Fr.of_grown h3 (fun q hq => .inl hq)) (rOV E sz v' (xs ++ [news])) h2 (fun q hq => ?_)⟩
  rcases h4 with h4 | h4
  · left; show v.ownBlock = some q; rw [← h4]; exact hq
  · right
    have : v'.ownBlock = some q := hq
    rw [h4] at this
    injection this with this
    omega
/-- A row of the call's own without elements. -/
theorem Hp.ovNil {F0 : Nat → Prop} {w0 : World} {ro rs : List Res} (h : Hp F0 w0 w ro rs) (E sz : Nat) : Hp F0 w0 w ro (rOV E sz (.slice none 0 0) [] :: rs) :=
  h.newS (Below.refl _ _) _ (OV.nil w 0 E sz) (fun q hq => by simp [rOV, Value.ownBlock] at hq)
theorem Hp.obNil {F0 : Nat → Prop} {w0 : World} {ro rs : List Res} (h : Hp F0 w0 w ro rs) : Hp F0 w0 w ro (rOB (.slice none 0 0) [] :: rs) :=
  h.newS (Below.refl _ _) _ (OB.nil w 0) (fun q hq => by simp [rOB, Value.ownBlock] at hq)
/-- A block of bytes becomes a row of the call's own. -/
theorem Hp.blkOB {F0 : Nat → Prop} {w0 : World} {ro rs : List Res} (h : Hp F0 w0 w ro rs) (i : Nat) {g : Nat} (l : Bytes) (hi : rs[i]? = some (rBlk g 5 (vb l))) (hl : l.length ≤ maxLen) : Hp F0 w0 w ro (rs.set i (rOB (.slice (some ⟨g, 0, none⟩) l.length l.length) l)) := by
  have hb : Row w g 5 l := h.own i _ hi
  refine h.upd i hi (Fr.refl _ _) _ (OB.new w g l hl hb (Nat.zero_le _)) (fun q hq => .inl ?_)
  have : g = q := by simpa [rOB, Value.ownBlock] using hq
  exact this.symm
/-- append of bytes that are read to a row of the call's own. -/
theorem x_appB {F0 : Nat → Prop} {w0 : World} {ro rs : List Res} (h : Hp F0 w0 w ro rs) (i : Nat) {v : Value} {l m : Bytes} (hi : rs[i]? = some (rOB v l)) (s x : Operand) (ho : o.op = .call { callee := .builtin .append, args := #[s, x], argTypes := #[35, 35] })
    (u : Value) (hs : a.eval s = v) (hx : a.eval x = u) (hu : SB w u m) (hlen : l.length + m.length ≤ 140737488355328) :
    OpTo Try.prog o a w (fun u w' => ∃ A cc, u = .slice A (l ++ m).length cc ∧ Hp F0 w0 w' ro (rs.set i (rOB u (l ++ m)))) := by
  have hv : OB w 0 v l := h.own i _ hi
  obtain ⟨i0, hi0, hz0, hz1, hz2⟩ := info_parts i5
  obtain ⟨A, c, rfl, hc, hm, hcell⟩ := hu
  have hr := (SB.reads (w := w) (A := A) (n := m.length) (c := c) ⟨A, c, rfl, hc, hm, hcell⟩).2
  obtain ⟨v', w', hrun, h2, h3, h4⟩ := run_append_any (P := Try.prog) w 0 35 o.type 5 i0 _ 1 1 ty28 hi0 hz0 hz1 hz2 rfl (by omega) v l.length (vb l) hv w.heap.size A m.length c (vb m) hr (vb_ones m) (by unfold maxLen; omega) (by omega) (Nat.zero_le _)
  have h2' : OB w' 0 v' (l ++ m) := by
    unfold OB
    rw [List.length_append, vb_append]
    exact h2
  have hsb := SB.own h2'
  obtain ⟨A', c', e, _, _⟩ := hsb
  have hrun' : (execOp a.eval o).run Try.prog w = .ok (.value v') w' := by
    unfold execOp
    simp only [ho, resolve, invoke, builtin, Sem.run_bind, Sem.run_pure, Result.andThen_ok, List.map_toArray, List.map_cons, List.map_nil, hs, hx, hrun]
  refine OpTo.run v' hrun' ⟨A', c', e, h.upd i hi (Fr.of_grown h3 (fun q hq => .inl hq)) (rOB v' (l ++ m)) h2' (fun q hq => ?_)⟩
  rcases h4 with h4 | h4
  · left; show v.ownBlock = some q; rw [← h4]; exact hq
  · right
    have : v'.ownBlock = some q := hq
    rw [h4] at this
    injection this with this
    omega
/-- A call that leaves new bytes. -/
theorem x_bytes {F0 : Nat → Prop} {w0 : World} {ro rs : List Res} (h : Hp F0 w0 w ro rs) {l : Bytes} (fn : FuncId) (al : List Value) (hp : pureVal P (execOp a.eval o) = some (.enter fn al.toArray)) (hc : Calls P fn al.toArray w (BPost w l)) :
    OpTo P o a w (fun u w' => ∃ A cc, u = .slice A l.length cc ∧ Hp F0 w0 w' ro (rOB u l :: rs)) :=
  OpTo.enter fn al hp hc fun e w' hq => by
    obtain ⟨v, he, ho, hb⟩ := hq
    obtain ⟨A, cc, e2, _⟩ := ho.sb
    exact ⟨v, he, A, cc, e2, h.newS hb _ (ho.mono (Nat.zero_le _)) (fun q hq => (ho.own q hq).1)⟩
/-- A call that leaves nothing. -/
theorem x_apost {F0 : Nat → Prop} {w0 : World} {ro rs : List Res} (h : Hp F0 w0 w ro rs) {l : Bytes} (fn : FuncId) (al : List Value) (hp : pureVal P (execOp a.eval o) = some (.enter fn al.toArray)) (hc : Calls P fn al.toArray w (APost w l)) :
    OpTo P o a w (fun u w' => u = .agg (vb l).toArray ∧ Hp F0 w0 w' ro rs) :=
  OpTo.enter fn al hp hc fun _e _w' hq => ⟨_, hq.1, rfl, h.below hq.2⟩
theorem x_vpost {F0 : Nat → Prop} {w0 : World} {ro rs : List Res} (h : Hp F0 w0 w ro rs) {v : Value} (fn : FuncId) (al : List Value) (hp : pureVal P (execOp a.eval o) = some (.enter fn al.toArray)) (hc : Calls P fn al.toArray w (VPost w v)) :
    OpTo P o a w (fun u w' => u = v ∧ Hp F0 w0 w' ro rs) :=
  OpTo.enter fn al hp hc fun e w' hq => ⟨_, hq.1, rfl, by rw [← hq.2]; exact h⟩
/-- []byte(s). -/
theorem x_conv {F0 : Nat → Prop} {w0 : World} {ro rs : List Res} (h : Hp F0 w0 w ro rs) (x : Operand) (ho : o.op = .convert 9 35 x) (s : ByteArray) (hx : a.eval x = .string s) (hs : s.size ≤ maxLen) :
    OpTo Try.prog o a w (fun u w' => ∃ A cc, u = .slice A s.data.toList.length cc ∧ Hp F0 w0 w' (rSB u s.data.toList :: ro) rs) := by
  obtain ⟨v, w', hrun, hsb, hb, g, c, hg, hf⟩ := conv_sb s w hs
  have hr : (execOp a.eval o).run Try.prog w = .ok (.value v) w' := by
    unfold execOp
    simp only [ho, hx, Sem.run_bind, hrun, Result.andThen_ok, Sem.run_pure]
  refine OpTo.run v hr ⟨some ⟨g, 0, none⟩, c, by rw [hf]; simp, h.newR hb _ hsb (fun q hq => ?_)⟩
  have h2 : v.ownBlock = some q := hq.2
  rw [hf] at h2
  have : g = q := by simpa [Value.ownBlock] using h2
  omega
end
end Go.Proofs.Ytpkelokaammmjaa
end
/-! Constant bytes: []byte("..") of a constant. -/
section
namespace Go.Proofs.Ytpkelokaammmjaa
open Go.RowKit Go.QT
/-- A new block with a mark reads as its bytes. -/
theorem SB.marked (w : World) (l : Bytes) (fr : Nat × Nat) (hl : l.length ≤ maxLen) : SB (w.alloc (.cells (vb l).toArray 5 fr)) (.slice (some ⟨w.heap.size, 0, none⟩) l.length l.length) l := by
  refine ⟨_, _, rfl, Nat.le_refl _, hl, fun _ => ⟨w.heap.size, 0, rfl, by simp, fun i hi => ?_⟩⟩
  rw [Nat.zero_add, World.cell?_alloc_mark w (vb l).toArray 5 fr i]
  simpa using vb_get l i hi
theorem exec_convC {o : Oper} {a : Act} (x : Operand) (ho : o.op = .convert 35 35 x) (w : World) (C : Array Value) (n c : Nat) (hx : a.eval x = .slice (some ⟨w.heap.size, 0, none⟩) n c) :
    (execOp a.eval o).run Try.prog (w.alloc (.cells C 5)) = .ok (.value (.slice (some ⟨w.heap.size, 0, none⟩) n c)) (w.alloc (.cells C 5 (C.size, C.size + 1))) := by
  have h := Lib.run_convert_bytes_const (P := Try.prog) w 35 5 C n c u28 ubyte
  unfold execOp
  simp only [ho, hx, Sem.run_bind, h, Result.andThen_ok, Sem.run_pure]
end Go.Proofs.Ytpkelokaammmjaa
end
/-! Steps: calls of package sym, on what is held. -/
section
namespace Go.Proofs.Ytpkelokaammmjaa
open Go.RowKit Go.QT
section
variable {F0 F : Nat → Prop} {w0 w w' : World} {ro rs : List Res} {tb : Nat} {s s2 : STab} {o : Oper} {a : Act} {v : Value} {e : Ending}
theorem Hp.updR (h : Hp F0 w0 w ro rs) (i : Nat) {r : Res} (hi : rs[i]? = some r) (hf : Fr r.F w w') (r' : Res) (hr : r'.Φ w') (hF : ∀ q, r'.F q → r.F q ∨ w.heap.size ≤ q) (t : Res) (ht : t.Φ w') (hn : ∀ q, t.F q → w.heap.size ≤ q ∧ ¬ r'.F q) :
    Hp F0 w0 w' (t :: ro) (rs.set i r') := by
  have hil : i < rs.length := (List.getElem?_eq_some_iff.1 hi).1
  refine (h.upd i hi hf r' hr hF).addR t ht (fun j s hs q h1 h2 => ?_)
  by_cases e : j = i
  · subst e
    rw [List.getElem?_set_self hil] at hs
    injection hs with hs
    subst hs
    exact (hn q h1).2 h2
  · rw [List.getElem?_set_ne (Ne.symm e)] at hs
    exact absurd (s.lt (h.own j s hs) q h2) (Nat.not_lt.2 (hn q h1).1)
theorem x_snew (h : Hp F0 w0 w ro rs) (hp : pureVal Try.prog (execOp a.eval o) = some (.enter 5 #[])) :
    OpTo Try.prog o a w (fun u w' => ∃ tb F, u = pt tb 0 ∧ Hp F0 w0 w' ro (rTab F tb STab.empty :: rs)) :=
  OpTo.enter 5 [] hp (snew_any w) fun e w' hq => by
    obtain ⟨tb, F, he, hT, hF, hb⟩ := hq
    exact ⟨_, he, tb, F, rfl, h.newS hb (rTab F tb STab.empty) hT hF⟩
/-- A method that answers a key's mark. -/
theorem x_tkey (h : Hp F0 w0 w ro rs) (i : Nat) (hi : rs[i]? = some (rTab F tb s)) (fn : FuncId) (al : List Value) (hp : pureVal Try.prog (execOp a.eval o) = some (.enter fn al.toArray)) {n : Nat}
    (hc : TabAt w F tb s → Calls Try.prog fn al.toArray w (TPost w F tb s2 (.agg (vb (mkB 107 n)).toArray))) :
    OpTo Try.prog o a w (fun u w' => ∃ K F' s', u = .agg (vb (kl K)).toArray ∧ kl K = mkB 107 n ∧ s' = s2 ∧ Hp F0 w0 w' ro (rs.set i (rTab F' tb s'))) :=
  (x_tab h i hi fn al hp hc).mono fun u w' hr => by
    obtain ⟨hu, F', h'⟩ := hr
    obtain ⟨K, hK⟩ := kl_of (mkB 107 n) (mkB_len _ _)
    exact ⟨K, F', s2, by rw [hu, hK], hK.symm, rfl, h'⟩
theorem x_fresh (h : Hp F0 w0 w ro rs) (i : Nat) (hi : rs[i]? = some (rTab F tb s)) (hp : pureVal Try.prog (execOp a.eval o) = some (.enter 7 #[pt tb 0])) (hn : s.keys.length < 1000000) :
    OpTo Try.prog o a w (fun u w' => ∃ K F' s', u = .agg (vb (kl K)).toArray ∧ kl K = mkB 107 (s.keys.length + 1) ∧ s' = s.add SFrom.fresh ∧ Hp F0 w0 w' ro (rs.set i (rTab F' tb s'))) :=
  x_tkey h i hi 7 [pt tb 0] hp fun hT => fresh_any F tb s w hT hn
theorem x_derive (h : Hp F0 w0 w ro rs) (i : Nat) (hi : rs[i]? = some (rTab F tb s)) (K : Fin 16 → UInt8) (l : ByteArray) (hp : pureVal Try.prog (execOp a.eval o) = some (.enter 19 #[pt tb 0, .agg (vb (kl K)).toArray, .string l])) (hn : s.keys.length < 1000000) :
    OpTo Try.prog o a w (fun u w' => ∃ K' F' s', u = .agg (vb (kl K')).toArray ∧ kl K' = mkB 107 (s.num (deriveF (kl K) l)) ∧ s' = s.made (deriveF (kl K) l) ∧ Hp F0 w0 w' ro (rs.set i (rTab F' tb s'))) :=
  x_tkey h i hi 19 [pt tb 0, .agg (vb (kl K)).toArray, .string l] hp fun hT => derive_any F tb s (kl K) l w hT (kl_len K) hn
/-- A method that answers a row of bytes that nobody turns. -/
theorem x_spost (h : Hp F0 w0 w ro rs) (i : Nat) (hi : rs[i]? = some (rTab F tb s)) (fn : FuncId) (al : List Value) (hp : pureVal Try.prog (execOp a.eval o) = some (.enter fn al.toArray)) (l : Bytes)
    (hc : TabAt w F tb s → Calls Try.prog fn al.toArray w (SPost w F tb s2 l)) :
    OpTo Try.prog o a w (fun u w' => ∃ A cc F' s', u = .slice A l.length cc ∧ s' = s2 ∧ Hp F0 w0 w' (rSB (.slice A l.length cc) l :: ro) (rs.set i (rTab F' tb s'))) :=
  OpTo.enter fn al hp (hc (h.own i _ hi)) fun e w' hq => by
    obtain ⟨v, F', he, hsb, hT, h1, h2, hf, hn⟩ := hq
    obtain ⟨A, cc, rfl, hc1, hc2, hcell⟩ := hsb
    exact ⟨_, he, A, cc, F', s2, rfl, rfl, h.updR i hi hf (rTab F' tb s2) hT h1 (rSB (.slice A l.length cc) l) ⟨A, cc, rfl, hc1, hc2, hcell⟩ (fun q hq => hn q hq.2)⟩
theorem x_seal (h : Hp F0 w0 w ro rs) (i : Nat) (hi : rs[i]? = some (rTab F tb s)) (K : Fin 16 → UInt8) (u : Int) (l : Bytes) (bv : Value) (hp : pureVal Try.prog (execOp a.eval o) = some (.enter 10 #[pt tb 0, .agg (vb (kl K)).toArray, .int .i64 u, bv])) (hb : SB w bv l) (hl : l.length ≤ 1000000) (hn : s.boxes.length < 1000000) :
    OpTo Try.prog o a w (fun u' w' => ∃ A cc F' s', u' = .slice A 16 cc ∧ s' = s.seal (kl K) u l ∧ Hp F0 w0 w' (rSB (.slice A 16 cc) (mkB 98 (s.boxes.length + 1)) :: ro) (rs.set i (rTab F' tb s'))) := by
  have := x_spost h i hi 10 [pt tb 0, .agg (vb (kl K)).toArray, .int .i64 u, bv] hp (mkB 98 (s.boxes.length + 1)) fun hT => seal_any F tb s (kl K) u l bv w hT (kl_len K) hb hl hn
  rw [mkB_len] at this
  exact this
/-- Box. -/
theorem x_box (h : Hp F0 w0 w ro rs) (i : Nat) (hi : rs[i]? = some (rTab F tb s)) (l : Bytes) (bv : Value) (r : Option SSealed) (hp : pureVal Try.prog (execOp a.eval o) = some (.enter 33 #[pt tb 0, bv])) (hb : SB w bv l) (hl : ∀ b ∈ s.boxes, b.body.length ≤ 1000000) (hx16 : ∀ b ∈ s.boxes, b.by_.length = 16) (hn : s.boxes.length < 1000000) (hr : s.box l = r) :
    OpTo Try.prog o a w (fun u' w' => ∃ K us l' A cc, u' = .tuple #[.agg (vb (kl K) ++ [Value.int .i64 us, Value.slice A l'.length cc]).toArray, .bool r.isSome] ∧ (r = some ⟨kl K, us, l'⟩ ∨ r = none ∧ kl K = zKey ∧ us = 0 ∧ l' = []) ∧ Hp F0 w0 w' ro (rOB (.slice A l'.length cc) l' :: rs)) :=
  OpTo.enter 33 [pt tb 0, bv] hp (box_any' F tb s l bv w (h.own i _ hi) hb hl hn) fun e w' hq => by
    subst hr
    obtain ⟨x, body, he, hx, ho, hb⟩ := hq
    have hlen : x.by_.length = 16 := by
      rcases hx with hx | ⟨_, rfl⟩
      · have hm : x ∈ s.boxes := by
          unfold STab.box at hx
          split at hx
          · split at hx
            · exact List.mem_of_getElem? hx
            · cases hx
          · cases hx
        exact hx16 x hm
      · rfl
    obtain ⟨K, hK⟩ := kl_of x.by_ hlen
    obtain ⟨A, cc, rfl, _⟩ := ho.sb
    refine ⟨_, he, K, x.usage, x.body, A, cc, by rw [← hK]; rfl, ?_, h.newS hb _ (ho.mono (Nat.zero_le _)) (fun q hq => (ho.own q hq).1)⟩
    rw [← hK]
    rcases hx with hx | ⟨h1, rfl⟩
    · exact .inl hx
    · exact .inr ⟨h1, rfl, rfl, rfl⟩
/-- Came. -/
theorem x_came (h : Hp F0 w0 w ro rs) (i : Nat) (hi : rs[i]? = some (rTab F tb s)) (K : Fin 16 → UInt8) (r : Option SFrom) (hp : pureVal Try.prog (execOp a.eval o) = some (.enter 36 #[pt tb 0, .agg (vb (kl K)).toArray])) (hf16 : ∀ f ∈ s.keys, f.of.length = 16) (hn : s.keys.length < 1000000) (hr : s.came (kl K) = r) :
    OpTo Try.prog o a w (fun u' w' => ∃ K' l b, u' = .tuple #[.agg (vb (kl K') ++ [Value.string l, Value.bool b]).toArray, .bool r.isSome] ∧ (r = some ⟨kl K', l, b⟩ ∨ r = none ∧ kl K' = zKey ∧ l = ByteArray.empty ∧ b = false) ∧ Hp F0 w0 w' ro rs) :=
  OpTo.enter 36 [pt tb 0, .agg (vb (kl K)).toArray] hp (came_any F tb s (kl K) w (h.own i _ hi) (kl_len K) hn) fun e w' hq => by
    subst hr
    obtain ⟨f, he, hx, hb⟩ := hq
    have hlen : f.of.length = 16 := by
      rcases hx with hx | ⟨_, rfl⟩
      · have hm : f ∈ s.keys := by
          unfold STab.came at hx
          split at hx
          · split at hx
            · exact List.mem_of_getElem? hx
            · cases hx
          · cases hx
        exact hf16 f hm
      · rfl
    obtain ⟨K', hK⟩ := kl_of f.of hlen
    refine ⟨_, he, K', f.label, f.text, by rw [← hK]; rfl, ?_, h.below hb⟩
    rw [← hK]
    rcases hx with hx | ⟨h1, rfl⟩
    · exact .inl hx
    · exact .inr ⟨h1, rfl, rfl, rfl⟩
theorem Hp.tabW (h : Hp F0 w0 w ro rs) (i : Nat) (hi : rs[i]? = some (rTab F tb s)) : (∀ b ∈ s.boxes, b.by_.length = 16) ∧ (∀ f ∈ s.keys, f.of.length = 16) ∧ (∀ p ∈ s.known, p.1.of.length = 16) := by
  obtain ⟨_, _, _, _, _, _, _, _, hR⟩ := h.own i _ hi
  exact ⟨hR.xl, hR.kl, hR.ml⟩
theorem x_nkeys (h : Hp F0 w0 w ro rs) (i : Nat) (hi : rs[i]? = some (rTab F tb s)) (hp : pureVal Try.prog (execOp a.eval o) = some (.enter 34 #[pt tb 0])) :
    OpTo Try.prog o a w (fun u w' => u = .int .i64 (s.keys.length : Int) ∧ Hp F0 w0 w' ro rs) :=
  x_vpost h 34 [pt tb 0] hp (nkeys_any F tb s w (h.own i _ hi))
/-- A call that answers sixteen bytes. -/
theorem x_key (h : Hp F0 w0 w ro rs) {l : Bytes} (fn : FuncId) (al : List Value) (hp : pureVal Try.prog (execOp a.eval o) = some (.enter fn al.toArray)) (hl : l.length = 16) (hc : Calls Try.prog fn al.toArray w (APost w l)) :
    OpTo Try.prog o a w (fun u w' => ∃ K, u = .agg (vb (kl K)).toArray ∧ kl K = l ∧ Hp F0 w0 w' ro rs) :=
  (x_apost h fn al hp hc).mono fun u w' hr => by
    obtain ⟨K, hK⟩ := kl_of l hl
    exact ⟨K, by rw [← hK]; exact hr.1, hK.symm, hr.2⟩
theorem x_nth (h : Hp F0 w0 w ro rs) (n : Nat) (hp : pureVal Try.prog (execOp a.eval o) = some (.enter 35 #[pt tb 0, .int .i64 (n : Int)])) (hn : n < 9223372036854775808) :
    OpTo Try.prog o a w (fun u w' => ∃ K, u = .agg (vb (kl K)).toArray ∧ kl K = mkB 107 n ∧ Hp F0 w0 w' ro rs) :=
  x_key h 35 [pt tb 0, .int .i64 (n : Int)] hp (mkB_len _ _) (nth_any n hn tb w)
theorem x_Mark (h : Hp F0 w0 w ro rs) (l : Bytes) (bv : Value) (hp : pureVal Try.prog (execOp a.eval o) = some (.enter 32 #[bv])) (hb : SB w bv l) (r : Value) (hr : mkV (markOf l) = r) :
    OpTo Try.prog o a w (fun u w' => u = r ∧ Hp F0 w0 w' ro rs) :=
  OpTo.enter 32 [bv] hp (Mark_any bv l w hb) fun _e _w' hq => ⟨_, hq.1, hr, h.below hq.2⟩
/-- Find. -/
theorem x_find (h : Hp F0 w0 w ro rs) (l : Bytes) (bv : Value) (hp : pureVal Try.prog (execOp a.eval o) = some (.enter 31 #[bv])) (hb : SB w bv l) (hl : l.length ≤ 1000000) :
    OpTo Try.prog o a w (fun u w' => ∃ A cc, u = .slice A (findB l).length cc ∧ Hp F0 w0 w' ro (rOV 28 16 (.slice A (findB l).length cc) ((findB l).map vb) :: rs)) :=
  OpTo.enter 31 [bv] hp (find_any bv l w hb hl) fun e w' hq => by
    obtain ⟨v, he, ho, hbl⟩ := hq
    obtain ⟨A, cc, e2, _⟩ := ho.form
    rw [List.length_map] at e2
    subst e2
    exact ⟨_, he, A, cc, rfl, h.newS hbl (rOV 28 16 _ _) (ho.mono (Nat.zero_le _)) (fun q hq => (ho.block q hq).1)⟩
/-- Keys held against one another. -/
theorem e_keq (K L : Fin 16 → UInt8) (t t' : TypeId) (x y : Operand) (ho : o.op = .binOp .eql t x y t') (hx : a.eval x = .agg (vb (kl K)).toArray) (hy : a.eval y = .agg (vb (kl L)).toArray)
    (ht : Try.prog.underlying t = some (.array 16 5)) (hg : Try.prog.eqGuardType Try.prog.depth t = false) (b : Bool) (hb : decide (kl K = kl L) = b) (W : World) :
    (execOp a.eval o).run Try.prog W = .ok (.value (.bool b)) W := by
  subst hb; exact exec_eq16 t t' x y ho (kl K) (kl L) hx hy ht hg (kl_len K) (kl_len L) W
theorem e_kne (K L : Fin 16 → UInt8) (t t' : TypeId) (x y : Operand) (ho : o.op = .binOp .neq t x y t') (hx : a.eval x = .agg (vb (kl K)).toArray) (hy : a.eval y = .agg (vb (kl L)).toArray)
    (ht : Try.prog.underlying t = some (.array 16 5)) (hg : Try.prog.eqGuardType Try.prog.depth t = false) (b : Bool) (hb : decide (kl K ≠ kl L) = b) (W : World) :
    (execOp a.eval o).run Try.prog W = .ok (.value (.bool b)) W := by
  subst hb
  rw [exec_ne16 t t' x y ho (kl K) (kl L) hx hy ht hg (kl_len K) (kl_len L) W]
  by_cases h : kl K = kl L <;> simp [h]
theorem e_keqB (k l : Bytes) (hk : k.length = 16) (hl : l.length = 16) (t t' : TypeId) (x y : Operand) (ho : o.op = .binOp .eql t x y t') (hx : a.eval x = .agg (vb k).toArray) (hy : a.eval y = .agg (vb l).toArray)
    (ht : Try.prog.underlying t = some (.array 16 5)) (hg : Try.prog.eqGuardType Try.prog.depth t = false) (b : Bool) (hb : decide (k = l) = b) (W : World) :
    (execOp a.eval o).run Try.prog W = .ok (.value (.bool b)) W := by
  subst hb; exact exec_eq16 t t' x y ho k l hx hy ht hg hk hl W
theorem e_kneB (k l : Bytes) (hk : k.length = 16) (hl : l.length = 16) (t t' : TypeId) (x y : Operand) (ho : o.op = .binOp .neq t x y t') (hx : a.eval x = .agg (vb k).toArray) (hy : a.eval y = .agg (vb l).toArray)
    (ht : Try.prog.underlying t = some (.array 16 5)) (hg : Try.prog.eqGuardType Try.prog.depth t = false) (b : Bool) (hb : decide (k ≠ l) = b) (W : World) :
    (execOp a.eval o).run Try.prog W = .ok (.value (.bool b)) W := by
  subst hb
  rw [exec_ne16 t t' x y ho k l hx hy ht hg hk hl W]
  by_cases h : k = l <;> simp [h]
theorem e_min (x y : Operand) (ts : Array TypeId) (ho : o.op = .call { callee := .builtin .min, args := #[x, y], argTypes := ts }) (k k' : IntKind) (m n : Int) (hx : a.eval x = .int k m) (hy : a.eval y = .int k' n) (r : Int) (hr : (if n < m then n else m) = r) (W : World) :
    (execOp a.eval o).run Try.prog W = .ok (.value (.int k r)) W := by
  subst hr
  unfold execOp
  simp only [ho, resolve, invoke, builtin, Sem.run_bind, Sem.run_pure, Result.andThen_ok, List.map_toArray, List.map_cons, List.map_nil, hx, hy, run_min_int2]
/-- Keys of one text are one. -/
theorem kl_inj {K L : Fin 16 → UInt8} (h : kl K = kl L) : K = L := by
  funext i
  have h2 : (kl K)[i.val]? = (kl L)[i.val]? := by rw [h]
  unfold kl at h2
  rw [List.getElem?_ofFn, List.getElem?_ofFn, dif_pos i.isLt, dif_pos i.isLt] at h2
  exact Option.some.inj h2
/-- Bytes that stand in the program. -/
theorem x_bsl (h : Hp F0 w0 w ro rs) (l : Bytes) (hn : newVal Try.prog (execOp a.eval o) = some (.cells (vb l).toArray 5, fun r => some (.value (.slice (some ⟨r, 0, none⟩) l.length l.length)))) :
    OpTo Try.prog o a w (fun v w' => ∃ g, v = .slice (some ⟨g, 0, none⟩) l.length l.length ∧ w' = w.alloc (.cells (vb l).toArray 5) ∧ g = w.heap.size ∧ Hp F0 w0 w ro rs ∧ Hp F0 w0 w' ro (rBlk g 5 (vb l) :: rs)) :=
  OpTo.run (.slice (some ⟨w.heap.size, 0, none⟩) l.length l.length) (newVal_run hn w rfl) ⟨_, rfl, rfl, rfl, h, h.alloc 5 (vb l)⟩
theorem x_bcv {W : World} (h : Hp F0 w0 w ro rs) (l : Bytes) (hW : W = w.alloc (.cells (vb l).toArray 5)) (g : Nat) (hg : g = w.heap.size) (x : Operand) (ho : o.op = .convert 35 35 x) (hx : a.eval x = .slice (some ⟨g, 0, none⟩) l.length l.length) (hl : l.length ≤ maxLen) :
    OpTo Try.prog o a W (fun v w' => v = .slice (some ⟨g, 0, none⟩) l.length l.length ∧ Hp F0 w0 w' (rSB (.slice (some ⟨g, 0, none⟩) l.length l.length) l :: ro) rs) := by
  subst hW; subst hg
  refine OpTo.run _ (exec_convC x ho w (vb l).toArray l.length l.length hx) ⟨rfl, ?_⟩
  have hsz : (vb l).toArray.size = l.length := by simp
  rw [hsz]
  exact h.newR ((Below.refl _ _).alloc (Nat.le_refl _) _) (rSB (.slice (some ⟨w.heap.size, 0, none⟩) l.length l.length) l) (SB.marked w l (l.length, l.length + 1) hl) (fun q hq => by
    have : w.heap.size = q := by simpa [Value.ownBlock] using hq.2
    omega)
/-- A block of bytes, read. -/
theorem SB.blk {g : Nat} {T : TypeId} {l : Bytes} {n c : Nat} (hb : Blk w g T (vb l)) (hn : n = l.length) (hc : decide (n ≤ c) = true) (hm : decide (c ≤ maxLen) = true) : SB w (.slice (some ⟨g, 0, none⟩) n c) l := by
  subst hn
  refine ⟨_, _, rfl, of_decide_eq_true hc, of_decide_eq_true hm, fun _ => ⟨g, 0, rfl, hb.lt, fun i hi => ?_⟩⟩
  rw [hb.cell, Nat.zero_add]
  exact vb_get l i hi
theorem SB.blk16 {g : Nat} {T : TypeId} {K : Fin 16 → UInt8} (hb : Blk w g T (vb (kl K))) : SB w (.slice (some ⟨g, 0, none⟩) 16 16) (kl K) :=
  SB.blk hb (kl_len K).symm (by decide) (by decide)
end
end Go.Proofs.Ytpkelokaammmjaa
end
/-! Sets of keys as maps, among the things that a call holds. -/
section
namespace Go.Proofs.Ytpkelokaammmjaa
open Go.RowKit Go.QT
def insK (ks : List Bytes) (f : Bytes) : List Bytes := if f ∈ ks then ks else ks ++ [f]
/-- Entries as they come in: each younger than those ahead of it. -/
structure KmOk (es : Array MapEntry) (clock : Nat) (ks : List Bytes) : Prop where
  me : es.toList.map (fun e => (e.key, e.val)) = ents ks
  ml : ∀ k ∈ ks, k.length = 16
  nd : ks.Nodup
  lt : ∀ (i : Nat) (e : MapEntry), es[i]? = some e → e.born < clock
  inc : ∀ (i j : Nat) (e e' : MapEntry), es[i]? = some e → es[j]? = some e' → e.born = e'.born → i = j
theorem KmOk.empty : KmOk #[] 0 [] := ⟨rfl, by simp, by simp, by simp, by simp⟩
def rKM (mb : Nat) (ks : List Bytes) : Res where
  F := fun q => q = mb
  Φ := fun w => ∃ es clock, w.heap[mb]? = some (.map es clock) ∧ KmOk es clock ks
  lt := fun h q hq => by
    obtain ⟨es, clock, hm, _⟩ := h
    subst hq
    exact (Array.getElem?_eq_some_iff.1 hm).1
  keep := fun h _ hk => by
    obtain ⟨es, clock, hm, ho⟩ := h
    exact ⟨es, clock, (hk mb rfl).trans hm, ho⟩
theorem KmOk.push {es : Array MapEntry} {clock : Nat} {ks : List Bytes} (h : KmOk es clock ks) (f : Bytes) (hf : f.length = 16) (hn : f ∉ ks) : KmOk (es.push { key := .agg (vb f).toArray, val := .bool true, born := clock }) (clock + 1) (ks ++ [f]) where
  me := by rw [Array.toList_push, List.map_append, h.me]; simp [ents]
  ml := fun k hk => by
    rcases List.mem_append.1 hk with hk | hk
    · exact h.ml k hk
    · have : k = f := by simpa using hk
      rw [this]; exact hf
  nd := by
    rw [List.nodup_append]
    refine ⟨h.nd, by simp, fun x hx y hy e => ?_⟩
    have : y = f := by simpa using hy
    subst this; subst e; exact hn hx
  lt := fun i e hi => by
    rw [Array.getElem?_push] at hi
    split at hi
    · injection hi with hi; subst hi; exact Nat.lt_succ_self _
    · exact Nat.lt_succ_of_lt (h.lt i e hi)
  inc := fun i j e e' hi hj hb => by
    rw [Array.getElem?_push] at hi hj
    split at hi
    · split at hj
      · omega
      · injection hi with hi; subst hi
        have := h.lt j e' hj
        simp only at hb; omega
    · split at hj
      · injection hj with hj; subst hj
        have := h.lt i e hi
        simp only at hb; omega
      · exact h.inc i j e e' hi hj hb
theorem KmOk.again {es : Array MapEntry} {clock : Nat} {ks : List Bytes} (h : KmOk es clock ks) (f : Bytes) (j : Nat) (hj : ks[j]? = some f) : KmOk (es.modify j fun e => { e with key := .agg (vb f).toArray, val := .bool true }) clock ks where
  me := by
    rw [← h.me]
    apply List.ext_getElem?
    intro i
    rw [List.getElem?_map, List.getElem?_map, Array.getElem?_toList, Array.getElem?_toList, Array.getElem?_modify]
    by_cases e : j = i
    · subst e
      rw [if_pos rfl]
      have hme := congrArg (fun l => l[j]?) h.me
      simp only [List.getElem?_map, ents, hj, Option.map_some, Array.getElem?_toList] at hme
      cases hc : es[j]? with
      | none => rw [hc] at hme; cases hme
      | some x =>
        rw [hc] at hme
        simp only [Option.map_some, Option.some.injEq] at hme ⊢
        exact hme.symm
    · rw [if_neg e]
  ml := h.ml
  nd := h.nd
  lt := fun i e hi => by
    rw [Array.getElem?_modify] at hi
    split at hi
    · rw [Option.map_eq_some_iff] at hi
      obtain ⟨x, hx, rfl⟩ := hi
      exact h.lt i x hx
    · exact h.lt i e hi
  inc := fun i k e e' hi hk hb => by
    have born : ∀ (i : Nat) (e : MapEntry), (es.modify j fun e => { e with key := .agg (vb f).toArray, val := .bool true })[i]? = some e → ∃ x, es[i]? = some x ∧ x.born = e.born := by
      intro i e hi
      rw [Array.getElem?_modify] at hi
      split at hi
      · rw [Option.map_eq_some_iff] at hi
        obtain ⟨x, hx, rfl⟩ := hi
        exact ⟨x, hx, rfl⟩
      · exact ⟨e, hi, rfl⟩
    obtain ⟨x, hx, h1⟩ := born i e hi
    obtain ⟨y, hy, h2⟩ := born k e' hk
    exact h.inc i k x y hx hy (by rw [h1, h2, hb])
section
variable {F0 : Nat → Prop} {w0 w w' : World} {ro rs : List Res} {mb : Nat} {ks : List Bytes} {o : Oper} {a : Act}
theorem e_lookK {F : Res} (hF : F.Φ w) (he : F = rKM mb ks) (f : Bytes) (hf : f.length = 16) (x y : Operand) (ho : o.op = .lookup 63 x y false) (hx : a.eval x = .map (some mb)) (hy : a.eval y = .agg (vb f).toArray) (b : Bool) (hb : decide (f ∈ ks) = b) :
    (execOp a.eval o).run Try.prog w = .ok (.value (.bool b)) w := by
  subst he; subst hb
  obtain ⟨es, clock, hm, ho'⟩ := hF
  unfold execOp
  simp only [ho, hx, hy, Sem.run_bind, run_lookup_key f hf mb es clock w hm ks ho'.me ho'.ml, Result.andThen_ok, Sem.run_pure]
theorem run_updK (f : Bytes) (hf : f.length = 16) (h : (rKM mb ks).Φ w) : ∃ w', (Instr.mapUpdate 63 (.map (some mb)) (.agg (vb f).toArray) (.bool true)).run Try.prog w = .ok () w' ∧ (rKM mb (insK ks f)).Φ w' ∧ Fr (fun q => q = mb) w w' := by
  obtain ⟨es, clock, hm, hk⟩ := h
  have hkey := run_findKey f hf w es ks hk.me hk.ml
  have hobj : (getObj mb).run Try.prog w = .ok (.map es clock) w := by simp [getObj, Sem.run, hm]
  have hlt : mb < w.heap.size := (Array.getElem?_eq_some_iff.1 hm).1
  have fr : ∀ ob : Obj, Fr (fun q => q = mb) w { w with heap := w.heap.setIfInBounds mb ob } := fun ob =>
    ⟨rfl, rfl, rfl, by simp, fun q _ hq => by
      have : mb ≠ q := fun e => hq e.symm
      simp [this]⟩
  cases hq : ks.findIdx? fun k => decide (k = f) with
  | none =>
    rw [hq] at hkey
    have hn : f ∉ ks := by
      have := find_mem ks f
      rw [hq] at this
      simpa using this.symm
    refine ⟨{ w with heap := w.heap.setIfInBounds mb (.map (es.push { key := .agg (vb f).toArray, val := .bool true, born := clock }) (clock + 1)) }, ?_, ⟨es.push { key := .agg (vb f).toArray, val := .bool true, born := clock }, clock + 1, by simp [hlt], ?_⟩, fr _⟩
    · simp only [Instr.mapUpdate, Sem.run_bind, run_underlying undKm, Result.andThen_ok, hobj, check_key _ 9998 f hf, hkey]
      simp [setObj, Sem.run, hm]
    · unfold insK; rw [if_neg hn]; exact hk.push f hf hn
  | some j =>
    rw [hq] at hkey
    obtain ⟨hj, hj2, _⟩ := List.findIdx?_eq_some_iff_getElem.1 hq
    have hjf : ks[j] = f := by simpa using hj2
    have hin : f ∈ ks := hjf ▸ List.getElem_mem hj
    have hkj : ks[j]? = some f := by rw [List.getElem?_eq_getElem hj, hjf]
    have hej : ∃ e, es[j]? = some e ∧ e.key = .agg (vb f).toArray := by
      have hme := congrArg (fun l => l[j]?) hk.me
      simp only [List.getElem?_map, ents, hkj, Option.map_some, Array.getElem?_toList] at hme
      cases hc : es[j]? with
      | none => rw [hc] at hme; cases hme
      | some x =>
        rw [hc] at hme
        simp only [Option.map_some, Option.some.injEq, Prod.mk.injEq] at hme
        exact ⟨x, rfl, hme.1⟩
    obtain ⟨e0, he0, hk0⟩ := hej
    refine ⟨{ w with heap := w.heap.setIfInBounds mb (.map (es.modify j fun e => { e with key := .agg (vb f).toArray, val := .bool true }) clock) }, ?_, ⟨es.modify j fun e => { e with key := .agg (vb f).toArray, val := .bool true }, clock, by simp [hlt], ?_⟩, fr _⟩
    · simp only [Instr.mapUpdate, Sem.run_bind, run_underlying undKm, Result.andThen_ok, hobj, check_key _ 9998 f hf, hkey, Option.map_some, he0, hk0, Option.getD_some, keyStays]
      simp [setObj, Sem.run, hm]
    · unfold insK; rw [if_pos hin]; exact hk.again f j hkj
theorem x_updK (h : Hp F0 w0 w ro rs) (i : Nat) (hi : rs[i]? = some (rKM mb ks)) (f : Bytes) (hf : f.length = 16) (x y z : Operand) (ho : o.op = .mapUpdate 63 x y z) (hx : a.eval x = .map (some mb)) (hy : a.eval y = .agg (vb f).toArray) (hz : a.eval z = .bool true) :
    OpTo Try.prog o a w (fun _ w' => Hp F0 w0 w' ro (rs.set i (rKM mb (insK ks f)))) := by
  obtain ⟨w', hr, hk, hf'⟩ := run_updK f hf (h.own i _ hi)
  refine OpTo.runs (w' := w') ?_ (h.upd i hi hf' (rKM mb (insK ks f)) hk (fun q hq => .inl hq))
  unfold execOp
  simp only [ho, hx, hy, hz, Sem.run_bind, hr, Result.andThen_ok, Sem.run_pure]
theorem x_makeK (h : Hp F0 w0 w ro rs) (ho : o.op = .makeMap 63 none) :
    OpTo Try.prog o a w (fun v w' => ∃ mb, v = .map (some mb) ∧ Hp F0 w0 w' ro (rKM mb [] :: rs)) := by
  refine OpTo.run (.map (some w.heap.size)) (w' := w.alloc (.map #[] 0)) ?_ ⟨_, rfl, h.newS ((Below.refl _ _).alloc (Nat.le_refl _) _) (rKM w.heap.size []) ⟨#[], 0, heap_alloc_new w _, KmOk.empty⟩ (fun q hq => by rw [show q = _ from hq]; exact Nat.le_refl _)⟩
  have h1 : (Instr.makeMap 63 none).run Try.prog w = .ok (.map (some w.heap.size)) (w.alloc (.map #[] 0)) := rfl
  unfold execOp
  simp only [ho, Option.map_none, Sem.run_bind, h1, Result.andThen_ok, Sem.run_pure]
end
end Go.Proofs.Ytpkelokaammmjaa
end
/-! A range over a set of keys that may grow meanwhile. -/
section
namespace Go.Proofs.Ytpkelokaammmjaa
open Go.RowKit Go.QT
/-- The iterator: n0 entries stood there at first; those at the places sn were handed out. -/
structure ItOk (es : Array MapEntry) (clock since : Nat) (seen : Array Nat) (last n0 : Nat) (sn : List Nat) : Prop where
  old : ∀ (i : Nat) (e : MapEntry), es[i]? = some e → (e.born < since ↔ i < n0)
  n0 : n0 ≤ es.size
  sc : since ≤ clock
  see : ∀ (i : Nat) (e : MapEntry), es[i]? = some e → (seen.contains e.born = true ↔ i ∈ sn)
  sb : ∀ b, seen.contains b = true → b < clock
  nd : sn.Nodup
  lt : ∀ i ∈ sn, i < es.size
  la : ∀ (i : Nat) (e : MapEntry), es[i]? = some e → i ∈ sn → e.born < last
  ll : last ≤ clock
  ne : sn = [] → seen = #[]
def rIt (mb r : Nat) (ks : List Bytes) (n0 : Nat) (sn : List Nat) : Res where
  F := fun q => q = mb ∨ q = r
  Φ := fun w => mb ≠ r ∧ ∃ es clock since seen last, w.heap[mb]? = some (.map es clock) ∧ KmOk es clock ks ∧ w.heap[r]? = some (.mapIter (some mb) since seen last) ∧ ItOk es clock since seen last n0 sn
  lt := fun h q hq => by
    obtain ⟨_, es, clock, since, seen, last, hm, _, hr, _⟩ := h
    rcases hq with rfl | rfl
    · exact (Array.getElem?_eq_some_iff.1 hm).1
    · exact (Array.getElem?_eq_some_iff.1 hr).1
  keep := fun h _ hk => by
    obtain ⟨hne, es, clock, since, seen, last, hm, ho, hr, hi⟩ := h
    exact ⟨hne, es, clock, since, seen, last, (hk mb (.inl rfl)).trans hm, ho, (hk r (.inr rfl)).trans hr, hi⟩
theorem ItOk.push {es : Array MapEntry} {clock since last n0 : Nat} {seen : Array Nat} {sn : List Nat} (h : ItOk es clock since seen last n0 sn) (e0 : MapEntry) (hb : e0.born = clock) : ItOk (es.push e0) (clock + 1) since seen last n0 sn where
  old := fun i e hi => by
    rw [Array.getElem?_push] at hi
    split at hi
    · rename_i hs
      injection hi with hi; subst hi
      have h1 := h.sc; have h2 := h.n0
      rw [hb]; omega
    · exact h.old i e hi
  n0 := by rw [Array.size_push]; exact Nat.le_succ_of_le h.n0
  sc := Nat.le_succ_of_le h.sc
  see := fun i e hi => by
    rw [Array.getElem?_push] at hi
    split at hi
    · rename_i hs
      injection hi with hi; subst hi
      rw [hb]
      constructor
      · intro h1; have := h.sb _ h1; omega
      · intro h1; have := h.lt i h1; omega
    · exact h.see i e hi
  sb := fun b hb' => Nat.lt_succ_of_lt (h.sb b hb')
  nd := h.nd
  lt := fun i hi => by rw [Array.size_push]; exact Nat.lt_succ_of_lt (h.lt i hi)
  la := fun i e hi hs => by
    rw [Array.getElem?_push] at hi
    split at hi
    · have := h.lt i hs; omega
    · exact h.la i e hi hs
  ll := Nat.le_succ_of_le h.ll
  ne := h.ne
theorem ItOk.born {es es' : Array MapEntry} {clock since last n0 : Nat} {seen : Array Nat} {sn : List Nat} (h : ItOk es clock since seen last n0 sn) (hs : es'.size = es.size)
    (hb : ∀ (i : Nat) (e : MapEntry), es'[i]? = some e → ∃ x, es[i]? = some x ∧ x.born = e.born) : ItOk es' clock since seen last n0 sn where
  old := fun i e hi => by obtain ⟨x, hx, e1⟩ := hb i e hi; rw [← e1]; exact h.old i x hx
  n0 := by rw [hs]; exact h.n0
  sc := h.sc
  see := fun i e hi => by obtain ⟨x, hx, e1⟩ := hb i e hi; rw [← e1]; exact h.see i x hx
  sb := h.sb
  nd := h.nd
  lt := fun i hi => by rw [hs]; exact h.lt i hi
  la := fun i e hi hs' => by obtain ⟨x, hx, e1⟩ := hb i e hi; rw [← e1]; exact h.la i x hx hs'
  ll := h.ll
  ne := h.ne
section
variable {F0 : Nat → Prop} {w0 w w' : World} {ro rs : List Res} {mb r : Nat} {ks : List Bytes} {o : Oper} {a : Act} {n0 : Nat} {sn : List Nat}
theorem KmOk.size {es : Array MapEntry} {clock : Nat} (h : KmOk es clock ks) : es.size = ks.length := by
  have := congrArg List.length h.me
  simpa [ents] using this
theorem KmOk.at_ {es : Array MapEntry} {clock : Nat} (h : KmOk es clock ks) (i : Nat) (e : MapEntry) (hi : es[i]? = some e) : ∃ k, ks[i]? = some k ∧ e.key = .agg (vb k).toArray ∧ e.val = .bool true := by
  have hme := congrArg (fun l => l[i]?) h.me
  simp only [List.getElem?_map, ents, Array.getElem?_toList, hi, Option.map_some] at hme
  cases hc : ks[i]? with
  | none => rw [hc] at hme; cases hme
  | some k =>
    rw [hc] at hme
    simp only [Option.map_some, Option.some.injEq, Prod.mk.injEq] at hme
    exact ⟨k, rfl, hme.1, hme.2⟩
/-- The range begins. -/
theorem x_rangeK (h : Hp F0 w0 w ro rs) (i : Nat) (hi : rs[i]? = some (rKM mb ks)) (x : Operand) (ho : o.op = .range 63 x) (hx : a.eval x = .map (some mb)) :
    OpTo Try.prog o a w (fun v w' => ∃ r, v = pt r 0 ∧ Hp F0 w0 w' ro (rs.set i (rIt mb r ks ks.length []))) := by
  obtain ⟨es, clock, hm, hk⟩ := h.own i _ hi
  have hlt : mb < w.heap.size := (Array.getElem?_eq_some_iff.1 hm).1
  have hrun := run_range_map (P := Try.prog) w 63 28 4 mb es clock undKm hm
  refine OpTo.run (pt w.heap.size 0) (w' := w.alloc (.mapIter (some mb) clock #[] clock)) ?_ ⟨_, rfl, ?_⟩
  · unfold execOp
    simp only [ho, hx, Sem.run_bind, hrun, Result.andThen_ok, Sem.run_pure]
    rfl
  · refine h.upd i hi (Fr.of_below _ ((Below.refl _ _).alloc (Nat.le_refl _) _)) (rIt mb w.heap.size ks ks.length []) ⟨by omega, es, clock, clock, #[], clock, ?_, hk, heap_alloc_new w _, ?_⟩ (fun q hq => ?_)
    · rw [Below.heap_alloc w _ mb hlt]; exact hm
    · refine ⟨fun j e he => ?_, by rw [hk.size]; exact Nat.le_refl _, Nat.le_refl _, fun j e _ => by simp, by simp, by simp, by simp, by simp, Nat.le_refl _, fun _ => rfl⟩
      have h1 := hk.lt j e he
      have h2 : j < es.size := (Array.getElem?_eq_some_iff.1 he).1
      rw [hk.size] at h2
      exact ⟨fun _ => h2, fun _ => h1⟩
    · rcases hq with hq | hq
      · exact .inl hq
      · exact .inr (by rw [hq]; exact Nat.le_refl _)
/-- The range ends: the iterator is forgotten. -/
theorem rIt_km (h : (rIt mb r ks n0 sn).Φ w) : (rKM mb ks).Φ w := by
  obtain ⟨_, es, clock, _, _, _, hm, hk, _⟩ := h
  exact ⟨es, clock, hm, hk⟩
theorem choose_any (n : Nat) (hn : 0 < n) (w : World) : ∃ (j k : Nat), j < n ∧ (choose (Question.mapNext n)).run Try.prog w = .ok j (w.drewN k) := by
  by_cases hf : n ≤ 1
  · exact ⟨0, 0, hn, by simp [choose, Sem.run, Question.forced, hf]; rfl⟩
  · exact ⟨_, 1, Nat.mod_lt _ (by omega), by
      simp only [choose, Sem.run, Question.forced, decide_eq_true_eq, hf, if_false, Question.cut]
      rfl⟩
theorem run_nextK (h : (rIt mb r ks n0 sn).Φ w) :
    (∃ k, (∀ ty, (Instr.next (pt r 0) false ty).run Try.prog w = .ok (.tuple #[.bool false]) (w.drewN k)) ∧ ∀ i, i < n0 → i ∈ sn) ∨
    (∃ (j : Nat) (k : Bytes) (w' : World), ks[j]? = some k ∧ j ∉ sn ∧ (∀ ty, (Instr.next (pt r 0) false ty).run Try.prog w = .ok (.tuple #[.bool true, .agg (vb k).toArray, .bool true]) w') ∧ (rIt mb r ks n0 (sn ++ [j])).Φ w' ∧ Fr (fun q => q = mb ∨ q = r) w w' ∧ (Instr.entry (pt r 0)).run Try.prog w' = .ok (.tuple #[.agg (vb k).toArray, .bool true]) w') := by
  obtain ⟨hne, es, clock, since, seen, last, hm, hk, hr, hi⟩ := h
  have ho1 : (getObj r).run Try.prog w = .ok (.mapIter (some mb) since seen last) w := by simp [getObj, Sem.run, hr]
  have ho2 : (getObj mb).run Try.prog w = .ok (.map es clock) w := by simp [getObj, Sem.run, hm]
  have htest : (!seen.isEmpty && !es.isEmpty && es.all (fun x => decide (x.born ≥ last))) = false := by
    cases hsn : sn with
    | nil => rw [hi.ne hsn]; rfl
    | cons j sn' =>
      have hj : j ∈ sn := by rw [hsn]; simp
      have hjl := hi.lt j hj
      have hla := hi.la j _ (Array.getElem?_eq_getElem hjl) hj
      have : es.all (fun x => decide (x.born ≥ last)) = false := by
        rw [Bool.eq_false_iff]
        intro hall
        rw [Array.all_eq_true_iff_forall_mem] at hall
        have := hall _ (Array.getElem_mem hjl)
        simp at this
        omega
      rw [this, Bool.and_false]
  have hlt : r < w.heap.size := (Array.getElem?_eq_some_iff.1 hr).1
  unfold Instr.next
  simp only [pt, Sem.run_bind, ho1, ho2, Result.andThen_ok, htest, Bool.false_eq_true, if_false]
  generalize hL : Array.filter (fun e => !seen.contains e.born) es = L
  generalize hO : L.filter (fun x => decide (x.born < since)) = O
  generalize hN : L.filter (fun x => decide (x.born ≥ since)) = N
  have hmem : ∀ e, e ∈ O ++ N → ∃ i, es[i]? = some e ∧ i ∉ sn := by
    intro e he
    have heL : e ∈ L := by
      rcases Array.mem_append.1 he with he | he
      · rw [← hO] at he; exact (Array.mem_filter.1 he).1
      · rw [← hN] at he; exact (Array.mem_filter.1 he).1
    rw [← hL] at heL
    obtain ⟨h1, h2⟩ := Array.mem_filter.1 heL
    obtain ⟨i, hi1, hi2⟩ := Array.getElem_of_mem h1
    have he' : es[i]? = some e := by rw [Array.getElem?_eq_getElem hi1, hi2]
    refine ⟨i, he', fun hc => ?_⟩
    have := (hi.see i e he').2 hc
    rw [this] at h2
    simp at h2
  have hpos : 0 < ((if O.isEmpty then #[none] else #[]) ++ (O ++ N).map some : Array (Option MapEntry)).size := by
    by_cases he : O.isEmpty
    · simp [he]; omega
    · simp only [he]
      have : O.size ≠ 0 := fun h0 => he (by simp [Array.isEmpty, h0])
      simp
      omega
  obtain ⟨j, n, hj, hch⟩ := choose_any _ hpos w
  simp only [hch, Result.andThen_ok]
  generalize hC : ((if O.isEmpty then #[none] else #[]) ++ (O ++ N).map some : Array (Option MapEntry)) = C at hj
  have hcj : C[j]? = some C[j] := Array.getElem?_eq_getElem hj
  cases hx : C[j] with
  | none =>
    left
    refine ⟨n, fun _ => by rw [hcj, hx]; rfl, fun i hin => ?_⟩
    have hOe : O.isEmpty = true := by
      cases hb : O.isEmpty with
      | true => rfl
      | false =>
        rw [hb] at hC
        have hm' : (none : Option MapEntry) ∈ C := by rw [← hx]; exact Array.getElem_mem hj
        rw [← hC] at hm'
        simp at hm'
    by_cases hin' : i ∈ sn
    · exact hin'
    · exfalso
      have hil : i < es.size := Nat.lt_of_lt_of_le hin hi.n0
      have he := Array.getElem?_eq_getElem hil
      have hso : es[i] ∈ O := by
        rw [← hO, Array.mem_filter]
        refine ⟨?_, by simpa using (hi.old i _ he).2 hin⟩
        rw [← hL, Array.mem_filter]
        refine ⟨Array.getElem_mem hil, ?_⟩
        cases hc : seen.contains es[i].born with
        | false => rfl
        | true => exact absurd ((hi.see i _ he).1 hc) hin'
      have : O = #[] := by simpa using hOe
      rw [this] at hso
      simp at hso
  | some e =>
    right
    have heON : e ∈ O ++ N := by
      have hm' : some e ∈ C := by rw [← hx]; exact Array.getElem_mem hj
      rw [← hC] at hm'
      rcases Array.mem_append.1 hm' with hm' | hm'
      · split at hm' <;> simp at hm'
      · obtain ⟨e', he', h2⟩ := Array.mem_map.1 hm'
        injection h2 with h2
        exact h2 ▸ he'
    obtain ⟨i, hie, hin⟩ := hmem e heON
    obtain ⟨k, hki, hkey, hval⟩ := hk.at_ i e hie
    refine ⟨i, k, { w.drewN n with heap := w.heap.setIfInBounds r (.mapIter (some mb) since (seen.push e.born) clock) }, hki, hin, ?_, ?_, ?_, ?_⟩
    · intro _
      rw [hcj, hx]
      have hset : (setObj r (.mapIter (some mb) since (seen.push e.born) clock)).run Try.prog (w.drewN n) = .ok () { w.drewN n with heap := w.heap.setIfInBounds r (.mapIter (some mb) since (seen.push e.born) clock) } := by
        have : (w.drewN n).heap[r]? = some (.mapIter (some mb) since seen last) := hr
        simp only [setObj, Sem.run, this]
        rfl
      simp only [Sem.run_bind, hset, Result.andThen_ok, Sem.run_pure, hkey, hval]
    · refine ⟨hne, es, clock, since, seen.push e.born, clock, ?_, hk, by simp [hlt], ?_⟩
      · show (w.heap.setIfInBounds r _)[mb]? = _
        rw [Array.getElem?_setIfInBounds_ne (Ne.symm hne)]; exact hm
      · have hbc := hk.lt i e hie
        refine ⟨hi.old, hi.n0, hi.sc, fun i' e' hi' => ?_, fun b hb => ?_, ?_, ?_, fun i' e' hi' _ => hk.lt i' e' hi', Nat.le_refl _, by simp⟩
        · rw [contains_push, Bool.or_eq_true, hi.see i' e' hi', beq_iff_eq, List.mem_append, List.mem_singleton]
          constructor
          · rintro (h1 | h1)
            · exact .inl h1
            · exact .inr (hk.inc i' i e' e hi' hie h1)
          · rintro (h1 | h1)
            · exact .inl h1
            · subst h1; rw [hie] at hi'; injection hi' with hi'; exact .inr (by rw [hi'])
        · rw [contains_push, Bool.or_eq_true, beq_iff_eq] at hb
          rcases hb with hb | hb
          · exact hi.sb b hb
          · omega
        · rw [List.nodup_append]
          exact ⟨hi.nd, by simp, fun x hx y hy e => by
            have : y = i := by simpa using hy
            subst this; subst e; exact hin hx⟩
        · intro i' hi'
          rcases List.mem_append.1 hi' with h1 | h1
          · exact hi.lt i' h1
          · have : i' = i := by simpa using h1
            subst this; exact (Array.getElem?_eq_some_iff.1 hie).1
    · exact ⟨rfl, rfl, rfl, by simp, fun q _ hq => by
        have : r ≠ q := fun e => hq (.inr e.symm)
        simp [this]⟩
    · have ho3 : (getObj r).run Try.prog { w.drewN n with heap := w.heap.setIfInBounds r (.mapIter (some mb) since (seen.push e.born) clock) } = .ok (.mapIter (some mb) since (seen.push e.born) clock) { w.drewN n with heap := w.heap.setIfInBounds r (.mapIter (some mb) since (seen.push e.born) clock) } := by
        simp [getObj, Sem.run, hlt]
      have ho4 : (getObj mb).run Try.prog { w.drewN n with heap := w.heap.setIfInBounds r (.mapIter (some mb) since (seen.push e.born) clock) } = .ok (.map es clock) { w.drewN n with heap := w.heap.setIfInBounds r (.mapIter (some mb) since (seen.push e.born) clock) } := by
        simp [getObj, Sem.run, Array.getElem?_setIfInBounds_ne (Ne.symm hne), hm]
      have hf : es.find? (·.born == e.born) = some e := by
        cases hc : es.find? (·.born == e.born) with
        | none =>
          have := Array.find?_eq_none.1 hc e (Array.mem_of_getElem? hie)
          simp at this
        | some x =>
          have h1 := Array.find?_some hc
          obtain ⟨i', hi1, hi2⟩ := Array.getElem_of_mem (Array.mem_of_find?_eq_some hc)
          have hx' : es[i']? = some x := by rw [Array.getElem?_eq_getElem hi1, hi2]
          have := hk.inc i' i x e hx' hie (by simpa using h1)
          subst this
          rw [hx'] at hie
          exact hie
      unfold Instr.entry
      simp only [Sem.run_bind, ho3, ho4, Result.andThen_ok, Array.back?_push, bne_self_eq_false, Bool.false_eq_true, if_false, hf, hkey, hval, Sem.run_pure]
theorem run_updI (f : Bytes) (hf : f.length = 16) (h : (rIt mb r ks n0 sn).Φ w) : ∃ w', (Instr.mapUpdate 63 (.map (some mb)) (.agg (vb f).toArray) (.bool true)).run Try.prog w = .ok () w' ∧ (rIt mb r (insK ks f) n0 sn).Φ w' ∧ Fr (fun q => q = mb ∨ q = r) w w' := by
  obtain ⟨hne, es, clock, since, seen, last, hm, hk, hr, hi⟩ := h
  have hkey := run_findKey f hf w es ks hk.me hk.ml
  have hobj : (getObj mb).run Try.prog w = .ok (.map es clock) w := by simp [getObj, Sem.run, hm]
  have hlt : mb < w.heap.size := (Array.getElem?_eq_some_iff.1 hm).1
  have fr : ∀ ob : Obj, Fr (fun q => q = mb ∨ q = r) w { w with heap := w.heap.setIfInBounds mb ob } := fun ob =>
    ⟨rfl, rfl, rfl, by simp, fun q _ hq => by
      have : mb ≠ q := fun e => hq (.inl e.symm)
      simp [this]⟩
  have hr' : ∀ ob : Obj, (w.heap.setIfInBounds mb ob)[r]? = some (.mapIter (some mb) since seen last) := fun ob => by
    rw [Array.getElem?_setIfInBounds_ne hne]; exact hr
  cases hq : ks.findIdx? fun k => decide (k = f) with
  | none =>
    rw [hq] at hkey
    have hn : f ∉ ks := by
      have := find_mem ks f
      rw [hq] at this
      simpa using this.symm
    refine ⟨{ w with heap := w.heap.setIfInBounds mb (.map (es.push { key := .agg (vb f).toArray, val := .bool true, born := clock }) (clock + 1)) }, ?_, ⟨hne, es.push { key := .agg (vb f).toArray, val := .bool true, born := clock }, clock + 1, since, seen, last, by simp [hlt], ?_, hr' _, hi.push _ rfl⟩, fr _⟩
    · simp only [Instr.mapUpdate, Sem.run_bind, run_underlying undKm, Result.andThen_ok, hobj, check_key _ 9998 f hf, hkey]
      simp [setObj, Sem.run, hm]
    · unfold insK; rw [if_neg hn]; exact hk.push f hf hn
  | some j =>
    rw [hq] at hkey
    obtain ⟨hj, hj2, _⟩ := List.findIdx?_eq_some_iff_getElem.1 hq
    have hjf : ks[j] = f := by simpa using hj2
    have hin : f ∈ ks := hjf ▸ List.getElem_mem hj
    have hkj : ks[j]? = some f := by rw [List.getElem?_eq_getElem hj, hjf]
    have hjs : j < es.size := by rw [hk.size]; exact hj
    have he0 := Array.getElem?_eq_getElem hjs
    obtain ⟨k, hk1, hk0, _⟩ := hk.at_ j _ he0
    rw [hkj] at hk1; injection hk1 with hk1; subst hk1
    refine ⟨{ w with heap := w.heap.setIfInBounds mb (.map (es.modify j fun e => { e with key := .agg (vb f).toArray, val := .bool true }) clock) }, ?_, ⟨hne, es.modify j fun e => { e with key := .agg (vb f).toArray, val := .bool true }, clock, since, seen, last, by simp [hlt], ?_, hr' _, hi.born (by simp) fun i e hie => ?_⟩, fr _⟩
    · simp only [Instr.mapUpdate, Sem.run_bind, run_underlying undKm, Result.andThen_ok, hobj, check_key _ 9998 f hf, hkey, Option.map_some, he0, hk0, Option.getD_some, keyStays]
      simp [setObj, Sem.run, hm]
    · unfold insK; rw [if_pos hin]; exact hk.again f j hkj
    · rw [Array.getElem?_modify] at hie
      split at hie
      · rw [Option.map_eq_some_iff] at hie
        obtain ⟨x, hx, rfl⟩ := hie
        exact ⟨x, hx, rfl⟩
      · exact ⟨e, hie, rfl⟩
end
end Go.Proofs.Ytpkelokaammmjaa
end
/-! Masks of ints. -/
section
namespace Go.Proofs.Ytpkelokaammmjaa
theorem and_mask (x : Int) (m : Nat) (hm : m < 4611686018427387904) : ∃ n : Nat, bits .and .i64 x (m : Int) = (n : Int) ∧ n ≤ m := by
  refine ⟨((BitVec.ofInt 64 x) &&& (BitVec.ofInt 64 (m : Int))).toNat, ?_, ?_⟩
  · show IntKind.i64.wrap ((((BitVec.ofInt 64 x) &&& (BitVec.ofInt 64 (m : Int))).toNat : Nat) : Int) = _
    have h : ((BitVec.ofInt 64 x) &&& (BitVec.ofInt 64 (m : Int))).toNat ≤ m := by
      rw [BitVec.toNat_and, BitVec.ofInt_natCast, BitVec.toNat_ofNat]
      exact Nat.le_trans Nat.and_le_right (Nat.mod_le _ _)
    rw [IntKind.wrap_i64]
    omega
  · rw [BitVec.toNat_and, BitVec.ofInt_natCast, BitVec.toNat_ofNat]
    exact Nat.le_trans Nat.and_le_right (Nat.mod_le _ _)
end Go.Proofs.Ytpkelokaammmjaa
end
/-! More steps on slices: parts of them, their elements' places and cells. -/
section
namespace Go.Proofs.Ytpkelokaammmjaa
open Go.RowKit Go.QT
section
variable {P : Program} {o : Oper} {a : Act} {w w' w0 : World} {sz c : Nat} {A : Option Addr} {xs : List (List Value)} {F0 : Nat → Prop} {ro rs : List Res}
theorem RV.lenIs {n : Nat} (h : RV w sz A c xs) (hn : xs.length = n) : xs.length = n ∧ RV w sz A c xs := ⟨hn, h⟩
theorem e_cut_lh {v : Value} {l : Bytes} (h : SB w v l) (x lo hi : Operand) (ho : o.op = .slice 35 x (some lo) (some hi) none) (hx : a.eval x = v) (k k' : IntKind) (i j : Nat) (hlo : a.eval lo = .int k (i : Int)) (hhi : a.eval hi = .int k' (j : Int)) (h1 : i ≤ j) (h2 : j ≤ l.length) (W : World) :
    (execOp a.eval o).run Try.prog W = .ok (.value (cutS v i j)) W :=
  exec_cut_lh x lo hi ho v l hx h k k' (i : Int) (j : Int) hlo hhi (by omega) (by omega) (by omega) W
theorem e_cut_h {v : Value} {l : Bytes} (h : SB w v l) (x hi : Operand) (ho : o.op = .slice 35 x none (some hi) none) (hx : a.eval x = v) (k' : IntKind) (j : Nat) (hhi : a.eval hi = .int k' (j : Int)) (h2 : j ≤ l.length) (W : World) :
    (execOp a.eval o).run Try.prog W = .ok (.value (cutS v 0 j)) W :=
  exec_cut_h x hi ho v l hx h k' (j : Int) hhi (by omega) (by omega) W
theorem e_cut_l {v : Value} {l : Bytes} (h : SB w v l) (x lo : Operand) (ho : o.op = .slice 35 x (some lo) none none) (hx : a.eval x = v) (k : IntKind) (i : Nat) (hlo : a.eval lo = .int k (i : Int)) (h2 : i ≤ l.length) (W : World) :
    (execOp a.eval o).run Try.prog W = .ok (.value (cutS v i l.length)) W :=
  exec_cut_l x lo ho v l hx h k (i : Int) hlo (by omega) (by omega) W
theorem e_idxN (h : RV w sz A c xs) (i n : Nat) (hn : xs.length = n) (hi : i < n) (t : TypeId) (x y : Operand) (ho : o.op = .indexAddr t x y) (k : IntKind) (hx : a.eval x = .slice A n c) (hy : a.eval y = .int k (i : Int)) (E : TypeId) (ht : P.underlying t = some (.slice E)) (hE : pureVal P (sizeOf E) = some sz) (W : World) :
    (execOp a.eval o).run P W = .ok (.value (eAt A (i * sz))) W := by
  subst hn
  exact e_idx h i hi t x y ho k hx hy E ht hE W
theorem eAt_at (h : RV w sz A c xs) (i : Nat) (x : List Value) (hxi : xs[i]? = some x) (j : Nat) : ∃ b k, A = some ⟨b, k, none⟩ ∧ eAt A (i * sz + j) = pt b (k + (i * sz + j)) ∧ ∀ m u, x[j + m]? = some u → w.cell? ⟨b, k + (i * sz + j) + m, none⟩ = some u := by
  have hi : i < xs.length := (List.getElem?_eq_some_iff.1 hxi).1
  obtain ⟨b, o', rfl, hb, hc⟩ := h.at_ (by rintro rfl; simp at hi)
  refine ⟨b, o', rfl, ?_, fun m u hu => ?_⟩
  · unfold eAt pt
    by_cases h0 : i * sz + j = 0
    · rw [h0]; simp [Addr.add]
    · simp only [Addr.add]
      simp
      intro h2 h3; exact h0 (by omega)
  · have := hc i x hxi (j + m) u hu
    rw [show o' + (i * sz + j) + m = o' + i * sz + (j + m) by omega]
    exact this
/-- A cell of an element: its j-th. -/
theorem e_elemN (h : RV w sz A c xs) (i j : Nat) (x : List Value) (hxi : xs[i]? = some x) (t : TypeId) (p : Operand) (ho : o.op = .load t p) (v : Value) (hx : a.eval p = eAt A (i * sz + j)) (hv : x[j]? = some v) (ht : pureVal P (isAgg t) = some false) :
    (execOp a.eval o).run P w = .ok (.value v) w := by
  obtain ⟨b, k, rfl, e, hc⟩ := eAt_at h i x hxi j
  have hcell : w.cell? ⟨b, k + (i * sz + j), none⟩ = some v := by simpa using hc 0 v hv
  have hl : (loadVar t ⟨b, k + (i * sz + j), none⟩).run P w = .ok v w := by simp [loadVar, pureVal_run ht, hcell]
  unfold execOp
  rw [e] at hx
  simp only [ho, hx, pt, Instr.loadAt, Instr.sureAddr, Sem.run_bind, Sem.run_pure, Result.andThen_ok, hl]
/-- Cells of an element, from the j-th on. -/
theorem e_elemsN (h : RV w sz A c xs) (i j : Nat) (x : List Value) (hxi : xs[i]? = some x) (t : TypeId) (p : Operand) (ho : o.op = .load t p) (ds : List Value) (hx : a.eval p = eAt A (i * sz + j)) (hv : (x.drop j).take ds.length = ds) (hB : rowB P t ds.length = true) :
    (execOp a.eval o).run P w = .ok (.value (.agg ds.toArray)) w := by
  obtain ⟨b, k, rfl, e, hc⟩ := eAt_at h i x hxi j
  obtain ⟨d, hu, hr, hs⟩ := rowB_spec hB
  have hl := run_loadVar_mid (P := P) w b (k + (i * sz + j)) t ds d (fun m v hm => hc m v (slice_get x j ds.length m v (by rw [hv]; exact hm))) hu hr hs
  unfold execOp
  rw [e] at hx
  simp only [ho, hx, pt, Instr.loadAt, Instr.sureAddr, Sem.run_bind, Sem.run_pure, Result.andThen_ok, hl]
/-- The place of an element's field. -/
theorem e_fldN (h : RV w sz A c xs) (i j k : Nat) (x : List Value) (hxi : xs[i]? = some x) (p : Operand) (hx : a.eval p = eAt A (i * sz + j)) (hf : ∀ b n, pureVal P (execOp (fun _ => pt b n) o) = some (.value (pt b (n + k)))) (hE : ∀ ev : Operand → Value, execOp ev o = execOp (fun _ => ev p) o) (W : World) :
    (execOp a.eval o).run P W = .ok (.value (eAt A (i * sz + (j + k)))) W := by
  obtain ⟨b, n, rfl, e, _⟩ := eAt_at h i x hxi j
  have e2 : eAt (some ⟨b, n, none⟩) (i * sz + (j + k)) = pt b (n + (i * sz + (j + k))) := by
    unfold eAt pt
    by_cases h0 : i * sz + (j + k) = 0
    · rw [h0]; simp [Addr.add]
    · simp only [Addr.add]
      simp
      intro h2 h3 h4; exact absurd (show i * sz + (j + k) = 0 by omega) h0
  rw [hE, hx, e, e2, show n + (i * sz + (j + k)) = n + (i * sz + j) + k by omega]
  exact pureVal_run (hf _ _) W
/-- A new slice of values. -/
theorem x_bs (h : Hp F0 w0 w ro rs) (T : TypeId) (cs : List Value) (n : Nat) (hn : newVal P (execOp a.eval o) = some (.cells cs.toArray T, fun r => some (.value (.slice (some ⟨r, 0, none⟩) n n)))) :
    OpTo P o a w (fun v w' => ∃ g, v = .slice (some ⟨g, 0, none⟩) n n ∧ Hp F0 w0 w' ro (rBlk g T cs :: rs)) :=
  OpTo.run (.slice (some ⟨w.heap.size, 0, none⟩) n n) (newVal_run hn w rfl) ⟨_, rfl, h.alloc T cs⟩
theorem x_bs0 (h : Hp F0 w0 w ro rs) (T : TypeId) (sz : Nat) (hn : newVal P (execOp a.eval o) = some (.cells #[] T, fun r => some (.value (.slice (some ⟨r, 0, none⟩) 0 0)))) :
    OpTo P o a w (fun v w' => ∃ A, v = .slice A 0 0 ∧ Hp F0 w0 w' ro (rOV T sz (.slice A 0 0) [] :: rs)) := by
  refine (x_bs h T [] 0 hn).mono fun v w' hr => ?_
  obtain ⟨g, hv, h'⟩ := hr
  have hb : Blk w' g T [] := h'.own 0 _ rfl
  refine ⟨_, hv, h'.upd 0 rfl (Fr.refl _ _) (rOV T sz (.slice (some ⟨g, 0, none⟩) 0 0) []) ⟨⟨by simp, .inr ⟨g, 0, #[], rfl, Nat.zero_le _, hb, Nat.le_refl _, by unfold maxLen; omega, by simp, by simp⟩⟩, by simp, by simp⟩ (fun q hq => .inl ?_)⟩
  have : g = q := by simpa [rOV, Value.ownBlock] using hq
  exact this.symm
theorem x_bs0B (h : Hp F0 w0 w ro rs) (hn : newVal P (execOp a.eval o) = some (.cells #[] 5, fun r => some (.value (.slice (some ⟨r, 0, none⟩) 0 0)))) :
    OpTo P o a w (fun v w' => ∃ A, v = .slice A 0 0 ∧ Hp F0 w0 w' ro (rOB (.slice A 0 0) [] :: rs)) := by
  refine (x_bs h 5 [] 0 hn).mono fun v w' hr => ?_
  obtain ⟨g, hv, h'⟩ := hr
  have hb : Blk w' g 5 [] := h'.own 0 _ rfl
  refine ⟨_, hv, h'.upd 0 rfl (Fr.refl _ _) (rOB (.slice (some ⟨g, 0, none⟩) 0 0) []) (OB.new w' g [] (by simp) hb (Nat.zero_le _)) (fun q hq => .inl ?_)⟩
  have : g = q := by simpa [rOB, Value.ownBlock] using hq
  exact this.symm
theorem SB.rvn {l : Bytes} {n : Nat} (h : SB w (.slice A n c) l) : (bx l).length = n ∧ RV w 1 A c (bx l) := by
  obtain ⟨A', c', e, h1, h2, h3⟩ := id h
  injection e with e1 e2 e3
  subst e2
  exact ⟨bx_len l, SB.rv h⟩
theorem OV.rvn {base E : Nat} {n : Nat} (h : OV w base E sz (.slice A n c) xs) : xs.length = n ∧ RV w sz A c xs := ⟨(OV.rv h).1.symm, (OV.rv h).2⟩
/-- append of one element, its answer as one likes to spell it. -/
theorem x_pushG (h : Hp F0 w0 w ro rs) (i j : Nat) {E : TypeId} {v : Value} {g : Nat} {T : TypeId} {news : List Value} (hi : rs[i]? = some (rOV E sz v xs)) (hj : rs[j]? = some (rBlk g T news)) (hij : decide (i ≠ j) = true)
    (s x : Operand) (t : TypeId) (ho : o.op = .call { callee := .builtin .append, args := #[s, x], argTypes := #[t, t] }) (bytes : Nat) (z : Value) (ht : P.underlying t = some (.slice E)) (hinf : (P.info? E).map (fun i => (i.zero, i.size, i.bytes)) = some (some z, sz, bytes))
    (hzs : z.cells.size = sz) (hsz : decide (0 < sz) = true) (hs : a.eval s = v) (c : Nat) (hx : a.eval x = .slice (some ⟨g, 0, none⟩) 1 c) (hn : news.length = sz) (h1 : news.all (·.oneCell') = true)
    (hlen : (xs.length + 1) * bytes ≤ 140737488355328) (hlen2 : xs.length < maxLen) (ys : List (List Value)) (n : Nat) (hys : ys = xs ++ [news]) (hyn : ys.length = n) :
    OpTo P o a w (fun u w' => ∃ A cc, u = .slice A n cc ∧ Hp F0 w0 w' ro (rs.set i (rOV E sz (.slice A n cc) ys))) := by
  subst hys; subst hyn
  refine (x_push h i j hi hj (of_decide_eq_true hij) s x t ho bytes z ht hinf hzs (of_decide_eq_true hsz) hs c hx hn (by simpa using h1) hlen hlen2).mono fun u w' hr => ?_
  obtain ⟨A, cc, rfl, h'⟩ := hr
  exact ⟨A, cc, rfl, h'⟩
theorem x_appG (h : Hp F0 w0 w ro rs) (i : Nat) {v : Value} {l m : Bytes} (hi : rs[i]? = some (rOB v l)) (s x : Operand) (ho : o.op = .call { callee := .builtin .append, args := #[s, x], argTypes := #[35, 35] })
    (u : Value) (hs : a.eval s = v) (hx : a.eval x = u) (hu : SB w u m) (hlen : l.length + m.length ≤ 140737488355328) (r : Bytes) (n : Nat) (hr : r = l ++ m) (hn : r.length = n) :
    OpTo Try.prog o a w (fun u w' => ∃ A cc, u = .slice A n cc ∧ Hp F0 w0 w' ro (rs.set i (rOB (.slice A n cc) r))) := by
  subst hr; subst hn
  refine (x_appB h i hi s x ho u hs hx hu hlen).mono fun u w' hr => ?_
  obtain ⟨A, cc, rfl, h'⟩ := hr
  exact ⟨A, cc, rfl, h'⟩
/-- Box, of one that is there. -/
theorem x_boxS {F : Nat → Prop} {tb : Nat} {s : STab} (h : Hp F0 w0 w ro rs) (i : Nat) (hi : rs[i]? = some (rTab F tb s)) (l : Bytes) (bv : Value) (D : Fin 16 → UInt8) (us : Int) (l' : Bytes) (hp : pureVal Try.prog (execOp a.eval o) = some (.enter 33 #[pt tb 0, bv])) (hb : SB w bv l) (hl : ∀ b ∈ s.boxes, b.body.length ≤ 1000000) (hx16 : ∀ b ∈ s.boxes, b.by_.length = 16) (hn : s.boxes.length < 1000000) (hr : s.box l = some ⟨kl D, us, l'⟩) :
    OpTo Try.prog o a w (fun u' w' => ∃ A cc, u' = .tuple #[.agg (vb (kl D) ++ [Value.int .i64 us, Value.slice A l'.length cc]).toArray, .bool true] ∧ Hp F0 w0 w' ro (rOB (.slice A l'.length cc) l' :: rs)) :=
  (x_box h i hi l bv _ hp hb hl hx16 hn hr).mono fun u w' hq => by
    obtain ⟨K, us', l'', A, cc, hu, hor, h'⟩ := hq
    rcases hor with e | ⟨e, _⟩
    · injection e with e
      injection e with e1 e2 e3
      subst e2; subst e3
      exact ⟨A, cc, by rw [hu, e1]; rfl, h'⟩
    · cases e
theorem x_boxN {F : Nat → Prop} {tb : Nat} {s : STab} (h : Hp F0 w0 w ro rs) (i : Nat) (hi : rs[i]? = some (rTab F tb s)) (l : Bytes) (bv : Value) (hp : pureVal Try.prog (execOp a.eval o) = some (.enter 33 #[pt tb 0, bv])) (hb : SB w bv l) (hl : ∀ b ∈ s.boxes, b.body.length ≤ 1000000) (hx16 : ∀ b ∈ s.boxes, b.by_.length = 16) (hn : s.boxes.length < 1000000) (hr : s.box l = none) :
    OpTo Try.prog o a w (fun u' w' => ∃ A cc, u' = .tuple #[.agg (vb zKey ++ [Value.int .i64 0, Value.slice A 0 cc]).toArray, .bool false] ∧ Hp F0 w0 w' ro rs) :=
  (x_box h i hi l bv _ hp hb hl hx16 hn hr).mono fun u w' hq => by
    obtain ⟨K, us', l'', A, cc, hu, hor, h'⟩ := hq
    rcases hor with e | ⟨_, e1, e2, e3⟩
    · cases e
    · subst e2; subst e3
      exact ⟨A, cc, by rw [hu, e1]; rfl, h'.drop 0⟩
theorem e_sadd (x y : Operand) (t t' : TypeId) (ho : o.op = .binOp .add t x y t') (p q : ByteArray) (hx : a.eval x = .string p) (hy : a.eval y = .string q) (hp : p.size ≤ 1000000) (hq : q.size ≤ 1000000) (W : World) :
    (execOp a.eval o).run P W = .ok (.value (.string (p ++ q))) W := by
  unfold execOp
  simp only [ho, hx, hy, eqGuard_add, binOp_string_add, run_string_add_sum _ p q (by omega), Sem.run_bind, Sem.run_pure, Result.andThen_ok]
theorem u8_wrap (x : Int) : ∃ b : UInt8, IntKind.u8.wrap x = ub b := by
  refine ⟨toB (IntKind.u8.wrap x), (ub_u8 ?_ ?_).symm⟩ <;> (rw [IntKind.wrap_u8]; omega)
/-- A byte is stored into a row of the call's own. -/
theorem x_storeB (h : Hp F0 w0 w ro rs) (i : Nat) {n : Nat} {l : Bytes} (hi : rs[i]? = some (rOB (.slice A n c) l)) (j : Nat) (hj : j < l.length) (t : TypeId) (x y : Operand) (ho : o.op = .store t x y) (bv : UInt8) (hx : a.eval x = eAt A (j * 1 + 0)) (hy : a.eval y = .int .u8 (ub bv)) (hsz : (P.info? t).map (·.size) = some 1) :
    OpTo P o a w (fun _ w' => Hp F0 w0 w' ro (rs.set i (rOB (.slice A n c) (l.set j bv)))) := by
  have hv : OB w 0 (.slice A n c) l := h.own i _ hi
  obtain ⟨h1, h2⟩ := id hv
  rcases h2 with ⟨e, h0⟩ | ⟨g, cap, cur, e, hg, hh, hn, hm, hs, ht⟩
  · omega
  · injection e with e1 e2 e3
    subst e1; subst e2; subst e3
    have hb : Blk w g 5 cur.toList := by unfold Blk; simpa using hh
    have hx' : a.eval x = .pointer (some ⟨g, j, none⟩) := by
      rw [hx]; simp only [eAt, Addr.add, Nat.mul_one, Nat.add_zero, Nat.zero_add]
      by_cases h0 : j = 0
      · subst h0; rfl
      · simp [h0]
    have hl : j < cur.toList.length := by simp; omega
    refine OpTo.runs (w' := w.setCell ⟨g, j, none⟩ (.int .u8 (ub bv))) (exec_storeCell t x y ho g j _ hx' hy 5 cur.toList hb hl hsz rfl rfl) ?_
    have hf := Fr.setCell w g j (.int .u8 (ub bv))
    exact h.upd i hi ⟨hf.os, hf.tape, hf.output, hf.size, fun k hk hn => hf.block k hk (fun e => hn (by subst e; rfl))⟩ (rOB (.slice (some ⟨g, 0, none⟩) l.length c) (l.set j bv)) (hv.set j bv) (fun q hq => .inl hq)
theorem e_rem (x y : Operand) (t t' : TypeId) (ho : o.op = .binOp .rem t x y t') (m n : Nat) (hx : a.eval x = .int .i64 (m : Int)) (hy : a.eval y = .int .i64 (n : Int)) (hn : 0 < n) (W : World) :
    (execOp a.eval o).run P W = .ok (.value (.int .i64 ((m % n : Nat) : Int))) W := by
  have h0 : ¬ ((n : Int) = 0) := by omega
  unfold execOp
  simp only [ho, hx, hy, eqGuard_rem, binOp_rem, Op.intDiv, Sem.run_bind, Sem.run_pure, Result.andThen_ok, if_neg h0, Int.ofNat_tmod]
end
end Go.Proofs.Ytpkelokaammmjaa
end
