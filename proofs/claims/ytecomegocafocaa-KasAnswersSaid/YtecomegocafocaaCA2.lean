/- Operations as runs: sums, loads, extracts. -/
import Derived.Laws.Rows
import Derived.ChangeKeysEq
import Derived.Laws.CopyRow
import Derived.Test.YtecomegocafocaaCA1
set_option maxRecDepth 100000
set_option maxHeartbeats 4000000
namespace Go.Proofs.Ytecomegocafocaa
section
open Go.RowKit Go.QT
/-! ### Words -/
def pt (b k : Nat) : Value := .pointer (some ⟨b, k, none⟩)
def rBlk (g : Nat) (T : TypeId) (cs : List Value) : Res where
  F := fun q => q = g
  Φ := fun w => Blk w g T cs
  lt := fun h q hq => by subst hq; exact h.lt
  keep := fun h _ hk => (hk g rfl).trans h
def rOB (v : Value) (l : Bytes) : Res where
  F := fun q => v.ownBlock = some q
  Φ := fun w => OB w 0 v l
  lt := fun h q hq => (OB.own h q hq).2
  keep := fun h _ hk => OB.keep h hk
def rOV (E : TypeId) (sz : Nat) (v : Value) (xs : List (List Value)) : Res where
  F := fun q => v.ownBlock = some q
  Φ := fun w => OV w 0 E sz v xs
  lt := fun h q hq => (h.block q hq).2
  keep := fun h _ hk => h.keep hk
def rSB (v : Value) (l : Bytes) : Res where
  F := fun q => l ≠ [] ∧ v.ownBlock = some q
  Φ := fun w => SB w v l
  lt := fun h q hq => by
    obtain ⟨A, c, rfl, hc, hm, h⟩ := h
    obtain ⟨b, o, rfl, hb, _⟩ := h hq.1
    have : b = q := by simpa [Value.ownBlock] using hq.2
    omega
  keep := fun h hs hk => by
    obtain ⟨A, c, rfl, hc, hm, h⟩ := h
    refine ⟨A, c, rfl, hc, hm, fun hl => ?_⟩
    obtain ⟨b, o, rfl, hb, hcell⟩ := h hl
    exact ⟨b, o, rfl, by omega, fun i hi => (World.cell?_of_block (hk b ⟨hl, rfl⟩)).trans (hcell i hi)⟩
/-- Sixteen bytes whose places the kernel can see. -/
def kl (K : Fin 16 → UInt8) : Bytes := List.ofFn K
theorem kl_len (K : Fin 16 → UInt8) : (kl K).length = 16 := by simp [kl]
theorem kl_of (l : Bytes) (h : l.length = 16) : ∃ K, l = kl K := by
  refine ⟨fun i => l[i.val]'(by have := i.isLt; omega), ?_⟩
  apply List.ext_getElem
  · simp [kl, h]
  · intro i h1 h2; simp only [kl, List.getElem_ofFn]
/-! ### What needs no world -/
def pureVal (P : Program) {α : Type} : Sem α → Option α
  | .pure a => some a
  | .program k => pureVal P (k P)
  | .mark _ k => pureVal P k
  | _ => none
theorem pureVal_run {P : Program} {α : Type} {s : Sem α} {a : α} (h : pureVal P s = some a) (w : World) : s.run P w = .ok a w := by
  induction s with
  | pure b => simp only [pureVal, Option.some.injEq] at h; subst h; rfl
  | program k ih => exact ih P h
  | mark m k ih => exact ih h
  | _ => simp [pureVal] at h
def pureOp (P : Program) (o : Oper) (a : Act) : Option Value :=
  match pureVal P (execOp a.eval o) with
  | some (.value v) => some v
  | _ => none
theorem pureOp_run {P : Program} {o : Oper} {a : Act} {v : Value} (h : pureOp P o a = some v) (w : World) : (execOp a.eval o).run P w = .ok (.value v) w := by
  unfold pureOp at h
  split at h
  · rename_i u hu
    injection h with h; subst h
    exact pureVal_run hu w
  · cases h
theorem e_is {P : Program} {o : Oper} {a : Act} {v u : Value} (h : pureOp P o a = some v) (e : v = u) {w : World} : (execOp a.eval o).run P w = .ok (.value u) w := by subst e; exact pureOp_run h w
section
variable {P : Program} {ops : Array Oper} {rest l l' : List Oper} {o : Oper} {a : Act} {w w' : World} {Q : Exit → Act → World → Prop} {R : Value → World → Prop}
/-- What is to be shown of the operations of a region that are still to come. -/
structure WL (P : Program) (ops : Array Oper) (Q : Exit → Act → World → Prop) (l : List Oper) (a : Act) (w : World) : Prop where
  run : wpList P ops Q l a w
theorem reg_lit {id : Nat} (h : WL P l.toArray Q l a w) : (Code.region id l.toArray false).wp P Q a w := wp_region_lit h.run
/-! ### What an operation comes to -/
structure OpTo (P : Program) (o : Oper) (a : Act) (w : World) (R : Value → World → Prop) : Prop where
  goes : ∀ (next : Act → World → Prop) (Q : Exit → Act → World → Prop), (∀ v w', R v w' → next (a.put o.dst v) w') → o.wp P a w next Q
theorem OpTo.run (v : Value) (hv : (execOp a.eval o).run P w = .ok (.value v) w') (hr : R v w') : OpTo P o a w R := ⟨fun next Q k => by
  unfold Oper.wp; rw [hv]; exact k _ _ hr⟩
theorem OpTo.runs (hv : (execOp a.eval o).run P w = .ok .skip w') (hr : R undef w') : OpTo P o a w R := ⟨fun next Q k => by
  unfold Oper.wp; rw [hv]; exact k _ _ hr⟩
/-- A call, told by the kernel. -/
theorem OpTo.enter {C : Ending → World → Prop} (fn : FuncId) (al : List Value) (hp : pureVal P (execOp a.eval o) = some (.enter fn al.toArray)) (hc : Calls P fn al.toArray w C) (h : ∀ e w', C e w' → ∃ v, e = .returned v ∧ R v w') : OpTo P o a w R := ⟨fun next Q k => by
  unfold Oper.wp
  rw [pureVal_run hp w, Oper.upon_enter]
  refine hc.mono fun e w' hR => ?_
  obtain ⟨v, rfl, hn⟩ := h e w' hR
  exact k _ _ hn⟩
/-- What makes one block. -/
def newVal (P : Program) {α : Type} : Sem α → Option (Obj × (Nat → Option α))
  | .new o k => some (o, fun r => pureVal P (k r))
  | .program k => newVal P (k P)
  | .mark _ k => newVal P k
  | _ => none
theorem newVal_run {P : Program} {α : Type} {s : Sem α} {o : Obj} {k : Nat → Option α} {a : α} (h : newVal P s = some (o, k)) (w : World) (hk : k w.heap.size = some a) : s.run P w = .ok a (w.alloc o) := by
  induction s with
  | new o' k' ih =>
    simp only [newVal, Option.some.injEq, Prod.mk.injEq] at h
    obtain ⟨rfl, rfl⟩ := h
    exact pureVal_run hk _
  | program k' ih => exact ih P h
  | mark m k' ih => exact ih h
  | _ => simp [newVal] at h
theorem OpTo.mono {R' : Value → World → Prop} (h : OpTo P o a w R) (k : ∀ v w', R v w' → R' v w') : OpTo P o a w R' := ⟨fun next Q n => h.goes next Q fun v w' hr => n v w' (k v w' hr)⟩
/-- A step of a plain region. -/
theorem wl_to (hw : Region.wanted o (yielded ops a.tmps) = true) (h : OpTo P o a w R) (k : ∀ v w', R v w' → WL P ops Q rest (a.put o.dst v) w') : WL P ops Q (o :: rest) a w :=
  ⟨wpList_step fun K hK => by
    rw [if_pos hw]
    exact h.goes _ _ fun v w' hr => hK _ _ (k v w' hr).run⟩
/-- One that leaves the world. -/
theorem wl_v (hw : Region.wanted o (yielded ops a.tmps) = true) (v : Value) (hv : (execOp a.eval o).run P w = .ok (.value v) w) (k : WL P ops Q rest (a.put o.dst v) w) : WL P ops Q (o :: rest) a w :=
  ⟨wl_runG hw v hv k.run⟩
/-! ### Operations on what is held -/
variable {F0 : Nat → Prop} {w0 : World} {ro rs : List Res}
theorem Hp.alloc (h : Hp F0 w0 w ro rs) (T : TypeId) (cs : List Value) : Hp F0 w0 (w.alloc (.cells cs.toArray T)) ro (rBlk w.heap.size T cs :: rs) :=
  h.newS ((Below.refl _ _).alloc (Nat.le_refl _) _) (rBlk w.heap.size T cs) (Blk.new w T cs) (fun q hq => by rw [show q = _ from hq]; exact Nat.le_refl _)
theorem x_new (h : Hp F0 w0 w ro rs) (T : TypeId) (cs : List Value) (f : Nat → Value) (hn : newVal P (execOp a.eval o) = some (.cells cs.toArray T, fun r => some (.value (f r)))) :
    OpTo P o a w (fun v w' => ∃ g, v = f g ∧ Hp F0 w0 w' ro (rBlk g T cs :: rs)) :=
  OpTo.run (f w.heap.size) (newVal_run hn w rfl) ⟨_, rfl, h.alloc T cs⟩
/-- A load of one cell of a block that is held. -/
theorem e_load {g : Nat} {T : TypeId} {cs : List Value} (hb : Blk w g T cs) (t : TypeId) (x : Operand) (ho : o.op = .load t x) (k : Nat) (v : Value) (hx : a.eval x = pt g k) (hk : cs[k]? = some v) (ht : pureVal P (isAgg t) = some false) :
    (execOp a.eval o).run P w = .ok (.value v) w := by
  have hc : w.cell? ⟨g, k, none⟩ = some v := (hb.cell k).trans hk
  have hl : (loadVar t ⟨g, k, none⟩).run P w = .ok v w := by simp [loadVar, pureVal_run ht, hc]
  unfold execOp
  simp only [ho, hx, pt, Instr.loadAt, Instr.sureAddr, Sem.run_bind, Sem.run_pure, Result.andThen_ok, hl]
def rowB (P : Program) (t : TypeId) (n : Nat) : Bool := (match P.underlying t with | some d => d.isRow | none => false) && ((P.info? t).map (·.size) == some n)
theorem rowB_spec {t : TypeId} {n : Nat} (h : rowB P t n = true) : ∃ d, P.underlying t = some d ∧ d.isRow = true ∧ (P.info? t).map (·.size) = some n := by
  unfold rowB at h
  simp only [Bool.and_eq_true, beq_iff_eq] at h
  obtain ⟨h1, h2⟩ := h
  cases hd : P.underlying t with
  | none => rw [hd] at h1; cases h1
  | some d => rw [hd] at h1; exact ⟨d, rfl, h1, h2⟩
/-- A load of a row. -/
theorem e_loads {g : Nat} {T : TypeId} {cs : List Value} (hb : Blk w g T cs) (t : TypeId) (x : Operand) (ho : o.op = .load t x) (k : Nat) (ds : List Value) (hx : a.eval x = pt g k) (hk : (cs.drop k).take ds.length = ds) (hB : rowB P t ds.length = true) : (execOp a.eval o).run P w = .ok (.value (.agg ds.toArray)) w := by
  obtain ⟨d, hu, hr, hi⟩ := rowB_spec hB
  exact exec_load t x ho g k hx T cs ds d hb (fun j v hj => slice_get cs k ds.length j v (by rw [hk]; exact hj)) hu hr hi
theorem Fr.setCell (w : World) (g k : Nat) (v : Value) : Fr (fun q => q = g) w (w.setCell ⟨g, k, none⟩ v) :=
  Fr.of_grown (only_setCell (only_refl w (some g)) (.inl rfl) v) (fun q hq => by injection hq with hq; exact .inl hq.symm)
/-- A store into a block that is held. -/
theorem x_store (h : Hp F0 w0 w ro rs) (i : Nat) {g : Nat} {T : TypeId} {cs : List Value} (hi : rs[i]? = some (rBlk g T cs)) (t : TypeId) (x y : Operand) (ho : o.op = .store t x y) (k : Nat) (v : Value) (es : List Value) (hx : a.eval x = pt g k) (hy : a.eval y = v) (hk : decide (k < cs.length) = true)
    (hsz : (P.info? t).map (·.size) = some 1) (h1 : v.oneCell' = true) (hv : v.cells = #[v]) (he : es = cs.set k v) :
    OpTo P o a w (fun _ w' => Hp F0 w0 w' ro (rs.set i (rBlk g T es))) := by
  subst he
  have hb : Blk w g T cs := h.own i _ hi
  refine OpTo.runs (w' := w.setCell ⟨g, k, none⟩ v) (exec_storeCell t x y ho g k v hx hy T cs hb (of_decide_eq_true hk) hsz h1 hv) ?_
  exact h.upd i hi (Fr.setCell w g k v) (rBlk g T (cs.set k v)) (hb.set k v) (fun q hq => .inl hq)
theorem x_stores (h : Hp F0 w0 w ro rs) (i : Nat) {g : Nat} {T : TypeId} {cs : List Value} (hi : rs[i]? = some (rBlk g T cs)) (t : TypeId) (x y : Operand) (ho : o.op = .store t x y) (k : Nat) (ds es : List Value) (hx : a.eval x = pt g k) (hy : a.eval y = .agg ds.toArray) (hk : decide (k + ds.length ≤ cs.length) = true)
    (hsz : (P.info? t).map (·.size) = some ds.length) (h1 : ds.all (·.oneCell') = true) (he : es = cs.take k ++ ds ++ cs.drop (k + ds.length)) :
    OpTo P o a w (fun _ w' => Hp F0 w0 w' ro (rs.set i (rBlk g T es))) := by
  have hb : Blk w g T cs := h.own i _ hi
  subst he
  refine OpTo.runs (exec_storeRow t x y ho g k ds hx hy T cs hb (of_decide_eq_true hk) hsz (by simpa using h1)) ?_
  exact h.upd i hi (Fr.of_grown (only_setRow g _) (fun q hq => by injection hq with hq; exact .inl hq.symm)) _ (hb.setRow _) (fun q hq => .inl hq)
/-! ### Regions that draw their order -/
def marks (L : Array Bool) (is : List Nat) : Array Bool := is.foldl (fun L i => L.setIfInBounds i true) L
section
variable {md : Region.Mode} {S : World → Prop} {p : Nat} {L : Array Bool}
def bl (n m : Nat) : Array Bool := ((List.range n).map (Nat.testBit m)).toArray
/-- What leaves the world, as long as S holds of it. -/
theorem pH_v {f : Nat} (i : Nat) (d : Option Tmp) (v : Value) (L' : Array Bool) (hL : marks L [i] = L') (hi : ops[i]? = some o) (hd : o.dst = d) (hs : Region.noSelect ops = true) (hf : Region.free md ops L i = true) (hr : (Region.ready md ops L).contains i = true)
    (hph : phaseB md ops p = true) (hip : decide (i < p) = true) (hQ : ∀ c d v a w, Q (.panic c) (Act.put a d v) w → Q (.panic c) a w) (hw : Region.wanted o (yielded ops a.tmps) = true) (hS : S w)
    (hv : ∀ W, S W → (execOp a.eval o).run P W = .ok (.value v) W) (k : wpAnyT P md ops Q S p f L' (a.put d v) w) : wpAnyT P md ops Q S p (f + 1) L a w := by
  subst hL; exact pH_val d v hi hd hs hf hr hph hip hQ hw hS hv k
/-- What comes up alone. -/
theorem pH_to {f : Nat} (i : Nat) (d : Option Tmp) (L' : Array Bool) (hL : marks L [i] = L') (hi : ops[i]? = some o) (hd : o.dst = d) (hr : Region.ready md ops L = [i]) (hw : Region.wanted o (yielded ops a.tmps) = true)
    (h : OpTo P o a w R) (k : ∀ v w', R v w' → (i < p → S w') ∧ wpAnyT P md ops Q S p f L' (a.put d v) w') : wpAnyT P md ops Q S p (f + 1) L a w := by
  subst hL; subst hd
  refine pH_all hr rfl fun j hj => ?_
  have hji : j = i := by simpa using hj
  subst hji
  unfold wpOp
  simp only [hi]
  rw [if_pos hw]
  exact .inl (h.goes _ _ fun v w' hr => k v w' hr)
theorem pH_op {f : Nat} (i : Nat) (d : Option Tmp) (L' : Array Bool) (hL : marks L [i] = L') (hi : ops[i]? = some o) (hd : o.dst = d) (hw : Region.wanted o (yielded ops a.tmps) = true)
    (h : OpTo P o a w R) (k : ∀ v w', R v w' → (i < p → S w') ∧ wpAnyT P md ops Q S p f L' (a.put d v) w') :
    wpOp P ops Q i (fun a' w' => (i < p → S w') ∧ wpAnyT P md ops Q S p f (L.setIfInBounds i true) a' w') a w := by
  subst hL; subst hd
  unfold wpOp
  simp only [hi]
  rw [if_pos hw]
  exact .inl (h.goes _ _ fun v w' hr => k v w' hr)
/-- Two come up together. -/
theorem pH_or {f : Nat} (i j : Nat) (hr : Region.ready md ops L = [i, j])
    (h1 : wpOp P ops Q i (fun a' w' => (i < p → S w') ∧ wpAnyT P md ops Q S p f (L.setIfInBounds i true) a' w') a w)
    (h2 : wpOp P ops Q j (fun a' w' => (j < p → S w') ∧ wpAnyT P md ops Q S p f (L.setIfInBounds j true) a' w') a w) : wpAnyT P md ops Q S p (f + 1) L a w := by
  refine pH_all hr rfl fun k hk => ?_
  rcases List.mem_cons.1 hk with rfl | hk
  · exact h1
  · have : k = j := by simpa using hk
    subst this; exact h2
theorem pH_go {F0 : Nat → Prop} {w0 : World} {ro rs : List Res} (h : Hp F0 w0 w ro rs) {id : Nat} {n : Nat} (p : Nat) (S : World → Prop) (hm : P.follows .mixedOrders = true) (hn : l.length = n) (hL : Array.replicate n false = bl n 0) (hs : Region.noSelect l.toArray = true) (hph : phaseB .any l.toArray p = true)
    (k : Region.noSelect l.toArray = true → phaseB .any l.toArray p = true → ∀ w', Hp F0 w0 w' ro rs → wpAnyT P .any l.toArray Q S p n (bl n 0) a w') : (Code.region id l.toArray true).wp P Q a w :=
  pH_begin p S hm hn (hL ▸ k hs hph _ (h.drewN 1))
end
/-! ### Control -/
theorem wl_end (hl : l = []) (h : Q .normal a w) : WL P ops Q l a w := by subst hl; exact ⟨h⟩
theorem seq_n {c : Code} {K : Act → World → Prop} (hK : ∀ a w, c.wp P Q a w → K a w) (h : c.wp P Q a w) : Exit.then K Q .normal a w := hK _ _ h
theorem seq_e {K : Act → World → Prop} {e : Nat} (h : Q (.exit e) a w) : Exit.then K Q (.exit e) a w := h
theorem seq_r {K : Act → World → Prop} (h : Q .ret a w) : Exit.then K Q .ret a w := h
theorem blk_n {i : Nat} (h : Q .normal a w) : Exit.inBlock i Q .normal a w := h
theorem blk_e {i : Nat} (h : Q .normal a w) : Exit.inBlock i Q (.exit i) a w := by
  show (if i = i then Q .normal a w else Q (.exit i) a w)
  rw [if_pos rfl]; exact h
theorem blk_r {i : Nat} (h : Q .ret a w) : Exit.inBlock i Q .ret a w := h
def dead (a : Act) : Nat → Value := fun i => a.tmps.getD i undef
theorem least {p : Nat → Prop} (h : ∃ m, p m) : ∃ m, p m ∧ ∀ k, p k → m ≤ k := by
  obtain ⟨m, hm⟩ := h
  induction m using Nat.strongRecOn with
  | _ m ih =>
    by_cases hk : ∃ k, k < m ∧ p k
    · obtain ⟨k, hlt, hp⟩ := hk; exact ih k hlt hp
    · exact ⟨m, hm, fun k hp => Nat.le_of_not_lt fun hlt => hk ⟨k, hlt, hp⟩⟩
open Classical in
noncomputable def leastN (p : Nat → Prop) : Nat := if h : ∃ m, p m then (least h).choose else 0
theorem leastN_spec {p : Nat → Prop} (h : ∃ m, p m) : p (leastN p) ∧ ∀ k, p k → leastN p ≤ k := by
  unfold leastN; rw [dif_pos h]; exact (least h).choose_spec
/-- A loop: J m x a w holds at its head, where m goes down. -/
theorem wp_loopm {c : Code} (J : Nat → (Nat → Value) → Act → World → Prop) (h0 : ∃ m, J m (dead a) a w)
    (round : ∀ m x a w, J m x a w → c.wp P (Exit.then (fun a' w' => ∃ m', m' < m ∧ J m' (dead a') a' w') Q) a w) : (Code.loop c).wp P Q a w := by
  refine wp_loop (fun a w => ∃ m, J m (dead a) a w) (fun a w => leastN fun m => J m (dead a) a w) h0 ?_
  intro a w h
  refine wp_mono (round _ _ a w (leastN_spec h).1) fun e a' w' hq => ?_
  cases e with
  | normal =>
    obtain ⟨m', hlt, hJ⟩ := hq
    exact ⟨⟨m', hJ⟩, Nat.lt_of_le_of_lt ((leastN_spec ⟨m', hJ⟩).2 m' hJ) hlt⟩
  | _ => exact hq
variable {x y : Code}
theorem wp_if (p : Prop) [Decidable p] {c : Operand} (hc : a.eval c = .bool (decide p)) (ht : p → x.wp P Q a w) (hf : ¬ p → y.wp P Q a w) : (Code.cond c x y).wp P Q a w := by
  by_cases h : p
  · exact wp_cond_true (by rw [hc, decide_eq_true h]) (ht h)
  · exact wp_cond_false (by rw [hc, decide_eq_false h]) (hf h)
theorem wp_ifeq (m n : Int) {c : Operand} (hc : a.eval c = .bool (m == n)) (ht : m = n → x.wp P Q a w) (hf : m ≠ n → y.wp P Q a w) : (Code.cond c x y).wp P Q a w := by
  by_cases h : m = n
  · exact wp_cond_true (by rw [hc, beq_iff_eq.2 h]) (ht h)
  · exact wp_cond_false (by rw [hc]; simp [h]) (hf h)
/-! ### Results -/
def resOne (tmps : Array Value) : ResultVar → Sem Value
  | .tmp t => pure (tmps.getD t undef)
  | .cell a t => do loadVar t (← asAddr (tmps.getD a undef))
theorem results_eq (fn : Func) (tmps : Array Value) : results fn tmps = (do
    let vs ← fn.results.mapM (resOne tmps)
    pure (if h : vs.size = 1 then vs[0] else .tuple vs)) := by
  unfold results
  congr 1
theorem rtmp {tmps : Array Value} {t : Tmp} {v : Value} (h : tmps.getD t undef = v) : (resOne tmps (.tmp t)).run P w = .ok v w := by
  subst h; rfl
theorem rcell {tmps : Array Value} {p : Tmp} {t : TypeId} {g : Nat} {T : TypeId} {cs : List Value} (hb : Blk w g T cs) (h : tmps.getD p undef = pt g 0) (hB : rowB P t cs.length = true) : (resOne tmps (.cell p t)).run P w = .ok (.agg cs.toArray) w := by
  obtain ⟨d, hu, hr, hi⟩ := rowB_spec hB
  have hl := run_loadVar_mid (P := P) w g 0 t cs d (hb.range (fun j v hj => by rw [Nat.zero_add]; exact hj)) hu hr hi
  unfold resOne
  simp only [h, pt, asAddr, Sem.run_bind, Sem.run_pure, Result.andThen_ok, hl]
theorem post_1 {fn : Func} {R : Ending → World → Prop} {r : ResultVar} {v : Value} (hf : fn.results = #[r]) (hd : a.defers = []) (h1 : (resOne a.tmps r).run P w = .ok v w) (hr : R (.returned v) w) : bodyPost P fn R .ret a w :=
  ⟨hd, v, by rw [results_eq, hf]; simp [h1], hr⟩
theorem post_2 {fn : Func} {R : Ending → World → Prop} {r s : ResultVar} {v u : Value} (hf : fn.results = #[r, s]) (hd : a.defers = []) (h1 : (resOne a.tmps r).run P w = .ok v w) (h2 : (resOne a.tmps s).run P w = .ok u w)
    (hr : R (.returned (.tuple #[v, u])) w) : bodyPost P fn R .ret a w :=
  ⟨hd, _, by rw [results_eq, hf]; simp [h1, h2], hr⟩
theorem post_3 {fn : Func} {R : Ending → World → Prop} {r s t : ResultVar} {v u x : Value} (hf : fn.results = #[r, s, t]) (hd : a.defers = []) (h1 : (resOne a.tmps r).run P w = .ok v w) (h2 : (resOne a.tmps s).run P w = .ok u w) (h3 : (resOne a.tmps t).run P w = .ok x w)
    (hr : R (.returned (.tuple #[v, u, x])) w) : bodyPost P fn R .ret a w :=
  ⟨hd, _, by rw [results_eq, hf]; simp [h1, h2, h3], hr⟩
def act0 (l : List Value) (n : Nat) : Act := { tmps := (l ++ List.replicate n undef).toArray, defers := [] }
theorem enter {f : FuncId} {fn : Func} {c : Code} {args : List Value} {R : Ending → World → Prop} (n : Nat) (hf : P.funcs[f]? = some fn) (hb : fn.body = some c) (hn : fn.ntmps - args.length = n)
    (h : c.wp P (bodyPost P fn R) (act0 args n) w) : Calls P f args.toArray w R := by
  refine calls_of_wp hf hb ?_
  have e : ({ tmps := args.toArray ++ Array.replicate (fn.ntmps - args.toArray.size) undef, defers := [] } : Act) = act0 args n := by
    subst hn
    simp [act0]
  rw [e]; exact h
end
theorem rce {P : Program} {w : World} {tmps : Array Value} {p : Tmp} {t : TypeId} {g : Nat} {T : TypeId} {cs : List Value} (hb : Blk w g T cs) (h : tmps.getD p undef = pt g 0 := by kernel_rfl) (hB : rowB P t cs.length = true := by kernel_rfl) : (resOne tmps (.cell p t)).run P w = .ok (.agg cs.toArray) w := rcell hb h hB
theorem xN {P : Program} {F0 : Nat → Prop} {w0 w : World} {ro rs : List Res} {a : Act} {o : Oper} (h : Hp F0 w0 w ro rs) (T : TypeId) (cs : List Value) (hn : newVal P (execOp a.eval o) = some (.cells cs.toArray T, fun r => some (.value (pt r 0))) := by kernel_rfl) :
    OpTo P o a w (fun v w' => ∃ g, v = pt g 0 ∧ Hp F0 w0 w' ro (rBlk g T cs :: rs)) := x_new h T cs (fun r => pt r 0) hn
theorem rtm {P : Program} {w : World} {tmps : Array Value} {t : Tmp} (v : Value) (h : tmps.getD t undef = v := by kernel_rfl) : (resOne tmps (.tmp t)).run P w = .ok v w := rtmp h
theorem cF {P : Program} {Q : Exit → Act → World → Prop} {a : Act} {w : World} {c : Operand} {x y : Code} (h : y.wp P Q a w) (hc : a.eval c = .bool false := by kernel_rfl) : (Code.cond c x y).wp P Q a w := wp_cond_false hc h
theorem cT {P : Program} {Q : Exit → Act → World → Prop} {a : Act} {w : World} {c : Operand} {x y : Code} (h : x.wp P Q a w) (hc : a.eval c = .bool true := by kernel_rfl) : (Code.cond c x y).wp P Q a w := wp_cond_true hc h
theorem eL {P : Program} {w : World} {a : Act} {o : Oper} {g : Nat} {T : TypeId} {cs : List Value} (hb : Blk w g T cs) (t : TypeId) (x : Operand) (k : Nat) (v : Value) (ho : o.op = .load t x := by kernel_rfl) (hx : a.eval x = pt g k := by kernel_rfl) (hk : cs[k]? = some v := by kernel_rfl) (ht : pureVal P (isAgg t) = some false := by kernel_rfl) :
    (execOp a.eval o).run P w = .ok (.value v) w := e_load hb t x ho k v hx hk ht
theorem eLs {P : Program} {w : World} {a : Act} {o : Oper} {g : Nat} {T : TypeId} {cs : List Value} (hb : Blk w g T cs) (t : TypeId) (x : Operand) (k : Nat) (ds : List Value) (ho : o.op = .load t x := by kernel_rfl) (hx : a.eval x = pt g k := by kernel_rfl) (hk : (cs.drop k).take ds.length = ds := by kernel_rfl) (hB : rowB P t ds.length = true := by kernel_rfl) : (execOp a.eval o).run P w = .ok (.value (.agg ds.toArray)) w := e_loads hb t x ho k ds hx hk hB
theorem xSt {P : Program} {F0 : Nat → Prop} {w0 w : World} {ro rs : List Res} {a : Act} {o : Oper} (h : Hp F0 w0 w ro rs) (i : Nat) {g : Nat} {T : TypeId} {cs : List Value} (t : TypeId) (x y : Operand) (k : Nat) (v : Value) (es : List Value) (hi : rs[i]? = some (rBlk g T cs) := by rfl) (ho : o.op = .store t x y := by kernel_rfl) (hx : a.eval x = pt g k := by kernel_rfl) (hy : a.eval y = v := by kernel_rfl) (hk : decide (k < cs.length) = true := by kernel_rfl)
    (hsz : (P.info? t).map (·.size) = some 1 := by kernel_rfl) (h1 : v.oneCell' = true := by rfl) (hv : v.cells = #[v] := by rfl) (he : es = cs.set k v := by kernel_rfl) :
    OpTo P o a w (fun _ w' => Hp F0 w0 w' ro (rs.set i (rBlk g T es))) := x_store h i hi t x y ho k v es hx hy hk hsz h1 hv he
theorem xSs {P : Program} {F0 : Nat → Prop} {w0 w : World} {ro rs : List Res} {a : Act} {o : Oper} (h : Hp F0 w0 w ro rs) (i : Nat) {g : Nat} {T : TypeId} {cs : List Value} (t : TypeId) (x y : Operand) (k : Nat) (ds es : List Value) (hi : rs[i]? = some (rBlk g T cs) := by rfl) (ho : o.op = .store t x y := by kernel_rfl) (hx : a.eval x = pt g k := by kernel_rfl) (hy : a.eval y = .agg ds.toArray := by kernel_rfl) (hk : decide (k + ds.length ≤ cs.length) = true := by kernel_rfl)
    (hsz : (P.info? t).map (·.size) = some ds.length := by kernel_rfl) (h1 : ds.all (·.oneCell') = true := by kernel_rfl) (he : es = cs.take k ++ ds ++ cs.drop (k + ds.length) := by kernel_rfl) :
    OpTo P o a w (fun _ w' => Hp F0 w0 w' ro (rs.set i (rBlk g T es))) := x_stores h i hi t x y ho k ds es hx hy hk hsz h1 he
section
variable {P : Program} {ops : Array Oper} {Q : Exit → Act → World → Prop} {md : Region.Mode} {S : World → Prop} {p : Nat}
theorem oV {i : Nat} {o : Oper} {f : Nat} {listed : Array Bool} {a : Act} {w : World} (d : Option Tmp) (v : Value) (hi : ops[i]? = some o) (hd : o.dst = d) (hS : S w) (hv : ∀ W, S W → (execOp a.eval o).run P W = .ok (.value v) W) (h : wpAnyH P md ops Q S f (listed.setIfInBounds i true) (a.put d v) w) (hs : Region.noSelect ops = true := by kernel_rfl) (hf : Region.free md ops listed i = true := by kernel_rfl) (hr : (Region.ready md ops listed).contains i = true := by kernel_rfl)
    (hQ : ∀ c d v a w, Q (.panic c) (Act.put a d v) w → Q (.panic c) a w := by exact fun _ d _ _ _ h => by cases d <;> exact h) (hw : Region.wanted o (yielded ops a.tmps) = true := by kernel_rfl) : wpAnyH P md ops Q S (f + 1) listed a w := oH_val d v hi hd hs hf hr hQ hw hS hv h
theorem oK {i : Nat} {o : Oper} {f : Nat} {listed : Array Bool} {a : Act} {w : World} (d : Option Tmp) (hi : ops[i]? = some o) (hd : o.dst = d) (hS : S w) (h : wpAnyH P md ops Q S f (listed.setIfInBounds i true) (a.put d undef) w) (hs : Region.noSelect ops = true := by kernel_rfl) (hf : Region.free md ops listed i = true := by kernel_rfl) (hr : (Region.ready md ops listed).contains i = true := by kernel_rfl)
    (hQ : ∀ c d v a w, Q (.panic c) (Act.put a d v) w → Q (.panic c) a w := by exact fun _ d _ _ _ h => by cases d <;> exact h) (hw : Region.wanted o (yielded ops a.tmps) = false := by kernel_rfl) : wpAnyH P md ops Q S (f + 1) listed a w := oH_skip d hi hd hs hf hr hQ hw hS h
theorem pV {i : Nat} {o : Oper} {f : Nat} {listed : Array Bool} {a : Act} {w : World} (d : Option Tmp) (v : Value) (hi : ops[i]? = some o) (hd : o.dst = d) (hS : S w) (hv : ∀ W, S W → (execOp a.eval o).run P W = .ok (.value v) W) (h : wpAnyT P md ops Q S p f (listed.setIfInBounds i true) (a.put d v) w) (hs : Region.noSelect ops = true := by kernel_rfl) (hf : Region.free md ops listed i = true := by kernel_rfl) (hr : (Region.ready md ops listed).contains i = true := by kernel_rfl)
    (hph : phaseB md ops p = true := by kernel_rfl) (hip : decide (i < p) = true := by kernel_rfl) (hQ : ∀ c d v a w, Q (.panic c) (Act.put a d v) w → Q (.panic c) a w := by exact fun _ d _ _ _ h => by cases d <;> exact h) (hw : Region.wanted o (yielded ops a.tmps) = true := by kernel_rfl) : wpAnyT P md ops Q S p (f + 1) listed a w := pH_val d v hi hd hs hf hr hph hip hQ hw hS hv h
theorem wE {l : List Oper} {a : Act} {w : World} {c : Code} {K : Act → World → Prop} (hK : ∀ a w, c.wp P Q a w → K a w) (h : c.wp P Q a w) (hl : l = [] := by exact rfl) : WL P ops (Exit.then K Q) l a w := wl_end hl (seq_n hK h)
theorem wR {id : Nat} {l : List Oper} {a : Act} {w : World} {y : Code} (h : ∀ K : Act → World → Prop, (∀ a w, y.wp P Q a w → K a w) → WL P l.toArray (Exit.then K Q) l a w) : (Code.seq (Code.region id l.toArray false) y).wp P Q a w := wp_seq_k fun K hK => reg_lit (h K hK)
theorem u1 {α : Type} (l : List α) (i : Nat) (a : α) : l.toArray.setIfInBounds i a = (l.set i a).toArray := List.setIfInBounds_toArray l i a
theorem u2 {α : Type} (x : α) (l : List α) (i : Nat) (a : α) : (x :: l).set (i + 1) a = x :: l.set i a := List.set_cons_succ ..
theorem u3 {α : Type} (x : α) (l : List α) (a : α) : (x :: l).set 0 a = a :: l := List.set_cons_zero ..
end
abbrev D (n : Int) : Value := .int .i64 n
abbrev O : Value := .int .i64 0
abbrev V : Value := .bool false
abbrev I : Value := .bool true
abbrev nS : Value := .slice none 0 0
abbrev eS : Value := .string ByteArray.empty
end
section
open Go.RowKit Go.QT
/-- Cells laid over others, from a place on. -/
def lay (z : List Value) (off : Nat) (cs : List Value) : List Value := z.take off ++ cs ++ z.drop (off + cs.length)
theorem lay_len (z : List Value) (off : Nat) (cs : List Value) (h : off + cs.length <= z.length) : (lay z off cs).length = z.length := by
 simp [lay]; omega
theorem lay_fold (off : Nat) : ∀ (cs : List Value) (k : Nat) (z : List Value), off + k + cs.length <= z.length ->
   (cs.zipIdx k).foldl (fun (a : List Value) (x : Value × Nat) => a.set (off + x.2) x.1) z = lay z (off + k) cs
 | [], k, z, _ => by simp [lay]
 | c :: cs, k, z, h => by
   simp only [List.length_cons] at h
   have ih := lay_fold off cs (k + 1) (z.set (off + k) c) (by simp; omega)
   simp only [List.zipIdx_cons, List.foldl_cons, ih, lay]
   have h1 : (z.set (off + k) c).take (off + (k + 1)) = z.take (off + k) ++ [c] := by
     rw [← Nat.add_assoc, List.take_succ_eq_append_getElem (by simp; omega), List.take_set_of_le (Nat.le_refl _)]
     simp
   have h2 : (z.set (off + k) c).drop (off + (k + 1) + cs.length) = z.drop (off + k + (cs.length + 1)) := by
     rw [List.drop_set_of_lt (by omega)]
     congr 1; omega
   rw [h1, h2]; simp
theorem fold_list (off : Nat) : ∀ (l : List (Value × Nat)) (z : List Value), l.foldl (fun (a : Array Value) (x : Value × Nat) => a.setIfInBounds (off + x.2) x.1) z.toArray = (l.foldl (fun (a : List Value) (x : Value × Nat) => a.set (off + x.2) x.1) z).toArray
 | [], _ => rfl
 | x :: l, z => by
   simp only [List.foldl_cons, List.setIfInBounds_toArray]
   exact fold_list off l _
theorem fill_one (place : Nat -> Option (Nat × Nat)) (z : List Value) (i off size : Nat) (v : Value) (rest : List (Nat × Value)) (hp : place i = some (off, size)) (hv : v.cells.size = size) (hfit : off + size <= z.length) :
   Instr.fill place z.toArray ((i, v) :: rest) = Instr.fill place (lay z off v.cells.toList).toArray rest := by
 have h1 : (decide (v.cells.size ≠ size) || decide (off + v.cells.size > z.toArray.size)) = false := by
   simp [hv]; exact hfit
 rw [Instr.fill]
 simp only [hp]
 rw [if_neg (by simpa using h1)]
 congr 1
 rw [← Array.foldl_toList, Array.toList_zipIdx]
 have := lay_fold off v.cells.toList 0 z (by simp [hv]; exact hfit)
 rw [Nat.add_zero] at this
 rw [← this]
 exact fold_list off _ z
theorem lay_all (z cs : List Value) (h : z.length = cs.length) : lay z 0 cs = cs := by
 simp [lay, h]
section
variable {P : Program}
/-- []T{x}. -/
theorem exec_bs1 {o : Oper} {a : Act} (t E : TypeId) (x : Operand) (ho : o.op = .buildSlice t 1 #[(0, x)]) (v z : Value) (sz : Nat) (hx : a.eval x = v) (ht : P.underlying t = some (.slice E)) (hi : (P.info? E).map (·.size) = some sz) (hz : ∀ W, (zeroValue E).run P W = .ok z W)
   (hsz : 0 < sz) (hsz2 : sz <= 1000) (hzs : z.cells.size = sz) (hv : v.cells.size = sz) (w : World) :
   (execOp a.eval o).run P w = .ok (.value (.slice (some ⟨w.heap.size, 0, none⟩) 1 1)) (w.alloc (.cells v.cells E)) := by
 cases hq : P.info? E with
 | none => simp [hq] at hi
 | some i =>
   have hs : i.size = sz := by simpa [hq] using hi
   have hzero : ((Array.range (1 * sz)).map fun k => z.cells[k % z.cells.size]!) = z.cells := by
     apply Array.ext
     · simp [hzs]
     · intro j h1 h2
       have hj : j < sz := by simpa using h1
       simp [hzs, Nat.mod_eq_of_lt hj]
       rw [getElem!_pos z.cells j (by omega)]
   have hfill : Instr.fill (fun i => some (i * sz, sz)) z.cells [(0, v)] = some v.cells := by
     have h := fill_one (fun i => some (i * sz, sz)) z.cells.toList 0 0 sz v [] (by simp) hv (by simp [hzs])
     simp only [Array.toArray_toList] at h
     rw [h, lay_all _ _ (by simp [hv, hzs])]
     simp [Instr.fill]
   have hrun : (Instr.buildSlice t 1 #[(0, v)]).run P w = .ok (.slice (some ⟨w.heap.size, 0, none⟩) 1 1) (w.alloc (.cells v.cells E)) := by
     have h0 : ¬ (1 * sz > 2 ^ 24) := by omega
     have h1 : ¬ (1 * sz = 0) := by omega
     simp only [Instr.buildSlice, Sem.run_bind, run_underlying ht, Result.andThen_ok, sizeOf, typeInfo, run_program, hq]
     simp only [Sem.run_pure, Result.andThen_ok, hs]
     rw [if_neg h0, if_neg h1]
     simp only [Sem.run_bind, hz w, Result.andThen_ok, Sem.run_pure, hzero, hfill]
     simp [newRow]
   unfold execOp
   simp [ho, hx, hrun]
end
end
section
open Go.RowKit Go.QT
def fromCells (f : SFrom) : List Value := vb f.of ++ [.string f.label, .bool f.text]
def fromV (f : SFrom) : Value := .agg (fromCells f).toArray
def sealCells (s : SSealed) (v : Value) : List Value := vb s.by_ ++ [.int .i64 s.usage, v]
theorem fromCells_len (f : SFrom) (h : f.of.length = 16) : (fromCells f).length = 18 := by simp [fromCells, h]
theorem fromCells_one (f : SFrom) : ∀ u ∈ fromCells f, u.oneCell' = true := by
 intro u hu
 simp only [fromCells, List.mem_append, List.mem_cons, List.not_mem_nil, or_false] at hu
 rcases hu with h | rfl | rfl
 · exact vb_ones _ u h
 · rfl
 · rfl
/-- A table, its parts named. -/
structure TabR (w : World) (F : Nat -> Prop) (tb mb : Nat) (vk vx vs : Value) (bodies sums : List Value) (es : Array MapEntry) (clock : Nat) (s : STab) : Prop where
 t : Blk w tb 91 [vk, vx, vs, .map (some mb)]
 k : OV w 0 75 18 vk (s.keys.map fromCells)
 kl : ∀ f ∈ s.keys, f.of.length = 16
 x : OV w 0 98 18 vx (List.zipWith sealCells s.boxes bodies)
 xn : bodies.length = s.boxes.length
 xl : ∀ b ∈ s.boxes, b.by_.length = 16
 xb : ∀ (i : Nat) (b : SSealed) (v : Value), s.boxes[i]? = some b -> bodies[i]? = some v -> OB w 0 v b.body /\ (∀ q, v.ownBlock = some q -> F q) /\ v.oneCell' = true
 u : OV w 0 22 1 vs (sums.map fun v => [v])
 un : sums.length = s.sums.length
 ub : ∀ (i : Nat) (b : Bytes) (v : Value), s.sums[i]? = some b -> sums[i]? = some v -> OB w 0 v b /\ (∀ q, v.ownBlock = some q -> F q) /\ v.oneCell' = true
 m : w.heap[mb]? = some (.map es clock)
 me : es.toList.map (fun e => (e.key, e.val)) = s.known.map fun p => (fromV p.1, Value.agg (vb (mkB 107 p.2)).toArray)
 ml : ∀ p ∈ s.known, p.1.of.length = 16
 ft : F tb
 fm : F mb
 fk : ∀ q, vk.ownBlock = some q -> F q
 fx : ∀ q, vx.ownBlock = some q -> F q
 fu : ∀ q, vs.ownBlock = some q -> F q
 fl : ∀ q, F q -> q < w.heap.size
def TabAt (w : World) (F : Nat -> Prop) (tb : Nat) (s : STab) : Prop := ∃ mb vk vx vs bodies sums es clock, TabR w F tb mb vk vx vs bodies sums es clock s
theorem TabR.keep {w w' : World} {F : Nat -> Prop} {tb mb : Nat} {vk vx vs : Value} {bodies sums : List Value} {es : Array MapEntry} {clock : Nat} {s : STab} (h : TabR w F tb mb vk vx vs bodies sums es clock s)
   (hs : w.heap.size <= w'.heap.size) (hk : ∀ q, F q -> w'.heap[q]? = w.heap[q]?) : TabR w' F tb mb vk vx vs bodies sums es clock s :=
 { h with
   t := (hk tb h.ft).trans h.t
   k := h.k.keep fun q hq => hk q (h.fk q hq)
   x := h.x.keep fun q hq => hk q (h.fx q hq)
   u := h.u.keep fun q hq => hk q (h.fu q hq)
   xb := fun i b v h1 h2 => by
     obtain ⟨a1, a2, a3⟩ := h.xb i b v h1 h2
     exact ⟨OB.keep a1 fun q hq => hk q (a2 q hq), a2, a3⟩
   ub := fun i b v h1 h2 => by
     obtain ⟨a1, a2, a3⟩ := h.ub i b v h1 h2
     exact ⟨OB.keep a1 fun q hq => hk q (a2 q hq), a2, a3⟩
   m := (hk mb h.fm).trans h.m
   fl := fun q hq => Nat.lt_of_lt_of_le (h.fl q hq) hs }
theorem TabAt.keep {w w' : World} {F : Nat -> Prop} {tb : Nat} {s : STab} (h : TabAt w F tb s) (hs : w.heap.size <= w'.heap.size) (hk : ∀ q, F q -> w'.heap[q]? = w.heap[q]?) : TabAt w' F tb s := by
 obtain ⟨mb, vk, vx, vs, bodies, sums, es, clock, h⟩ := h
 exact ⟨_, _, _, _, _, _, _, _, h.keep hs hk⟩
theorem TabAt.lt {w : World} {F : Nat -> Prop} {tb : Nat} {s : STab} (h : TabAt w F tb s) : ∀ q, F q -> q < w.heap.size := by
 obtain ⟨_, _, _, _, _, _, _, _, h⟩ := h
 exact h.fl
theorem TabAt.below {w w' : World} {F : Nat -> Prop} {tb : Nat} {s : STab} (h : TabAt w F tb s) (hb : Below w.heap.size w w') : TabAt w' F tb s :=
 h.keep hb.size fun q hq => hb.block q (h.lt q hq)
/-- What a method leaves that answers v and may turn the table. -/
def TPost (w : World) (F : Nat -> Prop) (tb : Nat) (s : STab) (v : Value) (e : Ending) (w' : World) : Prop :=
 e = .returned v /\ ∃ F', TabAt w' F' tb s /\ (∀ q, F' q -> F q ∨ w.heap.size <= q) /\ (∀ q, F q -> F' q) /\ Fr F w w'
theorem own_ne {w : World} {base E sz n : Nat} {v : Value} {xs : List Value} (h : w.ownsRow base E sz v n xs) {c : Nat} {U : TypeId} {ds : List Value} (k : Blk w c U ds) (hne : E ≠ U) : ∀ q, v.ownBlock = some q -> q ≠ c := by
 intro q hq e
 rcases h.2 with ⟨rfl, _⟩ | ⟨g, cap, cur, rfl, _, hg, _⟩
 · simp [Value.ownBlock] at hq
 · have : g = q := by simpa [Value.ownBlock] using hq
   subst this; subst e
   unfold Blk at k
   rw [hg] at k
   injection k with k
   injection k with _ k2 _
   exact hne k2
theorem own_ne_map {w : World} {base E sz n : Nat} {v : Value} {xs : List Value} (h : w.ownsRow base E sz v n xs) {c : Nat} {es : Array MapEntry} {clock : Nat} (k : w.heap[c]? = some (.map es clock)) : ∀ q, v.ownBlock = some q -> q ≠ c := by
 intro q hq e
 rcases h.2 with ⟨rfl, _⟩ | ⟨g, cap, cur, rfl, _, hg, _⟩
 · simp [Value.ownBlock] at hq
 · have : g = q := by simpa [Value.ownBlock] using hq
   subst this; subst e
   rw [hg] at k
   cases k
theorem own_disj {w : World} {base base' E E' sz sz' n n' : Nat} {v v' : Value} {xs xs' : List Value} (h : w.ownsRow base E sz v n xs) (k : w.ownsRow base' E' sz' v' n' xs') (hne : E ≠ E') : Disj v v' := by
 intro q hq hq'
 rcases k.2 with ⟨rfl, _⟩ | ⟨g, cap, cur, rfl, _, hg, _⟩
 · simp [Value.ownBlock] at hq'
 · have : g = q := by simpa [Value.ownBlock] using hq'
   subst this
   exact own_ne h (c := g) (ds := cur.toList) (by unfold Blk; simpa using hg) hne g hq rfl
theorem blk_ne_map {w : World} {b c : Nat} {T : TypeId} {cs : List Value} (h : Blk w b T cs) {es : Array MapEntry} {clock : Nat} (k : w.heap[c]? = some (.map es clock)) : b ≠ c := by
 rintro rfl
 unfold Blk at h
 rw [h] at k
 cases k
end
section
open Go.RowKit Go.QT
theorem same_eq (a b : Bytes) (h : a.length = b.length) (hk : ∀ k, k < a.length -> gb a k = gb b k) : a = b := by
 apply List.ext_getElem h
 intro i h1 h2
 have := hk i h1
 simpa [gb, h1, h2] using this
end
section
open Go.RowKit
theorem pk5 : Try.prog.plainKey 5 = true := by kernel_rfl
theorem cc5 : Try.prog.cellsOf 5 = 1 := by kernel_rfl
theorem run_eqItems_vb (d : Nat) (a b : Bytes) (w : World) : ∀ is : List Nat, (∀ i ∈ is, i < a.length /\ i < b.length) ->
   (Op.eqItems (d + 1) 5 1 (vb a).toArray (vb b).toArray is).run Try.prog w = .ok (is.all fun i => gb a i == gb b i) w
 | [], _ => by simp [Op.eqItems]
 | i :: is, h => by
   have hi := h i (by simp)
   have ha : (vb a).toArray[i * 1]? = some (.int .u8 (ub (gb a i))) := by rw [Nat.mul_one]; simpa using vb_get a i hi.1
   have hb : (vb b).toArray[i * 1]? = some (.int .u8 (ub (gb b i))) := by rw [Nat.mul_one]; simpa using vb_get b i hi.2
   have e : ((ub (gb a i)) == (ub (gb b i))) = (gb a i == gb b i) := ub_beq _ _
   have ih := run_eqItems_vb d a b w is (fun j hj => h j (by simp [hj]))
   simp only [Op.eqItems, Sem.run_bind, run_part_plain w pk5 ha, run_part_plain w pk5 hb, Result.andThen_ok, run_equalIn_int w d 5 .u8 .u8 _ _ Try.underlying5, e]
   cases hc : gb a i == gb b i
   · simp [hc]
   · simp [hc, ih]
theorem all_eq16 (a b : Bytes) (ha : a.length = 16) (hb : b.length = 16) : ((List.range 16).all fun i => gb a i == gb b i) = decide (a = b) := by
 rw [Bool.eq_iff_iff]
 simp only [List.all_eq_true, List.mem_range, beq_iff_eq, decide_eq_true_eq]
 constructor
 · intro h; exact same_eq a b (ha.trans hb.symm) fun k hk => h k (by omega)
 · rintro rfl i _; rfl
theorem info5 : ∃ i, Try.prog.info? 5 = some i := by
 have h : (Try.prog.info? 5).isSome = true := by kernel_rfl
 exact Option.isSome_iff_exists.1 h
/-- Two keys. -/
theorem run_equalIn16 (d : Nat) (t : TypeId) (a b : Bytes) (w : World) (ht : Try.prog.underlying t = some (.array 16 5)) (ha : a.length = 16) (hb : b.length = 16) :
   (Op.equalIn (d + 2) t (.agg (vb a).toArray) (.agg (vb b).toArray)).run Try.prog w = .ok (decide (a = b)) w := by
 obtain ⟨i, hi⟩ := info5
 rw [run_equalIn_array w (d + 1) _ _ ht hi, cc5, run_eqItems_vb d a b w _ (fun j hj => by have := List.mem_range.1 hj; omega), all_eq16 a b ha hb]
theorem run_eql16 (t : TypeId) (a b : Bytes) (w : World) (ht : Try.prog.underlying t = some (.array 16 5)) (ha : a.length = 16) (hb : b.length = 16) :
   (binOp .eql t (.agg (vb a).toArray) (.agg (vb b).toArray)).run Try.prog w = .ok (.bool (decide (a = b))) w := by
 rw [run_eql_struct, run_equalIn16 9998 t a b w ht ha hb]; rfl
theorem run_neq16 (t : TypeId) (a b : Bytes) (w : World) (ht : Try.prog.underlying t = some (.array 16 5)) (ha : a.length = 16) (hb : b.length = 16) :
   (binOp .neq t (.agg (vb a).toArray) (.agg (vb b).toArray)).run Try.prog w = .ok (.bool (!decide (a = b))) w := by
 rw [run_neq_struct, run_equalIn16 9998 t a b w ht ha hb]; rfl
/-- The operation. -/
theorem exec_eql16 {o : Oper} {a : Act} (op : BinOp) (hop : op = .eql ∨ op = .neq) (t t' : TypeId) (x y : Operand) (ho : o.op = .binOp op t x y t') (k l : Bytes) (hx : a.eval x = .agg (vb k).toArray) (hy : a.eval y = .agg (vb l).toArray)
   (ht : Try.prog.underlying t = some (.array 16 5)) (hg : Try.prog.eqGuardType Try.prog.depth t = false) (hk : k.length = 16) (hl : l.length = 16) (w : World) :
   (execOp a.eval o).run Try.prog w = .ok (.value (.bool (if op = .eql then decide (k = l) else !decide (k = l)))) w := by
 unfold execOp
 rcases hop with rfl | rfl
 · simp only [ho, hx, hy, Sem.run_bind, run_eqGuard_agg w _ t x y _ _ hg, Result.andThen_ok, run_eql16 t k l w ht hk hl, Sem.run_pure]; rfl
 · simp only [ho, hx, hy, Sem.run_bind, run_eqGuard_agg w _ t x y _ _ hg, Result.andThen_ok, run_neq16 t k l w ht hk hl, Sem.run_pure]; rfl
theorem exec_ne16 {o : Oper} {a : Act} (t t' : TypeId) (x y : Operand) (ho : o.op = .binOp .neq t x y t') (k l : Bytes) (hx : a.eval x = .agg (vb k).toArray) (hy : a.eval y = .agg (vb l).toArray)
   (ht : Try.prog.underlying t = some (.array 16 5)) (hg : Try.prog.eqGuardType Try.prog.depth t = false) (hk : k.length = 16) (hl : l.length = 16) (w : World) :
   (execOp a.eval o).run Try.prog w = .ok (.value (.bool (!decide (k = l)))) w := by
 have := exec_eql16 .neq (.inr rfl) t t' x y ho k l hx hy ht hg hk hl w
 simpa using this
theorem eg42 : Try.prog.eqGuardType Try.prog.depth 32 = false := by kernel_rfl
end
section
open Go.RowKit
/-- v[lo:hi]. -/
def cutS (v : Value) (lo hi : Nat) : Value :=
 match v with
 | .slice A _ c => .slice (if c = lo then A else A.map (·.add lo)) (hi - lo) (c - lo)
 | _ => undef
theorem gb_cut (l : Bytes) (lo hi i : Nat) (h : lo + i < hi) : gb ((l.take hi).drop lo) i = gb l (lo + i) := by
 simp [gb, h]
theorem len_cut (l : Bytes) (lo hi : Nat) (hhi : hi <= l.length) : ((l.take hi).drop lo).length = hi - lo := by
 simp; omega
theorem SB.cut {w : World} {v : Value} {l : Bytes} (h : SB w v l) (lo hi : Nat) (hhi : hi <= l.length) : SB w (cutS v lo hi) ((l.take hi).drop lo) := by
 obtain ⟨A, c, rfl, hc, hm, hcell⟩ := h
 have hl := len_cut l lo hi hhi
 refine ⟨_, c - lo, by rw [hl]; rfl, by rw [hl]; omega, by omega, fun hne => ?_⟩
 have hpos : lo < hi := by
   have : (((l.take hi).drop lo)).length ≠ 0 := fun h0 => hne (List.eq_nil_of_length_eq_zero h0)
   omega
 obtain ⟨b, o, rfl, hb, hcl⟩ := hcell (by rintro rfl; simp at hhi; omega)
 refine ⟨b, o + lo, ?_, hb, fun i hi' => ?_⟩
 · rw [if_neg (by omega)]; simp [Addr.add]
 · rw [gb_cut l lo hi i (by omega), Nat.add_assoc]
   exact hcl (lo + i) (by omega)
theorem cutS_block {v : Value} {lo hi : Nat} : (cutS v lo hi).ownBlock = v.ownBlock := by
 cases v <;> try rfl
 rename_i A n c
 simp only [cutS]
 by_cases h : c = lo
 · rw [if_pos h]; cases A <;> rfl
 · rw [if_neg h]
   cases A with
   | none => rfl
   | some p => exact congrArg some (block_of_add p lo)
theorem elem28 : Try.prog.elem 22 = 5 := by kernel_rfl
theorem und28 : Try.prog.underlying 22 = some (.slice (Try.prog.elem 22)) := by kernel_rfl
theorem run_size5 (w : World) : (sizeOf 5).run Try.prog w = .ok 1 w := by
 obtain ⟨i0, hi0, hz0, hz1, hz2⟩ := info_parts i5
 simp [sizeOf, typeInfo, hi0, hz1]
theorem run_cut_lh (w : World) (v : Value) (l : Bytes) (h : SB w v l) (k k' : IntKind) (lo hi : Int) (h0 : 0 <= lo) (h1 : lo <= hi) (h2 : hi <= l.length) (W : World) :
   (Instr.sliceAt 22 v (some (.int k lo)) (some (.int k' hi)) none).run Try.prog W = .ok (cutS v lo.toNat hi.toNat) W := by
 obtain ⟨A, c, rfl, hc, hm, hcell⟩ := h
 rw [run_sliceAt_slice W 22 _ _ _ _ und28, run_slice_lh W 22 A _ c und28 k k' lo hi h0 h1 (by omega), elem28, run_size5]
 simp only [Result.andThen_ok, sliced, cutS, Nat.mul_one]
theorem run_cut_h (w : World) (v : Value) (l : Bytes) (h : SB w v l) (k' : IntKind) (hi : Int) (h1 : 0 <= hi) (h2 : hi <= l.length) (W : World) :
   (Instr.sliceAt 22 v none (some (.int k' hi)) none).run Try.prog W = .ok (cutS v 0 hi.toNat) W := by
 obtain ⟨A, c, rfl, hc, hm, hcell⟩ := h
 rw [run_sliceAt_slice W 22 _ _ _ _ und28, run_slice_h W 22 A _ c und28 k' hi h1 (by omega), elem28, run_size5]
 simp only [Result.andThen_ok, sliced, cutS, Nat.mul_one]
theorem run_cut_l (w : World) (v : Value) (l : Bytes) (h : SB w v l) (k : IntKind) (lo : Int) (h1 : 0 <= lo) (h2 : lo <= l.length) (W : World) :
   (Instr.sliceAt 22 v (some (.int k lo)) none none).run Try.prog W = .ok (cutS v lo.toNat l.length) W := by
 obtain ⟨A, c, rfl, hc, hm, hcell⟩ := h
 rw [run_sliceAt_slice W 22 _ _ _ _ und28, run_slice_l W 22 A _ c und28 k lo h1 h2, elem28, run_size5]
 simp only [Result.andThen_ok, sliced, cutS, Nat.mul_one]
section
variable {ops : Array Oper} {rest : List Oper} {o : Oper} {a : Act} {w : World} {Q : Exit -> Act -> World -> Prop}
theorem exec_cut_lh (x lo hi : Operand) (ho : o.op = .slice 22 x (some lo) (some hi) none) (v : Value) (l : Bytes) (hx : a.eval x = v) (h : SB w v l) (k k' : IntKind) (i j : Int) (hlo : a.eval lo = .int k i) (hhi : a.eval hi = .int k' j)
   (h0 : 0 <= i) (h1 : i <= j) (h2 : j <= l.length) (W : World) : (execOp a.eval o).run Try.prog W = .ok (.value (cutS v i.toNat j.toNat)) W := by
 unfold execOp
 simp only [ho, hx, Option.map_some, Option.map_none, hlo, hhi, Sem.run_bind, run_cut_lh w v l h k k' i j h0 h1 h2 W, Result.andThen_ok, Sem.run_pure]
theorem exec_cut_h (x hi : Operand) (ho : o.op = .slice 22 x none (some hi) none) (v : Value) (l : Bytes) (hx : a.eval x = v) (h : SB w v l) (k' : IntKind) (j : Int) (hhi : a.eval hi = .int k' j)
   (h1 : 0 <= j) (h2 : j <= l.length) (W : World) : (execOp a.eval o).run Try.prog W = .ok (.value (cutS v 0 j.toNat)) W := by
 unfold execOp
 simp only [ho, hx, Option.map_some, Option.map_none, hhi, Sem.run_bind, run_cut_h w v l h k' j h1 h2 W, Result.andThen_ok, Sem.run_pure]
theorem exec_cut_l (x lo : Operand) (ho : o.op = .slice 22 x (some lo) none none) (v : Value) (l : Bytes) (hx : a.eval x = v) (h : SB w v l) (k : IntKind) (i : Int) (hlo : a.eval lo = .int k i)
   (h0 : 0 <= i) (h2 : i <= l.length) (W : World) : (execOp a.eval o).run Try.prog W = .ok (.value (cutS v i.toNat l.length)) W := by
 unfold execOp
 simp only [ho, hx, Option.map_some, Option.map_none, hlo, Sem.run_bind, run_cut_l w v l h k i h0 h2 W, Result.andThen_ok, Sem.run_pure]
/-- In a walk. -/
theorem wl_val (hgd : o.guard = none) (v : Value) (hv : (execOp a.eval o).run Try.prog w = .ok (.value v) w) (h : wpList Try.prog ops Q rest (a.put o.dst v) w) : wpList Try.prog ops Q (o :: rest) a w :=
 wpList_plain hgd fun K hK => by
   unfold Oper.wp
   rw [hv]
   exact hK _ _ h
end
end
section
open Go.RowKit Go.QT
theorem s5 : (Try.prog.info? 5).map (·.size) = some 1 := by kernel_rfl
theorem u28 : Try.prog.underlying 22 = some (.slice 5) := by kernel_rfl
/-- What a row becomes. -/
def ovr (cur : Bytes) (off : Nat) (l : Bytes) : Bytes := cur.take off ++ l ++ cur.drop (off + l.length)
theorem ovr_len (cur : Bytes) (off : Nat) (l : Bytes) (h : off + l.length <= cur.length) : (ovr cur off l).length = cur.length := by
 simp [ovr]; omega
theorem exec_copy {o : Oper} {a : Act} {w : World} (d s : Operand) (ho : o.op = .call { callee := .builtin .copy, args := #[d, s], argTypes := #[22, 22] })
   (g off dLen dCap : Nat) (T : TypeId) (cur l : Bytes) (v : Value) (hd : a.eval d = .slice (some ⟨g, off, none⟩) dLen dCap) (hs : a.eval s = v) (hr : Row w g T cur) (hv : SB w v l) (hne : l ≠ []) (hle : l.length <= dLen) (hfit : off + l.length <= cur.length) :
   (execOp a.eval o).run Try.prog w = .ok (.value (goInt l.length)) (w.setRow g (vb (ovr cur off l)).toArray) := by
 obtain ⟨b, ob, c, rfl, hc, hm, hb, hcell⟩ := hv.open_ hne
 have hcur : (vb cur).toArray.size = cur.length := by simp
 have hrun := run_copy_row (P := Try.prog) w 22 22 o.type 5 g off dLen dCap ⟨b, ob, none⟩ l.length c (vb cur).toArray T (vb l) u28 s5 hr (by rw [vb_length]; exact (Nat.min_eq_left hle).symm)
   (fun j u hj => by
     have hjl : j < l.length := by
       rcases Nat.lt_or_ge j l.length with h | h
       · exact h
       · rw [List.getElem?_eq_none (by simpa using h)] at hj; cases hj
     rw [vb_get l j hjl] at hj
     rw [Addr.add_mid, hcell j hjl, hj]) (by rw [hcur]; simpa using hfit) (vb_ones l)
 have e : ((vb cur).toArray.toList.take off ++ vb l ++ (vb cur).toArray.toList.drop (off + (vb l).length)).toArray = (vb (ovr cur off l)).toArray := by
   simp [ovr, vb]
 rw [e] at hrun
 unfold execOp
 simp only [ho, resolve, invoke, builtin, Sem.run_bind, Sem.run_pure, Result.andThen_ok, List.map_toArray, List.map_cons, List.map_nil, hs, hd, hrun]
 simp
theorem wl_copy {ops : Array Oper} {rest : List Oper} {o : Oper} {a : Act} {w : World} {Q : Exit -> Act -> World -> Prop} (hgd : o.guard = none) (d s : Operand) (ho : o.op = .call { callee := .builtin .copy, args := #[d, s], argTypes := #[22, 22] })
   (g off dLen dCap : Nat) (T : TypeId) (cur l : Bytes) (v : Value) (hd : a.eval d = .slice (some ⟨g, off, none⟩) dLen dCap) (hs : a.eval s = v) (hr : Row w g T cur) (hv : SB w v l) (hne : l ≠ []) (hle : l.length <= dLen) (hfit : off + l.length <= cur.length)
   (h : ∀ w', Row w' g T (ovr cur off l) -> w.grownBy w' (some g) -> w'.heap.size = w.heap.size -> wpList Try.prog ops Q rest (a.put o.dst (goInt l.length)) w') : wpList Try.prog ops Q (o :: rest) a w :=
 wpList_plain hgd fun K hK => by
   unfold Oper.wp
   rw [exec_copy d s ho g off dLen dCap T cur l v hd hs hr hv hne hle hfit]
   exact hK _ _ (h _ (Blk.setRow hr _) (only_setRow g _) (by simp))
end
section
open Go.RowKit Go.QT
theorem z16_eq : (#[Value.int IntKind.u8 0, Value.int IntKind.u8 0, Value.int IntKind.u8 0, Value.int IntKind.u8 0, Value.int IntKind.u8 0, Value.int IntKind.u8 0, Value.int IntKind.u8 0, Value.int IntKind.u8 0, Value.int IntKind.u8 0, Value.int IntKind.u8 0, Value.int IntKind.u8 0, Value.int IntKind.u8 0, Value.int IntKind.u8 0, Value.int IntKind.u8 0, Value.int IntKind.u8 0, Value.int IntKind.u8 0] : Array Value) = (vb zKey).toArray := by
 rw [zKey, vb_zeros]; rfl
theorem mkB_len (k : UInt8) (n : Nat) : (mkB k n).length = 16 := rfl
/-- What a call leaves that answers a row of bytes by value. -/
def APost (w : World) (l : Bytes) (e : Ending) (w' : World) : Prop := e = .returned (.agg (vb l).toArray) /\ Below w.heap.size w w'
theorem ovr_mark (k : UInt8) (n : Nat) : ovr (ovr zKey 0 [255, 254, k]) 8 (put8 n) = mkB k n := rfl
theorem u64_of (n : Nat) (h : n < 9223372036854775808) : IntKind.u64.wrap (n : Int) = (n : Int) := by
 rw [IntKind.wrap_u64]; omega
theorem smark_any (k : UInt8) (n : Nat) (hn : n < 9223372036854775808) (w : World) : Calls Try.prog 32 #[.int .u8 (ub k), .int .i64 (n : Int)] w (APost w (mkB k n)) := by
 have Hov := Hd.mk (ovr_mark k n)
 go_enter Try.func32, Try.ntmps32
 go_upto_region 2 with (fail)
 rw [z16_eq]
 have h4 : Row ((w.alloc (.cells (vb zKey).toArray 32)).alloc (.cells (vb zKey).toArray 32)) w.heap.size 32 zKey := Row.alloc (Row.new w 32 zKey) _
 have h5 : Row ((w.alloc (.cells (vb zKey).toArray 32)).alloc (.cells (vb zKey).toArray 32)) (w.heap.size + 1) 32 zKey := new2 w _ 32 _
 have hB : Below w.heap.size w ((w.alloc (.cells (vb zKey).toArray 32)).alloc (.cells (vb zKey).toArray 32)) := ((Below.refl _ _).alloc (Nat.le_refl _) _).alloc (by simp) _
 generalize (w.alloc (.cells (vb zKey).toArray 32)).alloc (.cells (vb zKey).toArray 32) = w1 at *
 have hlt := h5.lt
 have H4 := Hd.mk h4
 have H5 := Hd.mk h5
 clear h4 h5
 have h255 : ub 255 = 255 := by simp [ub]
 have h254 : ub 254 = 254 := by simp [ub]
 have hR3 := Row.new w1 5 [255, 254, k]
 simp only [vb_cons, vb_nil, h255, h254] at hR3
 have HR3 : Hd (Row (w1.alloc (.cells #[.int .u8 255, .int .u8 254, .int .u8 (ub k)] 5)) w1.heap.size 5 [255, 254, k]) := ⟨by unfold Row; simp only [vb_cons, vb_nil, h255, h254]; exact heap_alloc_new w1 _⟩
 clear hR3 h255 h254
 go_upto_region 3 with (refine wl_copy rfl (.tmp 6) (.tmp 8) rfl (w.heap.size + 1) 0 16 16 32 zKey [255, 254, k] (.slice (some ⟨w1.heap.size, 0, none⟩) 3 3) rfl rfl (H5.out.alloc _) (SB.row HR3.out (by simp [maxLen])) (by simp) (by simp) (by simp [zKey]) ?_; intro w2 hr2 hg2 hs2)
 simp only [Act.put, u1, u2, u3]
 have h42 : Row w2 w.heap.size 32 zKey := (H4.out.alloc _).grown' hg2 (by simp)
 have hB2 : Below w.heap.size w w2 := (hB.alloc hB.size (.cells #[.int .u8 255, .int .u8 254, .int .u8 (ub k)] 5)).grown hg2 (by have := hB.size; simp; omega) (by rintro j hj; cases hj; omega)
 clear H4 H5 HR3 hg2 hB
 refine oH_begin (n := 5) (fun _ => True) (by kernel_rfl) rfl ?_
 have hS : Row (w2.drewN 1) (w.heap.size + 1) 32 (ovr zKey 0 [255, 254, k]) /\ Row (w2.drewN 1) w.heap.size 32 zKey /\ Below w.heap.size w (w2.drewN 1) := ⟨hr2.drewN 1, h42.drewN 1, below_drewN hB2 1⟩
 generalize w2.drewN 1 = w3 at *
 refine oV (i := 0) (some 10) (.slice (some ⟨w.heap.size + 1, 8, none⟩) 8 8) rfl rfl trivial (by intro W _; simp [go_sem]) ?_
 simp only [Act.put, u1, u2, u3]
 refine oV (i := 1) (some 11) (.int .i64 (n : Int)) rfl rfl trivial (fun _ _ => rfl) ?_
 simp only [Act.put, u1, u2, u3]
 refine oV (i := 2) (some 12) (.int .u64 (n : Int)) rfl rfl trivial (by intro W _; have e := u64_of n hn; simp [go_sem, e]) ?_
 simp only [Act.put, u1, u2, u3]
 refine oH_call (i := 3) (some 13) rfl rfl (by kernel_rfl) (by kernel_rfl) 35 _ _ rfl [.int .u64 (n : Int)] rfl (by kernel_rfl) (put_any n _) ?_
 rintro e w4 ⟨vp, rfl, hp, hb4⟩
 have hS4 : Row w4 (w.heap.size + 1) 32 (ovr zKey 0 [255, 254, k]) /\ Row w4 w.heap.size 32 zKey /\ Below w.heap.size w w4 := ⟨hS.1.below hb4 hS.1.lt, hS.2.1.below hb4 hS.2.1.lt, hS.2.2.trans (hb4.mono hS.2.2.size)⟩
 refine ⟨_, rfl, trivial, ?_⟩
 simp only [Act.put, u1, u2, u3]
 refine oH_run (i := 4) (some 14) (goInt (put8 n).length) rfl rfl (by kernel_rfl) (by kernel_rfl) (exec_copy (.tmp 10) (.tmp 13) (by rfl) (w.heap.size + 1) 8 8 8 32 _ (put8 n) vp (by rfl) (by rfl) hS4.1 hp.sb (fun e => by have := congrArg List.length e; rw [put8_len] at this; cases this) (by rw [put8_len]; omega) (by rw [put8_len, ovr_len _ _ _ (by simp [zKey])]; simp [zKey])) trivial ?_
 simp only [Act.put, u1, u2, u3]
 have hr5 : Row (w4.setRow (w.heap.size + 1) (vb (ovr (ovr zKey 0 [255, 254, k]) 8 (put8 n))).toArray) (w.heap.size + 1) 32 (ovr (ovr zKey 0 [255, 254, k]) 8 (put8 n)) := Blk.setRow hS4.1 _
 have hg5 := only_setRow (w := w4) (w.heap.size + 1) (vb (ovr (ovr zKey 0 [255, 254, k]) 8 (put8 n))).toArray
 generalize w4.setRow (w.heap.size + 1) (vb (ovr (ovr zKey 0 [255, 254, k]) 8 (put8 n))).toArray = w5 at *
 rw [Hov.out] at hr5
 have h45 : Row w5 w.heap.size 32 zKey := hS4.2.1.grown' hg5 (by simp)
 have hB5 : Below w.heap.size w w5 := hS4.2.2.grown hg5 hS4.2.2.size (by rintro j hj; cases hj; omega)
 clear hS hS4 hb4 hp hg5 hr2 h42 hB2
 refine wpAnyH_done (by kernel_rfl) ?_ _
 have hi1 : (Try.prog.info? 32).map (·.size) = some (vb (mkB k n)).length := i42
 have hlt5 := hr5.lt
 have Hr5 := Hd.mk hr5
 have H45 := Hd.mk h45
 have Hi1 := Hd.mk hi1
 clear hr5 h45 hi1
 go_wp2_with (first | (refine wl_load rfl 32 _ rfl (w.heap.size + 1) 0 rfl 32 (vb (mkB k n)) (vb (mkB k n)) _ Hr5.out (by simp) ty42 rfl (by exact Hi1.out) ?_) | (refine wl_storeW rfl 32 _ _ rfl w.heap.size 0 (vb (mkB k n)) rfl rfl 32 _ (vb (mkB k n)) H45.out (by simp [zKey, mkB_len]) (by exact Hi1.out) (vb_ones _) (by simp [zKey, mkB_len]) ?_; intro w6 hb6 hg6 hs6))
 refine bodyPost_ret (results_cell_row (p := 4) (ty := 32) rfl _ _ w.heap.size 32 (vb (mkB k n)).toArray (0, 0) _ rfl (by exact hb6) ty42 rfl (by rw [Hi1.out]; simp)) rfl ?_
 exact ⟨rfl, hB5.grown hg6 hB5.size (by rintro j hj; cases hj; omega)⟩
end
section
open Go.RowKit
theorem results_cell_tmp {P : Program} {fn : Func} {p q : Tmp} {ty : TypeId} (h : fn.results = #[.cell p ty, .tmp q]) (tmps : Array Value) (w : World) (g : Nat) (t : TypeId) (cs : List Value) (d : TypeDesc) (u : Value)
   (hp : tmps.getD p undef = .pointer (some ⟨g, 0, none⟩)) (hq : tmps.getD q undef = u) (hg : Blk w g t cs)
   (hu : P.underlying ty = some d) (hd : (match d with | .struct _ | .array _ _ => true | _ => false) = true) (hi : (P.info? ty).map (·.size) = some cs.length) :
   (results fn tmps).run P w = .ok (.tuple #[.agg cs.toArray, u]) w := by
 have hp' : tmps[p]?.getD undef = .pointer (some ⟨g, 0, none⟩) := by simpa using hp
 have hq' : tmps[q]?.getD undef = u := by simpa using hq
 have hl := run_loadVar_row (P := P) w g t ty cs.toArray (0, 0) d hg hu hd (by rw [hi]; simp)
 simp [results, h, hp', hq', asAddr, hl]
end
section
open Go.RowKit Go.QT
def KPost (w : World) (l : Bytes) (e : Ending) (w' : World) : Prop :=
 e = .returned (.tuple #[.agg (vb (if l.length = 16 then l else zKey)).toArray, .bool (decide (l.length = 16))]) /\ Below w.heap.size w w'
theorem ovr_all (l : Bytes) (h : l.length = 16) : ovr zKey 0 l = l := by
 simp [ovr, h, zKey]
theorem sb_form {w : World} {v : Value} {l : Bytes} (hv : SB w v l) : ∃ A c, v = .slice A l.length c /\ l.length <= c /\ c <= 2 ^ 63 - 1 := by
 obtain ⟨A, c, e, h1, h2, _⟩ := hv
 exact ⟨A, c, e, h1, by unfold maxLen at h2; exact h2⟩
theorem okey_any (v : Value) (l : Bytes) (w : World) (hv : SB w v l) : Calls Try.prog 67 #[v] w (KPost w l) := by
 obtain ⟨A, c, rfl, hc1, hc2⟩ := sb_form hv
 have Hv := Hd.mk hv
 clear hv
 have hi0 : (Try.prog.info? 32).map (·.size) = some (vb zKey).length := i42
 have Hi0 := Hd.mk hi0
 clear hi0
 by_cases h16 : l.length = 16
 · have hd : (((l.length : Nat) : Int) != 16) = false := by rw [h16]; rfl
   have H16 := Hd.mk h16
   have Hov := Hd.mk (ovr_all l h16)
   have hi1 : (Try.prog.info? 32).map (·.size) = some (vb l).length := by rw [vb_length, h16]; exact i42
   have Hi1 := Hd.mk hi1
   clear hi1 h16
   go_enter Try.func67, Try.ntmps67
   go_upto_region 2 with (fail)
   rw [z16_eq]
   have h2 : Row ((w.alloc (.cells (vb zKey).toArray 32)).alloc (.cells (vb zKey).toArray 32)) w.heap.size 32 zKey := Row.alloc (Row.new w 32 zKey) _
   have h4 : Row ((w.alloc (.cells (vb zKey).toArray 32)).alloc (.cells (vb zKey).toArray 32)) (w.heap.size + 1) 32 zKey := new2 w _ 32 _
   have hB : Below w.heap.size w ((w.alloc (.cells (vb zKey).toArray 32)).alloc (.cells (vb zKey).toArray 32)) := ((Below.refl _ _).alloc (Nat.le_refl _) _).alloc (by simp) _
   generalize (w.alloc (.cells (vb zKey).toArray 32)).alloc (.cells (vb zKey).toArray 32) = w1 at *
   have hlt := h4.lt
   have H2 := Hd.mk h2
   have H4 := Hd.mk h4
   clear h2 h4
   go_upto_region 5 with (refine wl_copy rfl (.tmp 9) (.tmp 10) rfl (w.heap.size + 1) 0 16 16 32 zKey l (.slice A l.length c) rfl rfl H4.out (Hv.out.below hB) (by intro e; have := H16.out; rw [e] at this; cases this) (by rw [H16.out]; omega) (by rw [H16.out]; simp [zKey]) ?_; intro w2 hr2 hg2 hs2)
   rw [Hov.out] at hr2
   have h22 := H2.out.grown' hg2 (by simp)
   have hB2 : Below w.heap.size w w2 := hB.grown hg2 hB.size (by rintro j hj; cases hj; omega)
   have Hr2 := Hd.mk hr2
   have H22 := Hd.mk h22
   clear hr2 h22 H2 H4 hg2 hs2 hB
   go_wp2_with (first | (refine wl_load rfl 32 _ rfl (w.heap.size + 1) 0 rfl 32 (vb l) (vb l) _ Hr2.out (by simp) ty42 rfl (by exact Hi1.out) ?_) | (refine wl_storeW rfl 32 _ _ rfl w.heap.size 0 (vb l) rfl rfl 32 _ (vb l) H22.out (by simp [zKey, H16.out]) (by exact Hi1.out) (vb_ones _) (by simp [zKey, H16.out]) ?_; intro w3 hr3 hg3 hs3))
   have hB3 := hB2.grown hg3 hB2.size (by rintro j hj; cases hj; omega)
   refine bodyPost_ret (results_cell_tmp (p := 2) (q := 3) (ty := 32) rfl _ _ w.heap.size 32 (vb l) _ (.bool true) rfl rfl hr3 ty42 rfl Hi1.out) rfl ⟨?_, hB3⟩
   · rw [if_pos H16.out, decide_eq_true H16.out]
 · have hd : (((l.length : Nat) : Int) != 16) = true := by rw [bne_iff_ne]; omega
   have H16 := Hd.mk h16
   clear h16
   go_enter Try.func67, Try.ntmps67
   go_upto_region 2 with (fail)
   rw [z16_eq]
   have h2 : Row ((w.alloc (.cells (vb zKey).toArray 32)).alloc (.cells (vb zKey).toArray 32)) w.heap.size 32 zKey := Row.alloc (Row.new w 32 zKey) _
   have h4 : Row ((w.alloc (.cells (vb zKey).toArray 32)).alloc (.cells (vb zKey).toArray 32)) (w.heap.size + 1) 32 zKey := new2 w _ 32 _
   have hB : Below w.heap.size w ((w.alloc (.cells (vb zKey).toArray 32)).alloc (.cells (vb zKey).toArray 32)) := ((Below.refl _ _).alloc (Nat.le_refl _) _).alloc (by simp) _
   generalize (w.alloc (.cells (vb zKey).toArray 32)).alloc (.cells (vb zKey).toArray 32) = w1 at *
   have hlt := h4.lt
   have H2 := Hd.mk h2
   have H4 := Hd.mk h4
   clear h2 h4
   go_wp2_with (first | (refine wl_load rfl 32 _ rfl (w.heap.size + 1) 0 rfl 32 (vb zKey) (vb zKey) _ H4.out (by simp) ty42 rfl (by exact Hi0.out) ?_) | (refine wl_storeW rfl 32 _ _ rfl w.heap.size 0 (vb zKey) rfl rfl 32 _ (vb zKey) H2.out (by simp) (by exact Hi0.out) (vb_ones _) (by simp [zKey]) ?_; intro w3 hr3 hg3 hs3))
   have hB3 := hB.grown hg3 hB.size (by rintro j hj; cases hj; omega)
   refine bodyPost_ret (results_cell_tmp (p := 2) (q := 3) (ty := 32) rfl _ _ w.heap.size 32 (vb zKey) _ (.bool false) rfl rfl hr3 ty42 rfl Hi0.out) rfl ⟨?_, hB3⟩
   · rw [if_neg H16.out, decide_eq_false H16.out]
end
section
open Go.RowKit Go.QT
/-- The first place of a byte; -1: there is none. -/
def idxB (x : UInt8) : Bytes -> Nat -> Int
 | [], _ => -1
 | c :: l, k => if x = c then k else idxB x l (k+1)
theorem idxB_hit (x : UInt8) : ∀ (l : Bytes) (k j : Nat), j < l.length -> (∀ i, i < j -> x ≠ gb l i) -> x = gb l j -> idxB x l k = ((k + j : Nat) : Int)
 | c :: l, k, 0, _, _, h => by
   have : x = c := h
   simp [idxB, this]
 | c :: l, k, j+1, hj, hn, h => by
   have h0 : x ≠ c := hn 0 (by omega)
   rw [idxB, if_neg h0, idxB_hit x l (k+1) j (by simpa using hj) (fun i hi => hn (i+1) (by omega)) h]
   omega
theorem idxB_miss (x : UInt8) : ∀ (l : Bytes) (k : Nat), (∀ i, i < l.length -> x ≠ gb l i) -> idxB x l k = -1
 | [], _, _ => rfl
 | c :: l, k, hn => by
   have h0 : x ≠ c := hn 0 (by simp)
   rw [idxB, if_neg h0, idxB_miss x l (k+1) (fun i hi => hn (i+1) (by simpa using hi))]
theorem idxB_mem (x : UInt8) : ∀ (l : Bytes) (k : Nat), decide (0 <= idxB x l k) = decide (x ∈ l)
 | [], _ => by simp [idxB]
 | c :: l, k => by
   have ih := idxB_mem x l (k+1)
   by_cases h : x = c
   · simp [idxB, h]
   · rw [idxB, if_neg h, ih]; simp [h]
def VPost (w : World) (v : Value) (e : Ending) (w' : World) : Prop := e = .returned v /\ w = w'
theorem index_any (v : Value) (l : Bytes) (x : UInt8) (w : World) (hv : SB w v l) : Calls Try.prog 83 #[v, .int .u8 (ub x)] w (VPost w (.int .i64 (idxB x l 0))) := by
 obtain ⟨A, c, hve, hc1, hc2⟩ := sb_form hv
 have hcell : ∀ i, i < l.length -> ∃ bb o, A = some ⟨bb, o, none⟩ /\ w.cell? ⟨bb, o + i, none⟩ = some (.int .u8 (ub (gb l i))) := by
   intro i hi
   obtain ⟨A', c', e, _, _, h⟩ := hv
   obtain ⟨b, o, hA, _, hcl⟩ := h (by rintro rfl; simp at hi)
   rw [hve] at e
   injection e with e1
   exact ⟨b, o, e1.trans hA, hcl i hi⟩
 subst hve
 have Hcell := Hd.mk hcell
 have Hhit := Hd.mk (idxB_hit x l 0)
 have Hmiss := Hd.mk (idxB_miss x l 0)
 clear hcell hv
 go_enter Try.func83, Try.ntmps83
 go_wp2
 go_loop [8] (fun i => ∃ k : Nat, k <= l.length /\ i = .int .i64 (k : Int) /\ Hd (∀ i, i < k -> x ≠ gb l i)) (fun i => l.length - (intOf i).toNat)
 case atStart => exact ⟨0, by omega, rfl, ⟨fun i hi => absurd hi (by omega)⟩⟩
 case round =>
   obtain ⟨k, hk, rfl, hno⟩ := hrel
   by_cases hlt : k < l.length
   · obtain ⟨bb, o, hA, hx⟩ := Hcell.out k hlt
     subst hA
     by_cases he : x = gb l k
     · have ht : (ub x == ub (gb l k)) = true := by rw [beq_iff_eq]; exact congrArg ub he
       have Hr := Hd.mk (Hhit.out k hlt hno.out he)
       clear he Hcell Hhit Hmiss
       go_wp2
       go_ret
       exact ⟨by rw [Hr.out, Nat.zero_add]; rfl, rfl⟩
     · have ht : (ub x == ub (gb l k)) = false := by rw [ub_beq]; simpa using he
       have hno2 : Hd (∀ i, i < k + 1 -> x ≠ gb l i) := ⟨fun i hi => by
         by_cases hik : i = k
         · subst hik; exact he
         · exact hno.out i (by omega)⟩
       have He := Hd.mk he
       clear he
       go_wp2
       refine ⟨⟨k + 1, by omega, by go_num, hno2⟩, by simp [intOf]; omega⟩
   · have hk2 : k = l.length := by omega
     rw [hk2] at hno
     have Hr := Hd.mk (Hmiss.out hno.out)
     clear hk2
     go_wp2
     go_ret
     exact ⟨by rw [Hr.out]; rfl, rfl⟩
theorem contains_any (v : Value) (l : Bytes) (x : UInt8) (w : World) (hv : SB w v l) : Calls Try.prog 69 #[v, .int .u8 (ub x)] w (VPost w (.bool (decide (x ∈ l)))) := by
 have Hm := Hd.mk (idxB_mem x l 0)
 have Hv := Hd.mk hv
 clear hv
 go_enter Try.func69, Try.ntmps69
 go_wp2_with (go_at_call 83; refine (index_any _ l x _ Hv.out).mono ?_; rintro e w' ⟨rfl, rfl⟩)
 go_ret
 exact ⟨by rw [← Hm.out]; rfl, rfl⟩
theorem clone_any (v : Value) (l : Bytes) (w : World) (hv : SB w v l) (hl : l.length <= 140737488355328) : Calls Try.prog 31 #[v] w (BPost w l) := by
 obtain ⟨A, c, rfl, hc1, hc2⟩ := sb_form hv
 have Hv := Hd.mk hv
 clear hv
 rcases A with _ | A
 · have h0 : l = [] := by
     by_cases h : l = []
     · exact h
     · obtain ⟨b, o, c', e, _⟩ := Hv.out.open_ h
       cases e
   have H0 := Hd.mk h0
   clear h0
   go_enter Try.func31, Try.ntmps31
   have hn : ∀ W, (binOp .eql 22 (.slice none l.length c) (.slice none 0 0)).run Try.prog W = .ok (.bool true) W := fun W => Lib.run_eql_slice_nil W 22 5 none _ _ _ _ u28
   go_wp2
   go_ret
   exact ⟨_, rfl, by rw [H0.out]; exact OB.nil _ _, Below.refl _ _⟩
 · go_enter Try.func31, Try.ntmps31
   have hn : ∀ W, (binOp .eql 22 (.slice (some A) l.length c) (.slice none 0 0)).run Try.prog W = .ok (.bool false) W := fun W => Lib.run_eql_slice_nil W 22 5 (some A) _ _ _ _ u28
   go_upto_region 3 with (fail)
   go_wp2_with (at_builtin; refine wl_append rfl (.tmp 5) (.tmp 6) rfl w.heap.size (.slice (some ⟨w.heap.size, 0, none⟩) 0 0) (.slice (some A) l.length c) [] l rfl rfl (OB.new _ _ [] (by simp) (Row.new w 5 []) (Nat.le_refl _)) (Hv.out.alloc _) (by simpa using hl) (by simp) ?_; intro v' w' hv' hg' hat')
   go_ret
   rw [List.nil_append] at hv'
   exact ⟨_, rfl, hv', ((Below.refl _ _).alloc (Nat.le_refl _) (.cells #[] 5)).grown hg' (by simp) (by rintro j hj; simp [Value.ownBlock] at hj; omega)⟩
end
section
open Go.RowKit Go.QT
/-- What is told of a mark. -/
def mkV (o : Option (UInt8 × Nat)) : Value := .tuple #[.int .u8 (ub ((o.map (·.1)).getD 0)), .int .i64 (((o.map (·.2)).getD 0 : Nat) : Int), .bool o.isSome]
def MPost (w : World) (l : Bytes) (e : Ending) (w' : World) : Prop := e = .returned (mkV (markOf l)) /\ Below w.heap.size w w'
theorem markOf_no (l : Bytes) (h : ¬ (l.length = 16 /\ (gb l 2 = 107 ∨ gb l 2 = 98 ∨ gb l 2 = 100) /\ getN (l.drop 8) <= 1099511627776 /\ l = mkB (gb l 2) (getN (l.drop 8)))) : mkV (markOf l) = .tuple #[.int .u8 0, .int .i64 0, .bool false] := by
 rw [markOf, if_neg h]; simp [mkV, ub]
theorem markOf_yes (l : Bytes) (h : l.length = 16 /\ (gb l 2 = 107 ∨ gb l 2 = 98 ∨ gb l 2 = 100) /\ getN (l.drop 8) <= 1099511627776 /\ l = mkB (gb l 2) (getN (l.drop 8))) : mkV (markOf l) = .tuple #[.int .u8 (ub (gb l 2)), .int .i64 ((getN (l.drop 8) : Nat) : Int), .bool true] := by
 rw [markOf, if_pos h]; simp [mkV]
theorem SB.rowCut {w : World} {g T : Nat} {l : Bytes} (h : Row w g T l) (off : Nat) (hm : l.length <= maxLen) : SB w (.slice (some ⟨g, off, none⟩) (l.length - off) (l.length - off)) (l.drop off) := by
 refine ⟨some ⟨g, off, none⟩, l.length - off, by rw [List.length_drop], by rw [List.length_drop]; omega, by omega, fun hne => ⟨g, off, rfl, h.lt, fun i hi => ?_⟩⟩
 rw [List.length_drop] at hi
 have := h.cell (i := off + i) (by omega)
 rw [this]
 simp [gb]
theorem exec_cell {P : Program} {o : Oper} {a : Act} {W : World} (x : Operand) (t : TypeId) (ho : o.op = .load t x) (p : Addr) (v : Value) (hx : a.eval x = .pointer (some p)) (ht : (isAgg t).run P W = .ok false W) (hc : W.cell? p = some v) :
   (execOp a.eval o).run P W = .ok (.value v) W := by
 have hl : (loadVar t p).run P W = .ok v W := by simp [loadVar, ht, hc]
 unfold execOp
 simp only [ho, hx, Instr.loadAt, Instr.sureAddr, Sem.run_bind, Sem.run_pure, Result.andThen_ok, hl]
theorem wrapN (N : Nat) (h : N <= 1099511627776) : IntKind.i64.wrap (N : Int) = (N : Int) := by rw [IntKind.wrap_i64]; omega
theorem agg5 (W : World) : (isAgg 5).run Try.prog W = .ok false W := by kernel_rfl
theorem markC (x : UInt8) : decide (x ∈ ([107, 98, 100] : Bytes)) = decide (x = 107 ∨ x = 98 ∨ x = 100) := by simp
theorem Mark_any (v : Value) (l : Bytes) (w : World) (hv : SB w v l) : Calls Try.prog 46 #[v] w (MPost w l) := by
 obtain ⟨A, c, rfl, hc1, hc2⟩ := sb_form hv
 have Hv := Hd.mk hv
 have Hno := Hd.mk (markOf_no l)
 have Hyes := Hd.mk (markOf_yes l)
 clear hv
 by_cases h16 : l.length = 16
 · have e16 : (if l.length = 16 then l else zKey) = l := if_pos h16
   rw [h16] at hc1 Hv ⊢
   have d16 := decide_eq_true h16
   have hi : (Try.prog.info? 32).map (·.size) = some (vb l).length := by rw [vb_length, h16]; exact i42
   have Hi := Hd.mk hi
   have H16 := Hd.mk h16
   have E16 := Hd.mk e16
   have D16 := Hd.mk d16
   clear hi e16 d16 h16
   go_enter Try.func46, Try.ntmps46
   go_upto_region 2 with (first | (go_at_call 67; refine (okey_any _ l _ Hv.out).mono ?_; rintro e w1 ⟨rfl, hb1⟩; rw [E16.out, D16.out]) | (refine wl_storeW rfl 32 _ _ rfl w1.heap.size 0 (vb l) rfl rfl 32 _ (vb l) (Blk.new w1 32 (List.replicate 16 (.int .u8 0))) (by simp [H16.out]) (by exact Hi.out) (vb_ones _) (by simp [H16.out]) ?_; intro w2 hr2 hg2 hs2))
   have hR : Row w2 w1.heap.size 32 l := hr2
   have hB : Below w.heap.size w w2 := (hb1.alloc hb1.size (.cells (List.replicate 16 (Value.int .u8 0)).toArray 32)).grown hg2 (by have := hb1.size; simp; omega) (by have := hb1.size; rintro j hj; cases hj; omega)
   have hgb := hb1.size
   generalize w1.heap.size = g at *
   clear hr2 hg2 hs2 hb1 w1 E16 D16 Hi
   have x0 := hR.cell (i := 0) (by rw [H16.out]; omega)
   have x1 := hR.cell (i := 1) (by rw [H16.out]; omega)
   have HR := Hd.mk hR
   have hlt := hR.lt
   clear hR
   by_cases h0 : gb l 0 = 255
   · have t0 : (ub (gb l 0) != 255) = false := by rw [h0]; simp [ub]
     by_cases h1 : gb l 1 = 254
     · have t1 : (ub (gb l 1) != 254) = false := by rw [h1]; simp [ub]
       have H0 := Hd.mk h0
       have H1 := Hd.mk h1
       clear h0 h1
       have hcut := SB.rowCut HR.out 8 (by rw [H16.out]; unfold maxLen; omega)
       rw [H16.out] at hcut
       have Hcut := Hd.mk hcut
       have hl8 : (l.drop 8).length = 8 := by rw [List.length_drop, H16.out]
       have Hp := Hd.mk (getP_yes (l.drop 8) (by omega) (by omega))
       have hN : getN (l.drop 8) < 18446744073709551616 := by have := getN_lt8 (l.drop 8) 8 (by omega) (by omega); rwa [List.take_of_length_le (by omega)] at this
       clear hcut hl8
       go_upto_region 5 with (go_at_call 68; refine (get_any _ (l.drop 8) _ Hcut.out).mono ?_; rintro e w3 ⟨rfl, nq, rfl⟩; rw [Hp.out])
       try simp only [Option.getD_some, Option.isSome_some]
       have HR := Hd.mk (HR.out.drewN nq)
       have hB := below_drewN hB nq
       have hlt : g < (w2.drewN nq).heap.size := hlt
       generalize w2.drewN nq = w3 at *
       clear Hcut Hp x0 x1 t0 t1
       generalize hNe : getN (l.drop 8) = N at *
       have HNe := Hd.mk hNe
       clear hNe
       by_cases hn : N <= 1099511627776
       · have dn : decide ((N : Int) > 1099511627776) = false := by simp; omega
         by_cases hm : mkB (gb l 2) N = l
         · by_cases hk : gb l 2 = 107 ∨ gb l 2 = 98 ∨ gb l 2 = 100
           · have HY := Hd.mk (Hyes.out ⟨H16.out, hk, hn, hm.symm⟩)
             refine oH_begin (n := 18) (fun W => Row W g 32 l /\ Below w.heap.size w W) (by kernel_rfl) rfl ?_
             have hS : Row (w3.drewN 1) g 32 l /\ Below w.heap.size w (w3.drewN 1) := ⟨HR.out.drewN 1, below_drewN hB 1⟩
             generalize w3.drewN 1 = w4 at *
             refine oV (i := 0) (some 31) (.int .u64 (N : Int)) rfl rfl hS (fun _ _ => rfl) ?_
             simp only [Act.put, u1, u2, u3]
             refine oV (i := 1) (some 32) (.bool false) rfl rfl hS (by intro W _; simp [go_sem]; omega) ?_
             simp only [Act.put, u1, u2, u3]
             refine oV (i := 2) (some 33) (.bool false) rfl rfl hS (fun _ _ => rfl) ?_
             simp only [Act.put, u1, u2, u3]
             refine oV (i := 3) (some 34) (.pointer (some ⟨g, 2, none⟩)) rfl rfl hS (by intro W _; simp [go_sem]) ?_
             simp only [Act.put, u1, u2, u3]
             refine oV (i := 4) (some 35) (.int .u8 (ub (gb l 2))) rfl rfl hS (fun W h => exec_cell _ _ (by rfl) ⟨g, 2, none⟩ _ (by rfl) (agg5 W) (h.1.cell (i := 2) (by rw [H16.out]; omega))) ?_
             simp only [Act.put, u1, u2, u3]
             refine oV (i := 5) (some 36) (.int .u64 (N : Int)) rfl rfl hS (fun _ _ => rfl) ?_
             simp only [Act.put, u1, u2, u3]
             refine oV (i := 6) (some 37) (.int .i64 (N : Int)) rfl rfl hS (by intro W _; have e := wrapN N hn; simp [go_sem, e]) ?_
             simp only [Act.put, u1, u2, u3]
             refine oV (i := 8) (some 39) (.agg (vb l).toArray) rfl rfl hS (fun W h => exec_load 32 _ rfl (g) 0 rfl 32 (vb l) (vb l) _ (h.1) (by simp) ty42 rfl (by rw [vb_length, H16.out]; exact i42)) ?_
             simp only [Act.put, u1, u2, u3]
             refine oH_call (i := 7) (some 38) rfl rfl (by kernel_rfl) (by kernel_rfl) 32 _ _ rfl [.int .u8 (ub (gb l 2)), .int .i64 (N : Int)] rfl (by kernel_rfl) (smark_any (gb l 2) N (by omega) _) ?_
             rintro e w5 ⟨rfl, hb5⟩
             have hS5 : Row w5 g 32 l /\ Below w.heap.size w w5 := ⟨hS.1.below hb5 hS.1.lt, hS.2.trans (hb5.mono hS.2.size)⟩
             refine ⟨_, rfl, hS5, ?_⟩
             simp only [Act.put, u1, u2, u3]
             refine oV (i := 9) (some 40) (.bool false) rfl rfl hS5 (fun W _ => (exec_ne16 32 _ _ _ (by rfl) (mkB (gb l 2) N) l (by rfl) (by rfl) ty42 eg42 rfl H16.out W).trans (by rw [decide_eq_true hm]; rfl)) ?_
             simp only [Act.put, u1, u2, u3]
             refine oV (i := 10) (some 41) (.bool false) rfl rfl hS5 (fun _ _ => rfl) ?_
             simp only [Act.put, u1, u2, u3]
             refine oV (i := 11) (some 42) (.bool false) rfl rfl hS5 (fun _ _ => rfl) ?_
             simp only [Act.put, u1, u2, u3]
             refine oV (i := 13) (some 44) (.pointer (some ⟨g, 2, none⟩)) rfl rfl hS5 (by intro W _; simp [go_sem]) ?_
             simp only [Act.put, u1, u2, u3]
             refine oV (i := 14) (some 45) (.int .u8 (ub (gb l 2))) rfl rfl hS5 (fun W h => exec_cell _ _ (by rfl) ⟨g, 2, none⟩ _ (by rfl) (agg5 W) (h.1.cell (i := 2) (by rw [H16.out]; omega))) ?_
             simp only [Act.put, u1, u2, u3]
             have hS6 : Row (w5.alloc (.cells #[.int .u8 107, .int .u8 98, .int .u8 100] 5)) g 32 l /\ Below w.heap.size w (w5.alloc (.cells #[.int .u8 107, .int .u8 98, .int .u8 100] 5)) := ⟨hS5.1.alloc _, hS5.2.alloc hS5.2.size _⟩
             refine oH_run (i := 12) (some 43) (.slice (some ⟨w5.heap.size, 0, none⟩) 3 3) rfl rfl (by kernel_rfl) (by kernel_rfl) (show _ = Result.ok _ (w5.alloc (.cells #[.int .u8 107, .int .u8 98, .int .u8 100] 5)) by kernel_rfl) hS6 ?_
             simp only [Act.put, u1, u2, u3]
             have hsb : SB (w5.alloc (.cells #[.int .u8 107, .int .u8 98, .int .u8 100] 5)) (.slice (some ⟨w5.heap.size, 0, none⟩) 3 3) [107, 98, 100] := by
               have h := Row.new w5 5 [107, 98, 100]
               have e : (vb [107, 98, 100]).toArray = #[.int .u8 107, .int .u8 98, .int .u8 100] := by simp [ub]
               rw [e] at h
               exact SB.row (l := [107, 98, 100]) h (by simp [maxLen])
             generalize w5.alloc (.cells #[.int .u8 107, .int .u8 98, .int .u8 100] 5) = w6 at *
             refine oH_call (i := 15) (some 46) rfl rfl (by kernel_rfl) (by kernel_rfl) 69 _ _ rfl [.slice (some ⟨w5.heap.size, 0, none⟩) 3 3, .int .u8 (ub (gb l 2))] rfl (by kernel_rfl) (contains_any _ [107, 98, 100] (gb l 2) _ hsb) ?_
             rintro e w7 ⟨rfl, rfl⟩
             rw [markC, decide_eq_true hk]
             refine ⟨_, rfl, hS6, ?_⟩
             simp only [Act.put, u1, u2, u3]
             refine oV (i := 16) (some 47) (.bool false) rfl rfl hS6 (by intro W _; simp [go_sem]) ?_
             simp only [Act.put, u1, u2, u3]
             refine oV (i := 17) (some 48) (.bool false) rfl rfl hS6 (fun _ _ => rfl) ?_
             simp only [Act.put, u1, u2, u3]
             refine wpAnyH_done (by kernel_rfl) ?_ _
             have x2 := hS6.1.cell (i := 2) (by rw [H16.out]; omega)
             have e : IntKind.i64.wrap (N : Int) = (N : Int) := by rw [IntKind.wrap_i64]; omega
             have HS := Hd.mk hS6
             clear hS hS5 hS6 hm hk
             go_wp2
             refine bodyPost_ret (results_tmp3 rfl _ _ _) rfl ?_
             exact ⟨by rw [HY.out]; rfl, HS.out.2⟩
           · have HY := Hd.mk (Hno.out fun hh => hk hh.2.1)
             refine oH_begin (n := 18) (fun W => Row W g 32 l /\ Below w.heap.size w W) (by kernel_rfl) rfl ?_
             have hS : Row (w3.drewN 1) g 32 l /\ Below w.heap.size w (w3.drewN 1) := ⟨HR.out.drewN 1, below_drewN hB 1⟩
             generalize w3.drewN 1 = w4 at *
             refine oV (i := 0) (some 31) (.int .u64 (N : Int)) rfl rfl hS (fun _ _ => rfl) ?_
             simp only [Act.put, u1, u2, u3]
             refine oV (i := 1) (some 32) (.bool false) rfl rfl hS (by intro W _; simp [go_sem]; omega) ?_
             simp only [Act.put, u1, u2, u3]
             refine oV (i := 2) (some 33) (.bool false) rfl rfl hS (fun _ _ => rfl) ?_
             simp only [Act.put, u1, u2, u3]
             refine oV (i := 3) (some 34) (.pointer (some ⟨g, 2, none⟩)) rfl rfl hS (by intro W _; simp [go_sem]) ?_
             simp only [Act.put, u1, u2, u3]
             refine oV (i := 4) (some 35) (.int .u8 (ub (gb l 2))) rfl rfl hS (fun W h => exec_cell _ _ (by rfl) ⟨g, 2, none⟩ _ (by rfl) (agg5 W) (h.1.cell (i := 2) (by rw [H16.out]; omega))) ?_
             simp only [Act.put, u1, u2, u3]
             refine oV (i := 5) (some 36) (.int .u64 (N : Int)) rfl rfl hS (fun _ _ => rfl) ?_
             simp only [Act.put, u1, u2, u3]
             refine oV (i := 6) (some 37) (.int .i64 (N : Int)) rfl rfl hS (by intro W _; have e := wrapN N hn; simp [go_sem, e]) ?_
             simp only [Act.put, u1, u2, u3]
             refine oV (i := 8) (some 39) (.agg (vb l).toArray) rfl rfl hS (fun W h => exec_load 32 _ rfl (g) 0 rfl 32 (vb l) (vb l) _ (h.1) (by simp) ty42 rfl (by rw [vb_length, H16.out]; exact i42)) ?_
             simp only [Act.put, u1, u2, u3]
             refine oH_call (i := 7) (some 38) rfl rfl (by kernel_rfl) (by kernel_rfl) 32 _ _ rfl [.int .u8 (ub (gb l 2)), .int .i64 (N : Int)] rfl (by kernel_rfl) (smark_any (gb l 2) N (by omega) _) ?_
             rintro e w5 ⟨rfl, hb5⟩
             have hS5 : Row w5 g 32 l /\ Below w.heap.size w w5 := ⟨hS.1.below hb5 hS.1.lt, hS.2.trans (hb5.mono hS.2.size)⟩
             refine ⟨_, rfl, hS5, ?_⟩
             simp only [Act.put, u1, u2, u3]
             refine oV (i := 9) (some 40) (.bool false) rfl rfl hS5 (fun W _ => (exec_ne16 32 _ _ _ (by rfl) (mkB (gb l 2) N) l (by rfl) (by rfl) ty42 eg42 rfl H16.out W).trans (by rw [decide_eq_true hm]; rfl)) ?_
             simp only [Act.put, u1, u2, u3]
             refine oV (i := 10) (some 41) (.bool false) rfl rfl hS5 (fun _ _ => rfl) ?_
             simp only [Act.put, u1, u2, u3]
             refine oV (i := 11) (some 42) (.bool false) rfl rfl hS5 (fun _ _ => rfl) ?_
             simp only [Act.put, u1, u2, u3]
             refine oV (i := 13) (some 44) (.pointer (some ⟨g, 2, none⟩)) rfl rfl hS5 (by intro W _; simp [go_sem]) ?_
             simp only [Act.put, u1, u2, u3]
             refine oV (i := 14) (some 45) (.int .u8 (ub (gb l 2))) rfl rfl hS5 (fun W h => exec_cell _ _ (by rfl) ⟨g, 2, none⟩ _ (by rfl) (agg5 W) (h.1.cell (i := 2) (by rw [H16.out]; omega))) ?_
             simp only [Act.put, u1, u2, u3]
             have hS6 : Row (w5.alloc (.cells #[.int .u8 107, .int .u8 98, .int .u8 100] 5)) g 32 l /\ Below w.heap.size w (w5.alloc (.cells #[.int .u8 107, .int .u8 98, .int .u8 100] 5)) := ⟨hS5.1.alloc _, hS5.2.alloc hS5.2.size _⟩
             refine oH_run (i := 12) (some 43) (.slice (some ⟨w5.heap.size, 0, none⟩) 3 3) rfl rfl (by kernel_rfl) (by kernel_rfl) (show _ = Result.ok _ (w5.alloc (.cells #[.int .u8 107, .int .u8 98, .int .u8 100] 5)) by kernel_rfl) hS6 ?_
             simp only [Act.put, u1, u2, u3]
             have hsb : SB (w5.alloc (.cells #[.int .u8 107, .int .u8 98, .int .u8 100] 5)) (.slice (some ⟨w5.heap.size, 0, none⟩) 3 3) [107, 98, 100] := by
               have h := Row.new w5 5 [107, 98, 100]
               have e : (vb [107, 98, 100]).toArray = #[.int .u8 107, .int .u8 98, .int .u8 100] := by simp [ub]
               rw [e] at h
               exact SB.row (l := [107, 98, 100]) h (by simp [maxLen])
             generalize w5.alloc (.cells #[.int .u8 107, .int .u8 98, .int .u8 100] 5) = w6 at *
             refine oH_call (i := 15) (some 46) rfl rfl (by kernel_rfl) (by kernel_rfl) 69 _ _ rfl [.slice (some ⟨w5.heap.size, 0, none⟩) 3 3, .int .u8 (ub (gb l 2))] rfl (by kernel_rfl) (contains_any _ [107, 98, 100] (gb l 2) _ hsb) ?_
             rintro e w7 ⟨rfl, rfl⟩
             rw [markC, decide_eq_false hk]
             refine ⟨_, rfl, hS6, ?_⟩
             simp only [Act.put, u1, u2, u3]
             refine oV (i := 16) (some 47) (.bool true) rfl rfl hS6 (by intro W _; simp [go_sem]) ?_
             simp only [Act.put, u1, u2, u3]
             refine oV (i := 17) (some 48) (.bool true) rfl rfl hS6 (fun _ _ => rfl) ?_
             simp only [Act.put, u1, u2, u3]
             refine wpAnyH_done (by kernel_rfl) ?_ _
             have HS := Hd.mk hS6
             go_wp2
             refine bodyPost_ret (results_tmp3 rfl _ _ _) rfl ?_
             exact ⟨by rw [HY.out]; rfl, HS.out.2⟩
         · have HY := Hd.mk (Hno.out fun hh => hm hh.2.2.2.symm)
           refine oH_begin (n := 18) (fun W => Row W g 32 l /\ Below w.heap.size w W) (by kernel_rfl) rfl ?_
           have hS : Row (w3.drewN 1) g 32 l /\ Below w.heap.size w (w3.drewN 1) := ⟨HR.out.drewN 1, below_drewN hB 1⟩
           generalize w3.drewN 1 = w4 at *
           refine oV (i := 0) (some 31) (.int .u64 (N : Int)) rfl rfl hS (fun _ _ => rfl) ?_
           simp only [Act.put, u1, u2, u3]
           refine oV (i := 1) (some 32) (.bool false) rfl rfl hS (by intro W _; simp [go_sem]; omega) ?_
           simp only [Act.put, u1, u2, u3]
           refine oV (i := 2) (some 33) (.bool false) rfl rfl hS (fun _ _ => rfl) ?_
           simp only [Act.put, u1, u2, u3]
           refine oV (i := 3) (some 34) (.pointer (some ⟨g, 2, none⟩)) rfl rfl hS (by intro W _; simp [go_sem]) ?_
           simp only [Act.put, u1, u2, u3]
           refine oV (i := 4) (some 35) (.int .u8 (ub (gb l 2))) rfl rfl hS (fun W h => exec_cell _ _ (by rfl) ⟨g, 2, none⟩ _ (by rfl) (agg5 W) (h.1.cell (i := 2) (by rw [H16.out]; omega))) ?_
           simp only [Act.put, u1, u2, u3]
           refine oV (i := 5) (some 36) (.int .u64 (N : Int)) rfl rfl hS (fun _ _ => rfl) ?_
           simp only [Act.put, u1, u2, u3]
           refine oV (i := 6) (some 37) (.int .i64 (N : Int)) rfl rfl hS (by intro W _; have e := wrapN N hn; simp [go_sem, e]) ?_
           simp only [Act.put, u1, u2, u3]
           refine oV (i := 8) (some 39) (.agg (vb l).toArray) rfl rfl hS (fun W h => exec_load 32 _ rfl (g) 0 rfl 32 (vb l) (vb l) _ (h.1) (by simp) ty42 rfl (by rw [vb_length, H16.out]; exact i42)) ?_
           simp only [Act.put, u1, u2, u3]
           refine oH_call (i := 7) (some 38) rfl rfl (by kernel_rfl) (by kernel_rfl) 32 _ _ rfl [.int .u8 (ub (gb l 2)), .int .i64 (N : Int)] rfl (by kernel_rfl) (smark_any (gb l 2) N (by omega) _) ?_
           rintro e w5 ⟨rfl, hb5⟩
           have hS5 : Row w5 g 32 l /\ Below w.heap.size w w5 := ⟨hS.1.below hb5 hS.1.lt, hS.2.trans (hb5.mono hS.2.size)⟩
           refine ⟨_, rfl, hS5, ?_⟩
           simp only [Act.put, u1, u2, u3]
           refine oV (i := 9) (some 40) (.bool true) rfl rfl hS5 (fun W _ => (exec_ne16 32 _ _ _ (by rfl) (mkB (gb l 2) N) l (by rfl) (by rfl) ty42 eg42 rfl H16.out W).trans (by rw [decide_eq_false hm]; rfl)) ?_
           simp only [Act.put, u1, u2, u3]
           refine oV (i := 10) (some 41) (.bool true) rfl rfl hS5 (fun _ _ => rfl) ?_
           simp only [Act.put, u1, u2, u3]
           refine oV (i := 11) (some 42) (.bool true) rfl rfl hS5 (fun _ _ => rfl) ?_
           simp only [Act.put, u1, u2, u3]
           refine oK (i := 12) (some 43) rfl rfl hS5 ?_
           simp only [Act.put, u1, u2, u3]
           refine oK (i := 13) (some 44) rfl rfl hS5 ?_
           simp only [Act.put, u1, u2, u3]
           refine oK (i := 14) (some 45) rfl rfl hS5 ?_
           simp only [Act.put, u1, u2, u3]
           refine oK (i := 15) (some 46) rfl rfl hS5 ?_
           simp only [Act.put, u1, u2, u3]
           refine oK (i := 16) (some 47) rfl rfl hS5 ?_
           simp only [Act.put, u1, u2, u3]
           refine oV (i := 17) (some 48) (.bool true) rfl rfl hS5 (fun _ _ => rfl) ?_
           simp only [Act.put, u1, u2, u3]
           refine wpAnyH_done (by kernel_rfl) ?_ _
           have HS := Hd.mk hS5
           go_wp2
           refine bodyPost_ret (results_tmp3 rfl _ _ _) rfl ?_
           exact ⟨by rw [HY.out]; rfl, HS.out.2⟩
       · have HY := Hd.mk (Hno.out fun hh => hn hh.2.2.1)
         have dn : decide ((N : Int) > 1099511627776) = true := by simp; omega
         refine oH_begin (n := 18) (fun W => Row W g 32 l /\ Below w.heap.size w W) (by kernel_rfl) rfl ?_
         have hS : Row (w3.drewN 1) g 32 l /\ Below w.heap.size w (w3.drewN 1) := ⟨HR.out.drewN 1, below_drewN hB 1⟩
         generalize w3.drewN 1 = w4 at *
         refine oV (i := 0) (some 31) (.int .u64 (N : Int)) rfl rfl hS (fun _ _ => rfl) ?_
         simp only [Act.put, u1, u2, u3]
         refine oV (i := 1) (some 32) (.bool true) rfl rfl hS (by intro W _; simp [go_sem]; omega) ?_
         simp only [Act.put, u1, u2, u3]
         refine oV (i := 2) (some 33) (.bool true) rfl rfl hS (fun _ _ => rfl) ?_
         simp only [Act.put, u1, u2, u3]
         refine oK (i := 3) (some 34) rfl rfl hS ?_
         simp only [Act.put, u1, u2, u3]
         refine oK (i := 4) (some 35) rfl rfl hS ?_
         simp only [Act.put, u1, u2, u3]
         refine oK (i := 5) (some 36) rfl rfl hS ?_
         simp only [Act.put, u1, u2, u3]
         refine oK (i := 6) (some 37) rfl rfl hS ?_
         simp only [Act.put, u1, u2, u3]
         refine oK (i := 7) (some 38) rfl rfl hS ?_
         simp only [Act.put, u1, u2, u3]
         refine oK (i := 8) (some 39) rfl rfl hS ?_
         simp only [Act.put, u1, u2, u3]
         refine oK (i := 9) (some 40) rfl rfl hS ?_
         simp only [Act.put, u1, u2, u3]
         refine oV (i := 10) (some 41) (.bool true) rfl rfl hS (fun _ _ => rfl) ?_
         simp only [Act.put, u1, u2, u3]
         refine oV (i := 11) (some 42) (.bool true) rfl rfl hS (fun _ _ => rfl) ?_
         simp only [Act.put, u1, u2, u3]
         refine oK (i := 12) (some 43) rfl rfl hS ?_
         simp only [Act.put, u1, u2, u3]
         refine oK (i := 13) (some 44) rfl rfl hS ?_
         simp only [Act.put, u1, u2, u3]
         refine oK (i := 14) (some 45) rfl rfl hS ?_
         simp only [Act.put, u1, u2, u3]
         refine oK (i := 15) (some 46) rfl rfl hS ?_
         simp only [Act.put, u1, u2, u3]
         refine oK (i := 16) (some 47) rfl rfl hS ?_
         simp only [Act.put, u1, u2, u3]
         refine oV (i := 17) (some 48) (.bool true) rfl rfl hS (fun _ _ => rfl) ?_
         simp only [Act.put, u1, u2, u3]
         refine wpAnyH_done (by kernel_rfl) ?_ _
         have HS := Hd.mk hS
         go_wp2
         refine bodyPost_ret (results_tmp3 rfl _ _ _) rfl ?_
         exact ⟨by rw [HY.out]; rfl, HS.out.2⟩
     · have t1 : (ub (gb l 1) != 254) = true := by
         have : ub 254 = 254 := by simp [ub]
         rw [← this, bne_iff_ne]; exact fun hh => h1 (ub_inj.1 hh)
       have HY := Hd.mk (Hno.out fun hh => h1 (by rw [hh.2.2.2]; rfl))
       clear h0 h1
       go_wp2
       refine bodyPost_ret (results_tmp3 rfl _ _ _) rfl ?_
       exact ⟨by rw [HY.out]; rfl, hB⟩
   · have t0 : (ub (gb l 0) != 255) = true := by
       have : ub 255 = 255 := by simp [ub]
       rw [← this, bne_iff_ne]; exact fun hh => h0 (ub_inj.1 hh)
     have HY := Hd.mk (Hno.out fun hh => h0 (by rw [hh.2.2.2]; rfl))
     clear h0
     go_wp2
     refine bodyPost_ret (results_tmp3 rfl _ _ _) rfl ?_
     exact ⟨by rw [HY.out]; rfl, hB⟩
 · have e16 : (if l.length = 16 then l else zKey) = zKey := if_neg h16
   have d16 := decide_eq_false h16
   have HY := Hd.mk (Hno.out fun hh => h16 hh.1)
   have E16 := Hd.mk e16
   have D16 := Hd.mk d16
   have hi : (Try.prog.info? 32).map (·.size) = some (vb zKey).length := i42
   have Hi := Hd.mk hi
   clear hi e16 d16 h16
   go_enter Try.func46, Try.ntmps46
   go_wp2_with (first | (go_at_call 67; refine (okey_any _ l _ Hv.out).mono ?_; rintro e w1 ⟨rfl, hb1⟩; rw [E16.out, D16.out]) | (refine wl_storeW rfl 32 _ _ rfl w1.heap.size 0 (vb zKey) rfl rfl 32 _ (vb zKey) (Blk.new w1 32 (List.replicate 16 (.int .u8 0))) (by simp [zKey]) (by exact Hi.out) (vb_ones _) (by simp [zKey]) ?_; intro w2 hr2 hg2 hs2))
   refine bodyPost_ret (results_tmp3 rfl _ _ _) rfl ?_
   exact ⟨by rw [HY.out]; rfl, (hb1.alloc hb1.size (.cells (List.replicate 16 (Value.int .u8 0)).toArray 32)).grown hg2 (by have := hb1.size; simp; omega) (by have := hb1.size; rintro j hj; cases hj; omega)⟩
end
section
open Go.RowKit Go.QT
variable {P : Program} {o : Oper} {a : Act}
theorem exec_add (t t' : TypeId) (x y : Operand) (ho : o.op = .binOp .add t x y t') (m n : Int) (hx : a.eval x = .int .i64 m) (hy : a.eval y = .int .i64 n) (p : Int) (hp : m + n = p) (h1 : -9223372036854775808 <= p) (h2 : p <= 9223372036854775807) (w : World) :
   (execOp a.eval o).run P w = .ok (.value (.int .i64 p)) w := by
 have e : IntKind.i64.wrap (m + n) = p := by rw [hp, IntKind.wrap_i64]; omega
 have h3 : (eqGuard .add t x y (.int .i64 m) (.int .i64 n)).run P w = .ok () w := by simp [eqGuard]
 have h4 : (binOp .add t (.int .i64 m) (.int .i64 n)).run P w = .ok (.int .i64 p) w := by simp [binOp, Op.intArith, e]
 unfold execOp
 simp only [ho, hx, hy, Sem.run_bind, h3, h4, Result.andThen_ok, Sem.run_pure]
theorem exec_sub (t t' : TypeId) (x y : Operand) (ho : o.op = .binOp .sub t x y t') (m n : Int) (hx : a.eval x = .int .i64 m) (hy : a.eval y = .int .i64 n) (p : Int) (hp : m - n = p) (h1 : -9223372036854775808 <= p) (h2 : p <= 9223372036854775807) (w : World) :
   (execOp a.eval o).run P w = .ok (.value (.int .i64 p)) w := by
 have e : IntKind.i64.wrap (m - n) = p := by rw [hp, IntKind.wrap_i64]; omega
 have h3 : (eqGuard .sub t x y (.int .i64 m) (.int .i64 n)).run P w = .ok () w := by simp [eqGuard]
 have h4 : (binOp .sub t (.int .i64 m) (.int .i64 n)).run P w = .ok (.int .i64 p) w := by simp [binOp, Op.intArith, e]
 unfold execOp
 simp only [ho, hx, hy, Sem.run_bind, h3, h4, Result.andThen_ok, Sem.run_pure]
end
end Go.Proofs.Ytecomegocafocaa
