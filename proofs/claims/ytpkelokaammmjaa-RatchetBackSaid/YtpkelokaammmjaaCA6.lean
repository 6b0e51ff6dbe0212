/- What the rounds of close keep. (Texts laid one behind the other: Mind, PutGet, STl, SymP, KnFn, MindX, Take, CloseL.) -/
import Derived.Test.YtpkelokaammmjaaCA5
/-! A knows.Mind in memory: sets of keys, and the rows that were taken. -/
section
namespace Go.Proofs.Ytpkelokaammmjaa
open Go.RowKit Go.QT
/-! ### Things in one -/
section
variable {F F0 : Nat → Prop} {w0 w w' : World} {ro rs ps : List Res}
theorem Hp.keepAll (h : Hp F w w [] ps) (hs : w.heap.size ≤ w'.heap.size) (hk : ∀ q, F q → w'.heap[q]? = w.heap[q]?) : Hp F w' w' [] ps where
  fr := Fr.refl _ _
  own := fun i r hi => r.keep (h.own i r hi) hs fun q hq => by
    rcases h.mine i r hi q hq with h1 | h1
    · exact hk q h1
    · exact absurd (r.lt (h.own i r hi) q hq) (Nat.not_lt.2 h1)
  mine := fun i r hi q hq => by
    rcases h.mine i r hi q hq with h1 | h1
    · exact .inl h1
    · exact absurd (r.lt (h.own i r hi) q hq) (Nat.not_lt.2 h1)
  dis := h.dis
  red := by simp
  rdis := by simp
def partF (ps : List Res) : Nat → Prop := fun q => ∃ (i : Nat) (p : Res), ps[i]? = some p ∧ p.F q
theorem Hp.parts {rest : List Res} (h : Hp F0 w0 w ro (ps ++ rest)) : (∀ q, partF ps q → q < w.heap.size) ∧ Hp (partF ps) w w [] ps := by
  have get : ∀ (i : Nat) (r : Res), ps[i]? = some r → (ps ++ rest)[i]? = some r := fun i r hi => by
    rw [List.getElem?_append_left (List.getElem?_eq_some_iff.1 hi).1]; exact hi
  refine ⟨fun q ⟨i, p, hi, hq⟩ => p.lt (h.own i p (get i p hi)) q hq, Fr.refl _ _, fun i r hi => h.own i r (get i r hi), fun i r hi q hq => .inl ⟨i, r, hi, hq⟩, fun i j r s hi hj hne => h.dis i j r s (get i r hi) (get j s hj) hne, by simp, by simp⟩
/-- Some things become one. -/
theorem Hp.pack {rest : List Res} (h : Hp F0 w0 w ro (ps ++ rest)) (r : Res) (hr : r.Φ w) (hF : ∀ q, r.F q → partF ps q) : Hp F0 w0 w ro (r :: rest) := by
  have get : ∀ (i : Nat) (s : Res), ps[i]? = some s → (ps ++ rest)[i]? = some s := fun i s hi => by
    rw [List.getElem?_append_left (List.getElem?_eq_some_iff.1 hi).1]; exact hi
  have getr : ∀ (i : Nat) (s : Res), rest[i]? = some s → (ps ++ rest)[ps.length + i]? = some s := fun i s hi => by
    rw [List.getElem?_append_right (by omega)]; simpa using hi
  have cross : ∀ (j : Nat) (s : Res), rest[j]? = some s → r.dj s := fun j s hj q h1 h2 => by
    obtain ⟨i, p, hi, hp⟩ := hF q h1
    have hil := (List.getElem?_eq_some_iff.1 hi).1
    exact h.dis i (ps.length + j) p s (get i p hi) (getr j s hj) (by omega) q hp h2
  refine ⟨h.fr, ?_, ?_, ?_, h.red, ?_⟩
  · intro i s hi
    cases i with
    | zero => injection hi with hi; subst hi; exact hr
    | succ i => exact h.own _ s (getr i s hi)
  · intro i s hi q hq
    cases i with
    | zero =>
      injection hi with hi; subst hi
      obtain ⟨j, p, hj, hp⟩ := hF q hq
      exact h.mine j p (get j p hj) q hp
    | succ i => exact h.mine _ s (getr i s hi) q hq
  · intro i j s t hi hj hne
    cases i with
    | zero =>
      injection hi with hi; subst hi
      cases j with
      | zero => exact absurd rfl hne
      | succ j => exact cross j t hj
    | succ i =>
      cases j with
      | zero => injection hj with hj; subst hj; exact (cross i s hi).symm
      | succ j => exact h.dis _ _ s t (getr i s hi) (getr j t hj) (by omega)
  · intro i j s t hi hj
    cases j with
    | zero =>
      injection hj with hj; subst hj
      intro q h1 h2
      obtain ⟨k, p, hk, hp⟩ := hF q h2
      exact h.rdis i k s p hi (get k p hk) q h1 hp
    | succ j => exact h.rdis i _ s t hi (getr j t hj)
end
/-- Rows of bytes of one's own that are not turned any more. -/
def rRows (F : Nat → Prop) (vs : List Value) (ls : List Bytes) : Res where
  F := F
  Φ := fun w => (∀ q, F q → q < w.heap.size) ∧ vs.length = ls.length ∧ ∀ (i : Nat) v l, vs[i]? = some v → ls[i]? = some l → SB w v l ∧ v.oneCell' = true ∧ (∀ q, v.ownBlock = some q → F q) ∧ l.length ≤ 1000000
  lt := fun h => h.1
  keep := fun h hs hk => ⟨fun q hq => Nat.lt_of_lt_of_le (h.1 q hq) hs, h.2.1, fun i v l h1 h2 => by
    obtain ⟨a, b, c⟩ := h.2.2 i v l h1 h2
    exact ⟨a.keepB hs fun q hq => hk q (c.1 q hq), b, c⟩⟩
structure KM where
  kk : List Bytes
  bx : List Bytes
  op : List Bytes
  al : List Bytes
/-- The boxes: with an iterator over them, or without. -/
def rBX (bb : Nat) (it : Option (Nat × Nat × List Nat)) (ks : List Bytes) : Res :=
  match it with
  | none => rKM bb ks
  | some x => rIt bb x.1 ks x.2.1 x.2.2
def mCells (tb kb bb ob : Nat) (A : Value) : List Value := [pt tb 0, .map (some kb), .map (some bb), .map (some ob), A]
def mParts (it : Option (Nat × Nat × List Nat)) (m tb kb bb ob : Nat) (S : KM) (A : Value) (vs : List Value) (G : Nat → Prop) : List Res :=
  [rBlk m 65 (mCells tb kb bb ob A), rKM kb S.kk, rBX bb it S.bx, rKM ob S.op, rOV 35 1 A (vs.map fun v => [v]), rRows G vs S.al]
structure Mp where
  tb : Nat
  kb : Nat
  bb : Nat
  ob : Nat
def rMind (F : Nat → Prop) (it : Option (Nat × Nat × List Nat)) (m : Nat) (p : Mp) (S : KM) : Res where
  F := F
  Φ := fun w => (∀ q, F q → q < w.heap.size) ∧ ∃ A vs G, Hp F w w [] (mParts it m p.tb p.kb p.bb p.ob S A vs G)
  lt := fun h => h.1
  keep := fun h hs hk => ⟨fun q hq => Nat.lt_of_lt_of_le (h.1 q hq) hs, by
    obtain ⟨A, vs, G, hh⟩ := h.2
    exact ⟨A, vs, G, hh.keepAll hs hk⟩⟩
section
variable {F F0 : Nat → Prop} {w0 w w' : World} {ro rs : List Res} {it : Option (Nat × Nat × List Nat)} {m : Nat} {p : Mp} {S : KM} {o : Oper} {a : Act} {i : Nat}
theorem mind_join {A : Value} {vs : List Value} {G : Nat → Prop} {rest : List Res} (h : Hp F0 w0 w ro (mParts it m p.tb p.kb p.bb p.ob S A vs G ++ rest)) : ∃ F', Hp F0 w0 w ro (rMind F' it m p S :: rest) :=
  ⟨_, h.pack (rMind (partF _) it m p S) ⟨h.parts.1, A, vs, G, h.parts.2⟩ (fun _ hq => hq)⟩
theorem mind_split (h : Hp F0 w0 w ro rs) (i : Nat) (hi : rs[i]? = some (rMind F it m p S)) : ∃ A vs G, Hp F0 w0 w ro (mParts it m p.tb p.kb p.bb p.ob S A vs G ++ rs.eraseIdx i) := by
  obtain ⟨_, A, vs, G, hc⟩ := h.own i _ hi
  exact ⟨A, vs, G, h.call1 i hi hc⟩
theorem mind_hp (hF : (rMind F it m p S).Φ w) : ∃ A vs G, Hp F w w [] (mParts it m p.tb p.kb p.bb p.ob S A vs G) := hF.2
theorem rBX_map {bb : Nat} {ks : List Bytes} (h : (rBX bb it ks).Φ w) : ∃ es clock, w.heap[bb]? = some (.map es clock) ∧ KmOk es clock ks := by
  cases it with
  | none => exact h
  | some x => exact rIt_km h
/-- A field of a mind, but for its rows. -/
theorem e_mload (hF : (rMind F it m p S).Φ w) (t : TypeId) (x : Operand) (ho : o.op = .load t x) (k : Nat) (v : Value) (hx : a.eval x = pt m k) (hk : [pt p.tb 0, .map (some p.kb), .map (some p.bb), .map (some p.ob)][k]? = some v) (ht : pureVal Try.prog (isAgg t) = some false) :
    (execOp a.eval o).run Try.prog w = .ok (.value v) w := by
  obtain ⟨A, vs, G, hh⟩ := mind_hp hF
  have hb : Blk w m 65 (mCells p.tb p.kb p.bb p.ob A) := hh.own 0 _ rfl
  refine e_load hb t x ho k v hx ?_ ht
  have hk4 : k < 4 := (List.getElem?_eq_some_iff.1 hk).1
  rw [show mCells p.tb p.kb p.bb p.ob A = [pt p.tb 0, .map (some p.kb), .map (some p.bb), .map (some p.ob)] ++ [A] from rfl, List.getElem?_append_left (by simpa using hk4)]
  exact hk
theorem e_mkk (hF : (rMind F it m p S).Φ w) (f : Bytes) (hf : f.length = 16) (x y : Operand) (ho : o.op = .lookup 63 x y false) (hx : a.eval x = .map (some p.kb)) (hy : a.eval y = .agg (vb f).toArray) (b : Bool) (hb : decide (f ∈ S.kk) = b) :
    (execOp a.eval o).run Try.prog w = .ok (.value (.bool b)) w := by
  obtain ⟨A, vs, G, hh⟩ := mind_hp hF
  exact e_lookK (F := rKM p.kb S.kk) (hh.own 1 _ rfl) rfl f hf x y ho hx hy b hb
theorem e_mop (hF : (rMind F it m p S).Φ w) (f : Bytes) (hf : f.length = 16) (x y : Operand) (ho : o.op = .lookup 63 x y false) (hx : a.eval x = .map (some p.ob)) (hy : a.eval y = .agg (vb f).toArray) (b : Bool) (hb : decide (f ∈ S.op) = b) :
    (execOp a.eval o).run Try.prog w = .ok (.value (.bool b)) w := by
  obtain ⟨A, vs, G, hh⟩ := mind_hp hF
  exact e_lookK (F := rKM p.ob S.op) (hh.own 3 _ rfl) rfl f hf x y ho hx hy b hb
theorem e_mbx (hF : (rMind F it m p S).Φ w) (f : Bytes) (hf : f.length = 16) (x y : Operand) (ho : o.op = .lookup 63 x y false) (hx : a.eval x = .map (some p.bb)) (hy : a.eval y = .agg (vb f).toArray) (b : Bool) (hb : decide (f ∈ S.bx) = b) :
    (execOp a.eval o).run Try.prog w = .ok (.value (.bool b)) w := by
  obtain ⟨A, vs, G, hh⟩ := mind_hp hF
  have h2 : (rBX p.bb it S.bx).Φ w := hh.own 2 _ rfl
  exact e_lookK (F := rKM p.bb S.bx) (rBX_map h2) rfl f hf x y ho hx hy b hb
theorem fr_mind {F : Nat → Prop} {w w' : World} {S' : KM} {it' : Option (Nat × Nat × List Nat)} {A : Value} {vs : List Value} {G : Nat → Prop} (h : Hp F0 w0 w ro rs) (i : Nat) (hi : rs[i]? = some (rMind F it m p S)) (hc : Hp F w w' [] (mParts it' m p.tb p.kb p.bb p.ob S' A vs G)) :
    ∃ F', Hp F0 w0 w' ro (rs.set i (rMind F' it' m p S')) := by
  obtain ⟨F', hh⟩ := mind_join (p := p) (rest := []) (by simpa using hc)
  exact ⟨F', h.upd i hi hh.fr _ (hh.own 0 _ rfl) (hh.mine 0 _ rfl)⟩
theorem mind_named {it' : Option (Nat × Nat × List Nat)} {S' : KM} (h : ∃ F', Hp F0 w0 w' ro (rs.set i (rMind F' it' m p S'))) : ∃ F' S'', S'' = S' ∧ Hp F0 w0 w' ro (rs.set i (rMind F' it' m p S'')) := by
  obtain ⟨F', h⟩ := h
  exact ⟨F', S', rfl, h⟩
theorem x_mupdK (h : Hp F0 w0 w ro rs) (i : Nat) (hi : rs[i]? = some (rMind F it m p S)) (f : Bytes) (hf : f.length = 16) (x y z : Operand) (ho : o.op = .mapUpdate 63 x y z) (hx : a.eval x = .map (some p.kb)) (hy : a.eval y = .agg (vb f).toArray) (hz : a.eval z = .bool true) :
    OpTo Try.prog o a w (fun _ w' => ∃ F' S', S' = { S with kk := insK S.kk f } ∧ Hp F0 w0 w' ro (rs.set i (rMind F' it m p S'))) := by
  obtain ⟨A, vs, G, hh⟩ := mind_hp (h.own i _ hi)
  obtain ⟨w', hr, hk, hf'⟩ := run_updK f hf (show (rKM p.kb S.kk).Φ w from hh.own 1 _ rfl)
  refine OpTo.runs (w' := w') ?_ (mind_named <| fr_mind h i hi (hh.upd 1 rfl hf' (rKM p.kb (insK S.kk f)) hk (fun q hq => .inl hq)))
  unfold execOp
  simp only [ho, hx, hy, hz, Sem.run_bind, hr, Result.andThen_ok, Sem.run_pure]
theorem x_mupdO (h : Hp F0 w0 w ro rs) (i : Nat) (hi : rs[i]? = some (rMind F it m p S)) (f : Bytes) (hf : f.length = 16) (x y z : Operand) (ho : o.op = .mapUpdate 63 x y z) (hx : a.eval x = .map (some p.ob)) (hy : a.eval y = .agg (vb f).toArray) (hz : a.eval z = .bool true) :
    OpTo Try.prog o a w (fun _ w' => ∃ F' S', S' = { S with op := insK S.op f } ∧ Hp F0 w0 w' ro (rs.set i (rMind F' it m p S'))) := by
  obtain ⟨A, vs, G, hh⟩ := mind_hp (h.own i _ hi)
  obtain ⟨w', hr, hk, hf'⟩ := run_updK f hf (show (rKM p.ob S.op).Φ w from hh.own 3 _ rfl)
  refine OpTo.runs (w' := w') ?_ (mind_named <| fr_mind h i hi (hh.upd 3 rfl hf' (rKM p.ob (insK S.op f)) hk (fun q hq => .inl hq)))
  unfold execOp
  simp only [ho, hx, hy, hz, Sem.run_bind, hr, Result.andThen_ok, Sem.run_pure]
theorem x_mupdB (h : Hp F0 w0 w ro rs) (i : Nat) (hi : rs[i]? = some (rMind F it m p S)) (f : Bytes) (hf : f.length = 16) (x y z : Operand) (ho : o.op = .mapUpdate 63 x y z) (hx : a.eval x = .map (some p.bb)) (hy : a.eval y = .agg (vb f).toArray) (hz : a.eval z = .bool true) :
    OpTo Try.prog o a w (fun _ w' => ∃ F' S', S' = { S with bx := insK S.bx f } ∧ Hp F0 w0 w' ro (rs.set i (rMind F' it m p S'))) := by
  obtain ⟨A, vs, G, hh⟩ := mind_hp (h.own i _ hi)
  have : ∃ w', (Instr.mapUpdate 63 (.map (some p.bb)) (.agg (vb f).toArray) (.bool true)).run Try.prog w = .ok () w' ∧ (rBX p.bb it (insK S.bx f)).Φ w' ∧ Fr (rBX p.bb it S.bx).F w w' ∧ ∀ q, (rBX p.bb it (insK S.bx f)).F q → (rBX p.bb it S.bx).F q := by
    have h2 : (rBX p.bb it S.bx).Φ w := hh.own 2 _ rfl
    cases it with
    | none =>
      obtain ⟨w', hr, hk, hf'⟩ := run_updK f hf (show (rKM p.bb S.bx).Φ w from h2)
      exact ⟨w', hr, hk, hf', fun _ hq => hq⟩
    | some x =>
      obtain ⟨w', hr, hk, hf'⟩ := run_updI f hf (show (rIt p.bb x.1 S.bx x.2.1 x.2.2).Φ w from h2)
      exact ⟨w', hr, hk, hf', fun _ hq => hq⟩
  obtain ⟨w', hr, hk, hf', hsub⟩ := this
  refine OpTo.runs (w' := w') ?_ (mind_named <| fr_mind h i hi (S' := { S with bx := insK S.bx f }) (hh.upd 2 rfl hf' (rBX p.bb it (insK S.bx f)) hk (fun q hq => .inl (hsub q hq))))
  unfold execOp
  simp only [ho, hx, hy, hz, Sem.run_bind, hr, Result.andThen_ok, Sem.run_pure]
/-! ### The range over the boxes -/
theorem x_mrange (h : Hp F0 w0 w ro rs) (i : Nat) (hi : rs[i]? = some (rMind F none m p S)) (x : Operand) (ho : o.op = .range 63 x) (hx : a.eval x = .map (some p.bb)) :
    OpTo Try.prog o a w (fun v w' => ∃ r F', v = pt r 0 ∧ Hp F0 w0 w' ro (rs.set i (rMind F' (some (r, S.bx.length, [])) m p S))) := by
  obtain ⟨A, vs, G, hh⟩ := mind_hp (h.own i _ hi)
  refine (x_rangeK hh 2 rfl x ho hx).mono fun v w' hr => ?_
  obtain ⟨r, hv, h'⟩ := hr
  obtain ⟨F', h2⟩ := fr_mind (it' := some (r, S.bx.length, [])) (S' := S) (A := A) (vs := vs) (G := G) h i hi h'
  exact ⟨r, F', hv, h2⟩
theorem mind_next {r n0 : Nat} {sn : List Nat} (h : Hp F0 w0 w ro rs) (i : Nat) (hi : rs[i]? = some (rMind F (some (r, n0, sn)) m p S)) :
    (∃ k, (∀ ty, (Instr.next (pt r 0) false ty).run Try.prog w = .ok (.tuple #[.bool false]) (w.drewN k)) ∧ ∀ i, i < n0 → i ∈ sn) ∨
    (∃ (j : Nat) (K : Fin 16 → UInt8) (F' : Nat → Prop) (w' : World), S.bx[j]? = some (kl K) ∧ j ∉ sn ∧ (∀ ty, (Instr.next (pt r 0) false ty).run Try.prog w = .ok (.tuple #[.bool true, .agg (vb (kl K)).toArray, .bool true]) w') ∧
      (Instr.entry (pt r 0)).run Try.prog w' = .ok (.tuple #[.agg (vb (kl K)).toArray, .bool true]) w' ∧ Hp F0 w0 w' ro (rs.set i (rMind F' (some (r, n0, sn ++ [j])) m p S))) := by
  obtain ⟨A, vs, G, hh⟩ := mind_hp (h.own i _ hi)
  have h2 : (rIt p.bb r S.bx n0 sn).Φ w := hh.own 2 _ rfl
  rcases run_nextK h2 with ⟨k, hr, hall⟩ | ⟨j, k, w', hj, hn, hr, hk, hf, he⟩
  · exact .inl ⟨k, hr, hall⟩
  · have hkl : k.length = 16 := by
      obtain ⟨_, es, clock, _, _, _, _, hko, _⟩ := h2
      exact hko.ml k (List.mem_of_getElem? hj)
    obtain ⟨F', h3⟩ := fr_mind (it' := some (r, n0, sn ++ [j])) (S' := S) (A := A) (vs := vs) (G := G) h i hi (hh.upd 2 rfl hf (rIt p.bb r S.bx n0 (sn ++ [j])) hk (fun q hq => .inl hq))
    obtain ⟨K, rfl⟩ := kl_of k hkl
    exact .inr ⟨j, K, F', w', hj, hn, hr, he, h3⟩
theorem x_next1 {r : Nat} {v : Value} {w1 : World} (x : Operand) (ho : o.op = .next x false) (hx : a.eval x = pt r 0) (hr : ∀ ty, (Instr.next (pt r 0) false ty).run Try.prog w = .ok v w1) :
    OpTo Try.prog o a w (fun u w' => u = v ∧ w1 = w') := by
  refine OpTo.run v (w' := w1) ?_ ⟨rfl, rfl⟩
  unfold execOp
  simp only [ho, hx, Sem.run_bind, hr, Result.andThen_ok, Sem.run_pure]
theorem e_entry1 {r : Nat} {v : Value} (x : Operand) (ho : o.op = .entry x) (hx : a.eval x = pt r 0) (hr : (Instr.entry (pt r 0)).run Try.prog w = .ok v w) :
    (execOp a.eval o).run Try.prog w = .ok (.value v) w := by
  unfold execOp
  simp only [ho, hx, Sem.run_bind, hr, Result.andThen_ok, Sem.run_pure]
/-- The range is over. -/
theorem mind_over {r n0 : Nat} {sn : List Nat} (h : Hp F0 w0 w ro rs) (i : Nat) (hi : rs[i]? = some (rMind F (some (r, n0, sn)) m p S)) : ∃ F', Hp F0 w0 w ro (rs.set i (rMind F' none m p S)) := by
  obtain ⟨A, vs, G, hh⟩ := mind_hp (h.own i _ hi)
  have h2 : (rIt p.bb r S.bx n0 sn).Φ w := hh.own 2 _ rfl
  exact fr_mind (it' := none) (S' := S) (A := A) (vs := vs) (G := G) h i hi (hh.upd 2 rfl (Fr.refl _ _) (rKM p.bb S.bx) (rIt_km h2) (fun q hq => .inl (.inl hq)))
/-- One thing, and one that is read. -/
theorem Hp.focus (h : Hp F0 w0 w ro rs) (i j : Nat) {r s : Res} (hi : rs[i]? = some r) (hj : ro[j]? = some s) : Hp r.F w w [s] [r] :=
  (Hp.one r (h.own i r hi)).addR s (h.red j s hj) fun k t hk => by
    cases k with
    | zero => injection hk with hk; subst hk; exact h.rdis j i s r hj hi
    | succ k => simp at hk
theorem Hp.focusS (h : Hp F0 w0 w ro rs) (i j : Nat) {r s t : Res} (hi : rs[i]? = some r) (hj : rs[j]? = some s) (hij : decide (j ≠ i) = true) (ht : t.Φ w) (hF : ∀ q, t.F q → s.F q) : Hp r.F w w [t] [r] :=
  (Hp.one r (h.own i r hi)).addR t ht fun k u hk => by
    cases k with
    | zero => injection hk with hk; subst hk; exact fun q h1 h2 => h.dis j i s r hj hi (of_decide_eq_true hij) q (hF q h1) h2
    | succ k => simp at hk
theorem Hp.focusB (h : Hp F0 w0 w ro rs) (i j : Nat) {r : Res} {v : Value} {l : Bytes} (hi : rs[i]? = some r) (hj : rs[j]? = some (rOB v l)) (hij : decide (j ≠ i) = true) : Hp r.F w w [rSB v l] [r] :=
  h.focusS i j hi hj hij (OB.sb (h.own j _ hj)) (fun _ hq => hq.2)
end
end Go.Proofs.Ytpkelokaammmjaa
end
/-! The bytes of a number and the number of bytes: plain. -/
section
namespace Go.Proofs.Ytpkelokaammmjaa
theorem ofNat_eq (x : Nat) (a : UInt8) (h : x % 256 = nb a) : UInt8.ofNat x = a := by
  apply UInt8.toNat_inj.1
  unfold nb at h
  simpa using h
theorem put8_getN (m : Bytes) (h : m.length = 8) : put8 (getN m) = m := by
  match m, h with
  | [a0, a1, a2, a3, a4, a5, a6, a7], _ =>
    have h0 := nb_lt a0; have h1 := nb_lt a1; have h2 := nb_lt a2; have h3 := nb_lt a3
    have h4 := nb_lt a4; have h5 := nb_lt a5; have h6 := nb_lt a6; have h7 := nb_lt a7
    have e : ∀ n, put8 n = [UInt8.ofNat (n / 72057594037927936), UInt8.ofNat (n / 281474976710656), UInt8.ofNat (n / 1099511627776), UInt8.ofNat (n / 4294967296), UInt8.ofNat (n / 16777216), UInt8.ofNat (n / 65536), UInt8.ofNat (n / 256), UInt8.ofNat (n / 1)] := fun _ => rfl
    rw [e]
    simp only [getN, List.foldl_cons, List.foldl_nil]
    have b : ∀ x a, x % 256 = nb a → UInt8.ofNat x = a := ofNat_eq
    rw [b _ a0 (by omega), b _ a1 (by omega), b _ a2 (by omega), b _ a3 (by omega), b _ a4 (by omega), b _ a5 (by omega), b _ a6 (by omega), b _ a7 (by omega)]
theorem getN_put8 (n : Nat) (h : n < 18446744073709551616) : getN (put8 n) = n := by
  have e : put8 n = [UInt8.ofNat (n / 72057594037927936), UInt8.ofNat (n / 281474976710656), UInt8.ofNat (n / 1099511627776), UInt8.ofNat (n / 4294967296), UInt8.ofNat (n / 16777216), UInt8.ofNat (n / 65536), UInt8.ofNat (n / 256), UInt8.ofNat (n / 1)] := rfl
  have f : ∀ x, nb (UInt8.ofNat x) = x % 256 := fun x => by unfold nb; simp
  rw [e]
  simp only [getN, List.foldl_cons, List.foldl_nil, f]
  omega
end Go.Proofs.Ytpkelokaammmjaa
end
/-! Plain laws of a table: what is known is one thing each. -/
section
namespace Go.Proofs.Ytpkelokaammmjaa
theorem mkB_inj {k : UInt8} {m n : Nat} (hm : m < 18446744073709551616) (hn : n < 18446744073709551616) (h : mkB k m = mkB k n) : m = n := by
  have h1 : (mkB k m).drop 8 = (mkB k n).drop 8 := by rw [h]
  have h2 : put8 m = put8 n := h1
  rw [← getN_put8 m hm, ← getN_put8 n hn, h2]
structure STab.WF (s : STab) : Prop where
  le : ∀ p ∈ s.known, 1 ≤ p.2 ∧ p.2 ≤ s.keys.length
  inj : ∀ p ∈ s.known, ∀ q ∈ s.known, p.2 = q.2 → p.1 = q.1
theorem STab.WF.empty : STab.empty.WF := ⟨by simp [STab.empty], by simp [STab.empty]⟩
theorem STab.WF.add {s : STab} (h : s.WF) (f : SFrom) : (s.add f).WF :=
  ⟨fun p hp => by have := h.le p hp; simp only [STab.add, List.length_append, List.length_cons, List.length_nil]; omega, fun p hp q hq => h.inj p hp q hq⟩
theorem STab.WF.made {s : STab} (h : s.WF) (f : SFrom) : (s.made f).WF := by
  unfold STab.made
  split
  · exact h
  · refine ⟨fun p hp => ?_, fun p hp q hq e => ?_⟩
    · simp only [List.mem_append, List.mem_singleton] at hp
      simp only [List.length_append, List.length_cons, List.length_nil]
      rcases hp with hp | rfl
      · have := h.le p hp; omega
      · simp
    · simp only [List.mem_append, List.mem_singleton] at hp hq
      rcases hp with hp | rfl
      · rcases hq with hq | rfl
        · exact h.inj p hp q hq e
        · have := h.le p hp; simp only at e; omega
      · rcases hq with hq | rfl
        · have := h.le q hq; simp only at e; omega
        · rfl
theorem STab.at_mem {s : STab} {f : SFrom} {n : Nat} (h : s.at_ f = some n) : (f, n) ∈ s.known := by
  unfold STab.at_ at h
  rw [Option.map_eq_some_iff] at h
  obtain ⟨p, hp, rfl⟩ := h
  have h1 := List.find?_some hp
  have h2 := List.mem_of_find?_eq_some hp
  have : p.1 = f := by simpa using h1
  subst this
  exact h2
theorem STab.num_le {s : STab} (h : s.WF) (f : SFrom) : 1 ≤ s.num f ∧ s.num f ≤ s.keys.length + 1 := by
  unfold STab.num
  cases hc : s.at_ f with
  | none => simp
  | some n => have := h.le _ (STab.at_mem hc); simp at this ⊢; omega
theorem STab.num_iff {s : STab} (h : s.WF) {f : SFrom} {n : Nat} (hf : s.at_ f = some n) (g : SFrom) : n = s.num g ↔ f = g := by
  have hm := STab.at_mem hf
  constructor
  · intro e
    cases hc : s.at_ g with
    | none =>
      have := h.le _ hm
      rw [e, STab.num, hc] at this
      simp at this
      omega
    | some k =>
      have hk := STab.at_mem hc
      rw [STab.num, hc] at e
      exact h.inj _ hm _ hk (by simpa using e)
  · rintro rfl
    rw [STab.num, hf]; rfl
theorem STab.made_keys (s : STab) (f : SFrom) : (s.made f).keys.length ≤ s.keys.length + 1 := by
  unfold STab.made; split <;> simp
theorem STab.made_mono (s : STab) (f : SFrom) : s.keys.length ≤ (s.made f).keys.length := by
  unfold STab.made; split <;> simp
theorem STab.at_made (s : STab) (f : SFrom) : (s.made f).at_ f = some (s.num f) := by
  unfold STab.made STab.num
  cases h : s.at_ f with
  | some n => simp only [h]; rfl
  | none =>
    unfold STab.at_ at h ⊢
    rw [Option.map_eq_none_iff] at h
    simp [List.find?_append, h]
theorem STab.num_again (s : STab) (f : SFrom) : (s.made f).num f = s.num f := by
  conv => lhs; unfold STab.num
  rw [STab.at_made]; rfl
/-- What is known stays. -/
theorem STab.at_made_of (s : STab) (f g : SFrom) (n : Nat) (h : s.at_ f = some n) : (s.made g).at_ f = some n := by
  unfold STab.made
  cases hg : s.at_ g with
  | some m => exact h
  | none =>
    unfold STab.at_ at h ⊢
    simp only [List.find?_append]
    cases hf : s.known.find? (fun p => decide (p.1 = f)) with
    | none => rw [hf] at h; cases h
    | some p => rw [hf] at h; simpa using h
theorem STab.num_of (s : STab) (f : SFrom) (n : Nat) (h : s.at_ f = some n) : s.num f = n := by unfold STab.num; rw [h]; rfl
section
variable {s s' : STab} {f g : SFrom} {n : Nat}
theorem keys_made (h : s' = s.made f) : s'.keys.length ≤ s.keys.length + 1 := h ▸ STab.made_keys s f
theorem num_again' (h : s' = s.made f) : s'.num f = s.num f := h ▸ STab.num_again s f
theorem at_made' (h : s' = s.made f) : s'.at_ f = some (s.num f) := h ▸ STab.at_made s f
theorem at_more (h : s' = s.made g) (hf : s.at_ f = some n) : s'.at_ f = some n := h ▸ STab.at_made_of s f g n hf
theorem wf_made (h : s' = s.made f) (hw : s.WF) : s'.WF := h ▸ hw.made f
/-- Keys of two that are known. -/
theorem mk_iff (hw : s.WF) (hf : s.at_ f = some n) (hl : s.keys.length < 1000000) (g : SFrom) : mkB 107 n = mkB 107 (s.num g) ↔ f = g := by
  have h1 := hw.le _ (STab.at_mem hf)
  have h2 := STab.num_le hw g
  simp only at h1
  constructor
  · intro h; exact (STab.num_iff hw hf g).1 (mkB_inj (by omega) (by omega) h)
  · rintro rfl; rw [STab.num_of _ _ _ hf]
theorem derive_inj {k l : Bytes} {a b : ByteArray} : deriveF k a = deriveF l b ↔ k = l ∧ a = b := by
  simp [deriveF]
end
end Go.Proofs.Ytpkelokaammmjaa
end
/-! Plain facts of marks, and of the marks that stand in bytes. -/
section
namespace Go.Proofs.Ytpkelokaammmjaa
open Go.RowKit
theorem markOf_spec {b : Bytes} {k : UInt8} {n : Nat} (h : markOf b = some (k, n)) : b.length = 16 ∧ (k = 107 ∨ k = 98 ∨ k = 100) ∧ n ≤ 1099511627776 ∧ b = mkB k n := by
  unfold markOf at h
  split at h
  · rename_i hc
    injection h with h
    injection h with h1 h2
    subst h1; subst h2
    exact hc
  · cases h
theorem markOf_mkB {k : UInt8} {n : Nat} (hk : k = 107 ∨ k = 98 ∨ k = 100) (hn : n ≤ 1099511627776) : markOf (mkB k n) = some (k, n) := by
  have h2 : gb (mkB k n) 2 = k := rfl
  have h8 : getN ((mkB k n).drop 8) = n := getN_put8 n (by omega)
  unfold markOf
  rw [h2, h8, if_pos ⟨rfl, hk, hn, rfl⟩]
theorem kd_ne {k : UInt8} (h : k = 107 ∨ k = 98 ∨ k = 100) : (ub k != 0) = true := by
  rcases h with rfl | rfl | rfl <;> kernel_rfl
theorem findTo_16 (b : Bytes) : ∀ i, ∀ x ∈ findTo b i, x.length = 16
  | 0 => by simp [findTo]
  | i+1 => by
    intro x hx
    rw [findTo_succ] at hx
    split at hx
    · rename_i hm
      rw [List.mem_append, List.mem_singleton] at hx
      rcases hx with hx | rfl
      · exact findTo_16 b i x hx
      · obtain ⟨⟨k, n⟩, hp⟩ := Option.isSome_iff_exists.1 hm
        exact (markOf_spec hp).1
    · exact findTo_16 b i x hx
theorem findB_kl (b : Bytes) (j : Nat) (hj : j < (findB b).length) : ∃ K, (findB b)[j]? = some (kl K) := by
  have h := findTo_16 b (b.length - 15) ((findB b)[j]) (List.getElem_mem hj)
  obtain ⟨K, hK⟩ := kl_of _ h
  exact ⟨K, by rw [List.getElem?_eq_getElem hj, ← hK]⟩
theorem map_vb_get {l : List Bytes} {j : Nat} {x : Bytes} (h : l[j]? = some x) : (l.map vb)[j]? = some (vb x) := by
  rw [List.getElem?_map, h]; rfl
/-! ### Tables -/
section
variable {s s' : STab} {f g : SFrom} {n : Nat} {k l : Bytes} {u : Int} {b : Bytes}
theorem box_at {x : SSealed} (h : s.boxes[n]? = some x) (hn : n < 1000000) : s.box (mkB 98 (n + 1)) = some x := by
  unfold STab.box
  rw [markOf_mkB (by decide) (by omega)]
  simp [h]
theorem at_add (h : s' = s.add g) (hf : s.at_ f = some n) : s'.at_ f = some n := by subst h; exact hf
theorem made_boxes (h : s' = s.made f) : s'.boxes = s.boxes ∧ s'.sums = s.sums := by
  subst h; unfold STab.made; split <;> exact ⟨rfl, rfl⟩
theorem add_boxes (h : s' = s.add f) : s'.boxes = s.boxes ∧ s'.sums = s.sums ∧ s'.keys.length = s.keys.length + 1 := by
  subst h; exact ⟨rfl, rfl, by simp [STab.add]⟩
theorem seal_all (h : s' = s.seal k u b) : s'.boxes = s.boxes ++ [⟨k, u, b⟩] ∧ s'.sums = s.sums ∧ s'.keys = s.keys ∧ s'.known = s.known := by
  subst h; exact ⟨rfl, rfl, rfl, rfl⟩
theorem digest_all (h : s' = s.digest b) : s'.boxes = s.boxes ∧ s'.keys = s.keys ∧ s'.known = s.known ∧ s'.sums.length ≤ s.sums.length + 1 := by
  subst h; unfold STab.digest; split <;> exact ⟨rfl, rfl, rfl, by simp⟩
theorem at_known (h : s'.known = s.known) (f : SFrom) : s'.at_ f = s.at_ f := by unfold STab.at_; rw [h]
/-- The sum that stands first is told first. -/
theorem sumAt_zero (h : s.sums[0]? = some b) : s.sumAt b = 0 := by
  unfold STab.sumAt
  cases hs : s.sums with
  | nil => rw [hs] at h; cases h
  | cons x xs =>
    rw [hs] at h
    have : x = b := by simpa using h
    subst this
    simp [List.findIdx_cons]
theorem digest_first (h : s' = s.digest b) {x : Bytes} (h0 : s.sums[0]? = some x) : s'.sums[0]? = some x := by
  subst h; unfold STab.digest
  split
  · exact h0
  · cases hs : s.sums with
    | nil => rw [hs] at h0; cases h0
    | cons y ys => rw [hs] at h0; simpa [hs] using h0
theorem digest_new (h : s' = s.digest b) (h0 : s.sums = []) : s'.sums[0]? = some b ∧ s.sumAt b = 0 := by
  subst h
  have hz : s.sumAt b = 0 := by unfold STab.sumAt; rw [h0]; rfl
  unfold STab.digest
  rw [hz, h0]
  exact ⟨rfl, rfl⟩
theorem get_snoc {α : Type} {xs : List α} {i : Nat} {x y : α} (h : xs[i]? = some x) : (xs ++ [y])[i]? = some x := by
  rw [List.getElem?_append_left (List.getElem?_eq_some_iff.1 h).1]; exact h
end
end Go.Proofs.Ytpkelokaammmjaa
end
/-! What can be known: the plain law. -/
section
namespace Go.Proofs.Ytpkelokaammmjaa
def putM (S : KM) (k : Bytes) : KM :=
  match markOf k with
  | some (kd, _) => if kd = 107 then { S with kk := insK S.kk k } else if kd = 98 then { S with bx := insK S.bx k } else S
  | none => S
def takeM (S : KM) (b : Bytes) : KM := (findB b).foldl putM { S with al := S.al ++ [b] }
def isKd (c : UInt8) (x : Bytes) : Prop := ∃ n, markOf x = some (c, n)
/-- What can be known of a table's keys and boxes: 0 keys, 1 boxes seen, 2 boxes opened. -/
inductive Kn (s : STab) (K0 B0 : Bytes → Prop) : Nat → Bytes → Prop where
  | key (k : Bytes) : K0 k → Kn s K0 B0 0 k
  | box (k : Bytes) : B0 k → Kn s K0 B0 1 k
  | opens (k : Bytes) (sl : SSealed) : Kn s K0 B0 1 k → s.box k = some sl → Kn s K0 B0 0 sl.by_ → Kn s K0 B0 2 k
  | tkey (k x : Bytes) (sl : SSealed) : Kn s K0 B0 2 k → s.box k = some sl → x ∈ findB sl.body → isKd 107 x → Kn s K0 B0 0 x
  | tbox (k x : Bytes) (sl : SSealed) : Kn s K0 B0 2 k → s.box k = some sl → x ∈ findB sl.body → isKd 98 x → Kn s K0 B0 1 x
  | late (n : Nat) (f : SFrom) : s.keys[n]? = some f → f.of ≠ zKey → Kn s K0 B0 0 f.of → Kn s K0 B0 0 (mkB 107 (n + 1))
theorem mem_insK {ks : List Bytes} {f k : Bytes} : k ∈ insK ks f ↔ k ∈ ks ∨ k = f := by
  unfold insK
  split
  · constructor
    · exact .inl
    · rintro (h | rfl)
      · exact h
      · assumption
  · simp
theorem insK_nodup {ks : List Bytes} {f : Bytes} (h : ks.Nodup) : (insK ks f).Nodup := by
  unfold insK
  split
  · exact h
  · rename_i hn
    rw [List.nodup_append]
    exact ⟨h, by simp, fun x hx y hy e => by
      have : y = f := by simpa using hy
      subst this; subst e; exact hn hx⟩
theorem insK_len {ks : List Bytes} {f : Bytes} : (insK ks f).length ≤ ks.length + 1 ∧ ks.length ≤ (insK ks f).length := by
  unfold insK; split <;> simp
/-! ### Taking -/
theorem putM_al (S : KM) (k : Bytes) : (putM S k).al = S.al ∧ (putM S k).op = S.op := by
  unfold putM
  split
  · split
    · exact ⟨rfl, rfl⟩
    · split <;> exact ⟨rfl, rfl⟩
  · exact ⟨rfl, rfl⟩
theorem putM_kk (S : KM) (k x : Bytes) : x ∈ (putM S k).kk ↔ x ∈ S.kk ∨ (x = k ∧ isKd 107 k) := by
  unfold putM isKd
  cases hm : markOf k with
  | none => simp
  | some p =>
    obtain ⟨kd, n⟩ := p
    by_cases h1 : kd = 107
    · subst h1
      simp [mem_insK]
    · by_cases h2 : kd = 98
      · simp [h2]
      · simp [h1, h2]
theorem putM_bx (S : KM) (k x : Bytes) : x ∈ (putM S k).bx ↔ x ∈ S.bx ∨ (x = k ∧ isKd 98 k) := by
  unfold putM isKd
  cases hm : markOf k with
  | none => simp
  | some p =>
    obtain ⟨kd, n⟩ := p
    by_cases h1 : kd = 107
    · simp [h1]
    · by_cases h2 : kd = 98
      · subst h2
        simp [mem_insK]
      · simp [h1, h2]
theorem putM_len (S : KM) (k : Bytes) : (putM S k).bx.length ≤ S.bx.length + 1 ∧ S.bx <+: (putM S k).bx := by
  unfold putM
  split
  · split
    · exact ⟨Nat.le_succ _, List.prefix_refl _⟩
    · split
      · refine ⟨insK_len.1, ?_⟩
        unfold insK
        split
        · exact List.prefix_refl _
        · exact List.prefix_append _ _
      · exact ⟨Nat.le_succ _, List.prefix_refl _⟩
  · exact ⟨Nat.le_succ _, List.prefix_refl _⟩
theorem foldM (xs : List Bytes) : ∀ (S : KM), (xs.foldl putM S).al = S.al ∧ (xs.foldl putM S).op = S.op ∧ (∀ x, x ∈ (xs.foldl putM S).kk ↔ x ∈ S.kk ∨ (x ∈ xs ∧ isKd 107 x)) ∧ (∀ x, x ∈ (xs.foldl putM S).bx ↔ x ∈ S.bx ∨ (x ∈ xs ∧ isKd 98 x)) ∧ (xs.foldl putM S).bx.length ≤ S.bx.length + xs.length ∧ S.bx <+: (xs.foldl putM S).bx := by
  induction xs with
  | nil => intro S; simp
  | cons k xs ih =>
    intro S
    obtain ⟨h1, h2, h3, h4, h5, h6⟩ := ih (putM S k)
    have hl := putM_len S k
    rw [List.foldl_cons]
    refine ⟨h1.trans (putM_al S k).1, h2.trans (putM_al S k).2, fun x => ?_, fun x => ?_, ?_, hl.2.trans h6⟩
    · rw [h3, putM_kk, List.mem_cons]
      constructor
      · rintro ((h | ⟨rfl, h⟩) | ⟨h, h'⟩)
        · exact .inl h
        · exact .inr ⟨.inl rfl, h⟩
        · exact .inr ⟨.inr h, h'⟩
      · rintro (h | ⟨rfl | h, h'⟩)
        · exact .inl (.inl h)
        · exact .inl (.inr ⟨rfl, h'⟩)
        · exact .inr ⟨h, h'⟩
    · rw [h4, putM_bx, List.mem_cons]
      constructor
      · rintro ((h | ⟨rfl, h⟩) | ⟨h, h'⟩)
        · exact .inl h
        · exact .inr ⟨.inl rfl, h⟩
        · exact .inr ⟨.inr h, h'⟩
      · rintro (h | ⟨rfl | h, h'⟩)
        · exact .inl (.inl h)
        · exact .inl (.inr ⟨rfl, h'⟩)
        · exact .inr ⟨h, h'⟩
    · have := hl.1
      simp only [List.length_cons]
      omega
theorem takeM_all (S : KM) (b : Bytes) : (takeM S b).al = S.al ++ [b] ∧ (takeM S b).op = S.op ∧ (∀ x, x ∈ (takeM S b).kk ↔ x ∈ S.kk ∨ (x ∈ findB b ∧ isKd 107 x)) ∧ (∀ x, x ∈ (takeM S b).bx ↔ x ∈ S.bx ∨ (x ∈ findB b ∧ isKd 98 x)) ∧ (takeM S b).bx.length ≤ S.bx.length + (findB b).length ∧ S.bx <+: (takeM S b).bx :=
  foldM (findB b) { S with al := S.al ++ [b] }
/-! ### What a mind holds, of what can be known -/
structure WS (s : STab) (K0 B0 : Bytes → Prop) (N : List Bytes) (S : KM) : Prop where
  k0 : ∀ k, K0 k → k ∈ S.kk
  b0 : ∀ k, B0 k → k ∈ S.bx
  sk : ∀ k ∈ S.kk, Kn s K0 B0 0 k
  sb : ∀ k ∈ S.bx, Kn s K0 B0 1 k
  so : ∀ k ∈ S.op, Kn s K0 B0 2 k
  tk : ∀ k ∈ S.op, ∀ sl, s.box k = some sl → sl.body ∈ S.al ∧ ∀ x ∈ findB sl.body, (isKd 107 x → x ∈ S.kk) ∧ (isKd 98 x → x ∈ S.bx)
  al : S.al.length ≤ N.length + S.op.length
  al2 : ∀ x ∈ S.al, x ∈ N ∨ ∃ k ∈ S.op, ∃ sl, s.box k = some sl ∧ sl.body = x
  nd : S.op.Nodup
/-- .. and all of it. -/
structure MS (s : STab) (K0 B0 : Bytes → Prop) (N : List Bytes) (S : KM) : Prop extends WS s K0 B0 N S where
  c1 : ∀ k ∈ S.bx, ∀ sl, s.box k = some sl → sl.by_ ∈ S.kk → k ∈ S.op
  c2 : ∀ (n : Nat) (f : SFrom), s.keys[n]? = some f → f.of ≠ zKey → f.of ∈ S.kk → mkB 107 (n + 1) ∈ S.kk
theorem Kn.mono {s s' : STab} {K0 B0 K1 B1 : Bytes → Prop} (hb : ∀ k sl, s.box k = some sl → s'.box k = some sl) (hk : ∀ (n : Nat) (f : SFrom), s.keys[n]? = some f → s'.keys[n]? = some f) (h0 : ∀ k, K0 k → Kn s' K1 B1 0 k) (h1 : ∀ k, B0 k → Kn s' K1 B1 1 k) {i : Nat} {k : Bytes} (h : Kn s K0 B0 i k) : Kn s' K1 B1 i k := by
  induction h with
  | key k h => exact h0 k h
  | box k h => exact h1 k h
  | opens k sl _ h2 _ ih1 ih2 => exact .opens k sl ih1 (hb _ _ h2) ih2
  | tkey k x sl _ h2 h3 h4 ih => exact .tkey k x sl ih (hb _ _ h2) h3 h4
  | tbox k x sl _ h2 h3 h4 ih => exact .tbox k x sl ih (hb _ _ h2) h3 h4
  | late n f h1 h2 _ ih => exact .late n f (hk _ _ h1) h2 ih
theorem MS.iff {s : STab} {K0 B0 : Bytes → Prop} {N : List Bytes} {S : KM} (h : MS s K0 B0 N S) : (∀ k, k ∈ S.kk ↔ Kn s K0 B0 0 k) ∧ (∀ k, k ∈ S.bx ↔ Kn s K0 B0 1 k) ∧ (∀ k, k ∈ S.op ↔ Kn s K0 B0 2 k) := by
  have all : ∀ i k, Kn s K0 B0 i k → (i = 0 → k ∈ S.kk) ∧ (i = 1 → k ∈ S.bx) ∧ (i = 2 → k ∈ S.op) := by
    intro i k hk
    induction hk with
    | key k hk => exact ⟨fun _ => h.k0 k hk, by simp, by simp⟩
    | box k hk => exact ⟨by simp, fun _ => h.b0 k hk, by simp⟩
    | opens k sl _ h2 _ ih1 ih2 => exact ⟨by simp, by simp, fun _ => h.c1 k (ih1.2.1 rfl) sl h2 (ih2.1 rfl)⟩
    | tkey k x sl _ h2 h3 h4 ih => exact ⟨fun _ => ((h.tk k (ih.2.2 rfl) sl h2).2 x h3).1 h4, by simp, by simp⟩
    | tbox k x sl _ h2 h3 h4 ih => exact ⟨by simp, fun _ => ((h.tk k (ih.2.2 rfl) sl h2).2 x h3).2 h4, by simp⟩
    | late n f h1 h2 _ ih => exact ⟨fun _ => h.c2 n f h1 h2 (ih.1 rfl), by simp, by simp⟩
  exact ⟨fun k => ⟨h.sk k, fun hk => (all 0 k hk).1 rfl⟩, fun k => ⟨h.sb k, fun hk => (all 1 k hk).2.1 rfl⟩, fun k => ⟨h.so k, fun hk => (all 2 k hk).2.2 rfl⟩⟩
section
variable {s : STab} {K0 B0 : Bytes → Prop} {N : List Bytes} {S S' : KM}
theorem WS.empty : WS s (fun _ => False) (fun _ => False) [] ⟨[], [], [], []⟩ :=
  ⟨by simp, by simp, by simp, by simp, by simp, by simp, by simp, by simp, by simp⟩
/-- The table grows. -/
theorem WS.grow {s' : STab} (h : WS s K0 B0 N S) (hb : ∀ k sl, s.box k = some sl → s'.box k = some sl) (hk : ∀ (n : Nat) (f : SFrom), s.keys[n]? = some f → s'.keys[n]? = some f) : WS s' K0 B0 N S where
  k0 := h.k0
  b0 := h.b0
  sk := fun k hk' => (h.sk k hk').mono hb hk (fun k h => .key k h) (fun k h => .box k h)
  sb := fun k hk' => (h.sb k hk').mono hb hk (fun k h => .key k h) (fun k h => .box k h)
  so := fun k hk' => (h.so k hk').mono hb hk (fun k h => .key k h) (fun k h => .box k h)
  tk := fun k hk' sl hs => by
    cases h.so k hk' with
    | opens _ sl' _ h2 _ =>
      have := hb _ _ h2
      rw [this] at hs
      injection hs with hs
      subst hs
      exact h.tk k hk' sl' h2
  al := h.al
  al2 := fun x hx => (h.al2 x hx).imp id fun ⟨k, hk', sl, h1, h2⟩ => ⟨k, hk', sl, hb _ _ h1, h2⟩
  nd := h.nd
/-- A key is learned. -/
theorem WS.learn (h : WS s K0 B0 N S) (f : Bytes) (hS : S' = { S with kk := insK S.kk f }) : WS s (fun k => K0 k ∨ k = f) B0 N S' := by
  subst hS
  have mono : ∀ {i k}, Kn s K0 B0 i k → Kn s (fun k => K0 k ∨ k = f) B0 i k := fun hk => hk.mono (fun _ _ h => h) (fun _ _ h => h) (fun k h => .key k (.inl h)) (fun k h => .box k h)
  refine ⟨fun k hk => mem_insK.2 (hk.imp (h.k0 k) id), h.b0, fun k hk => ?_, fun k hk => mono (h.sb k hk), fun k hk => mono (h.so k hk), fun k hk sl hs => ?_, h.al, h.al2, h.nd⟩
  · rcases mem_insK.1 hk with hk | rfl
    · exact mono (h.sk k hk)
    · exact .key _ (.inr rfl)
  · obtain ⟨a, b⟩ := h.tk k hk sl hs
    exact ⟨a, fun x hx => ⟨fun hc => mem_insK.2 (.inl ((b x hx).1 hc)), (b x hx).2⟩⟩
/-- Bytes are seen. -/
theorem WS.see (h : WS s K0 B0 N S) (b : Bytes) (hS : S' = takeM S b) : WS s (fun k => K0 k ∨ (k ∈ findB b ∧ isKd 107 k)) (fun k => B0 k ∨ (k ∈ findB b ∧ isKd 98 k)) (N ++ [b]) S' := by
  subst hS
  obtain ⟨h1, h2, h3, h4, _, _⟩ := takeM_all S b
  have mono : ∀ {i k}, Kn s K0 B0 i k → Kn s (fun k => K0 k ∨ (k ∈ findB b ∧ isKd 107 k)) (fun k => B0 k ∨ (k ∈ findB b ∧ isKd 98 k)) i k := fun hk => hk.mono (fun _ _ h => h) (fun _ _ h => h) (fun k h => .key k (.inl h)) (fun k h => .box k (.inl h))
  refine ⟨fun k hk => (h3 k).2 (hk.imp (h.k0 k) id), fun k hk => (h4 k).2 (hk.imp (h.b0 k) id), fun k hk => ?_, fun k hk => ?_, fun k hk => mono (h.so k (h2 ▸ hk)), fun k hk sl hs => ?_, ?_, fun x hx => ?_, h2 ▸ h.nd⟩
  · rcases (h3 k).1 hk with hk | hk
    · exact mono (h.sk k hk)
    · exact .key _ (.inr hk)
  · rcases (h4 k).1 hk with hk | hk
    · exact mono (h.sb k hk)
    · exact .box _ (.inr hk)
  · obtain ⟨a, c⟩ := h.tk k (h2 ▸ hk) sl hs
    exact ⟨by rw [h1]; simp [a], fun x hx => ⟨fun hc => (h3 x).2 (.inl ((c x hx).1 hc)), fun hc => (h4 x).2 (.inl ((c x hx).2 hc))⟩⟩
  · have := h.al
    rw [h1, h2]
    simp only [List.length_append, List.length_cons, List.length_nil]
    omega
  · rw [h1] at hx
    rcases List.mem_append.1 hx with hx | hx
    · rcases h.al2 x hx with hx | ⟨k, hk, sl, e⟩
      · exact .inl (List.mem_append_left _ hx)
      · exact .inr ⟨k, h2 ▸ hk, sl, e⟩
    · exact .inl (List.mem_append_right _ hx)
/-- A box is opened, and taken. -/
theorem WS.open_ {S1 : KM} (h : WS s K0 B0 N S) {k : Bytes} {sl : SSealed} (hk : k ∈ S.bx) (hs : s.box k = some sl) (hb : sl.by_ ∈ S.kk) (hn : k ∉ S.op) (h1 : S1 = { S with op := insK S.op k }) (h2 : S' = takeM S1 sl.body) : WS s K0 B0 N S' := by
  subst h1; subst h2
  obtain ⟨a1, a2, a3, a4, _, _⟩ := takeM_all { S with op := insK S.op k } sl.body
  have ho : Kn s K0 B0 2 k := .opens k sl (h.sb k hk) hs (h.sk _ hb)
  refine ⟨fun x hx => (a3 x).2 (.inl (h.k0 x hx)), fun x hx => (a4 x).2 (.inl (h.b0 x hx)), fun x hx => ?_, fun x hx => ?_, fun x hx => ?_, fun x hx sl' hs' => ?_, ?_, fun x hx => ?_, ?_⟩
  · rcases (a3 x).1 hx with hx | ⟨hx, hc⟩
    · exact h.sk x hx
    · exact .tkey k x sl ho hs hx hc
  · rcases (a4 x).1 hx with hx | ⟨hx, hc⟩
    · exact h.sb x hx
    · exact .tbox k x sl ho hs hx hc
  · rw [a2] at hx
    rcases mem_insK.1 hx with hx | rfl
    · exact h.so x hx
    · exact ho
  · rw [a2] at hx
    rcases mem_insK.1 hx with hx | rfl
    · obtain ⟨c, d⟩ := h.tk x hx sl' hs'
      exact ⟨by rw [a1]; simp [c], fun y hy => ⟨fun hc => (a3 y).2 (.inl ((d y hy).1 hc)), fun hc => (a4 y).2 (.inl ((d y hy).2 hc))⟩⟩
    · rw [hs] at hs'
      injection hs' with hs'
      subst hs'
      exact ⟨by rw [a1]; simp, fun y hy => ⟨fun hc => (a3 y).2 (.inr ⟨hy, hc⟩), fun hc => (a4 y).2 (.inr ⟨hy, hc⟩)⟩⟩
  · have := h.al
    rw [a1, a2]
    unfold insK
    rw [if_neg hn]
    simp only [List.length_append, List.length_cons, List.length_nil]
    omega
  · rw [a1] at hx
    rcases List.mem_append.1 hx with hx | hx
    · rcases h.al2 x hx with hx | ⟨k', hk', sl', e⟩
      · exact .inl hx
      · exact .inr ⟨k', by rw [a2]; exact mem_insK.2 (.inl hk'), sl', e⟩
    · have : x = sl.body := by simpa using hx
      exact .inr ⟨k, by rw [a2]; exact mem_insK.2 (.inr rfl), sl, hs, this.symm⟩
  · rw [a2]; exact insK_nodup h.nd
/-- A key is known that came of a known one. -/
theorem WS.late (h : WS s K0 B0 N S) {n : Nat} {f : SFrom} (hf : s.keys[n]? = some f) (hz : f.of ≠ zKey) (ho : f.of ∈ S.kk) (hS : S' = { S with kk := insK S.kk (mkB 107 (n + 1)) }) : WS s K0 B0 N S' := by
  subst hS
  refine ⟨fun k hk => mem_insK.2 (.inl (h.k0 k hk)), h.b0, fun k hk => ?_, h.sb, h.so, fun k hk sl hs => ?_, h.al, h.al2, h.nd⟩
  · rcases mem_insK.1 hk with hk | rfl
    · exact h.sk k hk
    · exact .late n f hf hz (h.sk _ ho)
  · obtain ⟨a, b⟩ := h.tk k hk sl hs
    exact ⟨a, fun x hx => ⟨fun hc => mem_insK.2 (.inl ((b x hx).1 hc)), (b x hx).2⟩⟩
/-! ### What is left to be done -/
def sumTo (n : Nat) (f : Nat → Nat) : Nat := ((List.range n).map f).sum
theorem sumTo_le {f g : Nat → Nat} : ∀ {n : Nat}, (∀ i, i < n → f i ≤ g i) → sumTo n f ≤ sumTo n g := by
  intro n
  induction n with
  | zero => intro _; exact Nat.le_refl _
  | succ n ih =>
    intro h
    have := ih fun i hi => h i (by omega)
    have h2 := h n (by omega)
    unfold sumTo at this ⊢
    simp only [List.range_succ, List.map_append, List.sum_append, List.map_cons, List.map_nil, List.sum_cons, List.sum_nil]
    omega
theorem sumTo_lt {f g : Nat → Nat} {c j : Nat} : ∀ {n : Nat}, (∀ i, i < n → f i ≤ g i) → j < n → f j + c ≤ g j → sumTo n f + c ≤ sumTo n g := by
  intro n
  induction n with
  | zero => intro _ h; omega
  | succ n ih =>
    intro h hj hc
    have hle := sumTo_le fun i (hi : i < n) => h i (by omega)
    have h2 := h n (by omega)
    have key : j < n → sumTo n f + c ≤ sumTo n g := fun hjn => ih (fun i hi => h i (by omega)) hjn hc
    unfold sumTo at hle key ⊢
    simp only [List.range_succ, List.map_append, List.sum_append, List.map_cons, List.map_nil, List.sum_cons, List.sum_nil]
    by_cases hjn : j < n
    · have := key hjn; omega
    · have : j = n := by omega
      subst this; omega
def pot (s : STab) (S : KM) : Nat := sumTo s.boxes.length fun i => if mkB 98 (i + 1) ∈ S.op then 0 else 1 + (findB ((s.boxes[i]?.map (·.body)).getD [])).length
def unk (s : STab) (S : KM) : Nat := sumTo s.keys.length fun i => if mkB 107 (i + 1) ∈ S.kk then 0 else 1
theorem unk_le (h : ∀ k ∈ S.kk, k ∈ S'.kk) : unk s S' ≤ unk s S := by
  refine sumTo_le fun i _ => ?_
  by_cases h1 : mkB 107 (i + 1) ∈ S.kk
  · simp [h1, h _ h1]
  · simp only [h1, if_false]; split <;> omega
theorem box_at_ {k : Bytes} {sl : SSealed} (hs : s.box k = some sl) : ∃ i, i < s.boxes.length ∧ s.boxes[i]? = some sl ∧ k = mkB 98 (i + 1) := by
  unfold STab.box at hs
  cases hm : markOf k with
  | none => rw [hm] at hs; cases hs
  | some p =>
    obtain ⟨kd, n⟩ := p
    rw [hm] at hs
    simp only at hs
    split at hs
    · rename_i hc
      obtain ⟨rfl, hn⟩ := hc
      have hspec := (markOf_spec hm).2.2.2
      exact ⟨n - 1, (List.getElem?_eq_some_iff.1 hs).1, hs, by rw [hspec, Nat.sub_add_cancel hn]⟩
    · cases hs
theorem open_less {S1 : KM} {k : Bytes} {sl : SSealed} (hs : s.box k = some sl) (hn : k ∉ S.op) (h1 : S1 = { S with op := insK S.op k }) (h2 : S' = takeM S1 sl.body) :
    pot s S' + (1 + (findB sl.body).length) ≤ pot s S ∧ unk s S' ≤ unk s S ∧ S'.bx.length ≤ S.bx.length + (findB sl.body).length ∧ S.bx.length ≤ S'.bx.length ∧ S.bx <+: S'.bx := by
  subst h1; subst h2
  obtain ⟨a1, a2, a3, a4, a5, a6⟩ := takeM_all { S with op := insK S.op k } sl.body
  obtain ⟨i, hi, hsl, rfl⟩ := box_at_ hs
  refine ⟨?_, unk_le fun x hx => (a3 x).2 (.inl hx), a5, a6.length_le, a6⟩
  refine sumTo_lt (j := i) (fun j _ => ?_) hi ?_
  · have hsub : mkB 98 (j + 1) ∈ S.op → mkB 98 (j + 1) ∈ (takeM { S with op := insK S.op (mkB 98 (i + 1)) } sl.body).op := fun h => by rw [a2]; exact mem_insK.2 (.inl h)
    by_cases h1 : mkB 98 (j + 1) ∈ S.op
    · rw [if_pos (hsub h1)]; exact Nat.zero_le _
    · rw [if_neg h1]; split
      · exact Nat.zero_le _
      · exact Nat.le_refl _
  · rw [if_neg hn, if_pos (by rw [a2]; exact mem_insK.2 (.inr rfl)), hsl]
    simp
theorem late_less {n : Nat} (hn : n < s.keys.length) (hk : mkB 107 (n + 1) ∉ S.kk) (hS : S' = { S with kk := insK S.kk (mkB 107 (n + 1)) }) : pot s S' ≤ pot s S ∧ unk s S' + 1 ≤ unk s S := by
  subst hS
  refine ⟨Nat.le_refl _, sumTo_lt (j := n) (fun j _ => ?_) hn ?_⟩
  · have hsub : mkB 107 (j + 1) ∈ S.kk → mkB 107 (j + 1) ∈ insK S.kk (mkB 107 (n + 1)) := fun h => mem_insK.2 (.inl h)
    by_cases h1 : mkB 107 (j + 1) ∈ S.kk
    · rw [if_pos (hsub h1)]; exact Nat.zero_le _
    · rw [if_neg h1]; split
      · exact Nat.zero_le _
      · exact Nat.le_refl _
  · rw [if_neg hk, if_pos (mem_insK.2 (.inr rfl))]; exact Nat.le_refl _
theorem seen_lt {sn : List Nat} {n j : Nat} (hnd : sn.Nodup) (hlt : ∀ i ∈ sn, i < n) (hj : j < n) (hn : j ∉ sn) : sn.length < n := by
  have h1 : (sn ++ [j]).Nodup := by
    rw [List.nodup_append]
    exact ⟨hnd, by simp, fun x hx y hy e => by
      have : y = j := by simpa using hy
      subst this; subst e; exact hn hx⟩
  have h2 : (sn ++ [j]).length ≤ (List.range n).length := List.Nodup.length_le_of_subset h1 fun x hx => by
    rcases List.mem_append.1 hx with h | h
    · exact List.mem_range.2 (hlt x h)
    · have : x = j := by simpa using h
      exact List.mem_range.2 (this ▸ hj)
  simp only [List.length_append, List.length_cons, List.length_nil, List.length_range] at h2
  omega
theorem op_len (h : WS s K0 B0 N S) : S.op.length ≤ s.boxes.length := by
  have hsub : ∀ k ∈ S.op, k ∈ (List.range s.boxes.length).map fun i => mkB 98 (i + 1) := fun k hk => by
    cases h.so k hk with
    | opens _ sl _ h2 _ =>
      obtain ⟨i, hi, _, rfl⟩ := box_at_ h2
      exact List.mem_map.2 ⟨i, List.mem_range.2 hi, rfl⟩
  have := List.Nodup.length_le_of_subset h.nd hsub
  simpa using this
end
end Go.Proofs.Ytpkelokaammmjaa
end
/-! Steps on minds: joins, clones, marks that were found. -/
section
namespace Go.Proofs.Ytpkelokaammmjaa
open Go.RowKit Go.QT
section
variable {F F0 : Nat → Prop} {w0 w w' : World} {ro rs rest : List Res} {it : Option (Nat × Nat × List Nat)} {m : Nat} {p : Mp} {S : KM} {o : Oper} {a : Act} {G : Nat → Prop} {vs : List Value} {ls : List Bytes} {x : Value} {b : Bytes} {A : Value}
theorem x_clone (h : Hp F0 w0 w ro rs) (l : Bytes) (bv : Value) (hp : pureVal Try.prog (execOp a.eval o) = some (.enter 22 #[bv])) (hb : SB w bv l) (hl : l.length ≤ 1000000) :
    OpTo Try.prog o a w (fun u w' => ∃ A c, u = .slice A l.length c ∧ Hp F0 w0 w' ro (rOB (.slice A l.length c) l :: rs)) := by
  refine (x_bytes h 22 [bv] hp (clone_any bv l w hb (by omega))).mono fun u w' hq => ?_
  obtain ⟨A, c, rfl, h'⟩ := hq
  exact ⟨A, c, rfl, h'⟩
theorem rows_snoc (hb : b.length ≤ 1000000) (h : Hp F0 w0 w ro (rOB x b :: rRows G vs ls :: rest)) : ∃ G', Hp F0 w0 w ro (rRows G' (vs ++ [x]) (ls ++ [b]) :: rest) := by
  have h1 : (rOB x b).Φ w := h.own 0 _ rfl
  have h2 : (rRows G vs ls).Φ w := h.own 1 _ rfl
  obtain ⟨g1, g2, g3⟩ := id h2
  refine ⟨partF [rOB x b, rRows G vs ls], Hp.pack (ps := [rOB x b, rRows G vs ls]) h (rRows _ (vs ++ [x]) (ls ++ [b])) ⟨(Hp.parts (ps := [rOB x b, rRows G vs ls]) h).1, by simp [g2], fun i v l hv hl => ?_⟩ (fun _ hq => hq)⟩
  by_cases hi : i < vs.length
  · rw [List.getElem?_append_left hi] at hv
    rw [List.getElem?_append_left (by omega)] at hl
    obtain ⟨a1, a2, a3, a4⟩ := g3 i v l hv hl
    exact ⟨a1, a2, fun q hq => ⟨1, _, rfl, a3 q hq⟩, a4⟩
  · rw [List.getElem?_append_right (by omega)] at hv
    rw [List.getElem?_append_right (by omega)] at hl
    have e0 : i - vs.length = 0 := by have := (List.getElem?_eq_some_iff.1 hv).1; simp at this; omega
    rw [e0] at hv
    rw [show i - ls.length = 0 by omega] at hl
    injection hv with hv; injection hl with hl
    subst hv; subst hl
    have hs := OB.sb h1
    refine ⟨hs, ?_, fun q hq => ⟨0, _, rfl, hq⟩, hb⟩
    obtain ⟨A, c, rfl, _⟩ := hs
    rfl
theorem range_all (l : List Res) : (List.range l.length).filterMap (l[·]?) = l := by
  induction l with
  | nil => rfl
  | cons x l ih => rw [List.length_cons, List.range_succ_eq_map, List.filterMap_cons, List.filterMap_map]; simpa [Function.comp_def] using ih
theorem Hp.selS (h : Hp F0 w0 w ro rs) (is : List Nat) (rs' : List Res) (hnd : decide is.Nodup = true) (h2 : is.map (rs[·]?) = rs'.map some) : Hp F0 w0 w ro rs' := by
  have := h.sel is (List.range ro.length) hnd rfl h2
  rw [range_all] at this
  exact this
theorem mind_took (hb : b.length ≤ 1000000) (h : Hp F0 w0 w ro [rBlk m 65 (mCells p.tb p.kb p.bb p.ob A), rKM p.kb S.kk, rBX p.bb it S.bx, rKM p.ob S.op, rOV 35 1 A ((vs ++ [x]).map fun v => [v]), rOB x b, rRows G vs S.al]) :
    ∃ F' S', S' = { S with al := S.al ++ [b] } ∧ Hp F0 w0 w ro [rMind F' it m p S'] := by
  have h1 := h.selS [5, 6, 0, 1, 2, 3, 4] [rOB x b, rRows G vs S.al, rBlk m 65 (mCells p.tb p.kb p.bb p.ob A), rKM p.kb S.kk, rBX p.bb it S.bx, rKM p.ob S.op, rOV 35 1 A ((vs ++ [x]).map fun v => [v])] (by decide) rfl
  obtain ⟨G', h2⟩ := rows_snoc hb h1
  have h3 := h2.selS [1, 2, 3, 4, 5, 0] (mParts it m p.tb p.kb p.bb p.ob { S with al := S.al ++ [b] } A (vs ++ [x]) G') (by decide) rfl
  obtain ⟨F', h4⟩ := mind_join (p := p) (S := { S with al := S.al ++ [b] }) (rest := []) h3
  exact ⟨F', _, rfl, h4⟩
theorem ov_form {T : TypeId} {v : Value} (h : (rOV T 1 v (vs.map fun v => [v])).Φ w) : ∃ A c, v = .slice A vs.length c := by
  have h' : OV w 0 T 1 v (vs.map fun v => [v]) := h
  obtain ⟨A, c, e, _, _⟩ := h'.form
  exact ⟨A, c, by rw [e, List.length_map]⟩
/-- A mark that was found. -/
theorem find_mark {b k : Bytes} (h : k ∈ findB b) : ∃ K kd n, k = kl K ∧ markOf (kl K) = some (kd, n) := by
  have key : ∀ i, k ∈ findTo b i → ∃ kd n, markOf k = some (kd, n) := by
    intro i
    induction i with
    | zero => intro h; simp [findTo] at h
    | succ i ih =>
      intro h
      unfold findTo at h
      split at h
      · rename_i hs
        rcases List.mem_append.1 h with h | h
        · exact ih h
        · have : k = (b.take (i + 16)).drop i := by simpa using h
          subst this
          obtain ⟨⟨kd, n⟩, hk⟩ := Option.isSome_iff_exists.1 hs
          exact ⟨kd, n, hk⟩
      · exact ih h
  obtain ⟨kd, n, hm⟩ := key _ h
  obtain ⟨K, rfl⟩ := kl_of k (by rw [(markOf_spec hm).2.2.2]; rfl)
  exact ⟨K, kd, n, rfl, hm⟩
theorem find_len (b : Bytes) : (findB b).length ≤ b.length := Nat.le_trans (findTo_le b _) (Nat.sub_le _ _)
def foldT (b : Bytes) (i : Nat) (S : KM) : KM := ((findB b).take i).foldl putM S
theorem foldT_zero (b : Bytes) (S : KM) : foldT b 0 S = S := by simp [foldT]
theorem foldT_all (b : Bytes) (S : KM) {i : Nat} (h : ¬ i < (findB b).length) : foldT b i S = (findB b).foldl putM S := by
  unfold foldT
  rw [List.take_of_length_le (by omega)]
theorem foldT_succ {b : Bytes} {S : KM} {i : Nat} {k : Bytes} (h : (findB b)[i]? = some k) : foldT b (i + 1) S = putM (foldT b i S) k := by
  unfold foldT
  rw [List.take_add_one, h, List.foldl_append]
  rfl
theorem putM_k {k : Bytes} {kd : UInt8} {n : Nat} (hm : markOf k = some (kd, n)) (h : ub kd = 107) : putM S k = { S with kk := insK S.kk k } := by
  have : kd = 107 := by
    apply UInt8.toNat_inj.1
    have e : (107 : UInt8).toNat = 107 := rfl
    unfold ub at h
    omega
  subst this
  unfold putM
  rw [hm]
  simp
theorem putM_b {k : Bytes} {kd : UInt8} {n : Nat} (hm : markOf k = some (kd, n)) (h1 : ub kd = 98) : putM S k = { S with bx := insK S.bx k } := by
  have : kd = 98 := by
    apply UInt8.toNat_inj.1
    have e : (98 : UInt8).toNat = 98 := rfl
    unfold ub at h1
    omega
  subst this
  unfold putM
  rw [hm]
  simp
theorem putM_n {k : Bytes} {kd : UInt8} {n : Nat} (hm : markOf k = some (kd, n)) (h : ¬ ub kd = 107) (h1 : ¬ ub kd = 98) : putM S k = S := by
  have a1 : kd ≠ 107 := by rintro rfl; exact h (by simp [ub])
  have a2 : kd ≠ 98 := by rintro rfl; exact h1 (by simp [ub])
  unfold putM
  rw [hm]
  simp [a1, a2]
end
end Go.Proofs.Ytpkelokaammmjaa
end
/-! The walk of take. -/
section
namespace Go.Proofs.Ytpkelokaammmjaa
open Go.RowKit Go.QT
set_option maxRecDepth 100000 in
set_option maxHeartbeats 1000000 in
theorem take_any (it : Option (Nat × Nat × List Nat)) (m : Nat) (p : Mp) (S : KM) (F : Nat → Prop) (v : Value) (b : Bytes) (w : World) (h : Hp F w w [rSB v b] [rMind F it m p S]) (hl : b.length ≤ 1000000) (hal : S.al.length ≤ 10000000) :
    Calls Try.prog 24 #[pt m 0, v] w fun e w' => e = .returned (.tuple #[]) ∧ ∃ F' S', S' = takeM S b ∧ Hp F w w' [] [rMind F' it m p S'] := by
  obtain ⟨A, c, rfl, hc1, hc2⟩ := sb_form (h.rd 0 rfl)
  obtain ⟨A0, vs, G, h1⟩ := mind_split h 0 rfl
  obtain ⟨A1, c1, rfl⟩ := ov_form (h1.own 4 _ rfl)
  have hvs : vs.length = S.al.length := (h1.own 5 _ rfl).2.1
  have hfl := find_len b
  have h0 := h1
  refine enter 47 Try.func24 rfl rfl ?_
  refine wp_reset 49 [(0, (pt m 0)), (1, (Value.slice A b.length c))] (fun x0 => ?_)
  refine wp_seq_k ?_
  intro K1 hK1
  refine pR_go h0 9 (fun W => (rBlk m 65 ([(pt p.tb 0), (Value.map (some p.kb)), (Value.map (some p.bb)), (Value.map (some p.ob)), (Value.slice A1 vs.length c1)])).Φ W ∧ True) [(10, [0], 0), (11, [0], 0), (12, [10], 2), (13, [11], 4), (14, [12], 8), (15, [1], 0), (16, [14], 32), (17, [15], 64), (18, [13, 16], 208), (19, [9], 511), (20, [18], 1023), (0, [19, 17], 1535)] rfl (fun _ d _ _ _ h => by cases d <;> exact h) ?_
  intro hs2 w2 h2
  refine pR_p 7 [0, 1, 2, 3, 5] [(14, (Value.slice A b.length c)), (12, (pt m 4)), (11, (pt m 0)), (10, (pt m 0)), (9, (pt m 0))] 47 hs2 ⟨h2.at_ 0 rfl, trivial⟩ ?_
  refine pR_v 4 (some 13) (Value.slice A1 vs.length c1) 63 rfl hs2 ⟨h2.at_ 0 rfl, trivial⟩ (fun W hW => e_load hW.1 31 (.tmp 12) (by kernel_rfl) 4 (Value.slice A1 vs.length c1) (by kernel_rfl) (by kernel_rfl) (by kernel_rfl)) ?_
  refine pR_to 6 (some 15) 127 rfl hs2 (x_clone h2 b (Value.slice A b.length c) (by kernel_rfl) (h2.rd 0 rfl) (by omega)) ?_
  rintro _ w3 ⟨A3, c3, rfl, h3⟩
  refine ⟨fun _ => ⟨h3.at_ 1 rfl, trivial⟩, ?_⟩
  refine pR_to 7 (some 16) 255 rfl hs2 (x_bs h3 35 ([(Value.slice A3 b.length c3)]) 1 (by kernel_rfl)) ?_
  rintro _ w4 ⟨g4, rfl, h4⟩
  refine ⟨fun _ => ⟨h4.at_ 2 rfl, trivial⟩, ?_⟩
  refine pR_to 8 (some 17) 511 rfl hs2 (x_pushG h4 6 0 rfl rfl (by kernel_rfl) (.tmp 13) (.tmp 16) 31 (by kernel_rfl) 24 (Value.slice none 0 0) (by kernel_rfl) (by kernel_rfl) (by kernel_rfl) (by kernel_rfl) (by kernel_rfl) 1 (by kernel_rfl) (by kernel_rfl) (by kernel_rfl) (by simp; omega) (by unfold maxLen; simp; omega) ((vs ++ [(Value.slice A3 b.length c3)]).map fun v => [v]) ((vs ++ [(Value.slice A3 b.length c3)]).length) (by simp) (by simp)) ?_
  rintro _ w5 ⟨A5, c5, rfl, h5⟩
  refine ⟨fun _ => ⟨h5.at_ 2 rfl, trivial⟩, ?_⟩
  refine pR_to 9 (some 18) 1023 rfl hs2 (OpTo.run (pt m 0) (pureOp_run (by kernel_rfl) _) (R := fun v w => v = (pt m 0) ∧ w5 = w) ⟨rfl, rfl⟩) ?_
  rintro _ _ ⟨rfl, rfl⟩
  refine ⟨fun h => absurd h (by decide), ?_⟩
  refine pR_to 10 (some 19) 2047 rfl hs2 (OpTo.run (pt m 4) (pureOp_run (by kernel_rfl) _) (R := fun v w => v = (pt m 4) ∧ w5 = w) ⟨rfl, rfl⟩) ?_
  rintro _ _ ⟨rfl, rfl⟩
  refine ⟨fun h => absurd h (by decide), ?_⟩
  refine pR_to 11 none 4095 rfl hs2 (x_store h5 2 rfl 31 (.tmp 19) (.tmp 17) (by kernel_rfl) 4 (Value.slice A5 ((vs ++ [(Value.slice A3 b.length c3)]).length) c5) ([(pt p.tb 0), (Value.map (some p.kb)), (Value.map (some p.bb)), (Value.map (some p.ob)), (Value.slice A5 ((vs ++ [(Value.slice A3 b.length c3)]).length) c5)]) (by kernel_rfl) (by kernel_rfl) (by kernel_rfl) (by kernel_rfl) rfl rfl (by kernel_rfl)) ?_
  rintro _ w6 h6
  refine ⟨fun h => absurd h (by decide), ?_⟩
  refine pR_done hs2 ?_ _
  refine seq_n hK1 ?_
  refine wp_seq_k ?_
  intro K7 hK7
  obtain ⟨F8, S8, hS8, h8j⟩ := mind_took (p := p) hl (h6.selS [2, 3, 4, 5, 6, 1, 7] [rBlk m 65 ([(pt p.tb 0), (Value.map (some p.kb)), (Value.map (some p.bb)), (Value.map (some p.ob)), (Value.slice A5 ((vs ++ [(Value.slice A3 b.length c3)]).length) c5)]), rKM p.kb S.kk, rBX p.bb it S.bx, rKM p.ob S.op, rOV 35 1 ((Value.slice A5 ((vs ++ [(Value.slice A3 b.length c3)]).length) c5)) ((vs ++ [(Value.slice A3 b.length c3)]).map fun v => [v]), rOB ((Value.slice A3 b.length c3)) b, rRows G vs S.al] (by kernel_rfl) rfl)
  
  refine reg_lit ?_
  refine wq_p 1 [(20, (Value.slice A b.length c))] ?_
  refine wq_to (some 21) (x_find h8j b (Value.slice A b.length c) (by kernel_rfl) (h8j.rd 0 rfl) (by omega)) ?_
  rintro _ w9 ⟨A9, c9, rfl, h9⟩
  refine wq_p 2 [(23, (Value.int .i64 0)), (22, (Value.int .i64 (((findB b).length : Int))))] ?_
  refine wl_end rfl ?_
  refine seq_n hK7 ?_
  refine wp_block ?_
  refine wp_loopm (fun mM xX aA wL => ∃ (i : Nat) (F1 : Nat → Prop) (T : KM), (i ≤ (findB b).length) ∧ (T = foldT b (i) S8) ∧ mM = (findB b).length - (i) ∧ aA = patch xX 49 [(0, (pt m 0)), (1, (Value.slice A b.length c)), (21, (Value.slice A9 ((findB b).length) c9)), (22, (Value.int .i64 (((findB b).length : Int)))), (23, (Value.int .i64 ((i : Int))))] ∧ Hp F w wL [rSB ((Value.slice A b.length c)) b] [rOV 28 16 ((Value.slice A9 ((findB b).length) c9)) ((findB b).map vb), rMind F1 it m p T]) ⟨_, 0, F8, S8, (by omega), (foldT_zero _ _).symm, rfl, (patch_eq _ 49 _ (by kernel_rfl) (by kernel_rfl) (by kernel_rfl)), h9.sel [0, 1] [0] (by kernel_rfl) rfl rfl⟩ ?_
  rintro _ x10 _ w10 ⟨i, F1, T, hi, hT, rfl, rfl, h10⟩
  refine wp_seq_k ?_
  intro K11 hK11
  refine reg_lit ?_
  refine wq_p 1 [(24, (Value.bool (decide ((i : Int) < ((findB b).length : Int)))))] ?_
  refine wl_end rfl ?_
  refine seq_n hK11 ?_
  refine wp_seq_k ?_
  intro K12 hK12
  refine wp_if ((i : Int) < ((findB b).length : Int)) (by kernel_rfl) (fun b13 => ?_) (fun b13 => ?_)
  ·
   refine wp_skip ?_
   refine seq_n hK12 ?_
   refine wp_seq_k ?_
   intro K14 hK14
   refine wp_block ?_
   refine wp_seq_k ?_
   intro K15 hK15
   obtain ⟨hKi, K, kd, n, hK, hm⟩ : ∃ (_ : i < (findB b).length) (K : Fin 16 → UInt8) (kd : UInt8) (n : Nat), (findB b)[i]? = some (kl K) ∧ markOf (kl K) = some (kd, n) := by
     have hx : i < (findB b).length := by omega
     obtain ⟨K, kd, n, e, hm⟩ := find_mark (List.getElem_mem hx)
     exact ⟨hx, K, kd, n, by rw [List.getElem?_eq_getElem hx, e], hm⟩
   refine reg_lit ?_
   refine wq_v (some 25) (eAt A9 (i * 16 + 0)) (e_idxN (OV.rvn (h10.at_ 0 rfl)).2 i ((findB b).length) (OV.rvn (h10.at_ 0 rfl)).1 (by omega) 30 (.tmp 21) (.tmp 23) (by kernel_rfl) .i64 (by kernel_rfl) (by kernel_rfl) 28 (by kernel_rfl) (by kernel_rfl) _) ?_
   refine wq_v (some 26) (Value.agg (vb (kl K)).toArray) (e_elemsN (OV.rvn (h10.at_ 0 rfl)).2 i 0 (vb (kl K)) (map_vb_get hK) 28 (.tmp 25) (by kernel_rfl) (vb (kl K)) (by kernel_rfl) (by kernel_rfl) (by kernel_rfl)) ?_
   refine wq_to (some 5) (x_new h10 28 (vb (List.replicate 16 0)) (fun r => pt r 0) (by kernel_rfl)) ?_
   rintro _ w16 ⟨g16, rfl, h16⟩
   refine wq_to none (x_stores h16 0 rfl 28 (.tmp 5) (.tmp 26) (by kernel_rfl) 0 (vb (kl K)) (vb (kl K)) (by kernel_rfl) (by kernel_rfl) (by kernel_rfl) (by kernel_rfl) (by kernel_rfl) (by kernel_rfl)) ?_
   rintro _ w17 h17
   refine wl_end rfl ?_
   refine seq_n hK15 ?_
   refine wp_seq_k ?_
   intro K18 hK18
   refine reg_lit ?_
   refine wq_p 1 [(28, (Value.slice (some ⟨g16, 0, none⟩) 16 16))] ?_
   refine wq_to (some 29) (x_Mark h17 (kl K) (Value.slice (some ⟨g16, 0, none⟩) 16 16) (by kernel_rfl) (SB.blk16 (K := K) (h17.at_ 0 rfl)) (Value.tuple #[(Value.int .u8 (ub kd)), (Value.int .i64 ((n : Int))), (Value.bool true)]) (by rw [hm]; rfl)) ?_
   rintro _ w19 ⟨rfl, h19⟩
   refine wq_p 7 [(8, (Value.bool true)), (7, (Value.int .i64 ((n : Int)))), (6, (Value.int .u8 (ub kd))), (32, (Value.bool true)), (31, (Value.int .i64 ((n : Int)))), (30, (Value.int .u8 (ub kd))), (27, (Value.tuple #[(Value.int .u8 (ub kd)), (Value.int .i64 ((n : Int))), (Value.bool true)]))] ?_
   refine wl_end rfl ?_
   refine seq_n hK18 ?_
   refine wp_seq_k ?_
   intro K20 hK20
   refine reg_lit ?_
   refine wq_p 1 [(33, (Value.int .u8 (ub kd)))] ?_
   refine wl_end rfl ?_
   refine seq_n hK20 ?_
   refine wp_block ?_
   refine wp_seq_k ?_
   intro K21 hK21
   refine reg_lit ?_
   refine wq_p 2 [(34, (Value.bool ((ub kd) == 107))), (35, (Value.bool ((ub kd) == 107)))] ?_
   refine wl_end rfl ?_
   refine seq_n hK21 ?_
   refine wp_ifeq (ub kd) 107 (by kernel_rfl) (fun b22 => ?_) (fun b22 => ?_)
   ·
    refine pR_go h19 5 (fun W => (rMind F1 it m p T).Φ W ∧ (rBlk g16 28 (vb (kl K))).Φ W ∧ True) [(37, [0], 0), (38, [36], 1), (39, [37], 2), (40, [38], 4), (41, [5], 0), (0, [39, 40], 31)] rfl (fun _ d _ _ _ h => by cases d <;> exact h) ?_
    intro hs23 w23 h23
    refine pR_p 3 [0, 1, 2] [(38, (pt m 1)), (37, (pt m 0)), (36, (pt m 0))] 7 hs23 ⟨h23.at_ 2 rfl, h23.at_ 0 rfl, trivial⟩ ?_
    refine pR_v 3 (some 39) (Value.map (some p.kb)) 15 rfl hs23 ⟨h23.at_ 2 rfl, h23.at_ 0 rfl, trivial⟩ (fun W hW => e_mload hW.1 63 (.tmp 38) (by kernel_rfl) 1 (Value.map (some p.kb)) (by kernel_rfl) (by kernel_rfl) (by kernel_rfl)) ?_
    refine pR_v 4 (some 40) (Value.agg (vb (kl K)).toArray) 31 rfl hs23 ⟨h23.at_ 2 rfl, h23.at_ 0 rfl, trivial⟩ (fun W hW => e_loads hW.2.1 28 (.tmp 5) (by kernel_rfl) 0 (vb (kl K)) (by kernel_rfl) (by kernel_rfl) (by kernel_rfl)) ?_
    refine pR_to 5 none 63 rfl hs23 (x_mupdK h23 2 rfl (kl K) (by kernel_rfl) (.tmp 39) (.tmp 40) (.const (Value.bool true)) (by kernel_rfl) (by kernel_rfl) (by kernel_rfl) (by kernel_rfl)) ?_
    rintro _ w24 ⟨F24, S24, hS24, h24⟩
    refine ⟨fun h => absurd h (by decide), ?_⟩
    refine pR_done hs23 ?_ _
    refine blk_n ?_
    refine blk_n ?_
    refine seq_n hK14 ?_
    refine wp_reset 49 [(0, (pt m 0)), (1, (Value.slice A b.length c)), (5, (pt g16 0)), (6, (Value.int .u8 (ub kd))), (21, (Value.slice A9 ((findB b).length) c9)), (22, (Value.int .i64 (((findB b).length : Int)))), (23, (Value.int .i64 ((i : Int)))), (24, (Value.bool (decide ((i : Int) < ((findB b).length : Int))))), (33, (Value.int .u8 (ub kd))), (34, (Value.bool ((ub kd) == 107)))] (fun x25 => ?_)
    refine reg_lit ?_
    refine wq_v (some 48) (Value.int .i64 ((i : Int) + 1)) (exec_add _ _ _ _ rfl ((i : Int)) 1 (by kernel_rfl) (by kernel_rfl) ((i : Int) + 1) rfl (by omega) (by omega) _) ?_
    refine wq_p 1 [(23, (Value.int .i64 ((i : Int) + 1)))] ?_
    refine wl_end rfl ?_
    refine ⟨(findB b).length - (i + 1), (by omega), (i + 1), F24, S24, (by omega), (by rw [foldT_succ hK, ← hT, putM_k hm b22]; exact hS24), rfl, (patch_eq _ 49 _ (by kernel_rfl) (by kernel_rfl) (by kernel_rfl)), h24.sel [1, 2] [0] (by kernel_rfl) rfl rfl⟩
   ·
    refine wp_seq_k ?_
    intro K26 hK26
    refine reg_lit ?_
    refine wq_p 2 [(41, (Value.bool ((ub kd) == 98))), (42, (Value.bool ((ub kd) == 98)))] ?_
    refine wl_end rfl ?_
    refine seq_n hK26 ?_
    refine wp_ifeq (ub kd) 98 (by kernel_rfl) (fun b27 => ?_) (fun b27 => ?_)
    ·
     refine wp_reset 49 [(0, (pt m 0)), (1, (Value.slice A b.length c)), (5, (pt g16 0)), (6, (Value.int .u8 (ub kd))), (21, (Value.slice A9 ((findB b).length) c9)), (22, (Value.int .i64 (((findB b).length : Int)))), (23, (Value.int .i64 ((i : Int)))), (24, (Value.bool (decide ((i : Int) < ((findB b).length : Int))))), (33, (Value.int .u8 (ub kd))), (34, (Value.bool ((ub kd) == 107))), (41, (Value.bool ((ub kd) == 98)))] (fun x28 => ?_)
     refine pR_go h19 5 (fun W => (rMind F1 it m p T).Φ W ∧ (rBlk g16 28 (vb (kl K))).Φ W ∧ True) [(44, [0], 0), (45, [43], 1), (46, [44], 2), (47, [45], 4), (48, [5], 0), (0, [46, 47], 31)] rfl (fun _ d _ _ _ h => by cases d <;> exact h) ?_
     intro hs29 w29 h29
     refine pR_p 3 [0, 1, 2] [(45, (pt m 2)), (44, (pt m 0)), (43, (pt m 0))] 7 hs29 ⟨h29.at_ 2 rfl, h29.at_ 0 rfl, trivial⟩ ?_
     refine pR_v 3 (some 46) (Value.map (some p.bb)) 15 rfl hs29 ⟨h29.at_ 2 rfl, h29.at_ 0 rfl, trivial⟩ (fun W hW => e_mload hW.1 63 (.tmp 45) (by kernel_rfl) 2 (Value.map (some p.bb)) (by kernel_rfl) (by kernel_rfl) (by kernel_rfl)) ?_
     refine pR_v 4 (some 47) (Value.agg (vb (kl K)).toArray) 31 rfl hs29 ⟨h29.at_ 2 rfl, h29.at_ 0 rfl, trivial⟩ (fun W hW => e_loads hW.2.1 28 (.tmp 5) (by kernel_rfl) 0 (vb (kl K)) (by kernel_rfl) (by kernel_rfl) (by kernel_rfl)) ?_
     refine pR_to 5 none 63 rfl hs29 (x_mupdB h29 2 rfl (kl K) (by kernel_rfl) (.tmp 46) (.tmp 47) (.const (Value.bool true)) (by kernel_rfl) (by kernel_rfl) (by kernel_rfl) (by kernel_rfl)) ?_
     rintro _ w30 ⟨F30, S30, hS30, h30⟩
     refine ⟨fun h => absurd h (by decide), ?_⟩
     refine pR_done hs29 ?_ _
     refine blk_n ?_
     refine blk_n ?_
     refine seq_n hK14 ?_
     refine reg_lit ?_
     refine wq_v (some 48) (Value.int .i64 ((i : Int) + 1)) (exec_add _ _ _ _ rfl ((i : Int)) 1 (by kernel_rfl) (by kernel_rfl) ((i : Int) + 1) rfl (by omega) (by omega) _) ?_
     refine wq_p 1 [(23, (Value.int .i64 ((i : Int) + 1)))] ?_
     refine wl_end rfl ?_
     refine ⟨(findB b).length - (i + 1), (by omega), (i + 1), F30, S30, (by omega), (by rw [foldT_succ hK, ← hT, putM_b hm b27]; exact hS30), rfl, (patch_eq _ 49 _ (by kernel_rfl) (by kernel_rfl) (by kernel_rfl)), h30.sel [1, 2] [0] (by kernel_rfl) rfl rfl⟩
    ·
     refine wp_skip ?_
     refine blk_n ?_
     refine blk_n ?_
     refine seq_n hK14 ?_
     refine wp_reset 49 [(0, (pt m 0)), (1, (Value.slice A b.length c)), (5, (pt g16 0)), (6, (Value.int .u8 (ub kd))), (21, (Value.slice A9 ((findB b).length) c9)), (22, (Value.int .i64 (((findB b).length : Int)))), (23, (Value.int .i64 ((i : Int)))), (24, (Value.bool (decide ((i : Int) < ((findB b).length : Int))))), (33, (Value.int .u8 (ub kd))), (34, (Value.bool ((ub kd) == 107))), (41, (Value.bool ((ub kd) == 98)))] (fun x31 => ?_)
     refine reg_lit ?_
     refine wq_v (some 48) (Value.int .i64 ((i : Int) + 1)) (exec_add _ _ _ _ rfl ((i : Int)) 1 (by kernel_rfl) (by kernel_rfl) ((i : Int) + 1) rfl (by omega) (by omega) _) ?_
     refine wq_p 1 [(23, (Value.int .i64 ((i : Int) + 1)))] ?_
     refine wl_end rfl ?_
     refine ⟨(findB b).length - (i + 1), (by omega), (i + 1), F1, T, (by omega), (by rw [foldT_succ hK, ← hT]; exact (putM_n hm b22 b27).symm), rfl, (patch_eq _ 49 _ (by kernel_rfl) (by kernel_rfl) (by kernel_rfl)), h19.sel [1, 2] [0] (by kernel_rfl) rfl rfl⟩
  ·
   refine wp_exit ?_
   refine seq_e ?_
   refine seq_e ?_
   refine blk_e ?_
   refine post_n ?_
   refine post_0 rfl (by kernel_rfl)  ?_
   exact ⟨rfl, _, _, (hT.trans (foldT_all b _ (by omega))).trans (by rw [hS8]; rfl), h10.sel [1] [] (by decide) rfl rfl⟩
end Go.Proofs.Ytpkelokaammmjaa
end
/-! What the rounds of close keep. -/
section
namespace Go.Proofs.Ytpkelokaammmjaa
open Go.RowKit Go.QT
structure RInv (s : STab) (K0 B0 : Bytes → Prop) (N : List Bytes) (S1 S2 : KM) (ag : Bool) (sn : List Nat) : Prop where
  ws : WS s K0 B0 N S2
  nd : sn.Nodup
  lt : ∀ i ∈ sn, i < S2.bx.length
  le : pot s S2 + unk s S2 + ag.toNat ≤ pot s S1 + unk s S1
  cl : ag = false → S2.bx.length = S1.bx.length ∧ ∀ i ∈ sn, ∀ k sl, S2.bx[i]? = some k → s.box k = some sl → sl.by_ ∈ S2.kk → k ∈ S2.op
structure KInv (s : STab) (K0 B0 : Bytes → Prop) (N : List Bytes) (S1 S2 : KM) (ag : Bool) (n : Nat) : Prop where
  ws : WS s K0 B0 N S2
  le : pot s S2 + unk s S2 + ag.toNat ≤ pot s S1 + unk s S1
  cl : ag = false → (∀ k ∈ S2.bx, ∀ sl, s.box k = some sl → sl.by_ ∈ S2.kk → k ∈ S2.op) ∧ ∀ i f, i < n → s.keys[i]? = some f → f.of ≠ zKey → f.of ∈ S2.kk → mkB 107 (i + 1) ∈ S2.kk
section
variable {s : STab} {K0 B0 : Bytes → Prop} {N : List Bytes} {n j : Nat} {S1 S2 S3 S4 : KM} {ag : Bool} {sn : List Nat} {k : Bytes} {sl : SSealed}
theorem RInv.init (h : WS s K0 B0 N S1) : RInv s K0 B0 N S1 S1 false [] :=
  ⟨h, by simp, by simp, by simp, fun _ => ⟨rfl, by simp⟩⟩
theorem snoc_nd (h : sn.Nodup) (hn : j ∉ sn) : (sn ++ [j]).Nodup := by
  rw [List.nodup_append]
  exact ⟨h, by simp, fun x hx y hy e => by
    have : y = j := by simpa using hy
    subst this; subst e; exact hn hx⟩
theorem RInv.skip (h : RInv s K0 B0 N S1 S2 ag sn) (hj : S2.bx[j]? = some k) (hn : j ∉ sn) (hc : ∀ sl, s.box k = some sl → sl.by_ ∈ S2.kk → k ∈ S2.op) : RInv s K0 B0 N S1 S2 ag (sn ++ [j]) where
  ws := h.ws
  nd := snoc_nd h.nd hn
  lt := fun i hi => by
    rcases List.mem_append.1 hi with hi | hi
    · exact h.lt i hi
    · have : i = j := by simpa using hi
      rw [this]; exact (List.getElem?_eq_some_iff.1 hj).1
  le := h.le
  cl := fun ha => ⟨(h.cl ha).1, fun i hi x sl hx hs hb => by
    rcases List.mem_append.1 hi with hi | hi
    · exact (h.cl ha).2 i hi x sl hx hs hb
    · have : i = j := by simpa using hi
      subst this
      rw [hj] at hx; injection hx with hx; subst hx
      exact hc sl hs hb⟩
theorem RInv.skip_less (h : RInv s K0 B0 N S1 S2 ag sn) (hj : S2.bx[j]? = some k) (hn : j ∉ sn) : pot s S2 + (S2.bx.length - (sn ++ [j]).length) < pot s S2 + (S2.bx.length - sn.length) := by
  have := seen_lt h.nd h.lt (List.getElem?_eq_some_iff.1 hj).1 hn
  simp only [List.length_append, List.length_cons, List.length_nil]
  omega
theorem RInv.took (h : RInv s K0 B0 N S1 S2 ag sn) (hj : S2.bx[j]? = some k) (hn : j ∉ sn) (hs : s.box k = some sl) (ho : k ∉ S2.op) (hb : sl.by_ ∈ S2.kk) (h1 : S3 = { S2 with op := insK S2.op k }) (h2 : S4 = takeM S3 sl.body) : RInv s K0 B0 N S1 S4 true (sn ++ [j]) where
  ws := h.ws.open_ (List.mem_of_getElem? hj) hs hb ho h1 h2
  nd := snoc_nd h.nd hn
  lt := fun i hi => by
    have hl := (open_less hs ho h1 h2).2.2.2.1
    rcases List.mem_append.1 hi with hi | hi
    · have := h.lt i hi; omega
    · have : i = j := by simpa using hi
      have := (List.getElem?_eq_some_iff.1 hj).1; omega
  le := by
    obtain ⟨a, b, _⟩ := open_less hs ho h1 h2
    have := h.le
    have : Bool.toNat true = 1 := rfl
    omega
  cl := by simp
theorem RInv.took_less (h : RInv s K0 B0 N S1 S2 ag sn) (hj : S2.bx[j]? = some k) (hn : j ∉ sn) (hs : s.box k = some sl) (ho : k ∉ S2.op) (h1 : S3 = { S2 with op := insK S2.op k }) (h2 : S4 = takeM S3 sl.body) : pot s S4 + (S4.bx.length - (sn ++ [j]).length) < pot s S2 + (S2.bx.length - sn.length) := by
  have := seen_lt h.nd h.lt (List.getElem?_eq_some_iff.1 hj).1 hn
  obtain ⟨a, b, c, d, _⟩ := open_less hs ho h1 h2
  simp only [List.length_append, List.length_cons, List.length_nil]
  omega
theorem RInv.over (h : RInv s K0 B0 N S1 S2 ag sn) (hall : ∀ i, i < S1.bx.length → i ∈ sn) : KInv s K0 B0 N S1 S2 ag 0 where
  ws := h.ws
  le := h.le
  cl := fun ha => ⟨fun k hk sl hs hb => by
    obtain ⟨i, hi, rfl⟩ := List.getElem_of_mem hk
    obtain ⟨h1, h2⟩ := h.cl ha
    exact h2 i (hall i (by omega)) _ sl (List.getElem?_eq_getElem hi) hs hb, fun i f hi => by omega⟩
theorem KInv.skip {f : SFrom} (h : KInv s K0 B0 N S1 S2 ag n) (hf : s.keys[n]? = some f) (hc : f.of ≠ zKey → f.of ∈ S2.kk → mkB 107 (n + 1) ∈ S2.kk) : KInv s K0 B0 N S1 S2 ag (n + 1) where
  ws := h.ws
  le := h.le
  cl := fun ha => ⟨(h.cl ha).1, fun i g hi hg hz ho => by
    by_cases hin : i < n
    · exact (h.cl ha).2 i g hin hg hz ho
    · have : i = n := by omega
      subst this
      rw [hf] at hg; injection hg with hg; subst hg
      exact hc hz ho⟩
theorem KInv.late {f : SFrom} (h : KInv s K0 B0 N S1 S2 ag n) (hf : s.keys[n]? = some f) (hz : f.of ≠ zKey) (ho : f.of ∈ S2.kk) (hk : k = mkB 107 (n + 1)) (hn : k ∉ S2.kk) (hS : S3 = { S2 with kk := insK S2.kk k }) : KInv s K0 B0 N S1 S3 true (n + 1) where
  ws := h.ws.late hf hz ho (hk ▸ hS)
  le := by
    have a := late_less (s := s) (List.getElem?_eq_some_iff.1 hf).1 (hk ▸ hn) (hk ▸ hS)
    have := h.le
    have : Bool.toNat true = 1 := rfl
    omega
  cl := by simp
theorem KInv.done (h : KInv s K0 B0 N S1 S2 ag n) (hn : s.keys.length ≤ n) : ag = false → MS s K0 B0 N S2 := fun ha =>
  { h.ws with
    c1 := (h.cl ha).1
    c2 := fun i f hf hz ho => (h.cl ha).2 i f (by have := (List.getElem?_eq_some_iff.1 hf).1; omega) hf hz ho }
theorem KInv.less (h : KInv s K0 B0 N S1 S2 ag n) : pot s S2 + unk s S2 + ag.toNat < pot s S1 + unk s S1 + true.toNat := by
  have := h.le
  have : Bool.toNat true = 1 := rfl
  omega
theorem came_atK {f : SFrom} (h : s.keys[n]? = some f) (hn : n < 1000000) : s.came (mkB 107 (n + 1)) = some f := by
  unfold STab.came
  rw [markOf_mkB (.inl rfl) (by omega)]
  simp [h]
variable {F F0 FT : Nat → Prop} {w0 w : World} {ro rs : List Res} {tb m : Nat} {o : Oper} {a : Act} {S : KM} {p : Mp} {it : Option (Nat × Nat × List Nat)}
theorem box_cases (h : Hp F0 w0 w ro rs) (i : Nat) (hi : rs[i]? = some (rTab FT tb s)) (k : Bytes) : s.box k = none ∨ ∃ D us bd, s.box k = some ⟨kl D, us, bd⟩ := by
  cases hb : s.box k with
  | none => exact .inl rfl
  | some sl =>
    obtain ⟨j, _, hj, _⟩ := box_at_ hb
    obtain ⟨D, hD⟩ := kl_of sl.by_ ((h.tabW i hi).1 sl (List.mem_of_getElem? hj))
    exact .inr ⟨D, sl.usage, sl.body, by rw [← hD]⟩
theorem key_at (h : Hp F0 w0 w ro rs) (i : Nat) (hi : rs[i]? = some (rTab FT tb s)) (hn : n < s.keys.length) (hm : s.keys.length < 1000000) {K : Fin 16 → UInt8} (hK : kl K = mkB 107 (n + 1)) :
    ∃ O fl fb, s.keys[n]? = some ⟨kl O, fl, fb⟩ ∧ s.came (kl K) = some ⟨kl O, fl, fb⟩ := by
  obtain ⟨O, hO⟩ := kl_of (s.keys[n]).of ((h.tabW i hi).2.1 _ (List.getElem_mem hn))
  have h1 : s.keys[n]? = some ⟨kl O, (s.keys[n]).label, (s.keys[n]).text⟩ := by rw [List.getElem?_eq_getElem hn, ← hO]
  exact ⟨O, _, _, h1, by rw [hK]; exact came_atK h1 (by omega)⟩
theorem x_cameK (h : Hp F0 w0 w ro rs) (i : Nat) (hi : rs[i]? = some (rTab FT tb s)) (K O : Fin 16 → UInt8) (fl : ByteArray) (fb : Bool) (hp : pureVal Try.prog (execOp a.eval o) = some (.enter 36 #[pt tb 0, .agg (vb (kl K)).toArray])) (hn : s.keys.length < 1000000) (hr : s.came (kl K) = some ⟨kl O, fl, fb⟩) :
    OpTo Try.prog o a w (fun u' w' => u' = .tuple #[.agg (vb (kl O) ++ [Value.string fl, Value.bool fb]).toArray, .bool true] ∧ Hp F0 w0 w' ro rs) :=
  (x_came h i hi K _ hp (h.tabW i hi).2.1 hn hr).mono fun u w' hq => by
    obtain ⟨K', l, b, hu, hor, h'⟩ := hq
    rcases hor with e | ⟨e, _⟩
    · injection e with e
      injection e with e1 e2 e3
      subst e2; subst e3
      exact ⟨by rw [hu, e1]; rfl, h'⟩
    · cases e
/-- take, called. -/
theorem x_take (h : Hp F0 w0 w ro rs) (i : Nat) (hi : rs[i]? = some (rMind F it m p S)) {v : Value} {b : Bytes} (hp : pureVal Try.prog (execOp a.eval o) = some (.enter 24 #[pt m 0, v])) (hf : Hp F w w [rSB v b] [rMind F it m p S]) (hl : b.length ≤ 1000000) (hal : S.al.length ≤ 10000000) :
    OpTo Try.prog o a w (fun u w' => u = .tuple #[] ∧ ∃ F' S', S' = takeM S b ∧ Hp F0 w0 w' ro (rs.set i (rMind F' it m p S'))) :=
  OpTo.enter 24 [pt m 0, v] hp (take_any it m p S F v b w hf hl hal) fun e w' hq => by
    obtain ⟨he, F', S', hS, hh⟩ := hq
    exact ⟨_, he, rfl, F', S', hS, h.upd i hi hh.fr _ (hh.own 0 _ rfl) (hh.mine 0 _ rfl)⟩
theorem box_body {b : SSealed} (hx : ∀ b ∈ s.boxes, b.body.length ≤ 1000000) (h : s.box k = some b) : b.body.length ≤ 1000000 := by
  obtain ⟨i, _, hi, _⟩ := box_at_ h
  exact hx b (List.mem_of_getElem? hi)
theorem WS.alb (h : WS s K0 B0 N S) (hN : N.length ≤ 1000000) (hb : s.boxes.length < 1000000) : S.al.length ≤ 2000000 := by
  have := h.al
  have := op_len h
  omega
end
end Go.Proofs.Ytpkelokaammmjaa
end
