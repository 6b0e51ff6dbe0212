/- Whole rows out of and into a block that is known whole, as steps of a walk. Over any program. -/
import Derived.Test.YtjjcnijdjhhdoaaMem
import Derived.Deep.MidRow
import Derived.Laws.CopyRow
import Derived.BigQuiet
namespace Go.Proofs.Ytjjcnijdjhhdoaa
open Go.RowKit
section
variable {P : Program} {ops : Array Oper} {rest : List Oper} {o : Oper} {a : Act} {w : World} {Q : Exit → Act → World → Prop}
theorem Blk.range {b : Nat} {T : TypeId} {cs ds : List Value} {k : Nat} (h : Blk w b T cs) (hd : ∀ j v, ds[j]? = some v → cs[k + j]? = some v) : w.rangeAt b k ds := fun j v hj => by
  rw [Blk.cell h]; exact hd j v hj
theorem slice_get (cs : List Value) (k n : Nat) : ∀ j v, ((cs.drop k).take n)[j]? = some v → cs[k + j]? = some v := fun j v h => by
  rw [List.getElem?_take] at h
  split at h
  · rwa [List.getElem?_drop] at h
  · cases h
/-- A load of a row out of a block. -/
theorem wl_load (hgd : o.guard = none) (ty : TypeId) (x : Operand) (ho : o.op = .load ty x)
    (b k : Nat) (hx : a.eval x = .pointer (some ⟨b, k, none⟩)) (T : TypeId) (cs ds : List Value) (d : TypeDesc) (hb : Blk w b T cs) (hd : ∀ j v, ds[j]? = some v → cs[k + j]? = some v)
    (hu : P.underlying ty = some d) (hr : d.isRow = true) (hi : (P.info? ty).map (·.size) = some ds.length)
    (h : wpList P ops Q rest (a.put o.dst (.agg ds.toArray)) w) : wpList P ops Q (o :: rest) a w :=
  wpList_load_mid hgd ty x ho b k hx ds d (hb.range hd) hu hr hi h
/-- The same behind a guard that says yes. -/
theorem wl_loadG (hw : Region.wanted o (yielded ops a.tmps) = true) (ty : TypeId) (x : Operand) (ho : o.op = .load ty x)
    (b k : Nat) (hx : a.eval x = .pointer (some ⟨b, k, none⟩)) (T : TypeId) (cs ds : List Value) (d : TypeDesc) (hb : Blk w b T cs) (hd : ∀ j v, ds[j]? = some v → cs[k + j]? = some v)
    (hu : P.underlying ty = some d) (hr : d.isRow = true) (hi : (P.info? ty).map (·.size) = some ds.length)
    (h : wpList P ops Q rest (a.put o.dst (.agg ds.toArray)) w) : wpList P ops Q (o :: rest) a w :=
  BigFrame.wpList_want hw fun _ hK => wp_load_mid ty x ho b k hx ds d (hb.range hd) hu hr hi (hK _ _ h)
theorem run_storeVar_blk (b k : Nat) (T : TypeId) (cs vs : List Value) (ty : TypeId) (hb : Blk w b T cs) (hk : k + vs.length ≤ cs.length) (hi : (P.info? ty).map (·.size) = some vs.length) (h1 : ∀ v ∈ vs, v.oneCell' = true) :
    (storeVar ty ⟨b, k, none⟩ (.agg vs.toArray)).run P w = .ok () (w.setRow b (cs.take k ++ vs ++ cs.drop (k + vs.length)).toArray) := by
  have := run_storeCells_at (P := P) b k T vs 0 cs.toArray w hb (by simpa using hk) h1
  simp only [Nat.add_zero] at this
  cases hq : P.info? ty with
  | none => simp [hq] at hi
  | some i =>
    have hs : vs.length = i.size := by simp [hq] at hi; omega
    simp [storeVar, sizeOf, typeInfo, hq, Value.cells, hs, this]
/-- A store of a row into a block. -/
theorem wl_store (hgd : o.guard = none) (ty : TypeId) (x y : Operand) (ho : o.op = .store ty x y)
    (b k : Nat) (vs : List Value) (hx : a.eval x = .pointer (some ⟨b, k, none⟩)) (hy : a.eval y = .agg vs.toArray) (T : TypeId) (cs : List Value) (hb : Blk w b T cs) (hk : k + vs.length ≤ cs.length)
    (hi : (P.info? ty).map (·.size) = some vs.length) (h1 : ∀ v ∈ vs, v.oneCell' = true)
    (h : wpList P ops Q rest (a.put o.dst undef) (w.setRow b (cs.take k ++ vs ++ cs.drop (k + vs.length)).toArray)) : wpList P ops Q (o :: rest) a w :=
  wpList_plain hgd fun K hK => by
    unfold Oper.wp execOp
    simp only [ho, hx, hy, Instr.storeAt, Instr.sureAddr, Sem.run_bind, Sem.run_pure, Result.andThen_ok, run_storeVar_blk b k T cs vs ty hb hk hi h1]
    exact hK _ _ h
theorem only_setRow {w : World} (b : Nat) (cs : Array Value) : w.grownBy (w.setRow b cs) (some b) :=
  ⟨rfl, rfl, rfl, by simp, fun k _ hk => setRow_other w b k cs (fun e => hk (by rw [e]))⟩
/-- A store of a row into a block: of the world behind it just this is known. -/
theorem wl_storeW (hgd : o.guard = none) (ty : TypeId) (x y : Operand) (ho : o.op = .store ty x y)
    (b k : Nat) (vs : List Value) (hx : a.eval x = .pointer (some ⟨b, k, none⟩)) (hy : a.eval y = .agg vs.toArray) (T : TypeId) (cs ds : List Value) (hb : Blk w b T cs) (hk : k + vs.length ≤ cs.length)
    (hi : (P.info? ty).map (·.size) = some vs.length) (h1 : ∀ v ∈ vs, v.oneCell' = true) (hds : ds = cs.take k ++ vs ++ cs.drop (k + vs.length))
    (h : ∀ w', Blk w' b T ds → w.grownBy w' (some b) → w'.heap.size = w.heap.size → wpList P ops Q rest (a.put o.dst undef) w') : wpList P ops Q (o :: rest) a w := by
  subst hds
  exact wl_store hgd ty x y ho b k vs hx hy T cs hb hk hi h1 (h _ (Blk.setRow hb _) (only_setRow b _) (by simp))
/-- The load, in a region whose order is drawn: the head's operations. -/
theorem q_load {Q : Act → Prop} (hgd : o.guard = none) (ty : TypeId) (x : Operand) (ho : o.op = .load ty x)
    (b k : Nat) (hx : a.eval x = .pointer (some ⟨b, k, none⟩)) (T : TypeId) (cs ds : List Value) (d : TypeDesc) (hb : Blk w b T cs) (hd : ∀ j v, ds[j]? = some v → cs[k + j]? = some v)
    (hu : P.underlying ty = some d) (hr : d.isRow = true) (hi : (P.info? ty).map (·.size) = some ds.length)
    (h : wpQuiet P ops (fun w' => ∃ n, w' = w.drewN n) Q rest (a.put o.dst (.agg ds.toArray))) : wpQuiet P ops (fun w' => ∃ n, w' = w.drewN n) Q (o :: rest) a := by
  refine wpQuiet_step fun K hK => ?_
  rw [if_pos (by simp [Region.wanted, hgd])]
  refine ⟨_, fun w' hw' => ?_, hK _ h⟩
  obtain ⟨n, rfl⟩ := hw'
  have hr' := run_loadVar_mid (P := P) (w.drewN n) b k ty ds d ((Blk.drewN hb n).range hd) hu hr hi
  unfold Oper.quietAt execOp
  simp only [ho, hx, Instr.loadAt, Instr.sureAddr, Sem.run_bind, Sem.run_pure, Result.andThen_ok, hr']
  exact ⟨rfl, rfl⟩
end
theorem vb_ones (l : Bytes) : ∀ v ∈ vb l, v.oneCell' = true := by
  intro v hv
  simp only [vb, List.mem_map] at hv
  obtain ⟨x, _, rfl⟩ := hv
  rfl
end Go.Proofs.Ytjjcnijdjhhdoaa
