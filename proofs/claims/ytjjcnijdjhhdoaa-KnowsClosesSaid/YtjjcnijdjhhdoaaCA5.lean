/- The walks of the closure in Digest, and of slices.IndexFunc with it. (Texts laid one behind the other: Seal, Find, IdxA, PutGet, LPlain, Joined, Box, Open, Conv, Text, Equal, IdxF.) -/
import Derived.Laws.IdiomStrings
import Derived.Lib.SlBytesConst
import Derived.Test.YtjjcnijdjhhdoaaCA4
/-! The walk of (sym.Table).Seal. -/
section
namespace Go.Proofs.Ytjjcnijdjhhdoaa
open Go.RowKit Go.QT
theorem ty56 : Try.prog.underlying 56 = some (.struct (Try.prog.fieldsOf 56)) := by kernel_rfl
theorem i56 : (Try.prog.info? 56).map (·.size) = some 18 := by kernel_rfl
theorem tyss : Try.prog.underlying 62 = some (.slice 56) := by kernel_rfl
def zSealed : SSealed := ⟨zKey, 0, []⟩
theorem iss : (Try.prog.info? 56).map (fun i => (i.zero, i.size, i.bytes)) = some (some (.agg (sealCells zSealed (.slice none 0 0)).toArray), 18, 48) := by kernel_rfl
theorem zss (W : World) : (zeroValue 56).run Try.prog W = .ok (.agg (sealCells zSealed (.slice none 0 0)).toArray) W := by kernel_rfl
theorem i62 : (Try.prog.info? 62).map (·.size) = some 1 := by kernel_rfl
theorem places56 (W : World) : ((Try.prog.fieldsOf 56).mapM (fun f => do pure (f.offset, ← sizeOf f.type)) : Sem (Array (Nat × Nat))).run Try.prog W = .ok #[(0, 16), (16, 1), (17, 1)] W := by kernel_rfl
theorem run_build_sealed (parts : Array (Nat × Value)) (cs : Array Value) (hfill : Instr.fill (fun i => (#[(0, 16), (16, 1), (17, 1)] : Array (Nat × Nat))[i]?) (sealCells zSealed (.slice none 0 0)).toArray parts.toList = some cs) (w : World) :
    (Instr.build 56 parts).run Try.prog w = .ok (.agg cs) w := by
  have hz : (Value.agg (sealCells zSealed (.slice none 0 0)).toArray).cells = (sealCells zSealed (.slice none 0 0)).toArray := rfl
  simp only [Instr.build, Sem.run_bind, zss, Result.andThen_ok, run_underlying ty56, places56, Sem.run_pure, hz, hfill]
theorem fill_sealed (k : Bytes) (u : Int) (v : Value) (l : Bytes) (hk : k.length = 16) (hv : v.cells = #[v]) : Instr.fill (fun i => (#[(0, 16), (16, 1), (17, 1)] : Array (Nat × Nat))[i]?) (sealCells zSealed (.slice none 0 0)).toArray [(0, .agg (vb k).toArray), (1, .int .i64 u), (2, v)] = some (sealCells ⟨k, u, l⟩ v).toArray := by
  rw [fill_one _ _ 0 0 16 (.agg (vb k).toArray) _ rfl (by simp [Value.cells, hk]) (by simp [sealCells, zSealed, zKey]),
    fill_one _ _ 1 16 1 (.int .i64 u) _ rfl rfl (by rw [lay_len _ _ _ (by simp [Value.cells, hk, sealCells, zSealed, zKey])]; simp [sealCells, zSealed, zKey]),
    fill_one _ _ 2 17 1 v _ rfl (by rw [hv]; rfl) (by rw [lay_len _ _ _ (by rw [lay_len _ _ _ (by simp [Value.cells, hk, sealCells, zSealed, zKey])]; simp [Value.cells, sealCells, zSealed, zKey]), lay_len _ _ _ (by simp [Value.cells, hk, sealCells, zSealed, zKey])]; simp [sealCells, zSealed, zKey])]
  simp only [Instr.fill, hv]
  congr 2
  obtain ⟨a0, a1, a2, a3, a4, a5, a6, a7, a8, a9, a10, a11, a12, a13, a14, a15, rfl⟩ := l16 k hk
  rfl
theorem exec_build_sealed {o : Oper} {a : Act} (x y z : Operand) (ho : o.op = .build 56 #[(0, x), (1, y), (2, z)]) (k : Bytes) (u : Int) (v : Value) (l : Bytes) (hk : k.length = 16) (hv : v.cells = #[v]) (hx : a.eval x = .agg (vb k).toArray) (hy : a.eval y = .int .i64 u) (hz : a.eval z = v) (w : World) :
    (execOp a.eval o).run Try.prog w = .ok (.value (.agg (sealCells ⟨k, u, l⟩ v).toArray)) w := by
  have h := run_build_sealed #[(0, .agg (vb k).toArray), (1, .int .i64 u), (2, v)] _ (fill_sealed k u v l hk hv) w
  unfold execOp
  simp [ho, hx, hy, hz, h]
theorem sealCells_len (s : SSealed) (v : Value) (h : s.by_.length = 16) : (sealCells s v).length = 18 := by simp [sealCells, h]
theorem sealCells_one (s : SSealed) (v : Value) (h : v.oneCell' = true) : ∀ u ∈ sealCells s v, u.oneCell' = true := by
  intro u hu
  simp only [sealCells, List.mem_append, List.mem_cons, List.not_mem_nil, or_false] at hu
  rcases hu with h1 | rfl | rfl
  · exact vb_ones _ u h1
  · rfl
  · exact h
theorem OB.one {w : World} {base : Nat} {v : Value} {l : Bytes} (h : OB w base v l) : v.oneCell' = true := by
  obtain ⟨A, c, rfl, _⟩ := h.sb; rfl
theorem OB.cells1 {w : World} {base : Nat} {v : Value} {l : Bytes} (h : OB w base v l) : v.cells = #[v] := by
  obtain ⟨A, c, rfl, _⟩ := h.sb; rfl
/-- The table behind a new box. -/
theorem TabR.sealed {w w' : World} {F : Nat → Prop} {tb mb : Nat} {vk vx vs v' body : Value} {bodies sums : List Value} {es : Array MapEntry} {clock : Nat} {s : STab} {k : Bytes} {u : Int} {l : Bytes} (h : TabR w F tb mb vk vx vs bodies sums es clock s) (hk : k.length = 16)
    (hv : OV w' 0 56 18 v' (List.zipWith sealCells s.boxes bodies ++ [sealCells ⟨k, u, l⟩ body])) (hg : w.grownBy w' vx.ownBlock) (hb : OB w 0 body l) (hbx : Disj body vx) :
    TabR (w'.setCell ⟨tb, 1, none⟩ v') (fun q => F q ∨ v'.ownBlock = some q ∨ body.ownBlock = some q) tb mb vk v' vs (bodies ++ [body]) sums es clock (s.seal k u l) := by
  have hs : w.heap.size ≤ w'.heap.size := hg.size
  have e0 : ∀ q, some q ≠ vx.ownBlock → q ≠ tb → q < w.heap.size → (w'.setCell ⟨tb, 1, none⟩ v').heap[q]? = w.heap[q]? := fun q h1 h2 h3 =>
    (Below.heap_setCell w' ⟨tb, 1, none⟩ v' q h2).trans (hg.block q h3 h1)
  have hvl : ∀ q, v'.ownBlock = some q → q < w'.heap.size := fun q hq => (hv.block q hq).2
  have h1 : Blk w' tb 123 [vk, vx, vs, .map (some mb)] := h.t.grown hg (fun e => own_ne h.x.own h.t (by decide) tb e.symm rfl)
  refine { t := h1.set 1 v', k := ?_, kl := h.kl, x := ?_, xn := by simp [STab.seal, h.xn], xl := ?_, xb := ?_, u := ?_, un := h.un, ub := ?_, m := ?_, me := h.me, ml := h.ml, ft := .inl h.ft, fm := .inl h.fm, fk := fun q hq => .inl (h.fk q hq), fx := fun q hq => .inr (.inl hq), fu := fun q hq => .inl (h.fu q hq), fl := ?_ }
  · exact h.k.keep fun q hq => e0 q (fun e => own_disj h.k.own h.x.own (by decide) q hq e.symm) (own_ne h.k.own h.t (by decide) q hq) (h.k.block q hq).2
  · have h2 : OV w' 0 56 18 v' (List.zipWith sealCells (s.seal k u l).boxes (bodies ++ [body])) := by
      rw [STab.seal]
      show OV w' 0 56 18 v' (List.zipWith sealCells (s.boxes ++ [⟨k, u, l⟩]) (bodies ++ [body]))
      rw [List.zipWith_append h.xn.symm]
      exact hv
    exact h2.far (fun q hq e => own_ne hv.own h1 (by decide) q hq e) _
  · intro b hb'
    simp only [STab.seal, List.mem_append, List.mem_singleton] at hb'
    rcases hb' with hb' | rfl
    · exact h.xl b hb'
    · exact hk
  · intro i b v hb1 hb2
    have hkeep : ∀ {v : Value} {m : Bytes}, OB w 0 v m → Disj v vx → OB (w'.setCell ⟨tb, 1, none⟩ v') 0 v m := fun ho hd => OB.keep ho fun q hq => e0 q (fun e => hd q hq e.symm) (own_ne ho h.t (by decide) q hq) (OB.own ho q hq).2
    by_cases hi : i < s.boxes.length
    · have e1 : s.boxes[i]? = some b := by simpa [STab.seal, List.getElem?_append_left hi] using hb1
      have e2 : bodies[i]? = some v := by rw [List.getElem?_append_left (by rw [h.xn]; exact hi)] at hb2; exact hb2
      obtain ⟨a1, a2, a3⟩ := h.xb i b v e1 e2
      exact ⟨hkeep a1 (own_disj a1 h.x.own (by decide)), fun q hq => .inl (a2 q hq), a3⟩
    · have e1 : (s.boxes ++ [(⟨k, u, l⟩ : SSealed)])[i]? = some b := hb1
      have hi2 : i = s.boxes.length := by
        have := (List.getElem?_eq_some_iff.1 e1).1
        simp at this; omega
      subst hi2
      have e3 : b = ⟨k, u, l⟩ := by simpa using e1.symm
      have e4 : v = body := by
        rw [← h.xn] at hb2
        simpa using hb2.symm
      subst e3; subst e4
      exact ⟨hkeep hb hbx, fun q hq => .inr (.inr hq), hb.one⟩
  · exact h.u.keep fun q hq => e0 q (fun e => own_disj h.u.own h.x.own (by decide) q hq e.symm) (own_ne h.u.own h.t (by decide) q hq) (h.u.block q hq).2
  · intro i b v h1 h2
    obtain ⟨a1, a2, a3⟩ := h.ub i b v h1 h2
    exact ⟨OB.keep a1 fun q hq => e0 q (fun e => own_disj a1 h.x.own (by decide) q hq e.symm) (own_ne a1 h.t (by decide) q hq) (OB.own a1 q hq).2, fun q hq => .inl (a2 q hq), a3⟩
  · have hml : mb < w.heap.size := h.fl mb h.fm
    exact (e0 mb (fun e => own_ne_map h.x.own h.m mb e.symm rfl) (fun e => blk_ne_map h.t h.m e.symm) hml).trans h.m
  · intro q hq
    have : (w'.setCell ⟨tb, 1, none⟩ v').heap.size = w'.heap.size := by simp [World.setCell]
    rcases hq with hq | hq | hq
    · have := h.fl q hq; omega
    · have := hvl q hq; omega
    · have := (OB.own hb q hq).2; omega
/-- What a method leaves that answers a row of bytes, and may turn the table. -/
def SPost (w : World) (F : Nat → Prop) (tb : Nat) (s : STab) (l : Bytes) (e : Ending) (w' : World) : Prop :=
  ∃ v F', e = .returned v ∧ SB w' v l ∧ TabAt w' F' tb s ∧ (∀ q, F' q → F q ∨ w.heap.size ≤ q) ∧ (∀ q, F q → F' q) ∧ Fr F w w' ∧ (∀ q, v.ownBlock = some q → w.heap.size ≤ q ∧ ¬ F' q)
set_option maxRecDepth 100000 in
set_option maxHeartbeats 1000000 in
theorem seal_any (F : Nat → Prop) (tb : Nat) (s : STab) (k : Bytes) (u : Int) (l : Bytes) (bv : Value) (w : World) (hT : TabAt w F tb s) (hk : k.length = 16) (hbv : SB w bv l) (hl : l.length ≤ 1000000) (hn : s.boxes.length < 1000000) :
    Calls Try.prog 31 #[.pointer (some ⟨tb, 0, none⟩), .agg (vb k).toArray, .int .i64 u, bv] w (SPost w F tb (s.seal k u l) (mkB 98 (s.boxes.length + 1))) := by
  obtain ⟨mb, vk, vx, vs, bodies, sums, es, clock, hR⟩ := hT
  have HR := Hd.mk hR
  have Hk := Hd.mk hk
  have Hbv := Hd.mk hbv
  have htb := hR.fl tb hR.ft
  have hik : (Try.prog.info? 42).map (·.size) = some (vb k).length := by rw [vb_length, hk]; exact i42
  have Hik := Hd.mk hik
  have hzl : (List.zipWith sealCells s.boxes bodies).length = s.boxes.length := by rw [List.length_zipWith, hR.xn, Nat.min_self]
  have Hzl := Hd.mk hzl
  have hxl := HR.out.x.form
  clear hR hk hbv hik hzl
  go_enter Try.func31, Try.ntmps31
  go_upto_region 1 with (fail)
  have hb : Below w.heap.size w (w.alloc (.cells (vb k).toArray 42)) := (Below.refl _ _).alloc (Nat.le_refl _) _
  have hKk : Row (w.alloc (.cells (vb k).toArray 42)) w.heap.size 42 k := Row.new w 42 k
  generalize w.alloc (.cells (vb k).toArray 42) = w1 at *
  refine pH_begin (n := 15) 12 (fun W => W.cell? ⟨tb, 1, none⟩ = some vx ∧ Row W w.heap.size 42 k) (by kernel_rfl) rfl ?_
  have HT1 := Hd.mk (HR.out.keep (w' := w1.drewN 1) hb.size (fun q hq => hb.block q (HR.out.fl q hq)))
  have hS : (w1.drewN 1).cell? ⟨tb, 1, none⟩ = some vx ∧ Row (w1.drewN 1) w.heap.size 42 k := ⟨by have := HT1.out.t.cell 1; exact this, hKk⟩
  have HB : Hd (Below w.heap.size w (w1.drewN 1)) := ⟨below_drewN hb 1⟩
  have hlt1 : w.heap.size < (w1.drewN 1).heap.size := hKk.lt
  clear hb hKk
  generalize w1.drewN 1 = w2 at *
  refine pH_val (i := 0) (some 10) (.pointer (some ⟨tb, 0, none⟩)) rfl rfl (by kernel_rfl) (by kernel_rfl) (by kernel_rfl) (by kernel_rfl) (by kernel_rfl) (fun _ d _ _ _ h => by cases d <;> exact h) (by kernel_rfl) hS (fun _ _ => rfl) ?_
  simp only [Act.put, List.setIfInBounds_toArray, List.set_cons_succ, List.set_cons_zero]
  refine pH_val (i := 1) (some 11) (.pointer (some ⟨tb, 0, none⟩)) rfl rfl (by kernel_rfl) (by kernel_rfl) (by kernel_rfl) (by kernel_rfl) (by kernel_rfl) (fun _ d _ _ _ h => by cases d <;> exact h) (by kernel_rfl) hS (fun _ _ => rfl) ?_
  simp only [Act.put, List.setIfInBounds_toArray, List.set_cons_succ, List.set_cons_zero]
  refine pH_val (i := 2) (some 12) (.pointer (some ⟨tb, 0, none⟩)) rfl rfl (by kernel_rfl) (by kernel_rfl) (by kernel_rfl) (by kernel_rfl) (by kernel_rfl) (fun _ d _ _ _ h => by cases d <;> exact h) (by kernel_rfl) hS (by intro W _; simp [go_sem]) ?_
  simp only [Act.put, List.setIfInBounds_toArray, List.set_cons_succ, List.set_cons_zero]
  refine pH_val (i := 3) (some 13) (.pointer (some ⟨tb, 1, none⟩)) rfl rfl (by kernel_rfl) (by kernel_rfl) (by kernel_rfl) (by kernel_rfl) (by kernel_rfl) (fun _ d _ _ _ h => by cases d <;> exact h) (by kernel_rfl) hS (by intro W _; simp [go_sem]) ?_
  simp only [Act.put, List.setIfInBounds_toArray, List.set_cons_succ, List.set_cons_zero]
  refine pH_val (i := 4) (some 14) (vx) rfl rfl (by kernel_rfl) (by kernel_rfl) (by kernel_rfl) (by kernel_rfl) (by kernel_rfl) (fun _ d _ _ _ h => by cases d <;> exact h) (by kernel_rfl) hS (fun W h => exec_cell _ _ (by rfl) ⟨tb, 1, none⟩ _ (by rfl) (agg62 W) h.1) ?_
  simp only [Act.put, List.setIfInBounds_toArray, List.set_cons_succ, List.set_cons_zero]
  refine pH_val (i := 5) (some 15) (.agg (vb k).toArray) rfl rfl (by kernel_rfl) (by kernel_rfl) (by kernel_rfl) (by kernel_rfl) (by kernel_rfl) (fun _ d _ _ _ h => by cases d <;> exact h) (by kernel_rfl) hS (fun W h => exec_load 42 _ (by rfl) w.heap.size 0 (by rfl) 42 (vb k) (vb k) _ h.2 (by simp) ty42 rfl Hik.out) ?_
  simp only [Act.put, List.setIfInBounds_toArray, List.set_cons_succ, List.set_cons_zero]
  refine pH_val (i := 6) (some 16) (.int .i64 u) rfl rfl (by kernel_rfl) (by kernel_rfl) (by kernel_rfl) (by kernel_rfl) (by kernel_rfl) (fun _ d _ _ _ h => by cases d <;> exact h) (by kernel_rfl) hS (fun _ _ => rfl) ?_
  simp only [Act.put, List.setIfInBounds_toArray, List.set_cons_succ, List.set_cons_zero]
  refine pH_val (i := 7) (some 17) (bv) rfl rfl (by kernel_rfl) (by kernel_rfl) (by kernel_rfl) (by kernel_rfl) (by kernel_rfl) (fun _ d _ _ _ h => by cases d <;> exact h) (by kernel_rfl) hS (fun _ _ => rfl) ?_
  simp only [Act.put, List.setIfInBounds_toArray, List.set_cons_succ, List.set_cons_zero]
  refine pH_call (i := 8) (some 18) rfl rfl (by kernel_rfl) (by kernel_rfl) 73 _ _ rfl [bv] rfl (by kernel_rfl) (clone_any bv l _ (Hbv.out.below HB.out) (by omega)) ?_
  rintro e w3 ⟨body, rfl, hob, hb3⟩
  have HT3 := Hd.mk (HT1.out.keep hb3.size (fun q hq => hb3.block q (HT1.out.fl q hq)))
  have HB3 := Hd.mk (HB.out.trans (hb3.mono HB.out.size))
  have hS3 : w3.cell? ⟨tb, 1, none⟩ = some vx ∧ Row w3 w.heap.size 42 k := ⟨(hb3.cell (p := ⟨tb, 1, none⟩) (by show tb < _; omega)).trans hS.1, hS.2.below hb3 hS.2.lt⟩
  have hs3 := hb3.size
  clear HT1 HB hb3 hS
  refine ⟨_, rfl, (fun _ => hS3), ?_⟩
  simp only [Act.put, List.setIfInBounds_toArray, List.set_cons_succ, List.set_cons_zero]
  refine pH_val (i := 9) (some 19) (.agg (sealCells ⟨k, u, l⟩ body).toArray) rfl rfl (by kernel_rfl) (by kernel_rfl) (by kernel_rfl) (by kernel_rfl) (by kernel_rfl) (fun _ d _ _ _ h => by cases d <;> exact h) (by kernel_rfl) hS3 (fun W _ => exec_build_sealed (.tmp 15) (.tmp 16) (.tmp 18) (by rfl) k u body l Hk.out hob.cells1 (by rfl) (by rfl) (by rfl) W) ?_
  simp only [Act.put, List.setIfInBounds_toArray, List.set_cons_succ, List.set_cons_zero]
  have hS4 : (w3.alloc (.cells (sealCells ⟨k, u, l⟩ body).toArray 56)).cell? ⟨tb, 1, none⟩ = some vx ∧ Row (w3.alloc (.cells (sealCells ⟨k, u, l⟩ body).toArray 56)) w.heap.size 42 k := ⟨(World.cell?_alloc_lt w3 _ ⟨tb, 1, none⟩ (by show tb < _; omega)).trans hS3.1, hS3.2.alloc _⟩
  have hcl := sealCells_len ⟨k, u, l⟩ body Hk.out
  refine pH_run (i := 10) (some 20) (.slice (some ⟨w3.heap.size, 0, none⟩) 1 1) rfl rfl (by kernel_rfl) (by kernel_rfl) (show _ = Result.ok _ (w3.alloc (.cells (sealCells ⟨k, u, l⟩ body).toArray 56)) from exec_bs1 62 56 _ (by rfl) (.agg (sealCells ⟨k, u, l⟩ body).toArray) (.agg (sealCells zSealed (.slice none 0 0)).toArray) 18 (by rfl) tyss i56 zss (by omega) (by omega) rfl (by simp [Value.cells, hcl]) _) (fun _ => hS4) ?_
  simp only [Act.put, List.setIfInBounds_toArray, List.set_cons_succ, List.set_cons_zero]
  have HT4 := Hd.mk (HT3.out.keep (w' := w3.alloc (.cells (sealCells ⟨k, u, l⟩ body).toArray 56)) (by simp) (fun q hq => Below.heap_alloc w3 _ q (HT3.out.fl q hq)))
  have hob4 : OB (w3.alloc (.cells (sealCells ⟨k, u, l⟩ body).toArray 56)) 0 body l := (OB.mono hob (Nat.zero_le _)).alloc _
  have HB4 := Hd.mk (HB3.out.alloc HB3.out.size (.cells (sealCells ⟨k, u, l⟩ body).toArray 56))
  have hbd : ∀ q, body.ownBlock = some q → w2.heap.size ≤ q := fun q hq => (hob.own q hq).1
  have hBk := Blk.new w3 56 (sealCells ⟨k, u, l⟩ body)
  have hs4 : (w3.alloc (.cells (sealCells ⟨k, u, l⟩ body).toArray 56)).heap.size = w3.heap.size + 1 := by simp
  generalize hg3 : w3.heap.size = g3 at *
  generalize w3.alloc (.cells (sealCells ⟨k, u, l⟩ body).toArray 56) = w4 at *
  clear hob HT3 HB3 hS3
  refine pH_pushV (i := 11) (some 21) rfl rfl (by kernel_rfl) (by kernel_rfl) (.tmp 14) (.tmp 20) 62 rfl 0 56 18 48 (.agg (sealCells zSealed (.slice none 0 0)).toArray) tyss iss rfl (by omega) vx (List.zipWith sealCells s.boxes bodies) rfl HT4.out.x g3 56 (sealCells ⟨k, u, l⟩ body) 1 rfl hBk hcl (sealCells_one _ _ hob4.one) (by rw [Hzl.out]; omega) (by rw [Hzl.out]; unfold maxLen; omega) (by omega) ?_
  intro v' w5 hv5 hg5 hat5
  have hxb : ∀ q, vx.ownBlock = some q → q < w.heap.size := fun q hq => HR.out.fl q (HR.out.fx q hq)
  have hdj : Disj body vx := own_disj hob4 HT4.out.x.own (by decide)
  have HT5 := Hd.mk (TabR.sealed (k := k) (u := u) (l := l) HT4.out Hk.out hv5 hg5 hob4 hdj)
  have ht5 := HT4.out.t.grown hg5 (fun e => own_ne HT4.out.x.own HT4.out.t (by decide) tb e.symm rfl)
  have hS5 : w5.cell? ⟨tb, 1, none⟩ = some vx ∧ Row w5 w.heap.size 42 k := ⟨by have := ht5.cell 1; exact this, hS4.2.grown' hg5 (fun e => by have := hxb _ e.symm; omega)⟩
  have HF5 : Hd (Fr F w w5) := ⟨(Fr.of_below F HB4.out).then_grown hg5 (fun q hq => .inl (HR.out.fx q hq))⟩
  have Ht5 := Hd.mk ht5
  have hs5 := hg5.size
  have hat : ∀ q, v'.ownBlock = some q → F q ∨ w.heap.size ≤ q := by
    intro q hq
    rcases hat5 with e | e
    · rw [e] at hq; exact .inl (HR.out.fx q hq)
    · rw [e] at hq; injection hq with hq; right; omega
  have hv1 : v'.oneCell' = true ∧ v'.cells = #[v'] := by obtain ⟨A, c, e, _⟩ := hv5.form; rw [e]; exact ⟨rfl, rfl⟩
  have Hat := Hd.mk hat
  clear hat hat5 hg5 hS4 ht5 HT4 hv5 hob4 HB4 hBk
  refine ⟨(fun _ => hS5), ?_⟩
  simp only [Act.put, List.setIfInBounds_toArray, List.set_cons_succ, List.set_cons_zero]
  refine pH_run (i := 12) (some 22) (.pointer (some ⟨tb, 0, none⟩)) rfl rfl (by kernel_rfl) (by kernel_rfl) (show _ = Result.ok _ w5 by simp [go_sem]) (fun h => absurd h (by omega)) ?_
  simp only [Act.put, List.setIfInBounds_toArray, List.set_cons_succ, List.set_cons_zero]
  refine pH_run (i := 13) (some 23) (.pointer (some ⟨tb, 1, none⟩)) rfl rfl (by kernel_rfl) (by kernel_rfl) (show _ = Result.ok _ w5 by simp [go_sem]) (fun h => absurd h (by omega)) ?_
  simp only [Act.put, List.setIfInBounds_toArray, List.set_cons_succ, List.set_cons_zero]
  refine pH_runs (i := 14) none rfl rfl (by kernel_rfl) (by kernel_rfl) (exec_storeCell 62 _ _ (by rfl) tb 1 v' (by rfl) (by rfl) 123 _ Ht5.out (by simp) i62 hv1.1 hv1.2) (fun h => absurd h (by omega)) ?_
  simp only [Act.put]
  refine pH_done (by kernel_rfl) ?_ _
  go_upto_region 2 with (fail)
  have HF6 : Hd (Fr F w (w5.setCell ⟨tb, 1, none⟩ v')) := ⟨⟨HF5.out.os, HF5.out.tape, HF5.out.output, by simpa [World.setCell] using HF5.out.size, fun q hq hF => (Below.heap_setCell w5 ⟨tb, 1, none⟩ v' q (fun e => hF (e ▸ HR.out.ft))).trans (HF5.out.block q hq hF)⟩⟩
  have hs6 : (w5.setCell ⟨tb, 1, none⟩ v').heap.size = w5.heap.size := by simp [World.setCell]
  generalize w5.setCell ⟨tb, 1, none⟩ v' = w6 at *
  clear HF5 Ht5 hS5 hv1
  obtain ⟨A, cp, hve, hcp, hcp2⟩ := HT5.out.x.form
  have hkl : (List.zipWith sealCells (s.seal k u l).boxes (bodies ++ [body])).length = s.boxes.length + 1 := by
    rw [List.length_zipWith]; simp [STab.seal, HR.out.xn]
  rw [hkl] at hve hcp
  unfold maxLen at hcp2
  have x0 := HT5.out.t.cell 1
  rw [hve] at x0
  have x1 : w6.cell? ⟨tb, 1, none⟩ = some (.slice A (s.boxes.length + 1) cp) := x0
  clear x0 hkl
  have ub98 : ub 98 = 98 := by simp [ub]
  have H69 := Hd.mk (smark_any 98 (s.boxes.length + 1) (by omega) w6)
  rw [ub98] at H69
  clear ub98
  refine wp_region_lit ?_
  refine wl_val rfl (.pointer (some ⟨tb, 0, none⟩)) (rfl) ?_
  simp only [Act.put, List.setIfInBounds_toArray, List.set_cons_succ, List.set_cons_zero]
  refine wl_val rfl (.pointer (some ⟨tb, 0, none⟩)) (by simp [go_sem]) ?_
  simp only [Act.put, List.setIfInBounds_toArray, List.set_cons_succ, List.set_cons_zero]
  refine wl_val rfl (.pointer (some ⟨tb, 1, none⟩)) (by simp [go_sem]) ?_
  simp only [Act.put, List.setIfInBounds_toArray, List.set_cons_succ, List.set_cons_zero]
  refine wl_val rfl (.slice A (s.boxes.length + 1) cp) (exec_cell _ _ (by rfl) ⟨tb, 1, none⟩ _ (by rfl) (agg62 _) x1) ?_
  simp only [Act.put, List.setIfInBounds_toArray, List.set_cons_succ, List.set_cons_zero]
  refine wl_val rfl (.int .i64 ((s.boxes.length + 1 : Nat) : Int)) (by simp [go_sem]) ?_
  simp only [Act.put, List.setIfInBounds_toArray, List.set_cons_succ, List.set_cons_zero]
  refine wl_call rfl 69 _ _ rfl [.int .u8 98, .int .i64 ((s.boxes.length + 1 : Nat) : Int)] rfl (by kernel_rfl) (H69.out) ?_
  rintro e w7 ⟨rfl, hb7⟩
  refine ⟨_, rfl, ?_⟩
  have HT7 := Hd.mk (TabR.keep HT5.out hb7.size (fun q hq => hb7.block q (HT5.out.fl q hq)))
  have HF7 := Hd.mk (HF6.out.then_below hb7)
  have hs7 := hb7.size
  have hF5 : ∀ q, (F q ∨ v'.ownBlock = some q ∨ body.ownBlock = some q) → F q ∨ w.heap.size ≤ q := fun q hq => by
    rcases hq with hq | hq | hq
    · exact .inl hq
    · exact Hat.out q hq
    · exact .inr (by have := hbd q hq; omega)
  clear HF6 hb7 x1
  simp only [Act.put, List.setIfInBounds_toArray, List.set_cons_succ, List.set_cons_zero]
  go_upto_region 3 with (refine wl_storeW rfl 42 _ _ rfl w7.heap.size 0 (vb (mkB 98 (s.boxes.length + 1))) rfl rfl 42 _ (vb (mkB 98 (s.boxes.length + 1))) (Blk.new w7 42 (List.replicate 16 (.int .u8 0))) (by simp [mkB_len]) i42 (vb_ones _) (by simp [mkB_len]) ?_; intro w8 hr8 hg8 hs8)
  have hRow : Row w8 w7.heap.size 42 (mkB 98 (s.boxes.length + 1)) := hr8
  have HT8 := Hd.mk (HT7.out.keep (w' := w8) (by have := hg8.size; simp at this; omega) (fun q hq => (hg8.block q (by have := HT7.out.fl q hq; simp; omega) (fun e => by injection e with e; have := HT7.out.fl q hq; omega)).trans (Below.heap_alloc w7 _ q (HT7.out.fl q hq))))
  have HF8 := Hd.mk ((HF7.out.then_below ((Below.refl _ _).alloc (Nat.le_refl _) (.cells (List.replicate 16 (Value.int .u8 0)).toArray 42))).then_grown hg8 (fun q hq => .inr (by injection hq with hq; have := HF7.out.size; omega)))
  have hsb := SB.row hRow (by simp [mkB_len, maxLen])
  have Hsb := Hd.mk hsb
  have hlF := HF7.out.size
  clear hr8 hg8 hs8 hsb HF7 hRow
  go_wp2
  go_ret
  refine ⟨_, _, rfl, Hsb.out, ⟨_, _, _, _, _, _, _, _, HT8.out⟩, hF5, fun q hq => .inl hq, HF8.out, fun q hq => ?_⟩
  have hq2 : q = w7.heap.size := by simpa [Value.ownBlock] using hq.symm
  subst hq2
  exact ⟨hlF, fun hq3 => by have := HT7.out.fl _ hq3; omega⟩
end Go.Proofs.Ytjjcnijdjhhdoaa
end
/-! The walk of sym.Find: all marks that stand in bytes. -/
section
namespace Go.Proofs.Ytjjcnijdjhhdoaa
open Go.RowKit Go.QT
theorem findTo_succ (b : Bytes) (i : Nat) : findTo b (i+1) = if (markOf ((b.take (i+16)).drop i)).isSome then findTo b i ++ [(b.take (i+16)).drop i] else findTo b i := rfl
theorem findTo_le (b : Bytes) (i : Nat) : (findTo b i).length ≤ i := by
  induction i with
  | zero => exact Nat.le_refl _
  | succ i ih => rw [findTo_succ]; split
                 · rw [List.length_append]; simp; omega
                 · omega
theorem mkV_none : mkV none = .tuple #[.int .u8 0, .int .i64 0, .bool false] := by simp [mkV, ub]
theorem mkV_some (k : UInt8) (n : Nat) : mkV (some (k, n)) = .tuple #[.int .u8 (ub k), .int .i64 (n : Int), .bool true] := rfl
theorem tyks : Try.prog.underlying 40 = some (.slice 42) := by kernel_rfl
theorem iks : (Try.prog.info? 42).map (fun i => (i.zero, i.size, i.bytes)) = some (some (.agg (vb zKey).toArray), 16, 16) := by kernel_rfl
theorem zks (W : World) : (zeroValue 42).run Try.prog W = .ok (.agg (vb zKey).toArray) W := by kernel_rfl
def KsPost (w : World) (ks : List Bytes) (e : Ending) (w' : World) : Prop := ∃ v, e = .returned v ∧ OV w' w.heap.size 42 16 v (ks.map vb) ∧ Below w.heap.size w w'
set_option maxRecDepth 100000 in
set_option maxHeartbeats 1000000 in
theorem find_any (v : Value) (l : Bytes) (w : World) (hv : SB w v l) (hl : l.length ≤ 1000000) : Calls Try.prog 26 #[v] w (KsPost w (findB l)) := by
  obtain ⟨A, c, rfl, hc1, hc2⟩ := sb_form hv
  have Hv := Hd.mk hv
  have Hs := Hd.mk (findTo_succ l)
  have Hle := Hd.mk (findTo_le l)
  have Hfin : Hd (findB l = findTo l (l.length - 15)) := ⟨rfl⟩
  clear hv
  go_enter Try.func26, Try.ntmps26
  go_wp2
  go_loopw [3, 4] (fun u i wr => ∃ k : Nat, k + 15 ≤ l.length + 15 ∧ (k + 15 ≤ l.length ∨ k = 0) ∧ i = .int .i64 (k : Int) ∧ OV wr w.heap.size 42 16 u ((findTo l k).map vb) ∧ Below w.heap.size w wr) (fun _ i _ => l.length - (intOf i).toNat)
  case atStart => exact ⟨0, by omega, .inr rfl, rfl, OV.nil _ _ _ _, Below.refl _ _⟩
  case round =>
    obtain ⟨k, hk, hk2, rfl, ho, hB⟩ := hrel
    obtain ⟨w2, rfl⟩ : ∃ w1 : World, w1 = wr := ⟨_, rfl⟩
    have Ho := Hd.mk ho
    clear ho
    by_cases hlt : k + 16 ≤ l.length
    · have hle := Hle.out k
      have dlt : decide ((k : Int) + 16 ≤ l.length) = true := by simp; omega
      have Hs1 := Hd.mk (Hs.out k)
      generalize findTo l k = F at *
      go_upto_region 5 with (fail)
      refine wp_region_lit ?_
      refine wl_val rfl (.slice A l.length c) (rfl) ?_
      simp only [Act.put, List.setIfInBounds_toArray, List.set_cons_succ, List.set_cons_zero]
      refine wl_val rfl (.int .i64 (k : Int)) (rfl) ?_
      simp only [Act.put, List.setIfInBounds_toArray, List.set_cons_succ, List.set_cons_zero]
      refine wl_val rfl (.int .i64 (k : Int)) (rfl) ?_
      simp only [Act.put, List.setIfInBounds_toArray, List.set_cons_succ, List.set_cons_zero]
      refine wl_val rfl (.int .i64 ((k + 16 : Nat) : Int)) (exec_add 3 _ (.tmp 20) _ (by rfl) k 16 (by rfl) (by rfl) _ (by omega) (by omega) (by omega) _) ?_
      simp only [Act.put, List.setIfInBounds_toArray, List.set_cons_succ, List.set_cons_zero]
      refine wl_val rfl (cutS (.slice A l.length c) k (k + 16)) (exec_cut_lh (w := w) (.tmp 18) (.tmp 19) (.tmp 21) (by rfl) (.slice A l.length c) l (by rfl) Hv.out .i64 .i64 (k : Int) ((k + 16 : Nat) : Int) (by rfl) (by rfl) (by omega) (by omega) (by omega) _) ?_
      simp only [Act.put, List.setIfInBounds_toArray, List.set_cons_succ, List.set_cons_zero]
      have hcut := (Hv.out.cut k (k + 16) (by omega)).below hB
      generalize hMe : (l.take (k + 16)).drop k = m at *
      have HMe := Hd.mk hMe
      have hml : m.length = 16 := by rw [← hMe, len_cut _ _ _ (by omega)]; omega
      clear hMe
      refine wl_call rfl 27 _ _ rfl [cutS (.slice A l.length c) k (k + 16)] rfl (by kernel_rfl) (Mark_any _ m _ hcut) ?_
      rintro e w3 ⟨rfl, hb3⟩
      refine ⟨_, rfl, ?_⟩
      have hB3 := hB.trans (hb3.mono hB.size)
      have ho3 := Ho.out.below hb3
      have hcut3 := hcut.below hb3
      have HO := Hd.mk ho3
      clear hcut ho3 Ho hb3
      simp only [Act.put, List.setIfInBounds_toArray, List.set_cons_succ, List.set_cons_zero]
      cases hmo : markOf m with
      | none =>
        rw [hmo] at Hs1
        have Hn : Hd (findTo l (k + 1) = F) := ⟨by rw [Hs1.out]; rfl⟩
        clear hmo
        rw [mkV_none]
        go_wp2
        refine ⟨⟨k + 1, by omega, by omega, by go_num, by rw [Hn.out]; exact HO.out, hB3⟩, by simp [intOf]; omega⟩
      | some kn =>
        obtain ⟨kk, kn⟩ := kn
        rw [hmo] at Hs1
        have Hn : Hd (findTo l (k + 1) = F ++ [m]) := ⟨by rw [Hs1.out]; rfl⟩
        clear hmo
        rw [mkV_some]
        go_upto_region 7 with (fail)
        refine wp_region_lit ?_
        refine wl_val rfl (.slice A l.length c) (rfl) ?_
        simp only [Act.put, List.setIfInBounds_toArray, List.set_cons_succ, List.set_cons_zero]
        refine wl_val rfl (.int .i64 (k : Int)) (rfl) ?_
        simp only [Act.put, List.setIfInBounds_toArray, List.set_cons_succ, List.set_cons_zero]
        refine wl_val rfl (.int .i64 (k : Int)) (rfl) ?_
        simp only [Act.put, List.setIfInBounds_toArray, List.set_cons_succ, List.set_cons_zero]
        refine wl_val rfl (.int .i64 ((k + 16 : Nat) : Int)) (exec_add 3 _ (.tmp 31) _ (by rfl) k 16 (by rfl) (by rfl) _ (by omega) (by omega) (by omega) _) ?_
        simp only [Act.put, List.setIfInBounds_toArray, List.set_cons_succ, List.set_cons_zero]
        refine wl_val rfl (cutS (.slice A l.length c) k (k + 16)) (exec_cut_lh (w := w) (.tmp 29) (.tmp 30) (.tmp 32) (by rfl) (.slice A l.length c) l (by rfl) Hv.out .i64 .i64 (k : Int) ((k + 16 : Nat) : Int) (by rfl) (by rfl) (by omega) (by omega) (by omega) _) ?_
        simp only [Act.put, List.setIfInBounds_toArray, List.set_cons_succ, List.set_cons_zero]
        refine wl_call rfl 67 _ _ rfl [cutS (.slice A l.length c) k (k + 16)] rfl (by kernel_rfl) (okey_any _ m _ hcut3) ?_
        rintro e w4 ⟨rfl, hb4⟩
        refine ⟨_, rfl, ?_⟩
        have hB4 := hB3.trans (hb4.mono hB3.size)
        have ho4 := HO.out.below hb4
        rw [if_pos hml, decide_eq_true hml]
        have hi : (Try.prog.info? 42).map (·.size) = some (vb m).length := by rw [vb_length, hml]; exact i42
        have Hi := Hd.mk hi
        clear hi hb4
        simp only [Act.put, List.setIfInBounds_toArray, List.set_cons_succ, List.set_cons_zero]
        go_upto_region 8 with (refine wl_storeW rfl 42 _ _ rfl w4.heap.size 0 (vb m) rfl rfl 42 _ (vb m) (Blk.new w4 42 (List.replicate 16 (.int .u8 0))) (by simp [hml]) (by exact Hi.out) (vb_ones _) (by simp [hml]) ?_; intro w5 hr5 hg5 hs5)
        have hB5 : Below w.heap.size w w5 := (hB4.alloc hB4.size (.cells (List.replicate 16 (Value.int .u8 0)).toArray 42)).grown hg5 (by have := hB4.size; simp; omega) (by have := hB4.size; rintro j hj; cases hj; omega)
        have ho5 : OV w5 w.heap.size 42 16 u3 (F.map vb) := (ho4.alloc _).grown hg5 (by intro q hq e; have := (ho4.block q hq).2; simp at e; omega)
        have hsz := hB4.size
        generalize w4.heap.size = g at *
        have Hr5 := Hd.mk hr5
        clear hr5 hg5 hs5 ho4 HO hB4 hB3
        refine wp_region_lit ?_
        refine wl_val rfl (u3) (rfl) ?_
        simp only [Act.put, List.setIfInBounds_toArray, List.set_cons_succ, List.set_cons_zero]
        refine wl_val rfl (.agg (vb m).toArray) (exec_load 42 _ (by rfl) g 0 (by rfl) 42 (vb m) (vb m) _ Hr5.out (by simp) ty42 rfl Hi.out) ?_
        simp only [Act.put, List.setIfInBounds_toArray, List.set_cons_succ, List.set_cons_zero]
        refine wl_run rfl (.slice (some ⟨w5.heap.size, 0, none⟩) 1 1) (show _ = Result.ok _ (w5.alloc (.cells (vb m).toArray 42)) from exec_bs1 40 42 _ (by rfl) (.agg (vb m).toArray) (.agg (vb zKey).toArray) 16 (by rfl) tyks i42 zks (by omega) (by omega) rfl (by simp [Value.cells, hml]) _) ?_
        simp only [Act.put, List.setIfInBounds_toArray, List.set_cons_succ, List.set_cons_zero]
        refine wl_pushV rfl (.tmp 37) (.tmp 39) 40 rfl w.heap.size 42 16 16 (.agg (vb zKey).toArray) tyks iks rfl (by omega) u3 (F.map vb) rfl (ho5.alloc _) w5.heap.size 42 (vb m) 1 rfl (Blk.new w5 42 (vb m)) (by rw [vb_length, hml]) (vb_ones m) (by rw [List.length_map]; omega) (by rw [List.length_map]; unfold maxLen; omega) (by have := hB5.size; simp; omega) ?_
        intro v' w6 ho6 hg6 hat6
        simp only [Act.put, List.setIfInBounds_toArray, List.set_cons_succ, List.set_cons_zero]
        have hB6 : Below w.heap.size w w6 := (hB5.alloc hB5.size (.cells (vb m).toArray 42)).grown hg6 (by have := hB5.size; simp; omega) (fun q hq => (ho5.block q hq).1)
        clear hg6 hat6
        go_wp2
        refine ⟨⟨k + 1, by omega, by omega, by go_num, by rw [Hn.out, List.map_append]; exact ho6, hB6⟩, by simp [intOf]; omega⟩
    · have hkf : k = l.length - 15 := by omega
      have dlt : decide ((k : Int) + 16 ≤ l.length) = false := by simp; omega
      rw [hkf, ← Hfin.out] at Ho
      clear hkf
      go_wp2
      go_ret
      exact ⟨_, rfl, Ho.out, hB⟩
end Go.Proofs.Ytjjcnijdjhhdoaa
end
/-! An element's address. -/
section
namespace Go.Proofs.Ytjjcnijdjhhdoaa
open Go.RowKit Go.QT
variable {P : Program} {o : Oper} {a : Act}
theorem exec_idx (T E : TypeId) (sz : Nat) (x i : Operand) (ho : o.op = .indexAddr T x i) (g off len cap k : Nat) (hx : a.eval x = .slice (some ⟨g, off, none⟩) len cap) (hi : a.eval i = .int .i64 (k : Int)) (hk : k < len)
    (ht : P.underlying T = some (.slice E)) (hs : (P.info? E).map (·.size) = some sz) (w : World) : (execOp a.eval o).run P w = .ok (.value (.pointer (some ⟨g, off + k * sz, none⟩))) w := by
  cases hq : P.info? E with
  | none => simp [hq] at hs
  | some inf =>
    have h1 : inf.size = sz := by simpa [hq] using hs
    have h2 : (Instr.indexAt T (.slice (some ⟨g, off, none⟩) len cap) (.int .i64 (k : Int))).run P w = .ok (.pointer (some ⟨g, off + k * sz, none⟩)) w := by
      simp [Instr.indexAt, run_underlying ht, sizeOf, typeInfo, hq, h1, asIntOf, hk, Addr.add]
    unfold execOp
    simp only [ho, hx, hi, Sem.run_bind, h2, Result.andThen_ok, Sem.run_pure]
end Go.Proofs.Ytjjcnijdjhhdoaa
end
/-! The bytes of a number and the number of bytes: plain. -/
section
namespace Go.Proofs.Ytjjcnijdjhhdoaa
theorem ofNat_eq (x : Nat) (a : UInt8) (h : x % 256 = nb a) : UInt8.ofNat x = a := by
  apply UInt8.toNat_inj.1
  unfold nb at h
  simpa using h
theorem put8_getN (m : Bytes) (h : m.length = 8) : put8 (getN m) = m := by
  match m, h with
  | [a0, a1, a2, a3, a4, a5, a6, a7], _ =>
    have h0 := nb_lt a0; have h1 := nb_lt a1; have h2 := nb_lt a2; have h3 := nb_lt a3
    have h4 := nb_lt a4; have h5 := nb_lt a5; have h6 := nb_lt a6; have h7 := nb_lt a7
    have e : ∀ n, put8 n = [UInt8.ofNat (n / 72057594037927936), UInt8.ofNat (n / 281474976710656), UInt8.ofNat (n / 1099511627776), UInt8.ofNat (n / 4294967296), UInt8.ofNat (n / 16777216), UInt8.ofNat (n / 65536), UInt8.ofNat (n / 256), UInt8.ofNat (n / 1)] := fun _ => rfl
    rw [e]
    simp only [getN, List.foldl_cons, List.foldl_nil]
    have b : ∀ x a, x % 256 = nb a → UInt8.ofNat x = a := ofNat_eq
    rw [b _ a0 (by omega), b _ a1 (by omega), b _ a2 (by omega), b _ a3 (by omega), b _ a4 (by omega), b _ a5 (by omega), b _ a6 (by omega), b _ a7 (by omega)]
theorem getN_put8 (n : Nat) (h : n < 18446744073709551616) : getN (put8 n) = n := by
  have e : put8 n = [UInt8.ofNat (n / 72057594037927936), UInt8.ofNat (n / 281474976710656), UInt8.ofNat (n / 1099511627776), UInt8.ofNat (n / 4294967296), UInt8.ofNat (n / 16777216), UInt8.ofNat (n / 65536), UInt8.ofNat (n / 256), UInt8.ofNat (n / 1)] := rfl
  have f : ∀ x, nb (UInt8.ofNat x) = x % 256 := fun x => by unfold nb; simp
  rw [e]
  simp only [getN, List.foldl_cons, List.foldl_nil, f]
  omega
end Go.Proofs.Ytjjcnijdjhhdoaa
end
/-! The walk of the law's own 'plain': whether bytes are a mark. -/
section
namespace Go.Proofs.Ytjjcnijdjhhdoaa
open Go.RowKit Go.QT
/-- What 'plain' tells of a mark. -/
def plV (o : Option (UInt8 × Nat)) : Value := .tuple #[.int .u8 (ub ((o.map (·.1)).getD 0)), .int .i64 (((o.map (·.2)).getD 0 : Nat) : Int)]
def PPost (w : World) (l : Bytes) (e : Ending) (w' : World) : Prop := e = .returned (plV (markOf l)) ∧ ∃ n, w' = w.drewN n
theorem plain_no (l : Bytes) (h : ¬ (l.length = 16 ∧ (gb l 2 = 107 ∨ gb l 2 = 98 ∨ gb l 2 = 100) ∧ getN (l.drop 8) ≤ 1099511627776 ∧ l = mkB (gb l 2) (getN (l.drop 8)))) : plV (markOf l) = .tuple #[.int .u8 0, .int .i64 0] := by
  rw [markOf, if_neg h]; simp [plV, ub]
theorem plain_yes (l : Bytes) (h : l.length = 16 ∧ (gb l 2 = 107 ∨ gb l 2 = 98 ∨ gb l 2 = 100) ∧ getN (l.drop 8) ≤ 1099511627776 ∧ l = mkB (gb l 2) (getN (l.drop 8))) : plV (markOf l) = .tuple #[.int .u8 (ub (gb l 2)), .int .i64 ((getN (l.drop 8) : Nat) : Int)] := by
  rw [markOf, if_pos h]; simp [plV]
theorem is_mark (l : Bytes) (h : l.length = 16) (h0 : gb l 0 = 255) (h1 : gb l 1 = 254) (hz : ∀ j, 3 ≤ j → j < 8 → gb l j = 0) : l = mkB (gb l 2) (getN (l.drop 8)) := by
  have h8 : (l.drop 8).length = 8 := by rw [List.length_drop, h]
  rw [mkB, put8_getN _ h8]
  obtain ⟨a0, a1, a2, a3, a4, a5, a6, a7, a8, a9, a10, a11, a12, a13, a14, a15, rfl⟩ := l16 l h
  have e3 : a3 = 0 := hz 3 (by omega) (by omega)
  have e4 : a4 = 0 := hz 4 (by omega) (by omega)
  have e5 : a5 = 0 := hz 5 (by omega) (by omega)
  have e6 : a6 = 0 := hz 6 (by omega) (by omega)
  have e7 : a7 = 0 := hz 7 (by omega) (by omega)
  have e0 : a0 = 255 := h0
  have e1 : a1 = 254 := h1
  subst e0 e1 e3 e4 e5 e6 e7
  rfl
theorem mark_z (k : UInt8) (n j : Nat) (h3 : 3 ≤ j) (h8 : j < 8) : gb (mkB k n) j = 0 := by
  match j, h3, h8 with
  | 3, _, _ => rfl
  | 4, _, _ => rfl
  | 5, _, _ => rfl
  | 6, _, _ => rfl
  | 7, _, _ => rfl
theorem ub_ne (a : UInt8) (c : UInt8) (k : Int) (hk : ub c = k) : (ub a != k) = !decide (a = c) := by
  rw [← hk]
  have : (ub a == ub c) = (a == c) := ub_beq a c
  by_cases h : a = c
  · subst h; simp
  · simp only [bne, this]; simp [h]
set_option maxRecDepth 100000 in
set_option maxHeartbeats 600000 in
theorem lplain_any (v : Value) (l : Bytes) (w : World) (hv : SB w v l) : Calls Try.prog 25 #[v] w (PPost w l) := by
  obtain ⟨A, c, rfl, hc1, hc2⟩ := sb_form hv
  have Hv := Hd.mk hv
  have Hno := Hd.mk (plain_no l)
  have Hyes := Hd.mk (plain_yes l)
  clear hv
  by_cases h16 : l.length = 16
  · obtain ⟨bb, o, c', e, _, _, hb, hcell⟩ := Hv.out.open_ (by rintro rfl; cases h16)
    injection e with e1 e2 e3
    subst e1
    subst e3
    clear e2
    have x0 := hcell 0 (by omega)
    have x1 := hcell 1 (by omega)
    have x2 := hcell 2 (by omega)
    rw [Nat.add_zero] at x0
    have Hcell := Hd.mk hcell
    have H16 := Hd.mk h16
    rw [h16] at hc1 Hv ⊢
    clear hcell h16
    have hb0 := ub_ne (gb l 0) 255 255 (by simp [ub])
    have hb1 := ub_ne (gb l 1) 254 254 (by simp [ub])
    have hbk := ub_ne (gb l 2) 107 107 (by simp [ub])
    have hbb := ub_ne (gb l 2) 98 98 (by simp [ub])
    have hbd := ub_ne (gb l 2) 100 100 (by simp [ub])
    by_cases h0 : gb l 0 = 255
    · by_cases h1 : gb l 1 = 254
      · rw [decide_eq_true h0] at hb0
        rw [decide_eq_true h1] at hb1
        by_cases hk : gb l 2 = 107 ∨ gb l 2 = 98 ∨ gb l 2 = 100
        · have hK : ((ub (gb l 2) != 107) = false ∧ True ∧ True) ∨ ((ub (gb l 2) != 107) = true ∧ (ub (gb l 2) != 98) = false ∧ True) ∨ ((ub (gb l 2) != 107) = true ∧ (ub (gb l 2) != 98) = true ∧ (ub (gb l 2) != 100) = false) := by
            rw [hbk, hbb, hbd]
            by_cases e1 : gb l 2 = 107
            · left; simp [e1]
            · by_cases e2 : gb l 2 = 98
              · right; left; simp [e2]
              · right; right
                have e3 : gb l 2 = 100 := by rcases hk with h | h | h; exact absurd h e1; exact absurd h e2; exact h
                simp [e3]
          have H0 := Hd.mk h0
          have H1 := Hd.mk h1
          have HK := Hd.mk hk
          clear h0 h1 hk hbk hbb hbd
          have hcut := Hv.out.cut 8 16 (by rw [H16.out]; omega)
          rw [List.take_of_length_le (by rw [H16.out]; omega)] at hcut
          have Hcut := Hd.mk hcut
          have hl8 : (l.drop 8).length = 8 := by rw [List.length_drop, H16.out]
          have Hp := Hd.mk (getP_yes (l.drop 8) (by omega) (by omega))
          have hN : getN (l.drop 8) < 18446744073709551616 := by have := getN_lt8 (l.drop 8) 8 (by omega) (by omega); rwa [List.take_of_length_le (by omega)] at this
          have h8 : ∀ (O : Oper) (a : Act), O.op = .slice 28 (.tmp 50) (some (.const (.int .i64 8))) none none → a.eval (.tmp 50) = .slice (some ⟨bb, o, none⟩) 16 c → ∀ W, (execOp a.eval O).run Try.prog W = .ok (.value (cutS (.slice (some ⟨bb, o, none⟩) 16 c) 8 16)) W := fun O a h1 h2 W => by
            have := exec_cut_l (w := w) (a := a) (.tmp 50) (.const (.int .i64 8)) h1 (.slice (some ⟨bb, o, none⟩) 16 c) l h2 Hv.out .i64 8 rfl (by omega) (by rw [H16.out]; omega) W
            rw [H16.out] at this; exact this
          have H8 := Hd.mk h8
          clear hcut hl8 h8
          generalize hNe : getN (l.drop 8) = N at *
          have HNe := Hd.mk hNe
          clear hNe
          rcases hK with ⟨k1, k2, k3⟩ | ⟨k1, k2, k3⟩ | ⟨k1, k2, k3⟩
          all_goals
            go_enter Try.func25, Try.ntmps25
            go_wp2
            clear k1 k2 k3
            go_loop [4] (fun i => ∃ k : Nat, 3 ≤ k ∧ k ≤ 8 ∧ i = .int .i64 (k : Int) ∧ Hd (∀ j, 3 ≤ j → j < k → gb l j = 0)) (fun i => 8 - (intOf i).toNat)
            case atStart => exact ⟨3, by omega, by omega, rfl, ⟨fun j h1 h2 => absurd h2 (by omega)⟩⟩
            case round =>
              obtain ⟨k, hk3, hk, rfl, hz⟩ := hrel
              by_cases hlt : k < 8
              · have hx := Hcell.out k (by rw [H16.out]; omega)
                have hbz := ub_ne (gb l k) 0 0 (by simp [ub])
                by_cases he : gb l k = 0
                · rw [decide_eq_true he] at hbz
                  have hz2 : Hd (∀ j, 3 ≤ j → j < k + 1 → gb l j = 0) := ⟨fun j h1 h2 => by
                    by_cases hjk : j = k
                    · subst hjk; exact he
                    · exact hz.out j h1 (by omega)⟩
                  clear he hz
                  go_wp2
                  refine ⟨⟨k + 1, by omega, by omega, by go_num, hz2⟩, by simp [intOf]; omega⟩
                · rw [decide_eq_false he] at hbz
                  have HY := Hd.mk (Hno.out fun hh => he (by rw [hh.2.2.2]; exact mark_z _ _ k hk3 hlt))
                  clear he hz
                  go_wp2
                  go_ret2
                  exact ⟨by rw [HY.out]; rfl, 0, rfl⟩
              · have hk8 : k = 8 := by omega
                rw [hk8] at hz
                have hm := is_mark l H16.out H0.out H1.out hz.out
                rw [HNe.out] at hm
                have Hm := Hd.mk hm
                clear hz hm hk8
                by_cases hn : N ≤ 1099511627776
                · have dn : decide ((N : Int) > 1099511627776) = false := by simp; omega
                  have HY := Hd.mk (Hyes.out ⟨H16.out, HK.out, hn, Hm.out⟩)
                  have ew := wrapN N hn
                  go_upto_region 8 with (fail)
                  refine wp_region_lit ?_
                  refine wl_val rfl (.slice (some ⟨bb, o, none⟩) 16 c) rfl ?_
                  simp only [Act.put, List.setIfInBounds_toArray, List.set_cons_succ, List.set_cons_zero]
                  refine wl_val rfl (cutS (.slice (some ⟨bb, o, none⟩) 16 c) 8 16) (H8.out _ _ rfl rfl _) ?_
                  simp only [Act.put, List.setIfInBounds_toArray, List.set_cons_succ, List.set_cons_zero]
                  refine wl_call rfl 66 _ _ rfl [cutS (.slice (some ⟨bb, o, none⟩) 16 c) 8 16] rfl (by kernel_rfl) (rget_any _ (l.drop 8) _ Hcut.out) ?_
                  rintro e w3 ⟨rfl, nq, rfl⟩
                  refine ⟨_, rfl, ?_⟩
                  rw [Hp.out]
                  simp only [Act.put, List.setIfInBounds_toArray, List.set_cons_succ, List.set_cons_zero]
                  go_wp2
                  go_ret2
                  exact ⟨by rw [HY.out]; rfl, nq, rfl⟩
                · have dn : decide ((N : Int) > 1099511627776) = true := by simp; omega
                  have HY := Hd.mk (Hno.out fun hh => hn hh.2.2.1)
                  go_upto_region 8 with (fail)
                  refine wp_region_lit ?_
                  refine wl_val rfl (.slice (some ⟨bb, o, none⟩) 16 c) rfl ?_
                  simp only [Act.put, List.setIfInBounds_toArray, List.set_cons_succ, List.set_cons_zero]
                  refine wl_val rfl (cutS (.slice (some ⟨bb, o, none⟩) 16 c) 8 16) (H8.out _ _ rfl rfl _) ?_
                  simp only [Act.put, List.setIfInBounds_toArray, List.set_cons_succ, List.set_cons_zero]
                  refine wl_call rfl 66 _ _ rfl [cutS (.slice (some ⟨bb, o, none⟩) 16 c) 8 16] rfl (by kernel_rfl) (rget_any _ (l.drop 8) _ Hcut.out) ?_
                  rintro e w3 ⟨rfl, nq, rfl⟩
                  refine ⟨_, rfl, ?_⟩
                  rw [Hp.out]
                  simp only [Act.put, List.setIfInBounds_toArray, List.set_cons_succ, List.set_cons_zero]
                  go_wp2
                  go_ret2
                  exact ⟨by rw [HY.out]; rfl, nq, rfl⟩
        · have n1 : ¬ gb l 2 = 107 := fun h => hk (.inl h)
          have n2 : ¬ gb l 2 = 98 := fun h => hk (.inr (.inl h))
          have n3 : ¬ gb l 2 = 100 := fun h => hk (.inr (.inr h))
          rw [decide_eq_false n1] at hbk
          rw [decide_eq_false n2] at hbb
          rw [decide_eq_false n3] at hbd
          have HY := Hd.mk (Hno.out fun hh => hk hh.2.1)
          clear hk n1 n2 n3 h0 h1
          go_enter Try.func25, Try.ntmps25
          go_wp2
          go_ret2
          exact ⟨by rw [HY.out]; rfl, 0, rfl⟩
      · rw [decide_eq_true h0] at hb0
        rw [decide_eq_false h1] at hb1
        have HY := Hd.mk (Hno.out fun hh => h1 (by rw [hh.2.2.2]; rfl))
        clear h0 h1 hbk hbb hbd
        go_enter Try.func25, Try.ntmps25
        go_wp2
        go_ret2
        exact ⟨by rw [HY.out]; rfl, 0, rfl⟩
    · rw [decide_eq_false h0] at hb0
      have HY := Hd.mk (Hno.out fun hh => h0 (by rw [hh.2.2.2]; rfl))
      clear h0 hbk hbb hbd hb1
      go_enter Try.func25, Try.ntmps25
      go_wp2
      go_ret2
      exact ⟨by rw [HY.out]; rfl, 0, rfl⟩
  · have hd : (((l.length : Nat) : Int) != 16) = true := by rw [bne_iff_ne]; omega
    have HY := Hd.mk (Hno.out fun hh => h16 hh.1)
    clear h16
    go_enter Try.func25, Try.ntmps25
    go_wp2
    go_ret2
    exact ⟨by rw [HY.out]; rfl, 0, rfl⟩
end Go.Proofs.Ytjjcnijdjhhdoaa
end
/-! The walk of octet.Joined. -/
section
namespace Go.Proofs.Ytjjcnijdjhhdoaa
open Go.RowKit Go.QT
/-- A slice value reads as rows of bytes. -/
def SS (w : World) (v : Value) (ls : List Bytes) : Prop :=
  ∃ A c, v = .slice A ls.length c ∧ ls.length ≤ c ∧ c ≤ maxLen ∧ ∀ i, i < ls.length → ∃ b o u, A = some ⟨b, o, none⟩ ∧ b < w.heap.size ∧ w.cell? ⟨b, o + i, none⟩ = some u ∧ SB w u (ls.getD i [])
theorem SS.below {w w' : World} {v : Value} {ls : List Bytes} (h : SS w v ls) (hb : Below w.heap.size w w') : SS w' v ls := by
  obtain ⟨A, c, e, h1, h2, h3⟩ := h
  refine ⟨A, c, e, h1, h2, fun i hi => ?_⟩
  obtain ⟨b, o, u, hA, hlt, hc, hs⟩ := h3 i hi
  exact ⟨b, o, u, hA, Nat.lt_of_lt_of_le hlt hb.size, (hb.cell (p := ⟨b, o + i, none⟩) hlt).trans hc, hs.below hb⟩
def joinTo (ls : List Bytes) : Nat → Bytes
  | 0 => []
  | k+1 => joinTo ls k ++ ls.getD k []
theorem joinTo_flat (ls : List Bytes) (k : Nat) (h : k ≤ ls.length) : joinTo ls k = (ls.take k).flatten := by
  induction k with
  | zero => rfl
  | succ k ih =>
    have e : ls.getD k [] = ls[k]'(by omega) := by simp [List.getD, List.getElem?_eq_getElem (show k < ls.length by omega)]
    rw [joinTo, ih (by omega), List.take_succ_eq_append_getElem (show k < ls.length by omega), List.flatten_append, e, List.flatten_cons, List.flatten_nil, List.append_nil]
theorem joinTo_all (ls : List Bytes) : joinTo ls ls.length = ls.flatten := by rw [joinTo_flat _ _ (Nat.le_refl _), List.take_length]
theorem joinTo_le (ls : List Bytes) (k : Nat) (h : k ≤ ls.length) : (joinTo ls k).length ≤ ls.flatten.length := by
  rw [joinTo_flat _ _ h]
  conv => rhs; rw [← List.take_append_drop k ls]
  rw [List.flatten_append, List.length_append]; omega
theorem agg28 (W : World) : (isAgg 28).run Try.prog W = .ok false W := by kernel_rfl
set_option maxRecDepth 100000 in
set_option maxHeartbeats 1000000 in
theorem joined_any (v : Value) (ls : List Bytes) (w : World) (hv : SS w v ls) (hl : ls.flatten.length ≤ 140737488355328) : Calls Try.prog 57 #[v] w (BPost w ls.flatten) := by
  obtain ⟨A, c, rfl, hc1, hc2, hcell⟩ := hv
  unfold maxLen at hc2
  have Hcell := Hd.mk hcell
  have Hfin := Hd.mk (joinTo_all ls)
  have Hle := Hd.mk (joinTo_le ls)
  clear hcell
  go_enter Try.func57, Try.ntmps57
  go_wp2
  go_loopw [3, 8] (fun u i wr => ∃ k : Nat, k ≤ ls.length ∧ i = .int .i64 (k : Int) ∧ OB wr w.heap.size u (joinTo ls k) ∧ Below w.heap.size w wr) (fun _ i _ => ls.length - (intOf i).toNat)
  case atStart => exact ⟨0, by omega, rfl, OB.nil _ _, Below.refl _ _⟩
  case round =>
    obtain ⟨k, hk, rfl, ho, hB⟩ := hrel
    have hle := Hle.out k hk
    by_cases hlt : k < ls.length
    · obtain ⟨b, o, u, hA, hbl, hx, hs⟩ := Hcell.out k hlt
      subst hA
      have Hs : Hd (joinTo ls (k+1) = joinTo ls k ++ ls.getD k []) := ⟨rfl⟩
      have hle2 := Hle.out (k+1) hlt
      rw [Hs.out, List.length_append] at hle2
      have hsb := hs.below hB
      have x0 := (hB.cell (p := ⟨b, o + k, none⟩) hbl).trans hx
      generalize ls.getD k [] = m at *
      generalize joinTo ls k = L at *
      obtain ⟨w2, rfl⟩ : ∃ w1 : World, w1 = wr := ⟨_, rfl⟩
      have Ho := Hd.mk ho
      have Hsb := Hd.mk hsb
      clear ho hsb hs hx
      go_wp2_with (at_builtin; refine wl_append rfl (.tmp 12) (.tmp 13) rfl w.heap.size _ _ L m rfl rfl Ho.out Hsb.out (by omega) hB.size ?_; intro v' w' hv' hg' hat')
      refine ⟨⟨k + 1, by omega, by go_num, by rw [Hs.out]; exact hv', Ho.out.grownBelow hB hg' (Nat.le_refl _) (Nat.le_refl _)⟩, by simp [intOf]; omega⟩
    · have hk2 : k = ls.length := by omega
      rw [hk2, Hfin.out] at ho
      have Ho := Hd.mk ho
      clear ho hk2
      go_wp2
      go_ret
      exact ⟨_, rfl, Ho.out, hB⟩
end Go.Proofs.Ytjjcnijdjhhdoaa
end
/-! The walks of (sym.Table).Box and Open. -/
section
namespace Go.Proofs.Ytjjcnijdjhhdoaa
open Go.RowKit Go.QT
/-- What a call leaves that answers what is in a box. -/
def XPost (w : World) (o : Option SSealed) (e : Ending) (w' : World) : Prop :=
  ∃ x body, e = .returned (.tuple #[.agg (sealCells x body).toArray, .bool o.isSome]) ∧ (o = some x ∨ o = none ∧ x = zSealed) ∧ OB w' w.heap.size body x.body ∧ Below w.heap.size w w'
theorem sl_some {s : STab} {l : Bytes} {kd : UInt8} {n : Nat} (hm : markOf l = some (kd, n)) (hk : kd = 98) (hn : 1 ≤ n) : s.box l = s.boxes[n - 1]? := by
  unfold STab.box; rw [hm]; simp [hk, hn]
theorem sl_none {s : STab} {l : Bytes} {kd : UInt8} {n : Nat} (hm : markOf l = some (kd, n)) (h : ¬ (kd = 98 ∧ 1 ≤ n)) : s.box l = none := by
  unfold STab.box; rw [hm]; simp only [if_neg h]
theorem sl_nomark {s : STab} {l : Bytes} (hm : markOf l = none) : s.box l = none := by
  unfold STab.box; rw [hm]
theorem zs_eq : (#[Value.int IntKind.u8 0, Value.int IntKind.u8 0, Value.int IntKind.u8 0, Value.int IntKind.u8 0, Value.int IntKind.u8 0, Value.int IntKind.u8 0, Value.int IntKind.u8 0, Value.int IntKind.u8 0, Value.int IntKind.u8 0, Value.int IntKind.u8 0, Value.int IntKind.u8 0, Value.int IntKind.u8 0, Value.int IntKind.u8 0, Value.int IntKind.u8 0, Value.int IntKind.u8 0, Value.int IntKind.u8 0, Value.int IntKind.i64 0, Value.slice none 0 0] : Array Value) = (sealCells zSealed (.slice none 0 0)).toArray := by
  rw [sealCells, zSealed]
  show _ = (vb zKey ++ [Value.int .i64 0, Value.slice none 0 0]).toArray
  rw [zKey, vb_zeros]; rfl
set_option maxRecDepth 100000 in
set_option maxHeartbeats 1000000 in
theorem box_any' (F : Nat → Prop) (tb : Nat) (s : STab) (l : Bytes) (bv : Value) (w : World) (hT : TabAt w F tb s) (hbv : SB w bv l) (hl : ∀ b ∈ s.boxes, b.body.length ≤ 1000000) (hn : s.boxes.length < 1000000) :
    Calls Try.prog 35 #[.pointer (some ⟨tb, 0, none⟩), bv] w (XPost w (s.box l)) := by
  obtain ⟨mb, vk, vx, vs, bodies, sums, es, clock, hR⟩ := hT
  have HR := Hd.mk hR
  have Hbv := Hd.mk hbv
  have htb := hR.fl tb hR.ft
  have Hl := Hd.mk hl
  have hzl : (List.zipWith sealCells s.boxes bodies).length = s.boxes.length := by rw [List.length_zipWith, hR.xn, Nat.min_self]
  have Hzl := Hd.mk hzl
  have Hi0 : Hd ((Try.prog.info? 56).map (·.size) = some (sealCells zSealed (.slice none 0 0)).length) := ⟨i56⟩
  clear hR hbv hl hzl
  go_enter Try.func35, Try.ntmps35
  go_upto_region 1 with (fail)
  rw [zs_eq]
  have hb : Below w.heap.size w (w.alloc (.cells (sealCells zSealed (.slice none 0 0)).toArray 56)) := (Below.refl _ _).alloc (Nat.le_refl _) _
  have hZ : Blk (w.alloc (.cells (sealCells zSealed (.slice none 0 0)).toArray 56)) w.heap.size 56 (sealCells zSealed (.slice none 0 0)) := Blk.new w 56 _
  generalize w.alloc (.cells (sealCells zSealed (.slice none 0 0)).toArray 56) = w1 at *
  have HT1 := Hd.mk (HR.out.keep hb.size (fun q hq => hb.block q (HR.out.fl q hq)))
  have hzlt := hZ.lt
  have HZ := Hd.mk hZ
  have HM := Hd.mk (Mark_any _ l _ (Hbv.out.below hb))
  clear hZ
  have hbz : ∀ W, (Instr.build 56 #[]).run Try.prog W = .ok (.agg (sealCells zSealed (.slice none 0 0)).toArray) W := fun W => by kernel_rfl
  have Hbz := Hd.mk hbz
  clear hbz
  refine wp_region_lit ?_
  refine wl_val rfl bv rfl ?_
  simp only [Act.put, List.setIfInBounds_toArray, List.set_cons_succ, List.set_cons_zero]
  refine wl_call rfl 27 _ _ rfl [bv] rfl (by kernel_rfl) HM.out ?_
  rintro e w2 ⟨rfl, hb2⟩
  refine ⟨_, rfl, ?_⟩
  simp only [Act.put, List.setIfInBounds_toArray, List.set_cons_succ, List.set_cons_zero]
  have HT2 := Hd.mk (HT1.out.keep hb2.size (fun q hq => hb2.block q (HT1.out.fl q hq)))
  have HB2 := Hd.mk (hb.trans (hb2.mono hb.size))
  have HZ2 := Hd.mk (HZ.out.below hb2 hzlt)
  have hz2 := HZ2.out.lt
  clear HT1 hb hb2 HZ HM
  obtain ⟨A, cp, hve, hcp, hcp2⟩ := HT2.out.x.form
  rw [Hzl.out] at hve hcp
  unfold maxLen at hcp2
  have x0 := HT2.out.t.cell 1
  rw [hve] at x0
  have x1 : w2.cell? ⟨tb, 1, none⟩ = some (.slice A s.boxes.length cp) := x0
  clear x0
  have Hve := Hd.mk hve
  clear hve
  cases hmo : markOf l with
  | none =>
    have Hmo := Hd.mk hmo
    rw [mkV_none]
    go_upto_region 3 with (fail)
    have Hno := Hd.mk (sl_nomark (s := s) Hmo.out)
    refine wp_region_lit ?_
    refine wl_val rfl (.agg (sealCells zSealed (.slice none 0 0)).toArray) (by unfold execOp; simp [Hbz.out]) ?_
    simp only [Act.put, List.setIfInBounds_toArray, List.set_cons_succ, List.set_cons_zero]
    go_wp2_with (refine wl_storeW rfl 56 _ _ rfl w.heap.size 0 (sealCells zSealed (.slice none 0 0)) rfl rfl 56 _ (sealCells zSealed (.slice none 0 0)) HZ2.out (by simp [sealCells, zSealed, zKey]) i56 (sealCells_one _ _ rfl) (by simp [sealCells, zSealed, zKey]) ?_; intro w6 hr6 hg6 hs6)
    refine bodyPost_ret (results_cell_tmp (p := 4) (q := 5) (ty := 56) rfl _ _ w.heap.size 56 (sealCells zSealed (.slice none 0 0)) _ (.bool false) rfl rfl hr6 ty56 rfl i56) rfl ?_
    rw [Hno.out]
    exact ⟨zSealed, .slice none 0 0, rfl, .inr ⟨rfl, rfl⟩, OB.nil _ _, HB2.out.grown hg6 HB2.out.size (by rintro j hj; cases hj; omega)⟩
  | some kn =>
    obtain ⟨kd, n⟩ := kn
    have Hmo := Hd.mk hmo
    clear hmo
    rw [mkV_some]
    have hkb := ub_ne kd 98 98 (by simp [ub])
    by_cases hk : kd = 98
    · rw [decide_eq_true hk] at hkb
      by_cases hn1 : 1 ≤ n
      · have d1 : decide ((n : Int) < 1) = false := by simp; omega
        by_cases hnb : n ≤ s.boxes.length
        · have d2 : decide ((n : Int) > s.boxes.length) = false := by simp; omega
          have Hk := Hd.mk hk
          clear hk
          go_upto_region 4 with (fail)
          have hi : n - 1 < s.boxes.length := by omega
          have Hbox : Hd (s.box l = some s.boxes[n - 1]) := ⟨by rw [sl_some Hmo.out Hk.out hn1, List.getElem?_eq_getElem hi]⟩
          have hbi : n - 1 < bodies.length := by rw [HR.out.xn]; exact hi
          obtain ⟨hob, _, _⟩ := HT2.out.xb (n - 1) s.boxes[n - 1] bodies[n - 1] (List.getElem?_eq_getElem hi) (List.getElem?_eq_getElem hbi)
          have hl16 := HR.out.xl s.boxes[n - 1] (List.getElem_mem hi)
          have hlb := Hl.out s.boxes[n - 1] (List.getElem_mem hi)
          obtain ⟨g, cap, hv2, _, hglt, _, _, cur, hBlk, hcur⟩ := HT2.out.x.at_ (i := n - 1) (by rw [Hzl.out]; exact hi)
          rw [Hve.out, Hzl.out] at hv2
          injection hv2 with hA _ hcap
          subst hA
          clear hcap
          have hcur2 : ∀ j v, (sealCells s.boxes[n - 1] bodies[n - 1])[j]? = some v → cur[(n - 1) * 18 + j]? = some v := by
            intro j v hj
            have hj2 : j < 18 := by
              have := (List.getElem?_eq_some_iff.1 hj).1
              rw [sealCells_len _ _ hl16] at this; exact this
            rw [hcur j hj2]
            rw [List.getElem_zipWith]
            exact hj
          have Hcur2 := Hd.mk hcur2
          generalize s.boxes[n - 1] = X at *
          generalize bodies[n - 1] = Bd at *
          have HBlk := Hd.mk hBlk
          have Hob := Hd.mk hob
          have H16 := Hd.mk hl16
          have hlen := sealCells_len X Bd hl16
          have Hlen := Hd.mk hlen
          clear hcur hcur2 hBlk hob hl16 hlen
          refine wp_region_lit ?_
          refine wl_val rfl (.pointer (some ⟨tb, 0, none⟩)) (rfl) ?_
          simp only [Act.put, List.setIfInBounds_toArray, List.set_cons_succ, List.set_cons_zero]
          refine wl_val rfl (.pointer (some ⟨tb, 0, none⟩)) (by simp [go_sem]) ?_
          simp only [Act.put, List.setIfInBounds_toArray, List.set_cons_succ, List.set_cons_zero]
          refine wl_val rfl (.pointer (some ⟨tb, 1, none⟩)) (by simp [go_sem]) ?_
          simp only [Act.put, List.setIfInBounds_toArray, List.set_cons_succ, List.set_cons_zero]
          refine wl_val rfl (.slice (some ⟨g, 0, none⟩) s.boxes.length cp) (exec_cell _ _ (by rfl) ⟨tb, 1, none⟩ _ (by rfl) (agg62 _) x1) ?_
          simp only [Act.put, List.setIfInBounds_toArray, List.set_cons_succ, List.set_cons_zero]
          refine wl_val rfl (.int .i64 (n : Int)) (rfl) ?_
          simp only [Act.put, List.setIfInBounds_toArray, List.set_cons_succ, List.set_cons_zero]
          refine wl_val rfl (.int .i64 ((n - 1 : Nat) : Int)) (exec_sub 3 _ (.tmp 40) _ (by rfl) n 1 (by rfl) (by rfl) _ (by omega) (by omega) (by omega) _) ?_
          simp only [Act.put, List.setIfInBounds_toArray, List.set_cons_succ, List.set_cons_zero]
          refine wl_val rfl (.pointer (some ⟨g, 0 + (n - 1) * 18, none⟩)) (exec_idx 62 56 18 (.tmp 39) (.tmp 41) (by rfl) g 0 s.boxes.length cp (n - 1) (by rfl) (by rfl) hi tyss i56 _) ?_
          simp only [Act.put, List.setIfInBounds_toArray, List.set_cons_succ, List.set_cons_zero]
          refine wl_val rfl (.agg (sealCells X Bd).toArray) (exec_load 56 _ (by rfl) g (0 + (n - 1) * 18) (by rfl) 56 cur (sealCells X Bd) _ HBlk.out (by rw [Nat.zero_add]; exact Hcur2.out) ty56 rfl (by rw [Hlen.out]; exact i56)) ?_
          simp only [Act.put, List.setIfInBounds_toArray, List.set_cons_succ, List.set_cons_zero]
          refine wl_run rfl (.pointer (some ⟨w2.heap.size, 0, none⟩)) (show _ = Result.ok _ (w2.alloc (.cells (sealCells zSealed (.slice none 0 0)).toArray 56)) by kernel_rfl) ?_
          simp only [Act.put, List.setIfInBounds_toArray, List.set_cons_succ, List.set_cons_zero]
          have h1c := sealCells_one X Bd Hob.out.one
          have HB3 := Hd.mk (HB2.out.alloc HB2.out.size (.cells (sealCells zSealed (.slice none 0 0)).toArray 56))
          have HN3 := Hd.mk (Blk.new w2 56 (sealCells zSealed (.slice none 0 0)))
          have HZ3 := Hd.mk (HZ2.out.alloc (.cells (sealCells zSealed (.slice none 0 0)).toArray 56))
          have HO3 := Hd.mk (Hob.out.alloc (.cells (sealCells zSealed (.slice none 0 0)).toArray 56))
          have hs3 : (w2.alloc (.cells (sealCells zSealed (.slice none 0 0)).toArray 56)).heap.size = w2.heap.size + 1 := by simp
          have hfb : ∀ q, Bd.ownBlock = some q → q < w2.heap.size := fun q hq => (OB.own Hob.out q hq).2
          generalize hg2 : w2.heap.size = g2 at *
          generalize w2.alloc (.cells (sealCells zSealed (.slice none 0 0)).toArray 56) = w3 at *
          refine wl_storeW rfl 56 _ _ rfl g2 0 (sealCells X Bd) rfl rfl 56 _ (sealCells X Bd) HN3.out (by rw [Hlen.out, sealCells_len _ _ rfl]; omega) (by rw [Hlen.out]; exact i56) h1c (by rw [Hlen.out]; simp [sealCells, zSealed, zKey]) ?_
          intro w4 hr4 hg4 hs4
          simp only [Act.put]
          have HB4 := Hd.mk (HB3.out.grown hg4 HB3.out.size (by rintro j hj; cases hj; omega))
          have HZ4 := Hd.mk (HZ3.out.grown hg4 (fun e => by injection e with e; omega))
          have HO4 : Hd (OB w4 0 Bd X.body) := ⟨OB.grown HO3.out hg4 (fun q hq e => by injection e with e; have := hfb q hq; omega)⟩
          have HR4 := Hd.mk hr4
          have hl4 := hr4.lt
          have x17 : w4.cell? ⟨g2, 17, none⟩ = some Bd := by rw [hr4.cell]; simp [sealCells, H16.out]
          clear hr4 hg4 HB3 HN3 HZ3 HO3 x1 HT2
          go_upto_region 5 with (fail)
          refine wp_region_lit ?_
          refine wl_val rfl (.pointer (some ⟨g2, 17, none⟩)) (by simp [go_sem]) ?_
          simp only [Act.put, List.setIfInBounds_toArray, List.set_cons_succ, List.set_cons_zero]
          refine wl_val rfl (Bd) (exec_cell _ _ (by rfl) ⟨g2, 17, none⟩ _ (by rfl) (agg28 _) x17) ?_
          simp only [Act.put, List.setIfInBounds_toArray, List.set_cons_succ, List.set_cons_zero]
          refine wl_call rfl 73 _ _ rfl [Bd] rfl (by kernel_rfl) (clone_any Bd X.body _ HO4.out.sb (by omega)) ?_
          rintro e w5 ⟨nb5, rfl, hob5, hb5⟩
          refine ⟨_, rfl, ?_⟩
          have HB5 := Hd.mk (HB4.out.trans (hb5.mono HB4.out.size))
          have HZ5 := Hd.mk (HZ4.out.below hb5 HZ4.out.lt)
          have HR5 := Hd.mk (HR4.out.below hb5 hl4)
          have hl5 := HR5.out.lt
          have hs5 := hb5.size
          have hB4s := HB4.out.size
          clear hb5 HB4 HZ4 HO4 HR4 x17
          simp only [Act.put, List.setIfInBounds_toArray, List.set_cons_succ, List.set_cons_zero]
          refine wl_val rfl (.pointer (some ⟨g2, 17, none⟩)) (by simp [go_sem]) ?_
          simp only [Act.put, List.setIfInBounds_toArray, List.set_cons_succ, List.set_cons_zero]
          refine wl_runs rfl (exec_storeCell 28 _ _ rfl g2 17 nb5 rfl rfl 56 (sealCells X Bd) HR5.out (by rw [Hlen.out]; omega) (by kernel_rfl) hob5.one hob5.cells1) ?_
          simp only [Act.put]
          have hset : (sealCells X Bd).set 17 nb5 = sealCells X nb5 := by
            obtain ⟨⟨k, u, bd⟩, _⟩ : ∃ Y : SSealed, Y = X := ⟨X, rfl⟩
            obtain ⟨a0, a1, a2, a3, a4, a5, a6, a7, a8, a9, a10, a11, a12, a13, a14, a15, hX⟩ := l16 X.by_ H16.out
            unfold sealCells
            rw [hX]; rfl
          have HR6 : Hd (Blk (w5.setCell ⟨g2, 17, none⟩ nb5) g2 56 (sealCells X nb5)) := ⟨by rw [← hset]; exact HR5.out.set 17 nb5⟩
          have HZ6 : Hd (Blk (w5.setCell ⟨g2, 17, none⟩ nb5) w.heap.size 56 (sealCells zSealed (.slice none 0 0))) := ⟨HZ5.out.far (by simp; omega) _⟩
          have HO6 : Hd (OB (w5.setCell ⟨g2, 17, none⟩ nb5) w4.heap.size nb5 X.body) := ⟨OB.far hob5 (fun q hq => by have := (hob5.own q hq).1; simp; omega) _⟩
          have HB6 := Hd.mk (HB5.out.setCell (p := ⟨g2, 17, none⟩) (by show w.heap.size ≤ g2; omega) nb5)
          have H1 := sealCells_one X nb5 hob5.one
          have hl6 := sealCells_len X nb5 H16.out
          generalize w5.setCell ⟨g2, 17, none⟩ nb5 = w6 at *
          have Hl6 := Hd.mk hl6
          have HH1 := Hd.mk H1
          clear HB5 HZ5 HR5 hob5 hset hl6 H1
          go_wp2_with (first | (refine wl_load rfl 56 _ rfl g2 0 rfl 56 (sealCells X nb5) (sealCells X nb5) _ HR6.out (by simp) ty56 rfl (by rw [Hl6.out]; exact i56) ?_) | (refine wl_storeW rfl 56 _ _ rfl w.heap.size 0 (sealCells X nb5) rfl rfl 56 _ (sealCells X nb5) HZ6.out (by rw [Hl6.out]; simp [sealCells, zSealed, zKey]) (by rw [Hl6.out]; exact i56) HH1.out (by rw [Hl6.out]; simp [sealCells, zSealed, zKey]) ?_; intro w7 hr7 hg7 hs7))
          refine bodyPost_ret (results_cell_tmp (p := 4) (q := 5) (ty := 56) rfl _ _ w.heap.size 56 (sealCells X nb5) _ (.bool true) rfl rfl hr7 ty56 rfl (by rw [Hl6.out]; exact i56)) rfl ?_
          rw [Hbox.out]
          exact ⟨X, nb5, rfl, .inl rfl, OB.mono (OB.grown HO6.out hg7 (fun q hq e => by injection e with e; have := (HO6.out.own q hq).1; omega)) hB4s, HB6.out.grown hg7 HB6.out.size (by rintro j hj; cases hj; omega)⟩
        · have d2 : decide ((n : Int) > s.boxes.length) = true := by simp; omega
          have Hk := Hd.mk hk
          clear hk
          go_upto_region 3 with (fail)
          have Hno := Hd.mk ((sl_some (s := s) Hmo.out Hk.out hn1).trans (List.getElem?_eq_none (by omega)))
          refine wp_region_lit ?_
          refine wl_val rfl (.agg (sealCells zSealed (.slice none 0 0)).toArray) (by unfold execOp; simp [Hbz.out]) ?_
          simp only [Act.put, List.setIfInBounds_toArray, List.set_cons_succ, List.set_cons_zero]
          go_wp2_with (refine wl_storeW rfl 56 _ _ rfl w.heap.size 0 (sealCells zSealed (.slice none 0 0)) rfl rfl 56 _ (sealCells zSealed (.slice none 0 0)) HZ2.out (by simp [sealCells, zSealed, zKey]) i56 (sealCells_one _ _ rfl) (by simp [sealCells, zSealed, zKey]) ?_; intro w6 hr6 hg6 hs6)
          refine bodyPost_ret (results_cell_tmp (p := 4) (q := 5) (ty := 56) rfl _ _ w.heap.size 56 (sealCells zSealed (.slice none 0 0)) _ (.bool false) rfl rfl hr6 ty56 rfl i56) rfl ?_
          rw [Hno.out]
          exact ⟨zSealed, .slice none 0 0, rfl, .inr ⟨rfl, rfl⟩, OB.nil _ _, HB2.out.grown hg6 HB2.out.size (by rintro j hj; cases hj; omega)⟩
      · have d1 : decide ((n : Int) < 1) = true := by simp; omega
        have Hk := Hd.mk hk
        clear hk
        go_upto_region 3 with (fail)
        have Hno := Hd.mk (sl_none (s := s) Hmo.out (fun hh => hn1 hh.2))
        refine wp_region_lit ?_
        refine wl_val rfl (.agg (sealCells zSealed (.slice none 0 0)).toArray) (by unfold execOp; simp [Hbz.out]) ?_
        simp only [Act.put, List.setIfInBounds_toArray, List.set_cons_succ, List.set_cons_zero]
        go_wp2_with (refine wl_storeW rfl 56 _ _ rfl w.heap.size 0 (sealCells zSealed (.slice none 0 0)) rfl rfl 56 _ (sealCells zSealed (.slice none 0 0)) HZ2.out (by simp [sealCells, zSealed, zKey]) i56 (sealCells_one _ _ rfl) (by simp [sealCells, zSealed, zKey]) ?_; intro w6 hr6 hg6 hs6)
        refine bodyPost_ret (results_cell_tmp (p := 4) (q := 5) (ty := 56) rfl _ _ w.heap.size 56 (sealCells zSealed (.slice none 0 0)) _ (.bool false) rfl rfl hr6 ty56 rfl i56) rfl ?_
        rw [Hno.out]
        exact ⟨zSealed, .slice none 0 0, rfl, .inr ⟨rfl, rfl⟩, OB.nil _ _, HB2.out.grown hg6 HB2.out.size (by rintro j hj; cases hj; omega)⟩
    · rw [decide_eq_false hk] at hkb
      have Hk := Hd.mk hk
      clear hk
      go_upto_region 3 with (fail)
      have Hno := Hd.mk (sl_none (s := s) Hmo.out (fun hh => Hk.out hh.1))
      refine wp_region_lit ?_
      refine wl_val rfl (.agg (sealCells zSealed (.slice none 0 0)).toArray) (by unfold execOp; simp [Hbz.out]) ?_
      simp only [Act.put, List.setIfInBounds_toArray, List.set_cons_succ, List.set_cons_zero]
      go_wp2_with (refine wl_storeW rfl 56 _ _ rfl w.heap.size 0 (sealCells zSealed (.slice none 0 0)) rfl rfl 56 _ (sealCells zSealed (.slice none 0 0)) HZ2.out (by simp [sealCells, zSealed, zKey]) i56 (sealCells_one _ _ rfl) (by simp [sealCells, zSealed, zKey]) ?_; intro w6 hr6 hg6 hs6)
      refine bodyPost_ret (results_cell_tmp (p := 4) (q := 5) (ty := 56) rfl _ _ w.heap.size 56 (sealCells zSealed (.slice none 0 0)) _ (.bool false) rfl rfl hr6 ty56 rfl i56) rfl ?_
      rw [Hno.out]
      exact ⟨zSealed, .slice none 0 0, rfl, .inr ⟨rfl, rfl⟩, OB.nil _ _, HB2.out.grown hg6 HB2.out.size (by rintro j hj; cases hj; omega)⟩
end Go.Proofs.Ytjjcnijdjhhdoaa
end
/-! The walk of (sym.Table).Open. -/
section
namespace Go.Proofs.Ytjjcnijdjhhdoaa
open Go.RowKit Go.QT
/-- What is in a box, by its key and usage. -/
def STab.open_ (s : STab) (k : Bytes) (u : Int) (l : Bytes) : Option Bytes := (s.box l).bind fun x => if x.by_ = k ∧ x.usage = u then some x.body else none
def OpPost (w : World) (o : Option Bytes) (e : Ending) (w' : World) : Prop := ∃ v, e = .returned (.tuple #[v, .bool o.isSome]) ∧ OB w' w.heap.size v (o.getD []) ∧ Below w.heap.size w w'
theorem aggint (W : World) : (isAgg 3).run Try.prog W = .ok false W := by kernel_rfl
set_option maxRecDepth 100000 in
set_option maxHeartbeats 1000000 in
theorem open_any (F : Nat → Prop) (tb : Nat) (s : STab) (k : Bytes) (u : Int) (l : Bytes) (bv : Value) (w : World) (hT : TabAt w F tb s) (hk : k.length = 16) (hbv : SB w bv l) (hl : ∀ b ∈ s.boxes, b.body.length ≤ 1000000) (hx16 : ∀ b ∈ s.boxes, b.by_.length = 16) (hn : s.boxes.length < 1000000) :
    Calls Try.prog 34 #[.pointer (some ⟨tb, 0, none⟩), .agg (vb k).toArray, .int .i64 u, bv] w (OpPost w (s.open_ k u l)) := by
  have HX := Hd.mk (fun W (h : TabAt W F tb s) (hb : SB W bv l) => box_any' F tb s l bv W h hb hl hn)
  have HT := Hd.mk hT
  have Hk := Hd.mk hk
  have Hbv := Hd.mk hbv
  have hik : (Try.prog.info? 42).map (·.size) = some (vb k).length := by rw [vb_length, hk]; exact i42
  have Hik := Hd.mk hik
  have H16 : Hd (∀ x, (s.box l = some x ∨ s.box l = none ∧ x = zSealed) → x.by_.length = 16) := ⟨fun x hx => by
    rcases hx with hx | ⟨_, rfl⟩
    · unfold STab.box at hx
      split at hx
      · split at hx
        · exact hx16 x (List.mem_of_getElem? hx)
        · cases hx
      · cases hx
    · rfl⟩
  have Ho : Hd (s.open_ k u l = (s.box l).bind fun x => if x.by_ = k ∧ x.usage = u then some x.body else none) := ⟨rfl⟩
  clear hT hk hbv hl hx16 hik
  go_enter Try.func34, Try.ntmps34
  go_upto_region 1 with (fail)
  have hb : Below w.heap.size w (w.alloc (.cells (vb k).toArray 42)) := (Below.refl _ _).alloc (Nat.le_refl _) _
  have hKk : Row (w.alloc (.cells (vb k).toArray 42)) w.heap.size 42 k := Row.new w 42 k
  generalize w.alloc (.cells (vb k).toArray 42) = w1 at *
  have hB1 := HX.out _ (HT.out.below hb) (Hbv.out.below hb)
  have hKl := hKk.lt
  refine wp_region_lit ?_
  refine wl_val rfl (.pointer (some ⟨tb, 0, none⟩)) (rfl) ?_
  simp only [Act.put, List.setIfInBounds_toArray, List.set_cons_succ, List.set_cons_zero]
  refine wl_val rfl (bv) (rfl) ?_
  simp only [Act.put, List.setIfInBounds_toArray, List.set_cons_succ, List.set_cons_zero]
  refine wl_call rfl 35 _ _ rfl [.pointer (some ⟨tb, 0, none⟩), bv] rfl (by kernel_rfl) (hB1) ?_
  rintro e w2 ⟨x, body, rfl, hx, hob, hb2⟩
  refine ⟨_, rfl, ?_⟩
  have HB2 := Hd.mk (hb.trans (hb2.mono hb.size))
  have HK2 := Hd.mk (hKk.below hb2 hKl)
  have hx16 := H16.out x hx
  have Hx16 := Hd.mk hx16
  have Hx := Hd.mk hx
  have Hob := Hd.mk hob
  have hs12 := hb2.size
  have Hsl := Hd.mk (sealCells_len x body hx16)
  have Hone := Hd.mk (sealCells_one x body hob.one)
  clear hb2 hKk hB1 hx16 hx hob HX H16 HT
  generalize hbs : (s.box l).isSome = bs at *
  have Hbs := Hd.mk hbs
  clear hbs
  simp only [Act.put, List.setIfInBounds_toArray, List.set_cons_succ, List.set_cons_zero]
  refine wl_val rfl (.tuple #[.agg (sealCells x body).toArray, .bool bs]) (rfl) ?_
  simp only [Act.put, List.setIfInBounds_toArray, List.set_cons_succ, List.set_cons_zero]
  refine wl_val rfl (.agg (sealCells x body).toArray) (rfl) ?_
  simp only [Act.put, List.setIfInBounds_toArray, List.set_cons_succ, List.set_cons_zero]
  refine wl_val rfl (.bool bs) (rfl) ?_
  simp only [Act.put, List.setIfInBounds_toArray, List.set_cons_succ, List.set_cons_zero]
  refine wl_run rfl (.pointer (some ⟨w2.heap.size, 0, none⟩)) (show _ = Result.ok _ (w2.alloc (.cells (sealCells zSealed (.slice none 0 0)).toArray 56)) by kernel_rfl) ?_
  simp only [Act.put, List.setIfInBounds_toArray, List.set_cons_succ, List.set_cons_zero]
  have HB3 := Hd.mk (HB2.out.alloc HB2.out.size (.cells (sealCells zSealed (.slice none 0 0)).toArray 56))
  have HN3 := Hd.mk (Blk.new w2 56 (sealCells zSealed (.slice none 0 0)))
  have HK3 := Hd.mk (HK2.out.alloc (.cells (sealCells zSealed (.slice none 0 0)).toArray 56))
  have HO3 := Hd.mk (Hob.out.alloc (.cells (sealCells zSealed (.slice none 0 0)).toArray 56))
  have hs3 : (w2.alloc (.cells (sealCells zSealed (.slice none 0 0)).toArray 56)).heap.size = w2.heap.size + 1 := by simp
  have hfb : ∀ q, body.ownBlock = some q → q < w2.heap.size := fun q hq => (OB.own Hob.out q hq).2
  have hk2 := HK2.out.lt
  generalize hg2 : w2.heap.size = g2 at *
  generalize w2.alloc (.cells (sealCells zSealed (.slice none 0 0)).toArray 56) = w3 at *
  clear HB2 HK2 Hob
  refine wl_storeW rfl 56 _ _ rfl g2 0 (sealCells x body) rfl rfl 56 _ (sealCells x body) HN3.out (by rw [Hsl.out, sealCells_len _ _ rfl]; omega) (by rw [Hsl.out]; exact i56) Hone.out (by rw [Hsl.out]; simp [sealCells, zSealed, zKey]) ?_
  intro w4 hr4 hg4 hs4
  simp only [Act.put]
  have HB4 := Hd.mk (HB3.out.grown hg4 HB3.out.size (by rintro j hj; cases hj; have := hb.size; omega))
  have HK4 := Hd.mk (HK3.out.grown' hg4 (fun e => by injection e with e; omega))
  have HO4 : Hd (OB w4 w1.heap.size body x.body) := ⟨OB.grown HO3.out hg4 (fun q hq e => by injection e with e; have := hfb q hq; omega)⟩
  have HR4 := Hd.mk hr4
  have hl4 := hr4.lt
  have x16 : w4.cell? ⟨g2, 16, none⟩ = some (.int .i64 x.usage) := by rw [hr4.cell]; simp [sealCells, Hx16.out]
  have x17 : w4.cell? ⟨g2, 17, none⟩ = some body := by rw [hr4.cell]; simp [sealCells, Hx16.out]
  clear hr4 hg4 HB3 HN3 HK3 HO3
  refine wl_run rfl (.bool bs) (show _ = Result.ok _ w4 by simp [go_sem]) ?_
  simp only [Act.put, List.setIfInBounds_toArray, List.set_cons_succ, List.set_cons_zero]
  cases bs with
  | false =>
    have hn : s.box l = none := by
      cases hq : s.box l with
      | none => rfl
      | some y => rw [hq] at Hbs; cases Hbs.out
    have Hn := Hd.mk hn
    clear hn
    go_wp2
    go_ret2
    rw [Ho.out, Hn.out]
    exact ⟨_, rfl, OB.nil _ _, HB4.out⟩
  | true =>
    have hy : s.box l = some x := by
      rcases Hx.out with h | ⟨h, _⟩
      · exact h
      · rw [h] at Hbs; cases Hbs.out
    have Hy := Hd.mk hy
    clear hy
    by_cases hby : x.by_ = k
    · by_cases hu : x.usage = u
      · have hus : (x.usage != u) = false := by rw [bne_eq_false_iff_eq]; exact hu
        go_upto_region 2 with (fail)
        refine wp_region_lit ?_
        refine wl_val rfl (.bool true) (rfl) ?_
        simp only [Act.put, List.setIfInBounds_toArray, List.set_cons_succ, List.set_cons_zero]
        refine wl_val rfl (.bool false) (by simp [go_sem]) ?_
        simp only [Act.put, List.setIfInBounds_toArray, List.set_cons_succ, List.set_cons_zero]
        refine wl_val rfl (.bool false) (rfl) ?_
        simp only [Act.put, List.setIfInBounds_toArray, List.set_cons_succ, List.set_cons_zero]
        refine wl_valG (by kernel_rfl) (.pointer (some ⟨g2, 0, none⟩)) (by simp [go_sem]) ?_
        simp only [Act.put, List.setIfInBounds_toArray, List.set_cons_succ, List.set_cons_zero]
        refine wl_valG (by kernel_rfl) (.agg (vb x.by_).toArray) (exec_load 42 _ (by rfl) g2 0 (by rfl) 56 (sealCells x body) (vb x.by_) _ HR4.out (fun j v hj => by rw [Nat.zero_add, sealCells, List.getElem?_append_left (List.getElem?_eq_some_iff.1 hj).1]; exact hj) ty42 rfl (by rw [vb_length, Hx16.out]; exact i42)) ?_
        simp only [Act.put, List.setIfInBounds_toArray, List.set_cons_succ, List.set_cons_zero]
        refine wl_valG (by kernel_rfl) (.agg (vb k).toArray) (exec_load 42 _ (by rfl) w.heap.size 0 (by rfl) 42 (vb k) (vb k) _ HK4.out (by simp) ty42 rfl Hik.out) ?_
        simp only [Act.put, List.setIfInBounds_toArray, List.set_cons_succ, List.set_cons_zero]
        refine wl_valG (by kernel_rfl) (.bool false) ((exec_ne16 42 _ _ _ (by rfl) x.by_ k (by rfl) (by rfl) ty42 eg42 Hx16.out Hk.out _).trans (by rw [decide_eq_true hby]; rfl)) ?_
        simp only [Act.put, List.setIfInBounds_toArray, List.set_cons_succ, List.set_cons_zero]
        refine wl_val rfl (.bool false) (rfl) ?_
        simp only [Act.put, List.setIfInBounds_toArray, List.set_cons_succ, List.set_cons_zero]
        refine wl_val rfl (.bool false) (rfl) ?_
        simp only [Act.put, List.setIfInBounds_toArray, List.set_cons_succ, List.set_cons_zero]
        refine wl_valG (by kernel_rfl) (.pointer (some ⟨g2, 16, none⟩)) (by simp [go_sem]) ?_
        simp only [Act.put, List.setIfInBounds_toArray, List.set_cons_succ, List.set_cons_zero]
        refine wl_valG (by kernel_rfl) (.int .i64 x.usage) (exec_cell _ _ (by rfl) ⟨g2, 16, none⟩ _ (by rfl) (aggint _) x16) ?_
        simp only [Act.put, List.setIfInBounds_toArray, List.set_cons_succ, List.set_cons_zero]
        refine wl_valG (by kernel_rfl) (.int .i64 u) (rfl) ?_
        simp only [Act.put, List.setIfInBounds_toArray, List.set_cons_succ, List.set_cons_zero]
        refine wl_valG (by kernel_rfl) (.bool false) (by have e : (x.usage != u) = false := hus; simp [go_sem, e]) ?_
        simp only [Act.put, List.setIfInBounds_toArray, List.set_cons_succ, List.set_cons_zero]
        refine wl_val rfl (.bool false) (rfl) ?_
        simp only [Act.put, List.setIfInBounds_toArray, List.set_cons_succ, List.set_cons_zero]
        clear hus
        go_upto_region 4 with (fail)
        refine wp_region_lit ?_
        refine wl_val rfl (.pointer (some ⟨g2, 17, none⟩)) (by simp [go_sem]) ?_
        simp only [Act.put, List.setIfInBounds_toArray, List.set_cons_succ, List.set_cons_zero]
        refine wl_val rfl (body) (exec_cell _ _ (by rfl) ⟨g2, 17, none⟩ _ (by rfl) (agg28 _) x17) ?_
        simp only [Act.put, List.setIfInBounds_toArray, List.set_cons_succ, List.set_cons_zero]
        go_wp2
        go_ret2
        rw [Ho.out, Hy.out, Option.bind_some, if_pos ⟨hby, hu⟩]
        exact ⟨_, rfl, OB.mono HO4.out hb.size, HB4.out⟩
      · have hus : (x.usage != u) = true := by rw [bne_iff_ne]; exact hu
        go_upto_region 2 with (fail)
        refine wp_region_lit ?_
        refine wl_val rfl (.bool true) (rfl) ?_
        simp only [Act.put, List.setIfInBounds_toArray, List.set_cons_succ, List.set_cons_zero]
        refine wl_val rfl (.bool false) (by simp [go_sem]) ?_
        simp only [Act.put, List.setIfInBounds_toArray, List.set_cons_succ, List.set_cons_zero]
        refine wl_val rfl (.bool false) (rfl) ?_
        simp only [Act.put, List.setIfInBounds_toArray, List.set_cons_succ, List.set_cons_zero]
        refine wl_valG (by kernel_rfl) (.pointer (some ⟨g2, 0, none⟩)) (by simp [go_sem]) ?_
        simp only [Act.put, List.setIfInBounds_toArray, List.set_cons_succ, List.set_cons_zero]
        refine wl_valG (by kernel_rfl) (.agg (vb x.by_).toArray) (exec_load 42 _ (by rfl) g2 0 (by rfl) 56 (sealCells x body) (vb x.by_) _ HR4.out (fun j v hj => by rw [Nat.zero_add, sealCells, List.getElem?_append_left (List.getElem?_eq_some_iff.1 hj).1]; exact hj) ty42 rfl (by rw [vb_length, Hx16.out]; exact i42)) ?_
        simp only [Act.put, List.setIfInBounds_toArray, List.set_cons_succ, List.set_cons_zero]
        refine wl_valG (by kernel_rfl) (.agg (vb k).toArray) (exec_load 42 _ (by rfl) w.heap.size 0 (by rfl) 42 (vb k) (vb k) _ HK4.out (by simp) ty42 rfl Hik.out) ?_
        simp only [Act.put, List.setIfInBounds_toArray, List.set_cons_succ, List.set_cons_zero]
        refine wl_valG (by kernel_rfl) (.bool false) ((exec_ne16 42 _ _ _ (by rfl) x.by_ k (by rfl) (by rfl) ty42 eg42 Hx16.out Hk.out _).trans (by rw [decide_eq_true hby]; rfl)) ?_
        simp only [Act.put, List.setIfInBounds_toArray, List.set_cons_succ, List.set_cons_zero]
        refine wl_val rfl (.bool false) (rfl) ?_
        simp only [Act.put, List.setIfInBounds_toArray, List.set_cons_succ, List.set_cons_zero]
        refine wl_val rfl (.bool false) (rfl) ?_
        simp only [Act.put, List.setIfInBounds_toArray, List.set_cons_succ, List.set_cons_zero]
        refine wl_valG (by kernel_rfl) (.pointer (some ⟨g2, 16, none⟩)) (by simp [go_sem]) ?_
        simp only [Act.put, List.setIfInBounds_toArray, List.set_cons_succ, List.set_cons_zero]
        refine wl_valG (by kernel_rfl) (.int .i64 x.usage) (exec_cell _ _ (by rfl) ⟨g2, 16, none⟩ _ (by rfl) (aggint _) x16) ?_
        simp only [Act.put, List.setIfInBounds_toArray, List.set_cons_succ, List.set_cons_zero]
        refine wl_valG (by kernel_rfl) (.int .i64 u) (rfl) ?_
        simp only [Act.put, List.setIfInBounds_toArray, List.set_cons_succ, List.set_cons_zero]
        refine wl_valG (by kernel_rfl) (.bool true) (by have e : (x.usage != u) = true := hus; simp [go_sem, e]) ?_
        simp only [Act.put, List.setIfInBounds_toArray, List.set_cons_succ, List.set_cons_zero]
        refine wl_val rfl (.bool true) (rfl) ?_
        simp only [Act.put, List.setIfInBounds_toArray, List.set_cons_succ, List.set_cons_zero]
        clear hus
        go_wp2
        go_ret2
        rw [Ho.out, Hy.out, Option.bind_some, if_neg (fun hh => hu hh.2)]
        exact ⟨_, rfl, OB.nil _ _, HB4.out⟩
    · go_upto_region 2 with (fail)
      refine wp_region_lit ?_
      refine wl_val rfl (.bool true) (rfl) ?_
      simp only [Act.put, List.setIfInBounds_toArray, List.set_cons_succ, List.set_cons_zero]
      refine wl_val rfl (.bool false) (by simp [go_sem]) ?_
      simp only [Act.put, List.setIfInBounds_toArray, List.set_cons_succ, List.set_cons_zero]
      refine wl_val rfl (.bool false) (rfl) ?_
      simp only [Act.put, List.setIfInBounds_toArray, List.set_cons_succ, List.set_cons_zero]
      refine wl_valG (by kernel_rfl) (.pointer (some ⟨g2, 0, none⟩)) (by simp [go_sem]) ?_
      simp only [Act.put, List.setIfInBounds_toArray, List.set_cons_succ, List.set_cons_zero]
      refine wl_valG (by kernel_rfl) (.agg (vb x.by_).toArray) (exec_load 42 _ (by rfl) g2 0 (by rfl) 56 (sealCells x body) (vb x.by_) _ HR4.out (fun j v hj => by rw [Nat.zero_add, sealCells, List.getElem?_append_left (List.getElem?_eq_some_iff.1 hj).1]; exact hj) ty42 rfl (by rw [vb_length, Hx16.out]; exact i42)) ?_
      simp only [Act.put, List.setIfInBounds_toArray, List.set_cons_succ, List.set_cons_zero]
      refine wl_valG (by kernel_rfl) (.agg (vb k).toArray) (exec_load 42 _ (by rfl) w.heap.size 0 (by rfl) 42 (vb k) (vb k) _ HK4.out (by simp) ty42 rfl Hik.out) ?_
      simp only [Act.put, List.setIfInBounds_toArray, List.set_cons_succ, List.set_cons_zero]
      refine wl_valG (by kernel_rfl) (.bool true) ((exec_ne16 42 _ _ _ (by rfl) x.by_ k (by rfl) (by rfl) ty42 eg42 Hx16.out Hk.out _).trans (by rw [decide_eq_false hby]; rfl)) ?_
      simp only [Act.put, List.setIfInBounds_toArray, List.set_cons_succ, List.set_cons_zero]
      refine wl_val rfl (.bool true) (rfl) ?_
      simp only [Act.put, List.setIfInBounds_toArray, List.set_cons_succ, List.set_cons_zero]
      refine wl_val rfl (.bool true) (rfl) ?_
      simp only [Act.put, List.setIfInBounds_toArray, List.set_cons_succ, List.set_cons_zero]
      refine wl_skipG (by kernel_rfl) ?_
      simp only [Act.put, List.setIfInBounds_toArray, List.set_cons_succ, List.set_cons_zero]
      refine wl_skipG (by kernel_rfl) ?_
      simp only [Act.put, List.setIfInBounds_toArray, List.set_cons_succ, List.set_cons_zero]
      refine wl_skipG (by kernel_rfl) ?_
      simp only [Act.put, List.setIfInBounds_toArray, List.set_cons_succ, List.set_cons_zero]
      refine wl_skipG (by kernel_rfl) ?_
      simp only [Act.put, List.setIfInBounds_toArray, List.set_cons_succ, List.set_cons_zero]
      refine wl_val rfl (.bool true) (rfl) ?_
      simp only [Act.put, List.setIfInBounds_toArray, List.set_cons_succ, List.set_cons_zero]
      go_wp2
      go_ret2
      rw [Ho.out, Hy.out, Option.bind_some, if_neg (fun hh => hby hh.1)]
      exact ⟨_, rfl, OB.nil _ _, HB4.out⟩
end Go.Proofs.Ytjjcnijdjhhdoaa
end
/-! Strings as bytes, bytes as strings. -/
section
namespace Go.Proofs.Ytjjcnijdjhhdoaa
open Go.RowKit Go.QT
theorem ustr : Try.prog.underlying 9 = some .string := by kernel_rfl
theorem ubyte : Try.prog.underlying 5 = some (.int .u8) := by kernel_rfl
/-- A new block, whatever its mark, leaves what was there. -/
theorem below_allocMark {B : Nat} {w0 w : World} (h : Below B w0 w) (hB : B ≤ w.heap.size) (o : Obj) : Below B w0 (w.drew.alloc o) := (below_drewN h 1).alloc hB o
theorem conv_sb (s : ByteArray) (w : World) (hs : s.size ≤ maxLen) : ∃ v w', (convert 9 28 (.string s)).run Try.prog w = .ok v w' ∧ SB w' v s.data.toList ∧ Below w.heap.size w w' ∧ (∃ g c, g = w.heap.size ∧ v = .slice (some ⟨g, 0, none⟩) s.size c) := by
  refine ⟨_, _, run_bytes_of_string w 9 28 5 s ustr u28 ubyte, ?_, (below_drewN (Below.refl _ _) 1).alloc (Nat.le_refl _) _, ⟨_, _, rfl, rfl⟩⟩
  refine ⟨_, _, ?_, ?_, grownCap_le_maxLen w s.size 0 5 hs, fun hne => ⟨w.heap.size, 0, rfl, by simp [World.alloc, World.drew, -World.alloc_eq, -World.drew_eq], fun i hi => ?_⟩⟩
  · rfl
  · exact grownCap_ge w s.size 0 5
  · have := World.cell?_alloc_mark w.drew (bytesRow s (grownCap w s.size 0 5)) 5 ((bytesRow s (grownCap w s.size 0 5)).size, (bytesRow s (grownCap w s.size 0 5)).size + 1) i
    rw [Nat.zero_add]
    refine this.trans ?_
    have hi' : i < s.data.size := by simpa using hi
    have hi2 : i < s.size := hi'
    have hg : s.data[i]? = some s.data[i] := Array.getElem?_eq_getElem hi'
    simp [bytesRow, Array.getElem?_append, hi2, gb, ub]
theorem exec_conv_sb {o : Oper} {a : Act} (x : Operand) (ho : o.op = .convert 9 28 x) (s : ByteArray) (hx : a.eval x = .string s) (w : World) (hs : s.size ≤ maxLen) :
    ∃ v w', (execOp a.eval o).run Try.prog w = .ok (.value v) w' ∧ SB w' v s.data.toList ∧ Below w.heap.size w w' ∧ (∃ g c, g = w.heap.size ∧ v = .slice (some ⟨g, 0, none⟩) s.size c) := by
  obtain ⟨v, w', h1, h2, h3, h4⟩ := conv_sb s w hs
  refine ⟨v, w', ?_, h2, h3, h4⟩
  unfold execOp
  simp only [ho, hx, Sem.run_bind, h1, Result.andThen_ok, Sem.run_pure]
theorem wl_conv_sb {ops : Array Oper} {rest : List Oper} {o : Oper} {a : Act} {w : World} {Q : Exit → Act → World → Prop} (hgd : o.guard = none) (x : Operand) (ho : o.op = .convert 9 28 x) (s : ByteArray) (hx : a.eval x = .string s) (hs : s.size ≤ maxLen)
    (h : ∀ v w', SB w' v s.data.toList → Below w.heap.size w w' → wpList Try.prog ops Q rest (a.put o.dst v) w') : wpList Try.prog ops Q (o :: rest) a w := by
  obtain ⟨v, w', h1, h2, h3, _⟩ := exec_conv_sb x ho s hx w hs
  exact wl_run hgd v h1 (h v w' h2 h3)
theorem run_sb_conv {w : World} {v : Value} {l : Bytes} (h : SB w v l) (W : World) (hW : W = w) : (convert 28 9 v).run Try.prog W = .ok (.string ⟨l.toArray⟩) W := by
  subst hW
  obtain ⟨A, c, rfl, hc, hm, hcell⟩ := h
  by_cases hl : l = []
  · subst hl
    simp only [List.length_nil]
    rw [run_convert_bytes_string W 28 9 5 A 0 c u28 ubyte ustr]
    cases A with
    | none => simp [Conv.bytesToString]; rfl
    | some p =>
      rw [run_bytesToString W p 0 c [] (by simp [loadCells, loadCellsFrom])]
      rfl
  · obtain ⟨b, o, rfl, hb, hcl⟩ := hcell hl
    exact run_convert_bytes_back W 28 9 5 ⟨b, o, none⟩ c l u28 ubyte ustr fun j hj => by
      rw [Addr.add_mid, hcl j hj]
      simp [gb, hj, ub]
theorem exec_sb_conv {o : Oper} {a : Act} {w : World} (x : Operand) (ho : o.op = .convert 28 9 x) (v : Value) (l : Bytes) (hx : a.eval x = v) (h : SB w v l) : (execOp a.eval o).run Try.prog w = .ok (.value (.string ⟨l.toArray⟩)) w := by
  have h1 := run_sb_conv h w rfl
  unfold execOp
  simp only [ho, hx, Sem.run_bind, h1, Result.andThen_ok, Sem.run_pure]
end Go.Proofs.Ytjjcnijdjhhdoaa
end
/-! The walk of (sym.Table).Text. -/
section
namespace Go.Proofs.Ytjjcnijdjhhdoaa
open Go.RowKit Go.QT
/-- Three rows of bytes, side by side. -/
theorem SS.three (w : World) (va vb' vc : Value) (a b c : Bytes) (ha : SB w va a) (hb : SB w vb' b) (hc : SB w vc c) : SS (w.alloc (.cells #[va, vb', vc] 28)) (.slice (some ⟨w.heap.size, 0, none⟩) 3 3) [a, b, c] := by
  have hB : Below w.heap.size w (w.alloc (.cells #[va, vb', vc] 28)) := (Below.refl _ _).alloc (Nat.le_refl _) _
  have hk : Blk (w.alloc (.cells #[va, vb', vc] 28)) w.heap.size 28 [va, vb', vc] := Blk.new w 28 [va, vb', vc]
  refine ⟨_, 3, rfl, by simp, by unfold maxLen; omega, fun i hi => ?_⟩
  have hc' := hk.cell
  match i, hi with
  | 0, _ => exact ⟨w.heap.size, 0, va, rfl, hk.lt, hc' 0, ha.below hB⟩
  | 1, _ => exact ⟨w.heap.size, 0, vb', rfl, hk.lt, hc' 1, hb.below hB⟩
  | 2, _ => exact ⟨w.heap.size, 0, vc, rfl, hk.lt, hc' 2, hc.below hB⟩
theorem SB.isSlice {w : World} {v : Value} {l : Bytes} (h : SB w v l) : v.cells = #[v] := by
  obtain ⟨A, c, rfl, _⟩ := h; rfl
theorem run_bs3 (va vb' vc : Value) (ha : va.cells = #[va]) (hb : vb'.cells = #[vb']) (hc : vc.cells = #[vc]) (w : World) :
    (Instr.buildSlice 63 3 #[(0, va), (1, vb'), (2, vc)]).run Try.prog w = .ok (.slice (some ⟨w.heap.size, 0, none⟩) 3 3) (w.alloc (.cells #[va, vb', vc] 28)) := by
  have ht : Try.prog.underlying 63 = some (.slice 28) := by kernel_rfl
  have hs : (sizeOf 28).run Try.prog w = .ok 1 w := by kernel_rfl
  have hz : (zeroValue 28).run Try.prog w = .ok (.slice none 0 0) w := by kernel_rfl
  have hzz : ((Array.range (3 * 1)).map fun x => (Value.slice none 0 0).cells[x % (Value.slice none 0 0).cells.size]!) = #[.slice none 0 0, .slice none 0 0, .slice none 0 0] := by kernel_rfl
  have hf : Instr.fill (fun i => some (i * 1, 1)) #[.slice none 0 0, .slice none 0 0, .slice none 0 0] [(0, va), (1, vb'), (2, vc)] = some #[va, vb', vc] := by
    simp [Instr.fill, ha, hb, hc]
  have h0 : ¬ (3 * 1 > 2 ^ 24) := by omega
  have h1 : ¬ (3 * 1 = 0) := by omega
  simp only [Instr.buildSlice, Sem.run_bind, run_underlying ht, Result.andThen_ok, hs]
  rw [if_neg h0, if_neg h1]
  simp only [Sem.run_bind, hz, Result.andThen_ok, Sem.run_pure, hzz, hf]
  simp [newRow]
theorem exec_bs3 {o : Oper} {a : Act} (x y z : Operand) (ho : o.op = .buildSlice 63 3 #[(0, x), (1, y), (2, z)]) (va vb' vc : Value) (hx : a.eval x = va) (hy : a.eval y = vb') (hz : a.eval z = vc) (ha : va.cells = #[va]) (hb : vb'.cells = #[vb']) (hc : vc.cells = #[vc]) (w : World) :
    (execOp a.eval o).run Try.prog w = .ok (.value (.slice (some ⟨w.heap.size, 0, none⟩) 3 3)) (w.alloc (.cells #[va, vb', vc] 28)) := by
  have h := run_bs3 va vb' vc ha hb hc w
  unfold execOp
  simp [ho, hx, hy, hz, h]
set_option maxRecDepth 100000 in
set_option maxHeartbeats 1000000 in
theorem text_any (F : Nat → Prop) (tb : Nat) (s : STab) (p q : ByteArray) (w : World) (hT : TabAt w F tb s) (hp : p.size ≤ 1000000) (hq : q.size ≤ 1000000) (hn : s.keys.length < 1000000) :
    Calls Try.prog 29 #[.pointer (some ⟨tb, 0, none⟩), .string p, .string q] w (TPost w F tb (s.made (textF p q)) (.agg (vb (mkB 107 (s.num (textF p q)))).toArray)) := by
  have HT := Hd.mk hT
  have HM := Hd.mk (fun W (h : TabAt W F tb s) => made_any F tb s (textF p q) W h rfl hn)
  have Hlt := Hd.mk hT.lt
  have Hn := Hd.mk hn
  clear hT hn
  go_enter Try.func29, Try.ntmps29
  go_upto_region 1 with (fail)
  rw [z16_eq]
  have hb : Below w.heap.size w (w.alloc (.cells (vb zKey).toArray 42)) := (Below.refl _ _).alloc (Nat.le_refl _) _
  have hKr : Row (w.alloc (.cells (vb zKey).toArray 42)) w.heap.size 42 zKey := Row.new w 42 zKey
  generalize w.alloc (.cells (vb zKey).toArray 42) = w1 at *
  refine wp_region_lit ?_
  refine wl_val rfl (.pointer (some ⟨tb, 0, none⟩)) (rfl) ?_
  simp only [Act.put, List.setIfInBounds_toArray, List.set_cons_succ, List.set_cons_zero]
  refine wl_val rfl (.string p) (rfl) ?_
  simp only [Act.put, List.setIfInBounds_toArray, List.set_cons_succ, List.set_cons_zero]
  refine wl_val rfl (.int .i64 (p.size : Int)) (by simp [go_sem]) ?_
  simp only [Act.put, List.setIfInBounds_toArray, List.set_cons_succ, List.set_cons_zero]
  refine wl_val rfl (.int .u64 (p.size : Int)) (by have e := u64_of p.size (by omega); simp [go_sem, e]) ?_
  simp only [Act.put, List.setIfInBounds_toArray, List.set_cons_succ, List.set_cons_zero]
  refine wl_call rfl 72 _ _ rfl [.int .u64 (p.size : Int)] rfl (by kernel_rfl) (put_any p.size _) ?_
  rintro e w2 ⟨v1, rfl, ho1, hb2⟩
  refine ⟨_, rfl, ?_⟩
  have c2 := hb2
  simp only [Act.put, List.setIfInBounds_toArray, List.set_cons_succ, List.set_cons_zero]
  refine wl_val rfl (.string p) (rfl) ?_
  simp only [Act.put, List.setIfInBounds_toArray, List.set_cons_succ, List.set_cons_zero]
  refine wl_conv_sb rfl (.tmp 12) rfl p rfl (by unfold maxLen; omega) ?_
  intro v2 w3 hs2 hb3
  have c3 := c2.trans (hb3.mono c2.size)
  simp only [Act.put, List.setIfInBounds_toArray, List.set_cons_succ, List.set_cons_zero]
  refine wl_val rfl (.string q) (rfl) ?_
  simp only [Act.put, List.setIfInBounds_toArray, List.set_cons_succ, List.set_cons_zero]
  refine wl_conv_sb rfl (.tmp 14) rfl q rfl (by unfold maxLen; omega) ?_
  intro v3 w4 hs3 hb4
  have c4 := c3.trans (hb4.mono c3.size)
  have hsa := (ho1.sb.below hb3).below hb4
  have hsb := hs2.below hb4
  simp only [Act.put, List.setIfInBounds_toArray, List.set_cons_succ, List.set_cons_zero]
  refine wl_run rfl (.slice (some ⟨w4.heap.size, 0, none⟩) 3 3) (show _ = Result.ok _ (w4.alloc (.cells #[v1, v2, v3] 28)) from exec_bs3 (.tmp 11) (.tmp 13) (.tmp 15) (by rfl) v1 v2 v3 (by rfl) (by rfl) (by rfl) hsa.isSlice hsb.isSlice hs3.isSlice _) ?_
  simp only [Act.put, List.setIfInBounds_toArray, List.set_cons_succ, List.set_cons_zero]
  have hSS := SS.three w4 v1 v2 v3 _ _ _ hsa hsb hs3
  have c5 := c4.alloc c4.size (.cells #[v1, v2, v3] 28)
  have hfl : ([put8 p.size, p.data.toList, q.data.toList] : List Bytes).flatten = put8 p.size ++ p.data.toList ++ q.data.toList := by simp
  have hll : (put8 p.size ++ p.data.toList ++ q.data.toList).length ≤ 140737488355328 := by
    rw [List.length_append, List.length_append, put8_len]
    have e1 : p.data.toList.length = p.size := by simp
    have e2 : q.data.toList.length = q.size := by simp
    omega
  have hj := joined_any _ _ _ hSS (by rw [hfl]; exact hll)
  rw [hfl] at hj
  generalize w4.alloc (.cells #[v1, v2, v3] 28) = w5 at *
  refine wl_call rfl 57 _ _ rfl [.slice (some ⟨w4.heap.size, 0, none⟩) 3 3] rfl (by kernel_rfl) (hj) ?_
  rintro e w6 ⟨v6, rfl, ho6, hb6⟩
  refine ⟨_, rfl, ?_⟩
  have c6 := c5.trans (hb6.mono c5.size)
  have hB6 := hb.trans (c6.mono hb.size)
  simp only [Act.put, List.setIfInBounds_toArray, List.set_cons_succ, List.set_cons_zero]
  refine wl_val rfl (.string ⟨(put8 p.size ++ p.data.toList ++ q.data.toList).toArray⟩) (exec_sb_conv (.tmp 17) (by rfl) v6 _ (by rfl) ho6.sb) ?_
  simp only [Act.put, List.setIfInBounds_toArray, List.set_cons_succ, List.set_cons_zero]
  refine wl_val rfl (.agg (fromCells (textF p q)).toArray) (exec_build_text (.tmp 18) _ (by rfl) ⟨(put8 p.size ++ p.data.toList ++ q.data.toList).toArray⟩ (by rfl) (by rfl) _) ?_
  simp only [Act.put, List.setIfInBounds_toArray, List.set_cons_succ, List.set_cons_zero]
  refine wl_call rfl 71 _ _ rfl [.pointer (some ⟨tb, 0, none⟩), .agg (fromCells (textF p q)).toArray] rfl (by kernel_rfl) (HM.out _ (HT.out.below hB6)) ?_
  rintro e w7 ⟨rfl, F2, hT2, hF1, hF2, hf2⟩
  refine ⟨_, rfl, ?_⟩
  have hK6 : Row w6 w.heap.size 42 zKey := hKr.below c6 hKr.lt
  have hK7 : Row w7 w.heap.size 42 zKey := (hf2.block _ hK6.lt (fun h => by have := Hlt.out _ h; omega)).trans hK6
  have hKl := hK6.lt
  have HK7 := Hd.mk hK7
  clear hK7 hK6 hKr
  simp only [Act.put, List.setIfInBounds_toArray, List.set_cons_succ, List.set_cons_zero]
  go_wp2_with (refine wl_storeW rfl 42 _ _ rfl w.heap.size 0 (vb (mkB 107 (s.num (textF p q)))) rfl rfl 42 _ (vb (mkB 107 (s.num (textF p q)))) HK7.out (by simp [zKey, mkB_len]) i42 (vb_ones _) (by simp [zKey, mkB_len]) ?_; intro w8 hr8 hg8 hs8)
  refine bodyPost_ret (results_cell_row (p := 6) (ty := 42) rfl _ _ w.heap.size 42 (vb (mkB 107 (s.num (textF p q)))).toArray (0, 0) _ rfl hr8 ty42 rfl (by rw [i42]; rfl)) rfl ?_
  exact ⟨rfl, TPost.key (_l := []) hB6 Hlt.out (Nat.le_refl _) hKl hT2 hF1 hF2 hf2 hg8 ⟨_, _, hr8⟩⟩
end Go.Proofs.Ytjjcnijdjhhdoaa
end
/-! The walks of octet.at and octet.Equal. -/
section
namespace Go.Proofs.Ytjjcnijdjhhdoaa
open Go.RowKit Go.QT
attribute [local go_sem] bits_xor8 bits_or8 bits_and8
theorem gb_out (l : Bytes) (i : Nat) (h : l.length ≤ i) : gb l i = 0 := by simp [gb, h]
set_option maxRecDepth 100000 in
set_option maxHeartbeats 400000 in
theorem at_any (v : Value) (l : Bytes) (i : Nat) (x : Int) (hx : x = (i : Int)) (_hi : i < 9223372036854775808) (w : World) (hv : SB w v l) : Calls Try.prog 84 #[v, .int .i64 x] w (VPost w (.int .u8 (ub (gb l i)))) := by
  subst hx
  obtain ⟨A, c, hve, hc1, hc2⟩ := sb_form hv
  by_cases h : i < l.length
  · obtain ⟨b, o, c', e, _, _, hb, hcell⟩ := hv.open_ (by rintro rfl; simp at h)
    subst hve
    injection e with e1 e2 e3
    subst e1
    have hd : decide ((i : Int) < l.length) = true := by simp; omega
    have x0 := hcell i h
    clear hcell hv e2 e3
    go_enter Try.func84, Try.ntmps84
    go_wp2
    go_ret
    exact ⟨rfl, rfl⟩
  · have hz := Hd.mk (gb_out l i (by omega))
    subst hve
    have hd : decide ((i : Int) < l.length) = false := by simp; omega
    clear hv
    go_enter Try.func84, Try.ntmps84
    go_wp2
    go_ret
    refine ⟨?_, rfl⟩
    rw [hz.out]; simp [ub]
def eqTo (a b : Bytes) : Nat → UInt8
  | 0 => 0
  | k+1 => eqTo a b k ||| (gb a k ^^^ gb b k)
theorem or0 (x y : UInt8) : x ||| y = 0 ↔ x = 0 ∧ y = 0 := by
  constructor
  · intro h
    have h1 : x.toNat ||| y.toNat = 0 := by have := congrArg UInt8.toNat h; simpa using this
    have h2 := Nat.or_eq_zero_iff.1 h1
    exact ⟨UInt8.toNat_inj.1 (by simpa using h2.1), UInt8.toNat_inj.1 (by simpa using h2.2)⟩
  · rintro ⟨rfl, rfl⟩; rfl
theorem xor0 (x y : UInt8) : x ^^^ y = 0 ↔ x = y := by
  constructor
  · intro h
    have : (x ^^^ y) ^^^ y = 0 ^^^ y := by rw [h]
    rwa [UInt8.xor_assoc, UInt8.xor_self, UInt8.xor_zero, UInt8.zero_xor] at this
  · rintro rfl; exact UInt8.xor_self
theorem eqTo_zero (a b : Bytes) (k : Nat) : eqTo a b k = 0 ↔ ∀ j, j < k → gb a j = gb b j := by
  induction k with
  | zero => simp [eqTo]
  | succ k ih =>
    rw [eqTo, or0, xor0, ih]
    constructor
    · rintro ⟨h1, h2⟩ j hj
      by_cases e : j = k
      · subst e; exact h2
      · exact h1 j (by omega)
    · intro h
      exact ⟨fun j hj => h j (by omega), h k (by omega)⟩
theorem equal_fin (a b : Bytes) (k : Nat) (hk : k = max a.length b.length) : (decide (eqTo a b k = 0) && decide (a.length = b.length)) = decide (a = b) := by
  rw [Bool.eq_iff_iff]
  simp only [Bool.and_eq_true, decide_eq_true_eq, eqTo_zero]
  constructor
  · rintro ⟨h1, h2⟩
    exact same_eq a b h2 fun j hj => h1 j (by omega)
  · rintro rfl; exact ⟨fun _ _ => rfl, rfl⟩
set_option maxRecDepth 100000 in
set_option maxHeartbeats 1000000 in
theorem equal_any (va vb' : Value) (a b : Bytes) (w : World) (ha : SB w va a) (hb : SB w vb' b) : Calls Try.prog 76 #[va, vb'] w (VPost w (.bool (decide (a = b)))) := by
  obtain ⟨A, c, rfl, hc1, hc2⟩ := sb_form ha
  obtain ⟨B, d, rfl, hd1, hd2⟩ := sb_form hb
  have Ha := Hd.mk ha
  have Hb := Hd.mk hb
  clear ha hb
  obtain ⟨M, hM, hM2⟩ : ∃ M : Nat, M = max a.length b.length ∧ (max (a.length : Int) (b.length : Int)) = (M : Int) := ⟨_, rfl, by omega⟩
  have Hfin := Hd.mk (equal_fin a b M hM)
  have HM : a.length ≤ M ∧ b.length ≤ M ∧ M ≤ 9223372036854775807 := by omega
  clear hM
  obtain ⟨hM1, hM3, hM4⟩ := HM
  have hmax : ∀ (O : Oper) (Ac : Act), O.op = .call { callee := .builtin .max, args := #[.tmp 8, .tmp 10], argTypes := #[3, 3] } → Ac.eval (.tmp 8) = .int .i64 (a.length : Int) → Ac.eval (.tmp 10) = .int .i64 (b.length : Int) → ∀ W, (execOp Ac.eval O).run Try.prog W = .ok (.value (.int .i64 (M : Int))) W := fun O Ac h1 h2 h3 W => by
    rw [← hM2]
    unfold execOp
    simp only [h1, resolve, invoke, builtin, Sem.run_bind, Sem.run_pure, Result.andThen_ok, List.map_toArray, List.map_cons, List.map_nil, h2, h3]
    have e : (if (b.length : Int) > (a.length : Int) then (b.length : Int) else (a.length : Int)) = max (a.length : Int) (b.length : Int) := by
      split <;> omega
    have hm : (Builtin.max_ #[3, 3] O.type #[.int .i64 (a.length : Int), .int .i64 (b.length : Int)]).run Try.prog W = .ok (.int .i64 (max (a.length : Int) (b.length : Int))) W := by
      rw [← e]; simp [Builtin.max_, Builtin.max2]
    simp only [hm, Result.andThen_ok]
  have Hmax := Hd.mk hmax
  clear hmax
  go_enter Try.func76, Try.ntmps76
  go_upto_region 2 with (fail)
  refine wp_region_lit ?_
  refine wl_val rfl (.slice A a.length c) (rfl) ?_
  simp only [Act.put, List.setIfInBounds_toArray, List.set_cons_succ, List.set_cons_zero]
  refine wl_val rfl (.int .i64 (a.length : Int)) (by simp [go_sem]) ?_
  simp only [Act.put, List.setIfInBounds_toArray, List.set_cons_succ, List.set_cons_zero]
  refine wl_val rfl (.slice B b.length d) (rfl) ?_
  simp only [Act.put, List.setIfInBounds_toArray, List.set_cons_succ, List.set_cons_zero]
  refine wl_val rfl (.int .i64 (b.length : Int)) (by simp [go_sem]) ?_
  simp only [Act.put, List.setIfInBounds_toArray, List.set_cons_succ, List.set_cons_zero]
  refine wl_val rfl (.int .i64 (M : Int)) (Hmax.out _ _ rfl rfl rfl _) ?_
  simp only [Act.put, List.setIfInBounds_toArray, List.set_cons_succ, List.set_cons_zero]
  go_wp2
  go_loop [5, 12] (fun x i => ∃ k : Nat, k ≤ M ∧ i = .int .i64 (k : Int) ∧ x = .int .u8 (ub (eqTo a b k))) (fun _ i => M - (intOf i).toNat)
  case atStart => exact ⟨0, by omega, rfl, by simp [eqTo, ub]⟩
  case round =>
    obtain ⟨k, hk, rfl, rfl⟩ := hrel
    by_cases hlt : k < M
    · have hd : decide ((k : Int) < M) = true := by simp; omega
      have Hs : Hd (eqTo a b (k+1) = eqTo a b k ||| (gb a k ^^^ gb b k)) := ⟨rfl⟩
      have A1 := Hd.mk (at_any _ a k (k : Int) rfl (by omega) w Ha.out)
      have A2 := Hd.mk (at_any _ b k (k : Int) rfl (by omega) w Hb.out)
      generalize eqTo a b k = D at *
      go_wp2_with (go_at_call 84; (first | (with_reducible refine A1.out.mono ?_) | (with_reducible refine A2.out.mono ?_)); rintro e w' ⟨rfl, rfl⟩)
      refine ⟨⟨k + 1, by omega, by go_num, by rw [Hs.out]⟩, by simp [intOf]; omega⟩
    · have hkM : k = M := by omega
      have hd : decide ((k : Int) < M) = false := by simp; omega
      subst hkM
      have hz : (ub (eqTo a b k) == 0) = decide (eqTo a b k = 0) := by
        have : ub 0 = 0 := by simp [ub]
        rw [← this, ub_beq]; rfl
      have hl : (((a.length : Nat) : Int) == ((b.length : Nat) : Int)) = decide (a.length = b.length) := by
        rw [Bool.eq_iff_iff, beq_iff_eq, decide_eq_true_eq]; omega
      generalize hD : decide (eqTo a b k = 0) = D at *
      cases D with
      | true =>
        generalize hL : decide (a.length = b.length) = L at *
        have HL := Hd.mk hL
        have HD := Hd.mk hD
        clear hL hD
        go_wp2
        go_ret
        refine ⟨?_, rfl⟩
        rw [← Hfin.out]; simp
      | false =>
        have HD := Hd.mk hD
        clear hD hl
        go_wp2
        go_ret
        refine ⟨?_, rfl⟩
        rw [← Hfin.out]; simp
end Go.Proofs.Ytjjcnijdjhhdoaa
end
/-! The walks of the closure in Digest, and of slices.IndexFunc with it. -/
section
namespace Go.Proofs.Ytjjcnijdjhhdoaa
open Go.RowKit Go.QT
set_option maxRecDepth 100000 in
theorem digest1_any (u : Value) (m : Bytes) (cb : Nat) (bv : Value) (b : Bytes) (w : World) (hu : SB w u m) (hc : w.cell? ⟨cb, 0, none⟩ = some bv) (hb : SB w bv b) : Calls Try.prog 75 #[u, .pointer (some ⟨cb, 0, none⟩)] w (VPost w (.bool (decide (m = b)))) := by
  have HE := Hd.mk (equal_any u bv m b w hu hb)
  clear hu hb
  go_enter Try.func75, Try.ntmps75
  go_wp2_with (go_at_call 76; refine HE.out.mono ?_; rintro e w' ⟨rfl, rfl⟩)
  go_ret
  exact ⟨rfl, rfl⟩
/-- Where a row stands first; -1: nowhere. -/
def idxR (b : Bytes) (ls : List Bytes) : Int := if ls.findIdx (· = b) < ls.length then (ls.findIdx (· = b) : Nat) else -1
theorem idxR_hit (b : Bytes) (ls : List Bytes) (k : Nat) (hk : k < ls.length) (hn : ∀ j, j < k → ls.getD j [] ≠ b) (he : ls.getD k [] = b) : idxR b ls = (k : Nat) := by
  have hg : ∀ j (hj : j < ls.length), ls.getD j [] = ls[j] := fun j hj => by simp [List.getD, List.getElem?_eq_getElem hj]
  have h : ls.findIdx (· = b) = k := by
    rw [List.findIdx_eq hk]
    have he' := he
    rw [hg k hk] at he'
    refine ⟨by simpa using he', fun j hj => ?_⟩
    have := hn j hj
    rw [hg j (by omega)] at this
    simpa using this
  rw [idxR, h, if_pos hk]
theorem idxR_miss (b : Bytes) (ls : List Bytes) (hn : ∀ j, j < ls.length → ls.getD j [] ≠ b) : idxR b ls = -1 := by
  have hg : ∀ j (hj : j < ls.length), ls.getD j [] = ls[j] := fun j hj => by simp [List.getD, List.getElem?_eq_getElem hj]
  have h : ls.findIdx (· = b) = ls.length := by
    rw [List.findIdx_eq_length]
    intro x hx
    obtain ⟨j, hj, rfl⟩ := List.getElem_of_mem hx
    have := hn j hj
    rw [hg j hj] at this
    simpa using this
  rw [idxR, h, if_neg (by omega)]
set_option maxRecDepth 100000 in
set_option maxHeartbeats 1000000 in
theorem indexfunc_any (v : Value) (ls : List Bytes) (cb : Nat) (bv : Value) (b : Bytes) (w : World) (hv : SS w v ls) (hc : w.cell? ⟨cb, 0, none⟩ = some bv) (hb : SB w bv b) :
    Calls Try.prog 74 #[v, .func (.func 75) #[] #[.pointer (some ⟨cb, 0, none⟩)]] w (VPost w (.int .i64 (idxR b ls))) := by
  obtain ⟨A, c, rfl, hc1, hc2, hcell⟩ := hv
  unfold maxLen at hc2
  have Hcell := Hd.mk hcell
  have Hhit := Hd.mk (idxR_hit b ls)
  have Hmiss := Hd.mk (idxR_miss b ls)
  have HD := Hd.mk (fun u m (hu : SB w u m) => digest1_any u m cb bv b w hu hc hb)
  clear hcell hc hb
  go_enter Try.func74, Try.ntmps74
  go_wp2
  go_loop [8] (fun i => ∃ k : Nat, k ≤ ls.length ∧ i = .int .i64 (k : Int) ∧ Hd (∀ j, j < k → ls.getD j [] ≠ b)) (fun i => ls.length - (intOf i).toNat)
  case atStart => exact ⟨0, by omega, rfl, ⟨fun i hi => absurd hi (by omega)⟩⟩
  case round =>
    obtain ⟨k, hk, rfl, hno⟩ := hrel
    by_cases hlt : k < ls.length
    · obtain ⟨bb, o, u, hA, hbl, hx, hs⟩ := Hcell.out k hlt
      subst hA
      have HC := Hd.mk (HD.out u _ hs)
      clear hs hbl
      by_cases he : ls.getD k [] = b
      · have Hr := Hd.mk (Hhit.out k hlt hno.out he)
        rw [decide_eq_true he] at HC
        clear he Hcell Hhit Hmiss
        go_wp2_with (go_at_call 75; refine HC.out.mono ?_; rintro e w' ⟨rfl, rfl⟩)
        go_ret
        exact ⟨by rw [Hr.out]; rfl, rfl⟩
      · have hno2 : Hd (∀ j, j < k + 1 → ls.getD j [] ≠ b) := ⟨fun j hj => by
          by_cases hjk : j = k
          · subst hjk; exact he
          · exact hno.out j (by omega)⟩
        rw [decide_eq_false he] at HC
        clear he
        go_wp2_with (go_at_call 75; refine HC.out.mono ?_; rintro e w' ⟨rfl, rfl⟩)
        refine ⟨⟨k + 1, by omega, by go_num, hno2⟩, by simp [intOf]; omega⟩
    · have hk2 : k = ls.length := by omega
      rw [hk2] at hno
      have Hr := Hd.mk (Hmiss.out hno.out)
      clear hk2
      go_wp2
      go_ret
      exact ⟨by rw [Hr.out]; rfl, rfl⟩
end Go.Proofs.Ytjjcnijdjhhdoaa
end
