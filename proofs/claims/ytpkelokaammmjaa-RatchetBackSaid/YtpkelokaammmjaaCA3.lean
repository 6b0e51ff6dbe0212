/- The walks of the small methods of sym.Table: Nth, Keys, Boxes, Fresh. (Texts laid one behind the other: Add, MapK, MapL, Hp, WG, Sx, MapB, Simple.) -/
import Derived.Laws.Rows
import Derived.Test.YtpkelokaammmjaaCA2
/-! The walk of (sym.Table).add. -/
section
namespace Go.Proofs.Ytpkelokaammmjaa
open Go.RowKit Go.QT
theorem ty70 : Try.prog.underlying 58 = some (.struct (Try.prog.fieldsOf 58)) := by kernel_rfl
theorem i70 : (Try.prog.info? 58).map (·.size) = some 18 := by kernel_rfl
theorem tyfs : Try.prog.underlying 48 = some (.slice 58) := by kernel_rfl
theorem ifs : (Try.prog.info? 58).map (fun i => (i.zero, i.size, i.bytes)) = some (some (.agg (fromCells SFrom.fresh).toArray), 18, 40) := by kernel_rfl
theorem zfs (W : World) : (zeroValue 58).run Try.prog W = .ok (.agg (fromCells SFrom.fresh).toArray) W := by kernel_rfl
theorem agg121 (W : World) : (isAgg 48).run Try.prog W = .ok false W := by kernel_rfl
theorem i121 : (Try.prog.info? 48).map (·.size) = some 1 := by kernel_rfl
/-- The table behind an 'add'. -/
theorem TabR.added {w w' : World} {F : Nat → Prop} {tb mb : Nat} {vk vx vs v' : Value} {bodies sums : List Value} {es : Array MapEntry} {clock : Nat} {s : STab} {f : SFrom} (h : TabR w F tb mb vk vx vs bodies sums es clock s) (hf : f.of.length = 16)
    (hv : OV w' 0 58 18 v' (s.keys.map fromCells ++ [fromCells f])) (hg : w.grownBy w' vk.ownBlock) :
    TabR (w'.setCell ⟨tb, 0, none⟩ v') (fun q => F q ∨ v'.ownBlock = some q) tb mb v' vx vs bodies sums es clock (s.add f) := by
  have hs : w.heap.size ≤ w'.heap.size := hg.size
  have e0 : ∀ q, some q ≠ vk.ownBlock → q ≠ tb → q < w.heap.size → (w'.setCell ⟨tb, 0, none⟩ v').heap[q]? = w.heap[q]? := fun q h1 h2 h3 =>
    (Below.heap_setCell w' ⟨tb, 0, none⟩ v' q h2).trans (hg.block q h3 h1)
  have hvl : ∀ q, v'.ownBlock = some q → q < w'.heap.size := fun q hq => (hv.block q hq).2
  refine { t := ?_, k := ?_, kl := ?_, x := ?_, xn := h.xn, xl := h.xl, xb := ?_, u := ?_, un := h.un, ub := ?_, m := ?_, me := h.me, ml := h.ml, ft := .inl h.ft, fm := .inl h.fm, fk := fun q hq => .inr hq, fx := fun q hq => .inl (h.fx q hq), fu := fun q hq => .inl (h.fu q hq), fl := ?_ }
  · have h1 : Blk w' tb 51 [vk, vx, vs, .map (some mb)] := h.t.grown hg (fun e => own_ne h.k.own h.t (by decide) tb e.symm rfl)
    exact h1.set 0 v'
  · have h2 : OV w' 0 58 18 v' ((s.add f).keys.map fromCells) := by
      simp only [STab.add, List.map_append, List.map_cons, List.map_nil]; exact hv
    refine h2.far (fun q hq e => ?_) _
    have h1 : Blk w' tb 51 [vk, vx, vs, .map (some mb)] := h.t.grown hg (fun e => own_ne h.k.own h.t (by decide) tb e.symm rfl)
    exact own_ne hv.own h1 (by decide) q hq e
  · intro g hg'
    simp only [STab.add, List.mem_append, List.mem_singleton] at hg'
    rcases hg' with hg' | rfl
    · exact h.kl g hg'
    · exact hf
  · exact h.x.keep fun q hq => e0 q (fun e => own_disj h.x.own h.k.own (by decide) q hq e.symm) (own_ne h.x.own h.t (by decide) q hq) (h.x.block q hq).2
  · intro i b v h1 h2
    obtain ⟨a1, a2, a3⟩ := h.xb i b v h1 h2
    exact ⟨OB.keep a1 fun q hq => e0 q (fun e => own_disj a1 h.k.own (by decide) q hq e.symm) (own_ne a1 h.t (by decide) q hq) (OB.own a1 q hq).2, fun q hq => .inl (a2 q hq), a3⟩
  · exact h.u.keep fun q hq => e0 q (fun e => own_disj h.u.own h.k.own (by decide) q hq e.symm) (own_ne h.u.own h.t (by decide) q hq) (h.u.block q hq).2
  · intro i b v h1 h2
    obtain ⟨a1, a2, a3⟩ := h.ub i b v h1 h2
    exact ⟨OB.keep a1 fun q hq => e0 q (fun e => own_disj a1 h.k.own (by decide) q hq e.symm) (own_ne a1 h.t (by decide) q hq) (OB.own a1 q hq).2, fun q hq => .inl (a2 q hq), a3⟩
  · have hml : mb < w.heap.size := h.fl mb h.fm
    exact (e0 mb (fun e => own_ne_map h.k.own h.m mb e.symm rfl) (fun e => blk_ne_map h.t h.m e.symm) hml).trans h.m
  · intro q hq
    have : (w'.setCell ⟨tb, 0, none⟩ v').heap.size = w'.heap.size := by simp [World.setCell]
    rcases hq with hq | hq
    · have := h.fl q hq; omega
    · have := hvl q hq; omega
set_option maxRecDepth 100000 in
set_option maxHeartbeats 1000000 in
theorem add_any (F : Nat → Prop) (tb : Nat) (s : STab) (f : SFrom) (w : World) (hT : TabAt w F tb s) (hf : f.of.length = 16) (hn : s.keys.length < 1000000) :
    Calls Try.prog 21 #[.pointer (some ⟨tb, 0, none⟩), .agg (fromCells f).toArray] w (TPost w F tb (s.add f) (.agg (vb (mkB 107 (s.keys.length + 1))).toArray)) := by
  obtain ⟨mb, vk, vx, vs, bodies, sums, es, clock, hR⟩ := hT
  have HR := Hd.mk hR
  have hfl := fromCells_len f hf
  have Hfl := Hd.mk hfl
  have Hf := Hd.mk hf
  have htb := hR.fl tb hR.ft
  clear hR hfl hf
  go_enter Try.func21, Try.ntmps21
  go_upto_region 1 with (fail)
  rw [z16_eq]
  have hb : Below w.heap.size w ((w.alloc (.cells (fromCells f).toArray 58)).alloc (.cells (vb zKey).toArray 28)) := ((Below.refl _ _).alloc (Nat.le_refl _) _).alloc (by simp) _
  have hFr : Blk ((w.alloc (.cells (fromCells f).toArray 58)).alloc (.cells (vb zKey).toArray 28)) w.heap.size 58 (fromCells f) := Blk.alloc (Blk.new w 58 (fromCells f)) _
  have hKr : Row ((w.alloc (.cells (fromCells f).toArray 58)).alloc (.cells (vb zKey).toArray 28)) (w.heap.size + 1) 28 zKey := new2 w _ 28 _
  generalize (w.alloc (.cells (fromCells f).toArray 58)).alloc (.cells (vb zKey).toArray 28) = w1 at *
  have hT1 := HR.out.keep hb.size (fun q hq => hb.block q (HR.out.fl q hq))
  have HT1 := Hd.mk hT1
  have HB := Hd.mk hb
  have hlt1 := hKr.lt
  have HFr := Hd.mk hFr
  have HKr := Hd.mk hKr
  clear hT1 hb hFr hKr
  refine pH_begin (n := 11) 8 (fun W => W.cell? ⟨tb, 0, none⟩ = some vk ∧ Blk W w.heap.size 58 (fromCells f)) (by kernel_rfl) rfl ?_
  have hS : (w1.drewN 1).cell? ⟨tb, 0, none⟩ = some vk ∧ Blk (w1.drewN 1) w.heap.size 58 (fromCells f) := ⟨by have := HT1.out.t.cell 0; exact this, HFr.out⟩
  have HT1 : Hd (TabR (w1.drewN 1) F tb mb vk vx vs bodies sums es clock s) := ⟨HT1.out.keep (Nat.le_refl _) (fun _ _ => rfl)⟩
  have HB : Hd (Below w.heap.size w (w1.drewN 1)) := ⟨below_drewN HB.out 1⟩
  have HKr : Hd (Row (w1.drewN 1) (w.heap.size + 1) 28 zKey) := ⟨HKr.out.drewN 1⟩
  have hlt1 : w.heap.size + 1 < (w1.drewN 1).heap.size := hlt1
  generalize w1.drewN 1 = w2 at *
  refine pH_val (i := 0) (some 5) (.pointer (some ⟨tb, 0, none⟩)) rfl rfl (by kernel_rfl) (by kernel_rfl) (by kernel_rfl) (by kernel_rfl) (by kernel_rfl) (fun _ d _ _ _ h => by cases d <;> exact h) (by kernel_rfl) hS (fun _ _ => rfl) ?_
  simp only [Act.put, List.setIfInBounds_toArray, List.set_cons_succ, List.set_cons_zero]
  refine pH_val (i := 1) (some 6) (.pointer (some ⟨tb, 0, none⟩)) rfl rfl (by kernel_rfl) (by kernel_rfl) (by kernel_rfl) (by kernel_rfl) (by kernel_rfl) (fun _ d _ _ _ h => by cases d <;> exact h) (by kernel_rfl) hS (fun _ _ => rfl) ?_
  simp only [Act.put, List.setIfInBounds_toArray, List.set_cons_succ, List.set_cons_zero]
  refine pH_val (i := 2) (some 7) (.pointer (some ⟨tb, 0, none⟩)) rfl rfl (by kernel_rfl) (by kernel_rfl) (by kernel_rfl) (by kernel_rfl) (by kernel_rfl) (fun _ d _ _ _ h => by cases d <;> exact h) (by kernel_rfl) hS (by intro W _; simp [go_sem]) ?_
  simp only [Act.put, List.setIfInBounds_toArray, List.set_cons_succ, List.set_cons_zero]
  refine pH_val (i := 3) (some 8) (.pointer (some ⟨tb, 0, none⟩)) rfl rfl (by kernel_rfl) (by kernel_rfl) (by kernel_rfl) (by kernel_rfl) (by kernel_rfl) (fun _ d _ _ _ h => by cases d <;> exact h) (by kernel_rfl) hS (by intro W _; simp [go_sem]) ?_
  simp only [Act.put, List.setIfInBounds_toArray, List.set_cons_succ, List.set_cons_zero]
  refine pH_val (i := 4) (some 9) (vk) rfl rfl (by kernel_rfl) (by kernel_rfl) (by kernel_rfl) (by kernel_rfl) (by kernel_rfl) (fun _ d _ _ _ h => by cases d <;> exact h) (by kernel_rfl) hS (fun W h => exec_cell _ _ (by rfl) ⟨tb, 0, none⟩ _ (by rfl) (agg121 W) h.1) ?_
  simp only [Act.put, List.setIfInBounds_toArray, List.set_cons_succ, List.set_cons_zero]
  refine pH_val (i := 5) (some 10) (.agg (fromCells f).toArray) rfl rfl (by kernel_rfl) (by kernel_rfl) (by kernel_rfl) (by kernel_rfl) (by kernel_rfl) (fun _ d _ _ _ h => by cases d <;> exact h) (by kernel_rfl) hS (fun W h => exec_load 58 _ (by rfl) w.heap.size 0 (by rfl) 58 (fromCells f) (fromCells f) _ h.2 (by simp) ty70 rfl (by rw [Hfl.out]; exact i70)) ?_
  simp only [Act.put, List.setIfInBounds_toArray, List.set_cons_succ, List.set_cons_zero]
  have hS3 : (w2.alloc (.cells (fromCells f).toArray 58)).cell? ⟨tb, 0, none⟩ = some vk ∧ Blk (w2.alloc (.cells (fromCells f).toArray 58)) w.heap.size 58 (fromCells f) := ⟨(World.cell?_alloc_lt w2 _ ⟨tb, 0, none⟩ (by show tb < _; omega)).trans hS.1, hS.2.alloc _⟩
  refine pH_run (i := 6) (some 11) (.slice (some ⟨w2.heap.size, 0, none⟩) 1 1) rfl rfl (by kernel_rfl) (by kernel_rfl) (show _ = Result.ok _ (w2.alloc (.cells (fromCells f).toArray 58)) from exec_bs1 48 58 _ (by rfl) (.agg (fromCells f).toArray) (.agg (fromCells SFrom.fresh).toArray) 18 (by rfl) tyfs i70 zfs (by omega) (by omega) rfl (by simp [Value.cells, Hfl.out]) _) (fun _ => hS3) ?_
  simp only [Act.put, List.setIfInBounds_toArray, List.set_cons_succ, List.set_cons_zero]
  refine pH_pushV (i := 7) (some 12) rfl rfl (by kernel_rfl) (by kernel_rfl) (.tmp 9) (.tmp 11) 48 rfl 0 58 18 40 (.agg (fromCells SFrom.fresh).toArray) tyfs ifs rfl (by omega) vk (s.keys.map fromCells) rfl (HT1.out.k.alloc _) w2.heap.size 58 (fromCells f) 1 rfl (Blk.new w2 58 (fromCells f)) Hfl.out (fromCells_one f) (by rw [List.length_map]; omega) (by rw [List.length_map]; unfold maxLen; omega) (by omega) ?_
  intro v' w3 hv3 hg3 hat3
  have hT2 := HT1.out.keep (w' := w2.alloc (.cells (fromCells f).toArray 58)) (by simp) (fun q hq => Below.heap_alloc w2 _ q (HT1.out.fl q hq))
  have hkb : ∀ q, vk.ownBlock = some q → q < w.heap.size := fun q hq => HR.out.fl q (HR.out.fk q hq)
  have hS4 : w3.cell? ⟨tb, 0, none⟩ = some vk ∧ Blk w3 w.heap.size 58 (fromCells f) := by
    refine ⟨?_, hS3.2.grown hg3 (fun e => by have := hkb _ e.symm; omega)⟩
    have := (hT2.t.grown hg3 (fun e => own_ne hT2.k.own hT2.t (by decide) tb e.symm rfl)).cell 0
    exact this
  have HK3 : Hd (Row w3 (w.heap.size + 1) 28 zKey) := ⟨(HKr.out.alloc _).grown' hg3 (fun e => by have := hkb _ e.symm; omega)⟩
  have hT3 := TabR.added hT2 Hf.out hv3 hg3
  have hFr3 : Fr F w w3 := (((Fr.of_below F HB.out).then_below ((Below.refl _ _).alloc (Nat.le_refl _) _)).then_grown hg3 (fun q hq => .inl (HR.out.fk q hq)))
  have ht3 := hT2.t.grown hg3 (fun e => own_ne hT2.k.own hT2.t (by decide) tb e.symm rfl)
  have HT3 := Hd.mk hT3
  have Ht3 := Hd.mk ht3
  have hsz3 := HB.out.size
  have hsz4 := hg3.size
  simp only [World.size_alloc] at hsz4
  clear hT2 hT3 ht3 hg3 hv3
  refine ⟨(fun _ => hS4), ?_⟩
  simp only [Act.put, List.setIfInBounds_toArray, List.set_cons_succ, List.set_cons_zero]
  refine pH_run (i := 8) (some 13) (.pointer (some ⟨tb, 0, none⟩)) rfl rfl (by kernel_rfl) (by kernel_rfl) (show _ = Result.ok _ w3 by simp [go_sem]) (fun h => absurd h (by omega)) ?_
  simp only [Act.put, List.setIfInBounds_toArray, List.set_cons_succ, List.set_cons_zero]
  refine pH_run (i := 9) (some 14) (.pointer (some ⟨tb, 0, none⟩)) rfl rfl (by kernel_rfl) (by kernel_rfl) (show _ = Result.ok _ w3 by simp [go_sem]) (fun h => absurd h (by omega)) ?_
  simp only [Act.put, List.setIfInBounds_toArray, List.set_cons_succ, List.set_cons_zero]
  refine pH_runs (i := 10) none rfl rfl (by kernel_rfl) (by kernel_rfl) (exec_storeCell 48 _ _ (by rfl) tb 0 v' (by rfl) (by rfl) 51 _ Ht3.out (by simp) i121 (by obtain ⟨A, c, e, _⟩ := HT3.out.k.form; rw [e]; rfl) (by obtain ⟨A, c, e, _⟩ := HT3.out.k.form; rw [e]; rfl)) (fun h => absurd h (by omega)) ?_
  simp only [Act.put]
  refine pH_done (by kernel_rfl) ?_ _
  go_upto_region 2 with (fail)
  have hFr4 : Fr F w (w3.setCell ⟨tb, 0, none⟩ v') := ⟨hFr3.os, hFr3.tape, hFr3.output, by simpa [World.setCell] using hFr3.size, fun q hq hF => (Below.heap_setCell w3 ⟨tb, 0, none⟩ v' q (fun e => hF (e ▸ HR.out.ft))).trans (hFr3.block q hq hF)⟩
  have HK4 : Hd (Row (w3.setCell ⟨tb, 0, none⟩ v') (w.heap.size + 1) 28 zKey) := ⟨HK3.out.far (by simp; omega) _⟩
  have hat : ∀ q, v'.ownBlock = some q → F q ∨ w.heap.size ≤ q := by
    intro q hq
    rcases hat3 with e | e
    · rw [e] at hq; exact .inl (HR.out.fk q hq)
    · rw [e] at hq; injection hq with hq; simp at hq; right; omega
  have hlt4 : w.heap.size + 1 < (w3.setCell ⟨tb, 0, none⟩ v').heap.size := by simp [World.setCell]; omega
  have Hat := Hd.mk hat
  have HFr4 := Hd.mk hFr4
  generalize w3.setCell ⟨tb, 0, none⟩ v' = w4 at *
  clear hat hFr4 hFr3 HK3 Ht3 hS hS3 hS4 hat3 HT1 HB HKr HFr hsz4
  obtain ⟨A, cp, hve, hcp, hcp2⟩ := HT3.out.k.form
  have hkl : ((s.add f).keys.map fromCells).length = s.keys.length + 1 := by simp [STab.add]
  rw [hkl] at hve hcp
  unfold maxLen at hcp2
  have x0 := HT3.out.t.cell 0
  rw [hve] at x0
  have x1 : w4.cell? ⟨tb, 0, none⟩ = some (.slice A (s.keys.length + 1) cp) := x0
  clear x0 hkl
  have hni : Value.int .i64 ((s.keys.length : Int) + 1) = .int .i64 ((s.keys.length + 1 : Nat) : Int) := by go_num
  have Hni := Hd.mk hni
  clear hni
  have ub107 : ub 107 = 107 := by simp [ub]
  have Hub := Hd.mk ub107
  clear ub107
  have H69 := Hd.mk (smark_any 107 (s.keys.length + 1) (by omega) w4)
  rw [Hub.out] at H69
  refine wp_region_lit ?_
  refine wl_val rfl (.pointer (some ⟨tb, 0, none⟩)) (rfl) ?_
  simp only [Act.put, List.setIfInBounds_toArray, List.set_cons_succ, List.set_cons_zero]
  refine wl_val rfl (.pointer (some ⟨tb, 0, none⟩)) (by simp [go_sem]) ?_
  simp only [Act.put, List.setIfInBounds_toArray, List.set_cons_succ, List.set_cons_zero]
  refine wl_val rfl (.pointer (some ⟨tb, 0, none⟩)) (by simp [go_sem]) ?_
  simp only [Act.put, List.setIfInBounds_toArray, List.set_cons_succ, List.set_cons_zero]
  refine wl_val rfl (.slice A (s.keys.length + 1) cp) (exec_cell _ _ (by rfl) ⟨tb, 0, none⟩ _ (by rfl) (agg121 _) x1) ?_
  simp only [Act.put, List.setIfInBounds_toArray, List.set_cons_succ, List.set_cons_zero]
  refine wl_val rfl (.int .i64 ((s.keys.length + 1 : Nat) : Int)) (by simp [go_sem]) ?_
  simp only [Act.put, List.setIfInBounds_toArray, List.set_cons_succ, List.set_cons_zero]
  refine wl_call rfl 23 _ _ rfl [.int .u8 107, .int .i64 ((s.keys.length + 1 : Nat) : Int)] rfl (by kernel_rfl) (H69.out) ?_
  rintro e w5 ⟨rfl, hb5⟩
  refine ⟨_, rfl, ?_⟩
  have HT5 := Hd.mk (TabR.keep HT3.out hb5.size (fun q hq => hb5.block q (HT3.out.fl q hq)))
  have HK5 := HK4.out.below hb5 HK4.out.lt
  have hFr5 := HFr4.out.then_below hb5
  simp only [Act.put, List.setIfInBounds_toArray, List.set_cons_succ, List.set_cons_zero]
  go_wp2_with (refine wl_storeW rfl 28 _ _ rfl (w.heap.size + 1) 0 (vb (mkB 107 (s.keys.length + 1))) rfl rfl 28 _ (vb (mkB 107 (s.keys.length + 1))) HK5 (by simp [zKey, mkB_len]) i42 (vb_ones _) (by simp [zKey, mkB_len]) ?_; intro w6 hr6 hg6 hs6)
  refine bodyPost_ret (results_cell_row (p := 4) (ty := 28) rfl _ _ (w.heap.size + 1) 28 (vb (mkB 107 (s.keys.length + 1))).toArray (0, 0) _ rfl hr6 ty42 rfl (by rw [i42]; rfl)) rfl ?_
  refine ⟨rfl, _, ⟨mb, _, vx, vs, bodies, sums, es, clock, HT5.out.keep hg6.size (fun q hq => hg6.block q (HT5.out.fl q hq) ?_)⟩, fun q hq => hq.elim .inl (Hat.out q), fun q hq => .inl hq, hFr5.then_grown hg6 (fun q hq => .inr (by injection hq with hq; omega))⟩
  intro e
  injection e with e
  rcases hq with hq | hq
  · have := HR.out.fl q hq; omega
  · exact own_ne HT5.out.k.own HK5 (by decide) q hq e
end Go.Proofs.Ytpkelokaammmjaa
end
/-! The map of known keys: asked, written. -/
section
namespace Go.Proofs.Ytpkelokaammmjaa
open Go.RowKit Go.QT
theorem fo70 : (Try.prog.fieldsOf 58).toList.map (fun f => (f.name == "_", f.type, f.offset)) = [(false, 28, 0), (false, 9, 16), (false, 4, 17)] := by kernel_rfl
theorem fields70 : ∃ f0 f1 f2 : Field, (Try.prog.fieldsOf 58).toList = [f0, f1, f2] ∧ (f0.name ≠ "_" ∧ f0.type = 28 ∧ f0.offset = 0) ∧ (f1.name ≠ "_" ∧ f1.type = 9 ∧ f1.offset = 16) ∧ (f2.name ≠ "_" ∧ f2.type = 4 ∧ f2.offset = 17) := by
  have h := fo70
  match hq : (Try.prog.fieldsOf 58).toList with
  | [f0, f1, f2] =>
    rw [hq] at h
    simp only [List.map_cons, List.map_nil, List.cons.injEq, Prod.mk.injEq, beq_eq_false_iff_ne, and_true] at h
    exact ⟨f0, f1, f2, rfl, h.1, h.2.1, h.2.2⟩
  | [] => rw [hq] at h; simp at h
  | [_] => rw [hq] at h; simp at h
  | [_, _] => rw [hq] at h; simp at h
  | _ :: _ :: _ :: _ :: _ => rw [hq] at h; simp at h
theorem stood70 : Try.prog.stoodInHeld 58 = false := by kernel_rfl
theorem agg42 (W : World) : (isAgg 28).run Try.prog W = .ok true W := by kernel_rfl
theorem size42 (W : World) : (sizeOf 28).run Try.prog W = .ok 16 W := by kernel_rfl
theorem agg9 (W : World) : (isAgg 9).run Try.prog W = .ok false W := by kernel_rfl
theorem agg4 (W : World) : (isAgg 4).run Try.prog W = .ok false W := by kernel_rfl
theorem part_of (f : SFrom) (h : f.of.length = 16) (W : World) : (part 28 (fromCells f).toArray 0).run Try.prog W = .ok (.agg (vb f.of).toArray) W := by
  have e : (fromCells f).toArray.extract 0 (0 + 16) = (vb f.of).toArray := by
    apply Array.ext'
    simp only [Array.toList_extract]
    show ((fromCells f).drop 0).take 16 = vb f.of
    rw [List.drop_zero, fromCells, List.take_left' (by simp [h])]
  simp only [part, Sem.run_bind, agg42, size42, Result.andThen_ok, if_true, Sem.run_pure]
  rw [e]
theorem part_label (f : SFrom) (h : f.of.length = 16) (W : World) : (part 9 (fromCells f).toArray 16).run Try.prog W = .ok (.string f.label) W := by
  have e : (fromCells f).toArray[16]? = some (.string f.label) := by
    simp [fromCells, h]
  simp only [part, Sem.run_bind, agg9, Result.andThen_ok, Bool.false_eq_true, if_false, e, Sem.run_pure]
theorem part_text (f : SFrom) (h : f.of.length = 16) (W : World) : (part 4 (fromCells f).toArray 17).run Try.prog W = .ok (.bool f.text) W := by
  have e : (fromCells f).toArray[17]? = some (.bool f.text) := by
    simp [fromCells, h]
  simp only [part, Sem.run_bind, agg4, Result.andThen_ok, Bool.false_eq_true, if_false, e, Sem.run_pure]
theorem run_eq_from (f g : SFrom) (hf : f.of.length = 16) (hg : g.of.length = 16) (w : World) : (Op.equal 58 (fromV f) (fromV g)).run Try.prog w = .ok (decide (f = g)) w := by
  obtain ⟨f0, f1, f2, hl, ⟨n0, t0, o0⟩, ⟨n1, t1, o1⟩, ⟨n2, t2, o2⟩⟩ := fields70
  have h0 : ∀ W, (Op.equalIn 9999 28 (.agg (vb f.of).toArray) (.agg (vb g.of).toArray)).run Try.prog W = .ok (decide (f.of = g.of)) W := fun W => run_equalIn16 9997 28 f.of g.of W ty42 hf hg
  have h1 : ∀ W, (Op.equalIn 9999 9 (.string f.label) (.string g.label)).run Try.prog W = .ok (f.label.toList == g.label.toList) W := fun W => run_equalIn_string W 9998 9 _ _ (by kernel_rfl)
  have h2 : ∀ W, (Op.equalIn 9999 4 (.bool f.text) (.bool g.text)).run Try.prog W = .ok (f.text == g.text) W := fun W => run_equalIn_bool W 9998 4 _ _ (by kernel_rfl)
  show (Op.equalIn (9999 + 1) 58 (.agg (fromCells f).toArray) (.agg (fromCells g).toArray)).run Try.prog w = _
  rw [run_equalIn_struct w 9999 58 _ _ ty70 stood70, hl]
  simp only [Op.eqFields, n0, n1, n2, t0, t1, t2, o0, o1, o2, ne_eq, not_false_eq_true, if_true, Sem.run_bind, part_of f hf, part_of g hg, Result.andThen_ok, h0]
  have hdec : decide (f = g) = (decide (f.of = g.of) && (f.label.toList == g.label.toList) && (f.text == g.text)) := by
    have hb : ∀ b b' : ByteArray, (b.toList == b'.toList) = decide (b = b') := by
      intro b b'
      rw [ByteArray.toList_eq, ByteArray.toList_eq, Bool.eq_iff_iff, beq_iff_eq, decide_eq_true_eq]
      constructor
      · intro h; cases b; cases b'; simp only [ByteArray.mk.injEq]; exact Array.ext' h
      · rintro rfl; rfl
    rw [hb]
    obtain ⟨a, b, c⟩ := f
    obtain ⟨a', b', c'⟩ := g
    rw [Bool.eq_iff_iff]
    simp [and_assoc]
  rw [hdec]
  clear hdec
  generalize (f.label.toList == g.label.toList) = b1 at *
  generalize (f.text == g.text) = b2 at *
  cases decide (f.of = g.of) <;> cases b1 <;> cases b2 <;> simp [part_label f hf, part_label g hg, part_text f hf, part_text g hg, h1, h2]
set_option maxRecDepth 100000 in
theorem run_find_from (f : SFrom) (hf : f.of.length = 16) (w : World) : ∀ (es : List MapEntry) (ks : List (SFrom × Nat)) (i : Nat), es.map (fun e => (e.key, e.val)) = ks.map (fun p => (fromV p.1, Value.agg (vb (mkB 107 p.2)).toArray)) → (∀ p ∈ ks, p.1.of.length = 16) →
    (Instr.findAsking 58 (fromV f) es i).run Try.prog w = .ok ((ks.findIdx? fun p => decide (p.1 = f)).bind fun j => (ks[j]?).map fun p => (i + j, Value.agg (vb (mkB 107 p.2)).toArray)) w
  | [], ks, i, h, _ => by
    have : ks = [] := by simpa using h.symm
    subst this
    simp [Instr.findAsking]
  | e :: es, [], i, h, _ => by simp at h
  | e :: es, (g, n) :: ks, i, h, hl => by
    simp only [List.map_cons, List.cons.injEq, Prod.mk.injEq] at h
    have hg := hl (g, n) (by simp)
    have ih := run_find_from f hf w es ks (i + 1) h.2 (fun p hp => hl p (by simp [hp]))
    have he := run_eq_from f g hf hg w
    rw [← h.1.1] at he
    have hc : decide (g = f) = decide (f = g) := by rw [Bool.eq_iff_iff]; simp [eq_comm]
    simp only [Instr.findAsking, Sem.run_bind, he, Result.andThen_ok, List.findIdx?_cons, hc]
    by_cases hfg : f = g
    · simp [hfg, h.1.2]
    · simp only [decide_eq_false hfg, Bool.false_eq_true, if_false, ih]
      congr 1
      cases hq : ks.findIdx? fun p => decide (p.1 = f) with
      | none => simp
      | some j => simp [Nat.add_assoc, Nat.add_comm 1 j]
end Go.Proofs.Ytpkelokaammmjaa
end
/-! The map of known keys: a lookup, an entry laid. -/
section
namespace Go.Proofs.Ytpkelokaammmjaa
open Go.RowKit Go.QT
theorem size5' (W : World) : (sizeOf 5).run Try.prog W = .ok 1 W := by kernel_rfl
theorem check_byte (em : Bool) (n : Nat) (v : Value) (w : World) : (Instr.checkKey em (n+1) 5 v).run Try.prog w = .ok () w := by
  have hu : Try.prog.underlying 5 = some (.int .u8) := by kernel_rfl
  simp only [Instr.checkKey, Sem.run_bind, run_underlying hu, Result.andThen_ok, Sem.run_pure]
theorem check_str (em : Bool) (n : Nat) (v : Value) (w : World) : (Instr.checkKey em (n+1) 9 v).run Try.prog w = .ok () w := by
  have hu : Try.prog.underlying 9 = some .string := by kernel_rfl
  simp only [Instr.checkKey, Sem.run_bind, run_underlying hu, Result.andThen_ok, Sem.run_pure]
theorem check_bool (em : Bool) (n : Nat) (v : Value) (w : World) : (Instr.checkKey em (n+1) 4 v).run Try.prog w = .ok () w := by
  have hu : Try.prog.underlying 4 = some .bool := by kernel_rfl
  simp only [Instr.checkKey, Sem.run_bind, run_underlying hu, Result.andThen_ok, Sem.run_pure]
set_option maxRecDepth 100000 in
theorem check_key' (em : Bool) (m : Nat) (k : Bytes) (hk : k.length = 16) (w : World) (h1 : ∀ v, (Instr.checkKey em m 5 v).run Try.prog w = .ok () w) : (Instr.checkKey em (m+1) 28 (.agg (vb k).toArray)).run Try.prog w = .ok () w := by
  simp only [Instr.checkKey, Sem.run_bind, run_underlying ty42, Result.andThen_ok]
  simp only [Std.Legacy.Range.forIn_eq_forIn_range', Std.Legacy.Range.size, Nat.sub_zero, Nat.add_one_sub_one, Nat.div_one]
  have h : ∀ (is : List Nat), (∀ i ∈ is, i < 16) → ∀ u : PUnit,
      (forIn is u fun i r => do
        let x ← sizeOf 5
        let y ← part 5 (vb k).toArray (i * x)
        Instr.checkKey em m 5 y
        pure (ForInStep.yield PUnit.unit) : Sem PUnit).run Try.prog w = .ok ⟨⟩ w := by
    intro is
    induction is with
    | nil => intro _ u; simp
    | cons i is ih =>
      intro hi u
      have hp : (vb k).toArray[i * 1]? = some (.int .u8 (ub (gb k i))) := by rw [Nat.mul_one]; simpa using vb_get k i (by have := hi i (by simp); omega)
      simp only [List.forIn_cons, Sem.run_bind, size5', Result.andThen_ok, run_part_plain w pk5 hp, h1, Sem.run_pure]
      exact ih (fun j hj => hi j (by simp [hj])) _
  rw [h (List.range' 0 16 1) (fun i hi => by have := List.mem_range'_1.1 hi; omega) PUnit.unit]
  rfl
theorem check_key (em : Bool) (n : Nat) (k : Bytes) (hk : k.length = 16) (w : World) : (Instr.checkKey em (n+2) 28 (.agg (vb k).toArray)).run Try.prog w = .ok () w :=
  check_key' em (n+1) k hk w fun v => check_byte em n v w
theorem check_from' (em : Bool) (m : Nat) (f : SFrom) (hf : f.of.length = 16) (w : World) (h1 : (Instr.checkKey em m 28 (.agg (vb f.of).toArray)).run Try.prog w = .ok () w) (h2 : (Instr.checkKey em m 9 (.string f.label)).run Try.prog w = .ok () w) (h3 : (Instr.checkKey em m 4 (.bool f.text)).run Try.prog w = .ok () w) :
    (Instr.checkKey em (m+1) 58 (.agg (fromCells f).toArray)).run Try.prog w = .ok () w := by
  obtain ⟨f0, f1, f2, hl, ⟨n0, t0, o0⟩, ⟨n1, t1, o1⟩, ⟨n2, t2, o2⟩⟩ := fields70
  simp only [Instr.checkKey, Sem.run_bind, run_underlying ty70, Result.andThen_ok]
  rw [← Array.forIn_toList, hl]
  simp only [List.forIn_cons, List.forIn_nil, n0, n1, n2, t0, t1, t2, o0, o1, o2, ne_eq, not_false_eq_true, if_true, Sem.run_bind, part_of f hf, part_label f hf, part_text f hf, Result.andThen_ok, h1, h2, h3, Sem.run_pure]
theorem check_from (em : Bool) (n : Nat) (f : SFrom) (hf : f.of.length = 16) (w : World) : (Instr.checkKey em (n+3) 58 (fromV f)).run Try.prog w = .ok () w :=
  check_from' em (n+2) f hf w (check_key em n f.of hf w) (check_str em (n+1) _ w) (check_bool em (n+1) _ w)
theorem find_bind (ks : List (SFrom × Nat)) (q : SFrom × Nat → Bool) : ((ks.findIdx? q).bind fun j => ks[j]?) = ks.find? q := by
  induction ks with
  | nil => rfl
  | cons x ks ih =>
    rw [List.findIdx?_cons, List.find?_cons]
    cases q x with
    | true => simp
    | false =>
      rw [← ih]
      cases hq : ks.findIdx? q with
      | none => simp
      | some j => simp
theorem und_known : Try.prog.underlying 47 = some (.map 58 28) := by kernel_rfl
theorem zkey42 (W : World) : (zeroValue 28).run Try.prog W = .ok (.agg (vb zKey).toArray) W := by kernel_rfl
theorem sameNow_struct (fs : Array Field) (a b : Value) : Instr.sameNow (.struct fs) a b = none := by
  unfold Instr.sameNow; rfl
/-- What a lookup finds. -/
def knownV (s : STab) (f : SFrom) : Value := match s.at_ f with | some n => Value.agg (vb (mkB 107 n)).toArray | none => Value.agg (vb zKey).toArray
theorem run_lookup_from (s : STab) (f : SFrom) (hf : f.of.length = 16) (mb : Nat) (es : Array MapEntry) (clock : Nat) (w : World) (hm : w.heap[mb]? = some (.map es clock))
    (hme : es.toList.map (fun e => (e.key, e.val)) = s.known.map fun p => (fromV p.1, Value.agg (vb (mkB 107 p.2)).toArray)) (hml : ∀ p ∈ s.known, p.1.of.length = 16) :
    (Instr.lookup 47 (.map (some mb)) (fromV f) true).run Try.prog w = .ok (.tuple #[knownV s f, .bool (s.at_ f).isSome]) w := by
  unfold knownV
  have hfa := run_find_from f hf w es.toList s.known 0 hme hml
  have hfb := find_bind s.known (fun p => decide (p.1 = f))
  have hat : s.at_ f = (s.known.find? fun p => decide (p.1 = f)).map (·.2) := rfl
  have hkey : (Instr.findKey 58 (fromV f) es.toList).run Try.prog w = .ok ((s.known.findIdx? fun p => decide (p.1 = f)).bind fun j => (s.known[j]?).map fun p => (0 + j, Value.agg (vb (mkB 107 p.2)).toArray)) w := by
    cases hes : es.toList with
    | nil =>
      rw [hes] at hme
      have : s.known = [] := by simpa using hme.symm
      simp [Instr.findKey, Instr.findNow, run_underlying ty70, this]
    | cons e rest =>
      rw [hes] at hfa
      have hn : Instr.findNow (.struct (Try.prog.fieldsOf 58)) (fromV f) (e :: rest) 0 = none := by
        simp only [Instr.findNow, sameNow_struct]
      simp only [Instr.findKey, Sem.run_bind, run_underlying ty70, Result.andThen_ok, hn, hfa]
  have hobj : (getObj mb).run Try.prog w = .ok (.map es clock) w := by simp [getObj, Sem.run, hm]
  simp only [Instr.lookup, Sem.run_bind, run_underlying und_known, Result.andThen_ok, hobj, Sem.run_pure, check_from _ 9997 f hf, hkey]
  rw [hat, ← hfb]
  cases hq : s.known.findIdx? fun p => decide (p.1 = f) with
  | none => simp only [Option.bind_none, Option.map_none, Sem.run_bind, zkey42, Result.andThen_ok, Sem.run_pure, Option.isSome_none, if_true]
  | some j =>
    simp only [Option.bind_some]
    cases hj : s.known[j]? with
    | none =>
      have := (List.findIdx?_eq_some_iff_getElem.1 hq).1
      rw [List.getElem?_eq_none_iff] at hj
      omega
    | some p => simp
theorem run_update_from (s : STab) (f : SFrom) (hf : f.of.length = 16) (mb : Nat) (es : Array MapEntry) (clock : Nat) (w : World) (hm : w.heap[mb]? = some (.map es clock)) (val : Value)
    (hme : es.toList.map (fun e => (e.key, e.val)) = s.known.map fun p => (fromV p.1, Value.agg (vb (mkB 107 p.2)).toArray)) (hml : ∀ p ∈ s.known, p.1.of.length = 16) (hno : s.at_ f = none) :
    ∃ w', (Instr.mapUpdate 47 (.map (some mb)) (fromV f) val).run Try.prog w = .ok () w' ∧ w'.heap[mb]? = some (.map (es.push { key := fromV f, val := val, born := clock }) (clock + 1)) ∧ w.grownBy w' (some mb) ∧ w'.heap.size = w.heap.size := by
  have hfa := run_find_from f hf w es.toList s.known 0 hme hml
  have hfb := find_bind s.known (fun p => decide (p.1 = f))
  have hat : s.at_ f = (s.known.find? fun p => decide (p.1 = f)).map (·.2) := rfl
  have hnone : s.known.findIdx? (fun p => decide (p.1 = f)) = none := by
    rw [hat, ← hfb] at hno
    cases hq : s.known.findIdx? fun p => decide (p.1 = f) with
    | none => rfl
    | some j =>
      rw [hq] at hno
      have := (List.findIdx?_eq_some_iff_getElem.1 hq).1
      simp [List.getElem?_eq_getElem this] at hno
  have hkey : (Instr.findKey 58 (fromV f) es.toList).run Try.prog w = .ok none w := by
    cases hes : es.toList with
    | nil => simp [Instr.findKey, Instr.findNow, run_underlying ty70]
    | cons e rest =>
      rw [hes, hnone] at hfa
      have hn : Instr.findNow (.struct (Try.prog.fieldsOf 58)) (fromV f) (e :: rest) 0 = none := by
        simp only [Instr.findNow, sameNow_struct]
      simp only [Instr.findKey, Sem.run_bind, run_underlying ty70, Result.andThen_ok, hn, hfa]
      rfl
  have hobj : (getObj mb).run Try.prog w = .ok (.map es clock) w := by simp [getObj, Sem.run, hm]
  have hlt : mb < w.heap.size := (Array.getElem?_eq_some_iff.1 hm).1
  refine ⟨{ w with heap := w.heap.setIfInBounds mb (.map (es.push { key := fromV f, val := val, born := clock }) (clock + 1)) }, ?_, ?_, ⟨rfl, rfl, rfl, by simp, fun q _ hq => ?_⟩, by simp⟩
  · simp only [Instr.mapUpdate, Sem.run_bind, run_underlying und_known, Result.andThen_ok, hobj, check_from _ 9997 f hf, hkey]
    simp [setObj, Sem.run, hm]
  · simp [hlt]
  · have : q ≠ mb := fun e => hq (by rw [e])
    simp [Ne.symm this]
end Go.Proofs.Ytpkelokaammmjaa
end
/-! What a call holds in memory: things of its own, things that are only read, and what is as it was. Over any program. -/
section
namespace Go.Proofs.Ytpkelokaammmjaa
open Go.RowKit
/-- A thing in memory: its blocks, and what is true of it. -/
structure Res where
  F : Nat → Prop
  Φ : World → Prop
  lt : ∀ {w : World}, Φ w → ∀ q, F q → q < w.heap.size
  keep : ∀ {w w' : World}, Φ w → w.heap.size ≤ w'.heap.size → (∀ q, F q → w'.heap[q]? = w.heap[q]?) → Φ w'
def Res.dj (r s : Res) : Prop := ∀ q, r.F q → ¬ s.F q
theorem Res.dj.symm {r s : Res} (h : r.dj s) : s.dj r := fun q h1 h2 => h q h2 h1
/-- rs: what may be turned; ro: what is only read. -/
structure Hp (F0 : Nat → Prop) (w0 w : World) (ro rs : List Res) : Prop where
  fr : Fr F0 w0 w
  own : ∀ (i : Nat) (r : Res), rs[i]? = some r → r.Φ w
  mine : ∀ (i : Nat) (r : Res), rs[i]? = some r → ∀ q, r.F q → F0 q ∨ w0.heap.size ≤ q
  dis : ∀ (i j : Nat) (r s : Res), rs[i]? = some r → rs[j]? = some s → i ≠ j → r.dj s
  red : ∀ (i : Nat) (r : Res), ro[i]? = some r → r.Φ w
  rdis : ∀ (i j : Nat) (r s : Res), ro[i]? = some r → rs[j]? = some s → r.dj s
section
variable {F0 : Nat → Prop} {w0 w w' : World} {ro rs : List Res}
theorem Hp.nil (F0 : Nat → Prop) (w : World) : Hp F0 w w [] [] := ⟨Fr.refl _ _, by simp, by simp, by simp, by simp, by simp⟩
theorem Hp.at_ (h : Hp F0 w0 w ro rs) (i : Nat) {r : Res} (hi : rs[i]? = some r) : r.Φ w := h.own i r hi
theorem Hp.rd (h : Hp F0 w0 w ro rs) (i : Nat) {r : Res} (hi : ro[i]? = some r) : r.Φ w := h.red i r hi
theorem Hp.size (h : Hp F0 w0 w ro rs) : w0.heap.size ≤ w.heap.size := h.fr.size
/-- New blocks change nothing. -/
theorem Hp.below (h : Hp F0 w0 w ro rs) (hb : Below w.heap.size w w') : Hp F0 w0 w' ro rs where
  fr := h.fr.then_below hb
  own := fun i r hi => r.keep (h.own i r hi) hb.size fun q hq => hb.block q (r.lt (h.own i r hi) q hq)
  mine := h.mine
  dis := h.dis
  red := fun i r hi => r.keep (h.red i r hi) hb.size fun q hq => hb.block q (r.lt (h.red i r hi) q hq)
  rdis := h.rdis
theorem Hp.drewN (h : Hp F0 w0 w ro rs) (n : Nat) : Hp F0 w0 (w.drewN n) ro rs := h.below (below_drewN (Below.refl _ _) n)
/-- A new thing that may be turned. -/
theorem Hp.newS (h : Hp F0 w0 w ro rs) (hb : Below w.heap.size w w') (r : Res) (hr : r.Φ w') (hF : ∀ q, r.F q → w.heap.size ≤ q) : Hp F0 w0 w' ro (r :: rs) where
  fr := h.fr.then_below hb
  own := fun i s hi => by
    cases i with
    | zero => injection hi with hi; subst hi; exact hr
    | succ i => exact (h.below hb).own i s hi
  mine := fun i s hi q hq => by
    cases i with
    | zero => injection hi with hi; subst hi; exact .inr (Nat.le_trans h.fr.size (hF q hq))
    | succ i => exact h.mine i s hi q hq
  dis := fun i j a b hi hj hne => by
    cases i with
    | zero =>
      cases j with
      | zero => exact absurd rfl hne
      | succ j =>
        injection hi with hi; subst hi
        exact fun q h1 h2 => absurd (b.lt (h.own j b hj) q h2) (Nat.not_lt.2 (hF q h1))
    | succ i =>
      cases j with
      | zero =>
        injection hj with hj; subst hj
        exact fun q h1 h2 => absurd (a.lt (h.own i a hi) q h1) (Nat.not_lt.2 (hF q h2))
      | succ j => exact h.dis i j a b hi hj (fun e => hne (by rw [e]))
  red := (h.below hb).red
  rdis := fun i j a b hi hj => by
    cases j with
    | zero =>
      injection hj with hj; subst hj
      exact fun q h1 h2 => absurd (a.lt (h.red i a hi) q h1) (Nat.not_lt.2 (hF q h2))
    | succ j => exact h.rdis i j a b hi hj
/-- A new thing that is only read. -/
theorem Hp.newR (h : Hp F0 w0 w ro rs) (hb : Below w.heap.size w w') (r : Res) (hr : r.Φ w') (hF : ∀ q, r.F q → w.heap.size ≤ q) : Hp F0 w0 w' (r :: ro) rs where
  fr := h.fr.then_below hb
  own := (h.below hb).own
  mine := h.mine
  dis := h.dis
  red := fun i s hi => by
    cases i with
    | zero => injection hi with hi; subst hi; exact hr
    | succ i => exact (h.below hb).red i s hi
  rdis := fun i j a b hi hj => by
    cases i with
    | zero =>
      injection hi with hi; subst hi
      exact fun q h1 h2 => absurd (b.lt (h.own j b hj) q h2) (Nat.not_lt.2 (hF q h1))
    | succ i => exact h.rdis i j a b hi hj
/-- Something that is read, and has no block that may be turned. -/
theorem Hp.addR (h : Hp F0 w0 w ro rs) (r : Res) (hr : r.Φ w) (hd : ∀ (j : Nat) (s : Res), rs[j]? = some s → r.dj s) : Hp F0 w0 w (r :: ro) rs where
  fr := h.fr
  own := h.own
  mine := h.mine
  dis := h.dis
  red := fun i s hi => by
    cases i with
    | zero => injection hi with hi; subst hi; exact hr
    | succ i => exact h.red i s hi
  rdis := fun i j a b hi hj => by
    cases i with
    | zero => injection hi with hi; subst hi; exact hd j b hj
    | succ i => exact h.rdis i j a b hi hj
/-- A part of what is read. -/
theorem Hp.sub (h : Hp F0 w0 w ro rs) (i : Nat) {s : Res} (hi : ro[i]? = some s) (r : Res) (hr : r.Φ w) (hF : ∀ q, r.F q → s.F q) : Hp F0 w0 w (r :: ro) rs :=
  h.addR r hr fun j t ht q h1 h2 => h.rdis i j s t hi ht q (hF q h1) h2
/-- Something that may be turned, at first. -/
theorem Hp.addS (h : Hp F0 w0 w ro rs) (r : Res) (hr : r.Φ w) (hm : ∀ q, r.F q → F0 q ∨ w0.heap.size ≤ q) (hd : ∀ (j : Nat) (s : Res), rs[j]? = some s → r.dj s) (hd2 : ∀ (j : Nat) (s : Res), ro[j]? = some s → r.dj s) : Hp F0 w0 w ro (r :: rs) where
  fr := h.fr
  own := fun i s hi => by
    cases i with
    | zero => injection hi with hi; subst hi; exact hr
    | succ i => exact h.own i s hi
  mine := fun i s hi => by
    cases i with
    | zero => injection hi with hi; subst hi; exact hm
    | succ i => exact h.mine i s hi
  dis := fun i j a b hi hj hne => by
    cases i with
    | zero =>
      cases j with
      | zero => exact absurd rfl hne
      | succ j => injection hi with hi; subst hi; exact hd j b hj
    | succ i =>
      cases j with
      | zero => injection hj with hj; subst hj; exact (hd i a hi).symm
      | succ j => exact h.dis i j a b hi hj (fun e => hne (by rw [e]))
  red := h.red
  rdis := fun i j a b hi hj => by
    cases j with
    | zero => injection hj with hj; subst hj; exact (hd2 i a hi).symm
    | succ j => exact h.rdis i j a b hi hj
/-- One thing is turned. -/
theorem Hp.upd (h : Hp F0 w0 w ro rs) (i : Nat) {r : Res} (hi : rs[i]? = some r) (hf : Fr r.F w w') (r' : Res) (hr : r'.Φ w') (hF : ∀ q, r'.F q → r.F q ∨ w.heap.size ≤ q) : Hp F0 w0 w' ro (rs.set i r') := by
  have hil : i < rs.length := (List.getElem?_eq_some_iff.1 hi).1
  have key : ∀ (j : Nat) (s : Res), (rs.set i r')[j]? = some s → (j = i ∧ s = r') ∨ (j ≠ i ∧ rs[j]? = some s) := by
    intro j s hj
    by_cases e : j = i
    · subst e; left; rw [List.getElem?_set_self hil] at hj; exact ⟨rfl, by injection hj with hj; exact hj.symm⟩
    · right; rw [List.getElem?_set_ne (Ne.symm e)] at hj; exact ⟨e, hj⟩
  have keepS : ∀ (j : Nat) (s : Res), rs[j]? = some s → j ≠ i → s.Φ w' := fun j s hj hne =>
    s.keep (h.own j s hj) hf.size fun q hq => hf.block q (s.lt (h.own j s hj) q hq) (h.dis j i s r hj hi hne q hq)
  refine ⟨h.fr.trans hf (fun q hq => h.mine i r hi q hq), ?_, ?_, ?_, ?_, ?_⟩
  · intro j s hj
    rcases key j s hj with ⟨_, rfl⟩ | ⟨hne, hj⟩
    · exact hr
    · exact keepS j s hj hne
  · intro j s hj q hq
    rcases key j s hj with ⟨_, rfl⟩ | ⟨hne, hj⟩
    · rcases hF q hq with h1 | h1
      · exact h.mine i r hi q h1
      · exact .inr (Nat.le_trans h.fr.size h1)
    · exact h.mine j s hj q hq
  · intro j k a b hj hk hne
    have two : ∀ (m : Nat) (c : Res), rs[m]? = some c → m ≠ i → r'.dj c := fun m c hm hmi q h1 h2 => by
      rcases hF q h1 with h3 | h3
      · exact h.dis i m r c hi hm (Ne.symm hmi) q h3 h2
      · exact absurd (c.lt (h.own m c hm) q h2) (Nat.not_lt.2 h3)
    rcases key j a hj with ⟨e1, ea⟩ | ⟨h1, hj1⟩
    · rcases key k b hk with ⟨e2, _⟩ | ⟨h2, hk1⟩
      · exact absurd (e1.trans e2.symm) hne
      · rw [ea]; exact two k b hk1 h2
    · rcases key k b hk with ⟨e2, eb⟩ | ⟨h2, hk1⟩
      · rw [eb]; exact (two j a hj1 h1).symm
      · exact h.dis j k a b hj1 hk1 hne
  · intro j s hj
    exact s.keep (h.red j s hj) hf.size fun q hq => hf.block q (s.lt (h.red j s hj) q hq) (h.rdis j i s r hj hi q hq)
  · intro j k a b hj hk
    rcases key k b hk with ⟨_, rfl⟩ | ⟨_, hk⟩
    · intro q h1 h2
      rcases hF q h2 with h3 | h3
      · exact h.rdis j i a r hj hi q h1 h3
      · exact absurd (a.lt (h.red j a hj) q h1) (Nat.not_lt.2 h3)
    · exact h.rdis j k a b hj hk
/-- One thing is forgotten. -/
theorem get_erase {l : List Res} {i j : Nat} {s : Res} (h : (l.eraseIdx i)[j]? = some s) : ∃ k, l[k]? = some s ∧ k ≠ i ∧ (k = if j < i then j else j + 1) := by
  rw [List.getElem?_eraseIdx] at h
  split at h
  · rename_i hlt; exact ⟨j, h, by omega, by rw [if_pos hlt]⟩
  · rename_i hge; exact ⟨j + 1, h, by omega, by rw [if_neg hge]⟩
theorem Hp.drop (h : Hp F0 w0 w ro rs) (i : Nat) : Hp F0 w0 w ro (rs.eraseIdx i) where
  fr := h.fr
  own := fun j s hj => by obtain ⟨k, hk, _⟩ := get_erase hj; exact h.own k s hk
  mine := fun j s hj => by obtain ⟨k, hk, _⟩ := get_erase hj; exact h.mine k s hk
  dis := fun j k a b hj hk hne => by
    obtain ⟨j', hj', _, e1⟩ := get_erase hj
    obtain ⟨k', hk', _, e2⟩ := get_erase hk
    refine h.dis j' k' a b hj' hk' ?_
    rw [e1, e2]; split <;> split <;> omega
  red := h.red
  rdis := fun j k a b hj hk => by obtain ⟨k', hk', _⟩ := get_erase hk; exact h.rdis j k' a b hj hk'
theorem Hp.dropR (h : Hp F0 w0 w ro rs) (i : Nat) : Hp F0 w0 w (ro.eraseIdx i) rs where
  fr := h.fr
  own := h.own
  mine := h.mine
  dis := h.dis
  red := fun j s hj => by obtain ⟨k, hk, _⟩ := get_erase hj; exact h.red k s hk
  rdis := fun j k a b hj hk => by obtain ⟨j', hj', _⟩ := get_erase hj; exact h.rdis j' k a b hj' hk
/-- What is not turned any more. -/
theorem Hp.share (h : Hp F0 w0 w ro rs) (i : Nat) {r : Res} (hi : rs[i]? = some r) : Hp F0 w0 w (r :: ro) (rs.eraseIdx i) :=
  (h.drop i).addR r (h.own i r hi) fun j s hj => by
    obtain ⟨k, hk, hne, _⟩ := get_erase hj
    exact h.dis i k r s hi hk (Ne.symm hne)
theorem Hp.below0 (h : Hp (fun _ => False) w0 w ro rs) : Below w0.heap.size w0 w := h.fr.below (fun _ hf => hf.elim) (Nat.le_refl _)
theorem Hp.ro1 (r : Res) {w : World} (hr : r.Φ w) : Hp (fun _ => False) w w [r] [] := (Hp.nil _ w).addR r hr (by simp)
/-- One thing alone. -/
theorem Hp.one (r : Res) {w : World} (hr : r.Φ w) : Hp r.F w w [] [r] :=
  (Hp.nil r.F w).addS r hr (fun q hq => .inl hq) (by simp) (by simp)
theorem Hp.two (r s : Res) {w : World} (hr : r.Φ w) (hs : s.Φ w) (hd : r.dj s) : Hp (fun q => r.F q ∨ s.F q) w w [] [r, s] :=
  ((Hp.nil _ w).addS s hs (fun q hq => .inl (.inr hq)) (by simp) (by simp)).addS r hr (fun q hq => .inl (.inl hq)) (fun j t ht => by
    cases j with
    | zero => injection ht with ht; subst ht; exact hd
    | succ j => simp at ht) (by simp)
/-- What a call leaves, that was given the thing at i. -/
theorem Hp.call1 {rs' : List Res} (h : Hp F0 w0 w ro rs) (i : Nat) {r : Res} (hi : rs[i]? = some r) (hc : Hp r.F w w' [] rs') : Hp F0 w0 w' ro (rs' ++ rs.eraseIdx i) := by
  have hrs : ∀ (j : Nat) (s : Res), (rs' ++ rs.eraseIdx i)[j]? = some s → (j < rs'.length ∧ rs'[j]? = some s) ∨ (∃ k, j = rs'.length + k ∧ (rs.eraseIdx i)[k]? = some s) := by
    intro j s hj
    by_cases hlt : j < rs'.length
    · left; exact ⟨hlt, by rwa [List.getElem?_append_left hlt] at hj⟩
    · right; exact ⟨j - rs'.length, by omega, by rwa [List.getElem?_append_right (by omega)] at hj⟩
  have keepS : ∀ (s : Res) (k : Nat), rs[k]? = some s → k ≠ i → s.Φ w' := fun s k hk hne =>
    s.keep (h.own k s hk) hc.fr.size fun q hq => hc.fr.block q (s.lt (h.own k s hk) q hq) (h.dis k i s r hk hi hne q hq)
  have new : ∀ (j : Nat) (s : Res), rs'[j]? = some s → ∀ q, s.F q → r.F q ∨ w.heap.size ≤ q := hc.mine
  have cross : ∀ (j : Nat) (s : Res) (k : Nat) (t : Res), rs'[j]? = some s → rs[k]? = some t → k ≠ i → s.dj t := fun j s k t hj hk hne q h1 h2 => by
    rcases new j s hj q h1 with h3 | h3
    · exact h.dis i k r t hi hk (Ne.symm hne) q h3 h2
    · exact absurd (t.lt (h.own k t hk) q h2) (Nat.not_lt.2 h3)
  refine ⟨h.fr.trans hc.fr (fun q hq => h.mine i r hi q hq), ?_, ?_, ?_, ?_, ?_⟩
  · intro j s hj
    rcases hrs j s hj with ⟨_, hj⟩ | ⟨k, _, hk⟩
    · exact hc.own j s hj
    · obtain ⟨k', hk', hne, _⟩ := get_erase hk; exact keepS s k' hk' hne
  · intro j s hj q hq
    rcases hrs j s hj with ⟨_, hj⟩ | ⟨k, _, hk⟩
    · rcases new j s hj q hq with h3 | h3
      · exact h.mine i r hi q h3
      · exact .inr (Nat.le_trans h.fr.size h3)
    · obtain ⟨k', hk', hne, _⟩ := get_erase hk; exact h.mine k' s hk' q hq
  · intro j k a b hj hk hne
    rcases hrs j a hj with ⟨_, hj'⟩ | ⟨j2, ej, hj'⟩
    · rcases hrs k b hk with ⟨_, hk'⟩ | ⟨k2, ek, hk'⟩
      · exact hc.dis j k a b hj' hk' hne
      · obtain ⟨k3, hk3, hne3, _⟩ := get_erase hk'; exact cross j a k3 b hj' hk3 hne3
    · obtain ⟨j3, hj3, hnej, e1⟩ := get_erase hj'
      rcases hrs k b hk with ⟨_, hk'⟩ | ⟨k2, ek, hk'⟩
      · exact (cross k b j3 a hk' hj3 hnej).symm
      · obtain ⟨k3, hk3, hne3, e2⟩ := get_erase hk'
        refine h.dis j3 k3 a b hj3 hk3 ?_
        rw [e1, e2]; split <;> split <;> omega
  · intro j s hj
    exact s.keep (h.red j s hj) hc.fr.size fun q hq => hc.fr.block q (s.lt (h.red j s hj) q hq) (h.rdis j i s r hj hi q hq)
  · intro j k a b hj hk
    rcases hrs k b hk with ⟨_, hk'⟩ | ⟨k2, ek, hk'⟩
    · intro q h1 h2
      rcases new k b hk' q h2 with h3 | h3
      · exact h.rdis j i a r hj hi q h1 h3
      · exact absurd (a.lt (h.red j a hj) q h1) (Nat.not_lt.2 h3)
    · obtain ⟨k3, hk3, _⟩ := get_erase hk'; exact h.rdis j k3 a b hj hk3
/-- What a call leaves that was given nothing to turn. -/
theorem Hp.call0 {rs' : List Res} (h : Hp F0 w0 w ro rs) (hc : Hp (fun _ => False) w w' [] rs') : Hp F0 w0 w' ro (rs' ++ rs) := by
  have hb : Below w.heap.size w w' := hc.fr.below (fun _ hf => hf.elim) (Nat.le_refl _)
  have h1 := h.below hb
  have new : ∀ (j : Nat) (s : Res), rs'[j]? = some s → ∀ q, s.F q → w.heap.size ≤ q := fun j s hj q hq => (hc.mine j s hj q hq).elim (fun hf => hf.elim) id
  have hrs : ∀ (j : Nat) (s : Res), (rs' ++ rs)[j]? = some s → (j < rs'.length ∧ rs'[j]? = some s) ∨ (rs'.length ≤ j ∧ rs[j - rs'.length]? = some s) := by
    intro j s hj
    by_cases hlt : j < rs'.length
    · left; exact ⟨hlt, by rwa [List.getElem?_append_left hlt] at hj⟩
    · right; exact ⟨by omega, by rwa [List.getElem?_append_right (by omega)] at hj⟩
  have cross : ∀ (j : Nat) (s : Res) (k : Nat) (t : Res), rs'[j]? = some s → rs[k]? = some t → s.dj t := fun j s k t hj hk q h2 h3 =>
    absurd (t.lt (h.own k t hk) q h3) (Nat.not_lt.2 (new j s hj q h2))
  refine ⟨h1.fr, ?_, ?_, ?_, h1.red, ?_⟩
  · intro j s hj
    rcases hrs j s hj with ⟨_, hj⟩ | ⟨_, hj⟩
    · exact hc.own j s hj
    · exact h1.own _ s hj
  · intro j s hj q hq
    rcases hrs j s hj with ⟨_, hj⟩ | ⟨_, hj⟩
    · exact .inr (Nat.le_trans h.fr.size (new j s hj q hq))
    · exact h.mine _ s hj q hq
  · intro j k a b hj hk hne
    rcases hrs j a hj with ⟨_, hj'⟩ | ⟨ej, hj'⟩
    · rcases hrs k b hk with ⟨_, hk'⟩ | ⟨ek, hk'⟩
      · exact hc.dis j k a b hj' hk' hne
      · exact cross j a _ b hj' hk'
    · rcases hrs k b hk with ⟨_, hk'⟩ | ⟨ek, hk'⟩
      · exact (cross k b _ a hk' hj').symm
      · exact h.dis _ _ a b hj' hk' (by omega)
  · intro j k a b hj hk
    rcases hrs k b hk with ⟨_, hk'⟩ | ⟨ek, hk'⟩
    · exact fun q h2 h3 => absurd (a.lt (h.red j a hj) q h2) (Nat.not_lt.2 (new k b hk' q h3))
    · exact h.rdis j _ a b hj hk'
/-- Two things are turned. -/
theorem Hp.upd2 (h : Hp F0 w0 w ro rs) (i j : Nat) {r s r' s' : Res} (hi : rs[i]? = some r) (hj : rs[j]? = some s) (hij : i ≠ j) (hc : Hp (fun q => r.F q ∨ s.F q) w w' [] [r', s']) : Hp F0 w0 w' ro ((rs.set i r').set j s') := by
  have hil : i < rs.length := (List.getElem?_eq_some_iff.1 hi).1
  have hjl : j < rs.length := (List.getElem?_eq_some_iff.1 hj).1
  have key : ∀ (k : Nat) (t : Res), ((rs.set i r').set j s')[k]? = some t → (k = i ∧ t = r') ∨ (k = j ∧ t = s') ∨ (k ≠ i ∧ k ≠ j ∧ rs[k]? = some t) := by
    intro k t hk
    by_cases e : k = j
    · subst e; right; left; rw [List.getElem?_set_self (by simpa using hjl)] at hk; exact ⟨rfl, by injection hk with hk; exact hk.symm⟩
    · rw [List.getElem?_set_ne (Ne.symm e)] at hk
      by_cases e2 : k = i
      · subst e2; left; rw [List.getElem?_set_self hil] at hk; exact ⟨rfl, by injection hk with hk; exact hk.symm⟩
      · right; right; rw [List.getElem?_set_ne (Ne.symm e2)] at hk; exact ⟨e2, e, hk⟩
  have R' : r'.Φ w' := hc.own 0 r' rfl
  have S' : s'.Φ w' := hc.own 1 s' rfl
  have FR : ∀ q, r'.F q → (r.F q ∨ s.F q) ∨ w.heap.size ≤ q := hc.mine 0 r' rfl
  have FS : ∀ q, s'.F q → (r.F q ∨ s.F q) ∨ w.heap.size ≤ q := hc.mine 1 s' rfl
  have D' : r'.dj s' := hc.dis 0 1 r' s' rfl rfl (by decide)
  have keepS : ∀ (k : Nat) (t : Res), rs[k]? = some t → k ≠ i → k ≠ j → t.Φ w' := fun k t hk h1 h2 =>
    t.keep (h.own k t hk) hc.fr.size fun q hq => hc.fr.block q (t.lt (h.own k t hk) q hq) (fun hh => hh.elim (h.dis k i t r hk hi h1 q hq) (h.dis k j t s hk hj h2 q hq))
  have mine2 : ∀ q, (r.F q ∨ s.F q) → F0 q ∨ w0.heap.size ≤ q := fun q hq => hq.elim (h.mine i r hi q) (h.mine j s hj q)
  have far : ∀ (u : Res), (∀ q, u.F q → (r.F q ∨ s.F q) ∨ w.heap.size ≤ q) → ∀ (k : Nat) (t : Res), rs[k]? = some t → k ≠ i → k ≠ j → u.dj t := fun u hu k t hk h1 h2 q hq hq2 => by
    rcases hu q hq with (h3 | h3) | h3
    · exact h.dis k i t r hk hi h1 q hq2 h3
    · exact h.dis k j t s hk hj h2 q hq2 h3
    · exact absurd (t.lt (h.own k t hk) q hq2) (Nat.not_lt.2 h3)
  have rfar : ∀ (u : Res), (∀ q, u.F q → (r.F q ∨ s.F q) ∨ w.heap.size ≤ q) → ∀ (k : Nat) (t : Res), ro[k]? = some t → t.dj u := fun u hu k t hk q hq2 hq => by
    rcases hu q hq with (h3 | h3) | h3
    · exact h.rdis k i t r hk hi q hq2 h3
    · exact h.rdis k j t s hk hj q hq2 h3
    · exact absurd (t.lt (h.red k t hk) q hq2) (Nat.not_lt.2 h3)
  refine ⟨h.fr.trans hc.fr mine2, ?_, ?_, ?_, ?_, ?_⟩
  · intro k t hk
    rcases key k t hk with ⟨_, rfl⟩ | ⟨_, rfl⟩ | ⟨h1, h2, hk⟩
    · exact R'
    · exact S'
    · exact keepS k t hk h1 h2
  · intro k t hk q hq
    rcases key k t hk with ⟨_, rfl⟩ | ⟨_, rfl⟩ | ⟨h1, h2, hk⟩
    · exact (FR q hq).elim (mine2 q) (fun h3 => .inr (Nat.le_trans h.fr.size h3))
    · exact (FS q hq).elim (mine2 q) (fun h3 => .inr (Nat.le_trans h.fr.size h3))
    · exact h.mine k t hk q hq
  · intro k m t u hk hm hne
    rcases key k t hk with ⟨e1, et⟩ | ⟨e1, et⟩ | ⟨h1, h2, hk1⟩
    · rcases key m u hm with ⟨e2, _⟩ | ⟨e2, eu⟩ | ⟨h3, h4, hm1⟩
      · exact absurd (e1.trans e2.symm) hne
      · rw [et, eu]; exact D'
      · rw [et]; exact far _ FR m u hm1 h3 h4
    · rcases key m u hm with ⟨e2, eu⟩ | ⟨e2, _⟩ | ⟨h3, h4, hm1⟩
      · rw [et, eu]; exact D'.symm
      · exact absurd (e1.trans e2.symm) hne
      · rw [et]; exact far _ FS m u hm1 h3 h4
    · rcases key m u hm with ⟨e2, eu⟩ | ⟨e2, eu⟩ | ⟨h3, h4, hm1⟩
      · rw [eu]; exact (far _ FR k t hk1 h1 h2).symm
      · rw [eu]; exact (far _ FS k t hk1 h1 h2).symm
      · exact h.dis k m t u hk1 hm1 hne
  · intro k t hk
    exact t.keep (h.red k t hk) hc.fr.size fun q hq => hc.fr.block q (t.lt (h.red k t hk) q hq) (fun hh => hh.elim (h.rdis k i t r hk hi q hq) (h.rdis k j t s hk hj q hq))
  · intro k m t u hk hm
    rcases key m u hm with ⟨_, rfl⟩ | ⟨_, rfl⟩ | ⟨_, _, hm⟩
    · exact rfar _ FR k t hk
    · exact rfar _ FS k t hk
    · exact h.rdis k m t u hk hm
/-- Two things held as one, and a thing held as two. -/
theorem Hp.join (h : Hp F0 w0 w ro rs) (i j : Nat) {r s : Res} (hi : rs[i]? = some r) (hj : rs[j]? = some s) (hij : i < j) (t : Res) (ht : t.Φ w) (hF : ∀ q, t.F q → r.F q ∨ s.F q) :
    Hp F0 w0 w ro (t :: (rs.eraseIdx j).eraseIdx i) := by
  refine ((h.drop j).drop i).addS t ht (fun q hq => ?_) (fun k u hk => ?_) (fun k u hk q h1 h2 => ?_)
  · rcases hF q hq with h1 | h1
    · exact h.mine i r hi q h1
    · exact h.mine j s hj q h1
  · obtain ⟨k1, hk1, hne1, e1⟩ := get_erase hk
    obtain ⟨k2, hk2, hne2, e2⟩ := get_erase hk1
    intro q h1 h2
    rcases hF q h1 with h3 | h3
    · refine h.dis i k2 r u hi hk2 ?_ q h3 h2
      rw [e2]; split <;> omega
    · exact h.dis j k2 s u hj hk2 (Ne.symm hne2) q h3 h2
  · rcases hF q h1 with h3 | h3
    · exact h.rdis k i u r hk hi q h2 h3
    · exact h.rdis k j u s hk hj q h2 h3
/-- Only some of the things, in another order. -/
theorem Hp.sel (h : Hp F0 w0 w ro rs) (is js : List Nat) {ro' rs' : List Res} (hnd : decide is.Nodup = true) (h1 : js.filterMap (ro[·]?) = ro') (h2 : is.map (rs[·]?) = rs'.map some) : Hp F0 w0 w ro' rs' := by
  have hnd := of_decide_eq_true hnd
  have key : ∀ (i : Nat) (r : Res), rs'[i]? = some r → ∃ k : Nat, is[i]? = some k ∧ rs[k]? = some r := by
    intro i r hi
    have h3 : (rs'.map some)[i]? = some (some r) := by rw [List.getElem?_map, hi]; rfl
    rw [← h2, List.getElem?_map] at h3
    cases hk : is[i]? with
    | none => rw [hk] at h3; cases h3
    | some k => rw [hk] at h3; injection h3 with h3; exact ⟨k, rfl, h3⟩
  have keyR : ∀ (i : Nat) (r : Res), ro'[i]? = some r → ∃ k : Nat, ro[k]? = some r := by
    intro i r hi
    subst h1
    have hm := List.mem_of_getElem? hi
    rw [List.mem_filterMap] at hm
    obtain ⟨k, _, hk⟩ := hm
    exact ⟨k, hk⟩
  refine ⟨h.fr, ?_, ?_, ?_, ?_, ?_⟩
  · intro i r hi; obtain ⟨k, _, hk⟩ := key i r hi; exact h.own k r hk
  · intro i r hi; obtain ⟨k, _, hk⟩ := key i r hi; exact h.mine k r hk
  · intro i j r s hi hj hij
    obtain ⟨k, hk1, hk⟩ := key i r hi
    obtain ⟨m, hm1, hm⟩ := key j s hj
    refine h.dis k m r s hk hm ?_
    rintro rfl
    have h3 := List.getElem?_eq_some_iff.1 hk1
    obtain ⟨h3, h4⟩ := h3
    exact hij ((List.getElem?_inj h3 hnd).1 (by rw [hk1, hm1]))
  · intro i r hi; obtain ⟨k, hk⟩ := keyR i r hi; exact h.red k r hk
  · intro i j r s hi hj; obtain ⟨k, hk⟩ := keyR i r hi; obtain ⟨m, _, hm⟩ := key j s hj; exact h.rdis k m r s hk hm
theorem Hp.weaken (h : Hp F0 w0 w ro rs) {F : Nat → Prop} (hF : ∀ q, F0 q → F q) : Hp F w0 w ro rs :=
  { h with
    fr := ⟨h.fr.os, h.fr.tape, h.fr.output, h.fr.size, fun k hk hn => h.fr.block k hk (fun h0 => hn (hF k h0))⟩
    mine := fun i r hi q hq => (h.mine i r hi q hq).imp_left (hF q) }
end
end Go.Proofs.Ytpkelokaammmjaa
end
/-! Guarded operations in a plain region. -/
section
namespace Go.Proofs.Ytpkelokaammmjaa
open Go.RowKit Go.QT
variable {P : Program} {ops : Array Oper} {rest : List Oper} {o : Oper} {a : Act} {w w' : World} {Q : Exit → Act → World → Prop}
theorem wl_runG (hw : Region.wanted o (yielded ops a.tmps) = true) (v : Value) (hv : (execOp a.eval o).run P w = .ok (.value v) w') (h : wpList P ops Q rest (a.put o.dst v) w') : wpList P ops Q (o :: rest) a w :=
  wpList_step fun K hK => by
    rw [if_pos hw]
    unfold Oper.wp
    rw [hv]
    exact hK _ _ h
theorem wl_valG (hw : Region.wanted o (yielded ops a.tmps) = true) (v : Value) (hv : (execOp a.eval o).run P w = .ok (.value v) w) (h : wpList P ops Q rest (a.put o.dst v) w) : wpList P ops Q (o :: rest) a w := wl_runG hw v hv h
theorem wl_skipG (hw : Region.wanted o (yielded ops a.tmps) = false) (h : wpList P ops Q rest (a.put o.dst undef) w) : wpList P ops Q (o :: rest) a w :=
  wpList_step fun K hK => by
    rw [if_neg (by rw [hw]; simp)]
    exact hK _ _ h
theorem wl_callG {R : Ending → World → Prop} (hw : Region.wanted o (yielded ops a.tmps) = true)
    (fn : FuncId) (xl : List Operand) (ats : Array TypeId) (ho : o.op = .call { callee := .value (.func fn), args := xl.toArray, argTypes := ats }) (al : List Value) (hargs : xl.map a.eval = al) (hg : goB P fn = true)
    (hcall : Calls P fn al.toArray w R) (h : ∀ e w', R e w' → ∃ v, e = .returned v ∧ wpList P ops Q rest (a.put o.dst v) w') : wpList P ops Q (o :: rest) a w :=
  wpList_step fun K hK => by
    rw [if_pos hw]
    unfold Oper.wp
    rw [exec_call fn xl ats ho al hargs hg, Oper.upon_enter]
    refine hcall.mono fun e w' hR => ?_
    obtain ⟨v, rfl, hn⟩ := h e w' hR
    exact hK _ _ hn
end Go.Proofs.Ytpkelokaammmjaa
end
/-! Steps of a walk, with what is held in memory: over any program. What an operation yields without a look at the world is left to the kernel. -/
section
namespace Go.Proofs.Ytpkelokaammmjaa
open Go.RowKit Go.QT
/-! ### Words -/
def pt (b k : Nat) : Value := .pointer (some ⟨b, k, none⟩)
def iv (n : Int) : Value := .int .i64 n
def rBlk (g : Nat) (T : TypeId) (cs : List Value) : Res where
  F := fun q => q = g
  Φ := fun w => Blk w g T cs
  lt := fun h q hq => by subst hq; exact h.lt
  keep := fun h _ hk => (hk g rfl).trans h
def rOB (v : Value) (l : Bytes) : Res where
  F := fun q => v.ownBlock = some q
  Φ := fun w => OB w 0 v l
  lt := fun h q hq => (OB.own h q hq).2
  keep := fun h _ hk => OB.keep h hk
def rOV (E : TypeId) (sz : Nat) (v : Value) (xs : List (List Value)) : Res where
  F := fun q => v.ownBlock = some q
  Φ := fun w => OV w 0 E sz v xs
  lt := fun h q hq => (h.block q hq).2
  keep := fun h _ hk => h.keep hk
def rSB (v : Value) (l : Bytes) : Res where
  F := fun q => l ≠ [] ∧ v.ownBlock = some q
  Φ := fun w => SB w v l
  lt := fun h q hq => by
    obtain ⟨A, c, rfl, hc, hm, h⟩ := h
    obtain ⟨b, o, rfl, hb, _⟩ := h hq.1
    have : b = q := by simpa [Value.ownBlock] using hq.2
    omega
  keep := fun h hs hk => by
    obtain ⟨A, c, rfl, hc, hm, h⟩ := h
    refine ⟨A, c, rfl, hc, hm, fun hl => ?_⟩
    obtain ⟨b, o, rfl, hb, hcell⟩ := h hl
    exact ⟨b, o, rfl, by omega, fun i hi => (World.cell?_of_block (hk b ⟨hl, rfl⟩)).trans (hcell i hi)⟩
/-- Sixteen bytes whose places the kernel can see. -/
def kl (K : Fin 16 → UInt8) : Bytes := List.ofFn K
theorem kl_len (K : Fin 16 → UInt8) : (kl K).length = 16 := by simp [kl]
theorem kl_of (l : Bytes) (h : l.length = 16) : ∃ K, l = kl K := by
  refine ⟨fun i => l[i.val]'(by have := i.isLt; omega), ?_⟩
  apply List.ext_getElem
  · simp [kl, h]
  · intro i h1 h2; simp only [kl, List.getElem_ofFn]
/-! ### What needs no world -/
def pureVal (P : Program) {α : Type} : Sem α → Option α
  | .pure a => some a
  | .program k => pureVal P (k P)
  | .mark _ k => pureVal P k
  | _ => none
theorem pureVal_run {P : Program} {α : Type} {s : Sem α} {a : α} (h : pureVal P s = some a) (w : World) : s.run P w = .ok a w := by
  induction s with
  | pure b => simp only [pureVal, Option.some.injEq] at h; subst h; rfl
  | program k ih => exact ih P h
  | mark m k ih => exact ih h
  | _ => simp [pureVal] at h
def pureOp (P : Program) (o : Oper) (a : Act) : Option Value :=
  match pureVal P (execOp a.eval o) with
  | some (.value v) => some v
  | _ => none
theorem pureOp_run {P : Program} {o : Oper} {a : Act} {v : Value} (h : pureOp P o a = some v) (w : World) : (execOp a.eval o).run P w = .ok (.value v) w := by
  unfold pureOp at h
  split at h
  · rename_i u hu
    injection h with h; subst h
    exact pureVal_run hu w
  · cases h
theorem e_is {P : Program} {o : Oper} {a : Act} {v u : Value} (h : pureOp P o a = some v) (e : v = u) {w : World} : (execOp a.eval o).run P w = .ok (.value u) w := by subst e; exact pureOp_run h w
def puts (a : Act) : List (Nat × Value) → Act
  | [] => a
  | (d, v) :: l => puts (a.put (some d) v) l
def pureRun (P : Program) (ops : Array Oper) : Nat → List Oper → Act → Option (List Oper × Act)
  | 0, l, a => some (l, a)
  | _ + 1, [], _ => none
  | n + 1, o :: l, a =>
    if Region.wanted o (yielded ops a.tmps) then
      match pureOp P o a with
      | some v => pureRun P ops n l (a.put o.dst v)
      | none => none
    else pureRun P ops n l (a.put o.dst undef)
section
variable {P : Program} {ops : Array Oper} {rest l l' : List Oper} {o : Oper} {a : Act} {w w' : World} {Q : Exit → Act → World → Prop} {R : Value → World → Prop}
theorem wl_pr : ∀ (n : Nat) (l : List Oper) (a : Act) (l' : List Oper) (a' : Act), pureRun P ops n l a = some (l', a') → wpList P ops Q l' a' w → wpList P ops Q l a w
  | 0, l, a, l', a', h, k => by simp only [pureRun, Option.some.injEq, Prod.mk.injEq] at h; obtain ⟨rfl, rfl⟩ := h; exact k
  | _ + 1, [], _, _, _, h, _ => by simp [pureRun] at h
  | n + 1, o :: l, a, l', a', h, k => by
    unfold pureRun at h
    split at h
    · rename_i hw
      split at h
      · rename_i v hv
        refine wpList_step fun K hK => ?_
        rw [if_pos hw]
        unfold Oper.wp
        rw [pureOp_run hv]
        exact hK _ _ (wl_pr n l _ l' a' h k)
      · cases h
    · rename_i hw
      refine wpList_step fun K hK => ?_
      rw [if_neg hw]
      exact hK _ _ (wl_pr n l _ l' a' h k)
/-- What is to be shown of the operations of a region that are still to come. -/
structure WL (P : Program) (ops : Array Oper) (Q : Exit → Act → World → Prop) (l : List Oper) (a : Act) (w : World) : Prop where
  run : wpList P ops Q l a w
theorem reg_lit {id : Nat} (h : WL P l.toArray Q l a w) : (Code.region id l.toArray false).wp P Q a w := wp_region_lit h.run
/-- Operations that need no world, n of them. -/
theorem wl_p (n : Nat) (vs : List (Nat × Value)) (h : pureRun P ops n l a = some (l.drop n, puts a vs)) (k : WL P ops Q (l.drop n) (puts a vs) w) : WL P ops Q l a w :=
  ⟨wl_pr n l a _ _ h k.run⟩
/-! ### What an operation comes to -/
structure OpTo (P : Program) (o : Oper) (a : Act) (w : World) (R : Value → World → Prop) : Prop where
  goes : ∀ (next : Act → World → Prop) (Q : Exit → Act → World → Prop), (∀ v w', R v w' → next (a.put o.dst v) w') → o.wp P a w next Q
theorem OpTo.run (v : Value) (hv : (execOp a.eval o).run P w = .ok (.value v) w') (hr : R v w') : OpTo P o a w R := ⟨fun next Q k => by
  unfold Oper.wp; rw [hv]; exact k _ _ hr⟩
theorem OpTo.runs (hv : (execOp a.eval o).run P w = .ok .skip w') (hr : R undef w') : OpTo P o a w R := ⟨fun next Q k => by
  unfold Oper.wp; rw [hv]; exact k _ _ hr⟩
theorem OpTo.call {C : Ending → World → Prop} (fn : FuncId) (xl : List Operand) (ats : Array TypeId) (ho : o.op = .call { callee := .value (.func fn), args := xl.toArray, argTypes := ats }) (al : List Value) (hargs : xl.map a.eval = al) (hg : goB P fn = true)
    (hc : Calls P fn al.toArray w C) (h : ∀ e w', C e w' → ∃ v, e = .returned v ∧ R v w') : OpTo P o a w R := ⟨fun next Q k => by
  unfold Oper.wp
  rw [exec_call fn xl ats ho al hargs hg, Oper.upon_enter]
  refine hc.mono fun e w' hR => ?_
  obtain ⟨v, rfl, hn⟩ := h e w' hR
  exact k _ _ hn⟩
/-- A call, told by the kernel. -/
theorem OpTo.enter {C : Ending → World → Prop} (fn : FuncId) (al : List Value) (hp : pureVal P (execOp a.eval o) = some (.enter fn al.toArray)) (hc : Calls P fn al.toArray w C) (h : ∀ e w', C e w' → ∃ v, e = .returned v ∧ R v w') : OpTo P o a w R := ⟨fun next Q k => by
  unfold Oper.wp
  rw [pureVal_run hp w, Oper.upon_enter]
  refine hc.mono fun e w' hR => ?_
  obtain ⟨v, rfl, hn⟩ := h e w' hR
  exact k _ _ hn⟩
/-- What makes one block. -/
def newVal (P : Program) {α : Type} : Sem α → Option (Obj × (Nat → Option α))
  | .new o k => some (o, fun r => pureVal P (k r))
  | .program k => newVal P (k P)
  | .mark _ k => newVal P k
  | _ => none
theorem newVal_run {P : Program} {α : Type} {s : Sem α} {o : Obj} {k : Nat → Option α} {a : α} (h : newVal P s = some (o, k)) (w : World) (hk : k w.heap.size = some a) : s.run P w = .ok a (w.alloc o) := by
  induction s with
  | new o' k' ih =>
    simp only [newVal, Option.some.injEq, Prod.mk.injEq] at h
    obtain ⟨rfl, rfl⟩ := h
    exact pureVal_run hk _
  | program k' ih => exact ih P h
  | mark m k' ih => exact ih h
  | _ => simp [newVal] at h
theorem OpTo.mono {R' : Value → World → Prop} (h : OpTo P o a w R) (k : ∀ v w', R v w' → R' v w') : OpTo P o a w R' := ⟨fun next Q n => h.goes next Q fun v w' hr => n v w' (k v w' hr)⟩
/-- A step of a plain region. -/
theorem wl_to (hw : Region.wanted o (yielded ops a.tmps) = true) (h : OpTo P o a w R) (k : ∀ v w', R v w' → WL P ops Q rest (a.put o.dst v) w') : WL P ops Q (o :: rest) a w :=
  ⟨wpList_step fun K hK => by
    rw [if_pos hw]
    exact h.goes _ _ fun v w' hr => hK _ _ (k v w' hr).run⟩
/-- One that leaves the world. -/
theorem wl_v (hw : Region.wanted o (yielded ops a.tmps) = true) (v : Value) (hv : (execOp a.eval o).run P w = .ok (.value v) w) (k : WL P ops Q rest (a.put o.dst v) w) : WL P ops Q (o :: rest) a w :=
  ⟨wl_runG hw v hv k.run⟩
/-! ### Operations on what is held -/
variable {F0 : Nat → Prop} {w0 : World} {ro rs : List Res}
theorem Hp.alloc (h : Hp F0 w0 w ro rs) (T : TypeId) (cs : List Value) : Hp F0 w0 (w.alloc (.cells cs.toArray T)) ro (rBlk w.heap.size T cs :: rs) :=
  h.newS ((Below.refl _ _).alloc (Nat.le_refl _) _) (rBlk w.heap.size T cs) (Blk.new w T cs) (fun q hq => by rw [show q = _ from hq]; exact Nat.le_refl _)
theorem x_new (h : Hp F0 w0 w ro rs) (T : TypeId) (cs : List Value) (f : Nat → Value) (hn : newVal P (execOp a.eval o) = some (.cells cs.toArray T, fun r => some (.value (f r)))) :
    OpTo P o a w (fun v w' => ∃ g, v = f g ∧ Hp F0 w0 w' ro (rBlk g T cs :: rs)) :=
  OpTo.run (f w.heap.size) (newVal_run hn w rfl) ⟨_, rfl, h.alloc T cs⟩
/-- A load of one cell of a block that is held. -/
theorem e_load {g : Nat} {T : TypeId} {cs : List Value} (hb : Blk w g T cs) (t : TypeId) (x : Operand) (ho : o.op = .load t x) (k : Nat) (v : Value) (hx : a.eval x = pt g k) (hk : cs[k]? = some v) (ht : pureVal P (isAgg t) = some false) :
    (execOp a.eval o).run P w = .ok (.value v) w := by
  have hc : w.cell? ⟨g, k, none⟩ = some v := (hb.cell k).trans hk
  have hl : (loadVar t ⟨g, k, none⟩).run P w = .ok v w := by simp [loadVar, pureVal_run ht, hc]
  unfold execOp
  simp only [ho, hx, pt, Instr.loadAt, Instr.sureAddr, Sem.run_bind, Sem.run_pure, Result.andThen_ok, hl]
def rowB (P : Program) (t : TypeId) (n : Nat) : Bool := (match P.underlying t with | some d => d.isRow | none => false) && ((P.info? t).map (·.size) == some n)
theorem rowB_spec {t : TypeId} {n : Nat} (h : rowB P t n = true) : ∃ d, P.underlying t = some d ∧ d.isRow = true ∧ (P.info? t).map (·.size) = some n := by
  unfold rowB at h
  simp only [Bool.and_eq_true, beq_iff_eq] at h
  obtain ⟨h1, h2⟩ := h
  cases hd : P.underlying t with
  | none => rw [hd] at h1; cases h1
  | some d => rw [hd] at h1; exact ⟨d, rfl, h1, h2⟩
/-- A load of a row. -/
theorem e_loads {g : Nat} {T : TypeId} {cs : List Value} (hb : Blk w g T cs) (t : TypeId) (x : Operand) (ho : o.op = .load t x) (k : Nat) (ds : List Value) (hx : a.eval x = pt g k) (hk : (cs.drop k).take ds.length = ds) (hB : rowB P t ds.length = true) : (execOp a.eval o).run P w = .ok (.value (.agg ds.toArray)) w := by
  obtain ⟨d, hu, hr, hi⟩ := rowB_spec hB
  exact exec_load t x ho g k hx T cs ds d hb (fun j v hj => slice_get cs k ds.length j v (by rw [hk]; exact hj)) hu hr hi
theorem Fr.setCell (w : World) (g k : Nat) (v : Value) : Fr (fun q => q = g) w (w.setCell ⟨g, k, none⟩ v) :=
  Fr.of_grown (only_setCell (only_refl w (some g)) (.inl rfl) v) (fun q hq => by injection hq with hq; exact .inl hq.symm)
/-- A store into a block that is held. -/
theorem x_store (h : Hp F0 w0 w ro rs) (i : Nat) {g : Nat} {T : TypeId} {cs : List Value} (hi : rs[i]? = some (rBlk g T cs)) (t : TypeId) (x y : Operand) (ho : o.op = .store t x y) (k : Nat) (v : Value) (es : List Value) (hx : a.eval x = pt g k) (hy : a.eval y = v) (hk : decide (k < cs.length) = true)
    (hsz : (P.info? t).map (·.size) = some 1) (h1 : v.oneCell' = true) (hv : v.cells = #[v]) (he : es = cs.set k v) :
    OpTo P o a w (fun _ w' => Hp F0 w0 w' ro (rs.set i (rBlk g T es))) := by
  subst he
  have hb : Blk w g T cs := h.own i _ hi
  refine OpTo.runs (w' := w.setCell ⟨g, k, none⟩ v) (exec_storeCell t x y ho g k v hx hy T cs hb (of_decide_eq_true hk) hsz h1 hv) ?_
  exact h.upd i hi (Fr.setCell w g k v) (rBlk g T (cs.set k v)) (hb.set k v) (fun q hq => .inl hq)
theorem x_stores (h : Hp F0 w0 w ro rs) (i : Nat) {g : Nat} {T : TypeId} {cs : List Value} (hi : rs[i]? = some (rBlk g T cs)) (t : TypeId) (x y : Operand) (ho : o.op = .store t x y) (k : Nat) (ds es : List Value) (hx : a.eval x = pt g k) (hy : a.eval y = .agg ds.toArray) (hk : decide (k + ds.length ≤ cs.length) = true)
    (hsz : (P.info? t).map (·.size) = some ds.length) (h1 : ds.all (·.oneCell') = true) (he : es = cs.take k ++ ds ++ cs.drop (k + ds.length)) :
    OpTo P o a w (fun _ w' => Hp F0 w0 w' ro (rs.set i (rBlk g T es))) := by
  have hb : Blk w g T cs := h.own i _ hi
  subst he
  refine OpTo.runs (exec_storeRow t x y ho g k ds hx hy T cs hb (of_decide_eq_true hk) hsz (by simpa using h1)) ?_
  exact h.upd i hi (Fr.of_grown (only_setRow g _) (fun q hq => by injection hq with hq; exact .inl hq.symm)) _ (hb.setRow _) (fun q hq => .inl hq)
/-- clear of a part of a block that is held. -/
theorem x_clear (h : Hp F0 w0 w ro rs) (i : Nat) {g : Nat} {T : TypeId} {cs : List Value} (hi : rs[i]? = some (rBlk g T cs)) (x : Operand) (t E : TypeId) (ho : o.op = .call { callee := .builtin .clear, args := #[x], argTypes := #[t] })
    (k n c : Nat) (hx : a.eval x = .slice (some ⟨g, k, none⟩) (n + 1) c) (ht : P.underlying t = some (.slice E)) (z : Value) (hz : pureVal P (zeroValue E) = some z) (ds : List Value) (hd : Builtin.zeroCells z.cells (n + 1) = ds.toArray) (hk : decide (k + ds.length ≤ cs.length) = true) (h1 : ds.all (·.oneCell') = true)
    (es : List Value) (he : es = cs.take k ++ ds ++ cs.drop (k + ds.length)) :
    OpTo P o a w (fun _ w' => Hp F0 w0 w' ro (rs.set i (rBlk g T es))) := by
  have hb : Blk w g T cs := h.own i _ hi
  subst he
  have hk := of_decide_eq_true hk
  have hst : (storeCells ⟨g, k, none⟩ ds).run P w = .ok () (w.setRow g (cs.take k ++ ds ++ cs.drop (k + ds.length)).toArray) := by
    have := run_storeCells_at (P := P) g k T ds 0 cs.toArray w hb (by simpa using hk) (by simpa using h1)
    simp only [Nat.add_zero] at this
    simpa using this
  have hr : (execOp a.eval o).run P w = .ok (.value (.tuple #[])) (w.setRow g (cs.take k ++ ds ++ cs.drop (k + ds.length)).toArray) := by
    unfold execOp
    simp only [ho, resolve, invoke, builtin, Builtin.clear_, Sem.run_bind, Sem.run_pure, Result.andThen_ok, List.map_toArray, List.map_cons, List.map_nil, hx]
    simp [run_underlying ht, pureVal_run hz, hd, hst]
  exact OpTo.run _ hr (h.upd i hi (Fr.of_grown (only_setRow g _) (fun q hq => by injection hq with hq; exact .inl hq.symm)) _ (hb.setRow _) (fun q hq => .inl hq))
/-! ### Regions that draw their order -/
def marks (L : Array Bool) (is : List Nat) : Array Bool := is.foldl (fun L i => L.setIfInBounds i true) L
def freeRun (P : Program) (md : Region.Mode) (ops : Array Oper) (p : Nat) : List Nat → Array Bool → Act → Option Act
  | [], _, a => some a
  | i :: r, L, a =>
    match ops[i]? with
    | none => none
    | some o =>
      if (decide (i < p) && (Region.ready md ops L).contains i && Region.free md ops L i) then
        if Region.wanted o (yielded ops a.tmps) then
          match pureOp P o a with
          | some v => freeRun P md ops p r (L.setIfInBounds i true) (a.put o.dst v)
          | none => none
        else freeRun P md ops p r (L.setIfInBounds i true) (a.put o.dst undef)
      else none
section
variable {md : Region.Mode} {S : World → Prop} {p : Nat} {L : Array Bool}
def bl (n m : Nat) : Array Bool := ((List.range n).map (Nat.testBit m)).toArray
theorem pH_pr (hs : Region.noSelect ops = true) (hph : phaseB md ops p = true) (hQ : ∀ c d v a w, Q (.panic c) (Act.put a d v) w → Q (.panic c) a w) (hS : S w) (f : Nat) :
    ∀ (is : List Nat) (L : Array Bool) (a a' : Act), freeRun P md ops p is L a = some a' → wpAnyT P md ops Q S p f (marks L is) a' w → wpAnyT P md ops Q S p (f + is.length) L a w
  | [], L, a, a', h, k => by simp only [freeRun, Option.some.injEq] at h; subst h; exact k
  | i :: r, L, a, a', h, k => by
    unfold freeRun at h
    split at h
    · cases h
    · rename_i o ho
      split at h
      · rename_i hc
        simp only [Bool.and_eq_true, decide_eq_true_eq] at hc
        obtain ⟨⟨hip, hr⟩, hf⟩ := hc
        split at h
        · rename_i hw
          split at h
          · rename_i v hv
            exact pH_val o.dst v ho rfl hs hf hr hph (decide_eq_true hip) hQ hw hS (fun W _ => pureOp_run hv W) (pH_pr hs hph hQ hS f r _ _ a' h k)
          · cases h
        · rename_i hw
          exact pH_skip o.dst ho rfl hs hf hr hph (decide_eq_true hip) hQ (by simpa using hw) hS (pH_pr hs hph hQ hS f r _ _ a' h k)
      · cases h
/-- Operations that need no world, taken first. -/
theorem pH_p {n : Nat} (f : Nat) (is : List Nat) (vs : List (Nat × Value)) (L' : Array Bool) (hL : marks L is = L') (hn : n = f + is.length) (hs : Region.noSelect ops = true) (hph : phaseB md ops p = true) (hQ : ∀ c d v a w, Q (.panic c) (Act.put a d v) w → Q (.panic c) a w) (hS : S w)
    (h : freeRun P md ops p is L a = some (puts a vs)) (k : wpAnyT P md ops Q S p f L' (puts a vs) w) : wpAnyT P md ops Q S p n L a w := by
  subst hL; subst hn; exact pH_pr hs hph hQ hS f is L a _ h k
/-- What leaves the world, as long as S holds of it. -/
theorem pH_v {f : Nat} (i : Nat) (d : Option Tmp) (v : Value) (L' : Array Bool) (hL : marks L [i] = L') (hi : ops[i]? = some o) (hd : o.dst = d) (hs : Region.noSelect ops = true) (hf : Region.free md ops L i = true) (hr : (Region.ready md ops L).contains i = true)
    (hph : phaseB md ops p = true) (hip : decide (i < p) = true) (hQ : ∀ c d v a w, Q (.panic c) (Act.put a d v) w → Q (.panic c) a w) (hw : Region.wanted o (yielded ops a.tmps) = true) (hS : S w)
    (hv : ∀ W, S W → (execOp a.eval o).run P W = .ok (.value v) W) (k : wpAnyT P md ops Q S p f L' (a.put d v) w) : wpAnyT P md ops Q S p (f + 1) L a w := by
  subst hL; exact pH_val d v hi hd hs hf hr hph hip hQ hw hS hv k
/-- What comes up alone. -/
theorem pH_to {f : Nat} (i : Nat) (d : Option Tmp) (L' : Array Bool) (hL : marks L [i] = L') (hi : ops[i]? = some o) (hd : o.dst = d) (hr : Region.ready md ops L = [i]) (hw : Region.wanted o (yielded ops a.tmps) = true)
    (h : OpTo P o a w R) (k : ∀ v w', R v w' → (i < p → S w') ∧ wpAnyT P md ops Q S p f L' (a.put d v) w') : wpAnyT P md ops Q S p (f + 1) L a w := by
  subst hL; subst hd
  refine pH_all hr rfl fun j hj => ?_
  have hji : j = i := by simpa using hj
  subst hji
  unfold wpOp
  simp only [hi]
  rw [if_pos hw]
  exact .inl (h.goes _ _ fun v w' hr => k v w' hr)
theorem pH_op {f : Nat} (i : Nat) (d : Option Tmp) (L' : Array Bool) (hL : marks L [i] = L') (hi : ops[i]? = some o) (hd : o.dst = d) (hw : Region.wanted o (yielded ops a.tmps) = true)
    (h : OpTo P o a w R) (k : ∀ v w', R v w' → (i < p → S w') ∧ wpAnyT P md ops Q S p f L' (a.put d v) w') :
    wpOp P ops Q i (fun a' w' => (i < p → S w') ∧ wpAnyT P md ops Q S p f (L.setIfInBounds i true) a' w') a w := by
  subst hL; subst hd
  unfold wpOp
  simp only [hi]
  rw [if_pos hw]
  exact .inl (h.goes _ _ fun v w' hr => k v w' hr)
/-- Two come up together. -/
theorem pH_or {f : Nat} (i j : Nat) (hr : Region.ready md ops L = [i, j])
    (h1 : wpOp P ops Q i (fun a' w' => (i < p → S w') ∧ wpAnyT P md ops Q S p f (L.setIfInBounds i true) a' w') a w)
    (h2 : wpOp P ops Q j (fun a' w' => (j < p → S w') ∧ wpAnyT P md ops Q S p f (L.setIfInBounds j true) a' w') a w) : wpAnyT P md ops Q S p (f + 1) L a w := by
  refine pH_all hr rfl fun k hk => ?_
  rcases List.mem_cons.1 hk with rfl | hk
  · exact h1
  · have : k = j := by simpa using hk
    subst this; exact h2
theorem pH_go {F0 : Nat → Prop} {w0 : World} {ro rs : List Res} (h : Hp F0 w0 w ro rs) {id : Nat} {n : Nat} (p : Nat) (S : World → Prop) (hm : P.follows .mixedOrders = true) (hn : l.length = n) (hL : Array.replicate n false = bl n 0) (hs : Region.noSelect l.toArray = true) (hph : phaseB .any l.toArray p = true)
    (k : Region.noSelect l.toArray = true → phaseB .any l.toArray p = true → ∀ w', Hp F0 w0 w' ro rs → wpAnyT P .any l.toArray Q S p n (bl n 0) a w') : (Code.region id l.toArray true).wp P Q a w :=
  pH_begin p S hm hn (hL ▸ k hs hph _ (h.drewN 1))
end
/-! ### Control -/
theorem wl_end (hl : l = []) (h : Q .normal a w) : WL P ops Q l a w := by subst hl; exact ⟨h⟩
theorem seq_n {c : Code} {K : Act → World → Prop} (hK : ∀ a w, c.wp P Q a w → K a w) (h : c.wp P Q a w) : Exit.then K Q .normal a w := hK _ _ h
theorem seq_e {K : Act → World → Prop} {e : Nat} (h : Q (.exit e) a w) : Exit.then K Q (.exit e) a w := h
theorem seq_r {K : Act → World → Prop} (h : Q .ret a w) : Exit.then K Q .ret a w := h
theorem blk_n {i : Nat} (h : Q .normal a w) : Exit.inBlock i Q .normal a w := h
theorem blk_e {i : Nat} (h : Q .normal a w) : Exit.inBlock i Q (.exit i) a w := by
  show (if i = i then Q .normal a w else Q (.exit i) a w)
  rw [if_pos rfl]; exact h
theorem blk_s {i j : Nat} (hj : (j == i) = false) (h : Q (.exit j) a w) : Exit.inBlock i Q (.exit j) a w := by
  show (if j = i then Q .normal a w else Q (.exit j) a w)
  rw [if_neg (by simpa using hj)]; exact h
theorem blk_r {i : Nat} (h : Q .ret a w) : Exit.inBlock i Q .ret a w := h
def dead (a : Act) : Nat → Value := fun i => a.tmps.getD i undef
theorem least {p : Nat → Prop} (h : ∃ m, p m) : ∃ m, p m ∧ ∀ k, p k → m ≤ k := by
  obtain ⟨m, hm⟩ := h
  induction m using Nat.strongRecOn with
  | _ m ih =>
    by_cases hk : ∃ k, k < m ∧ p k
    · obtain ⟨k, hlt, hp⟩ := hk; exact ih k hlt hp
    · exact ⟨m, hm, fun k hp => Nat.le_of_not_lt fun hlt => hk ⟨k, hlt, hp⟩⟩
open Classical in
noncomputable def leastN (p : Nat → Prop) : Nat := if h : ∃ m, p m then (least h).choose else 0
theorem leastN_spec {p : Nat → Prop} (h : ∃ m, p m) : p (leastN p) ∧ ∀ k, p k → leastN p ≤ k := by
  unfold leastN; rw [dif_pos h]; exact (least h).choose_spec
/-- A loop: J m x a w holds at its head, where m goes down. -/
theorem wp_loopm {c : Code} (J : Nat → (Nat → Value) → Act → World → Prop) (h0 : ∃ m, J m (dead a) a w)
    (round : ∀ m x a w, J m x a w → c.wp P (Exit.then (fun a' w' => ∃ m', m' < m ∧ J m' (dead a') a' w') Q) a w) : (Code.loop c).wp P Q a w := by
  refine wp_loop (fun a w => ∃ m, J m (dead a) a w) (fun a w => leastN fun m => J m (dead a) a w) h0 ?_
  intro a w h
  refine wp_mono (round _ _ a w (leastN_spec h).1) fun e a' w' hq => ?_
  cases e with
  | normal =>
    obtain ⟨m', hlt, hJ⟩ := hq
    exact ⟨⟨m', hJ⟩, Nat.lt_of_le_of_lt ((leastN_spec ⟨m', hJ⟩).2 m' hJ) hlt⟩
  | _ => exact hq
variable {x y : Code}
theorem wp_act {c : Code} {a' : Act} (h : a = a') (k : c.wp P Q a' w) : c.wp P Q a w := h ▸ k
theorem wp_if (p : Prop) [Decidable p] {c : Operand} (hc : a.eval c = .bool (decide p)) (ht : p → x.wp P Q a w) (hf : ¬ p → y.wp P Q a w) : (Code.cond c x y).wp P Q a w := by
  by_cases h : p
  · exact wp_cond_true (by rw [hc, decide_eq_true h]) (ht h)
  · exact wp_cond_false (by rw [hc, decide_eq_false h]) (hf h)
theorem wp_ifeq (m n : Int) {c : Operand} (hc : a.eval c = .bool (m == n)) (ht : m = n → x.wp P Q a w) (hf : m ≠ n → y.wp P Q a w) : (Code.cond c x y).wp P Q a w := by
  by_cases h : m = n
  · exact wp_cond_true (by rw [hc, beq_iff_eq.2 h]) (ht h)
  · exact wp_cond_false (by rw [hc]; simp [h]) (hf h)
theorem wp_ifne (m n : Int) {c : Operand} (hc : a.eval c = .bool (m != n)) (ht : m ≠ n → x.wp P Q a w) (hf : m = n → y.wp P Q a w) : (Code.cond c x y).wp P Q a w := by
  by_cases h : m = n
  · exact wp_cond_false (by rw [hc]; simp [h]) (hf h)
  · exact wp_cond_true (by rw [hc]; simp [h]) (ht h)
/-! ### Results -/
def resOne (tmps : Array Value) : ResultVar → Sem Value
  | .tmp t => pure (tmps.getD t undef)
  | .cell a t => do loadVar t (← asAddr (tmps.getD a undef))
theorem results_eq (fn : Func) (tmps : Array Value) : results fn tmps = (do
    let vs ← fn.results.mapM (resOne tmps)
    pure (if h : vs.size = 1 then vs[0] else .tuple vs)) := by
  unfold results
  congr 1
theorem rtmp {tmps : Array Value} {t : Tmp} {v : Value} (h : tmps.getD t undef = v) : (resOne tmps (.tmp t)).run P w = .ok v w := by
  subst h; rfl
theorem rcell {tmps : Array Value} {p : Tmp} {t : TypeId} {g : Nat} {T : TypeId} {cs : List Value} (hb : Blk w g T cs) (h : tmps.getD p undef = pt g 0) (hB : rowB P t cs.length = true) : (resOne tmps (.cell p t)).run P w = .ok (.agg cs.toArray) w := by
  obtain ⟨d, hu, hr, hi⟩ := rowB_spec hB
  have hl := run_loadVar_mid (P := P) w g 0 t cs d (hb.range (fun j v hj => by rw [Nat.zero_add]; exact hj)) hu hr hi
  unfold resOne
  simp only [h, pt, asAddr, Sem.run_bind, Sem.run_pure, Result.andThen_ok, hl]
theorem post_0 {fn : Func} {R : Ending → World → Prop} (hf : fn.results = #[]) (hd : a.defers = []) (hr : R (.returned (.tuple #[])) w) : bodyPost P fn R .ret a w :=
  ⟨hd, _, by rw [results_eq, hf]; simp, hr⟩
theorem post_1 {fn : Func} {R : Ending → World → Prop} {r : ResultVar} {v : Value} (hf : fn.results = #[r]) (hd : a.defers = []) (h1 : (resOne a.tmps r).run P w = .ok v w) (hr : R (.returned v) w) : bodyPost P fn R .ret a w :=
  ⟨hd, v, by rw [results_eq, hf]; simp [h1], hr⟩
theorem post_2 {fn : Func} {R : Ending → World → Prop} {r s : ResultVar} {v u : Value} (hf : fn.results = #[r, s]) (hd : a.defers = []) (h1 : (resOne a.tmps r).run P w = .ok v w) (h2 : (resOne a.tmps s).run P w = .ok u w)
    (hr : R (.returned (.tuple #[v, u])) w) : bodyPost P fn R .ret a w :=
  ⟨hd, _, by rw [results_eq, hf]; simp [h1, h2], hr⟩
theorem post_3 {fn : Func} {R : Ending → World → Prop} {r s t : ResultVar} {v u x : Value} (hf : fn.results = #[r, s, t]) (hd : a.defers = []) (h1 : (resOne a.tmps r).run P w = .ok v w) (h2 : (resOne a.tmps s).run P w = .ok u w) (h3 : (resOne a.tmps t).run P w = .ok x w)
    (hr : R (.returned (.tuple #[v, u, x])) w) : bodyPost P fn R .ret a w :=
  ⟨hd, _, by rw [results_eq, hf]; simp [h1, h2, h3], hr⟩
theorem post_n {fn : Func} {R : Ending → World → Prop} (h : bodyPost P fn R .ret a w) : bodyPost P fn R .normal a w := h
def act0 (l : List Value) (n : Nat) : Act := { tmps := (l ++ List.replicate n undef).toArray, defers := [] }
theorem enter {f : FuncId} {fn : Func} {c : Code} {args : List Value} {R : Ending → World → Prop} (n : Nat) (hf : P.funcs[f]? = some fn) (hb : fn.body = some c) (hn : fn.ntmps - args.length = n)
    (h : c.wp P (bodyPost P fn R) (act0 args n) w) : Calls P f args.toArray w R := by
  refine calls_of_wp hf hb ?_
  have e : ({ tmps := args.toArray ++ Array.replicate (fn.ntmps - args.toArray.size) undef, defers := [] } : Act) = act0 args n := by
    subst hn
    simp [act0]
  rw [e]; exact h
end
end Go.Proofs.Ytpkelokaammmjaa
end
/-! Maps from keys to truths, of which all that is held is true: sets of keys. -/
section
namespace Go.Proofs.Ytpkelokaammmjaa
open Go.RowKit Go.QT
theorem undKm : Try.prog.underlying 63 = some (.map 28 4) := by kernel_rfl
theorem undK16 : Try.prog.underlying 28 = some (.array 16 5) := by kernel_rfl
theorem zbool (W : World) : (zeroValue 4).run Try.prog W = .ok (.bool false) W := by kernel_rfl
theorem sameNow_array (n : Nat) (e : TypeId) (a b : Value) : Instr.sameNow (.array n e) a b = none := by
  unfold Instr.sameNow; rfl
def ents (ks : List Bytes) : List (Value × Value) := ks.map fun k => (Value.agg (vb k).toArray, Value.bool true)
set_option maxRecDepth 100000 in
theorem run_find_key (f : Bytes) (hf : f.length = 16) (w : World) : ∀ (es : List MapEntry) (ks : List Bytes) (i : Nat), es.map (fun e => (e.key, e.val)) = ents ks → (∀ k ∈ ks, k.length = 16) →
    (Instr.findAsking 28 (.agg (vb f).toArray) es i).run Try.prog w = .ok ((ks.findIdx? fun k => decide (k = f)).map fun j => (i + j, Value.bool true)) w
  | [], ks, i, h, _ => by
    have : ks = [] := by simpa [ents] using h.symm
    subst this
    simp [Instr.findAsking]
  | e :: es, [], i, h, _ => by simp [ents] at h
  | e :: es, g :: ks, i, h, hl => by
    simp only [ents, List.map_cons, List.cons.injEq, Prod.mk.injEq] at h
    have hg := hl g (by simp)
    have ih := run_find_key f hf w es ks (i + 1) h.2 (fun p hp => hl p (by simp [hp]))
    have he : (Op.equal 28 (.agg (vb f).toArray) (.agg (vb g).toArray)).run Try.prog w = .ok (decide (f = g)) w := run_equalIn16 9998 28 f g w undK16 hf hg
    rw [← h.1.1] at he
    have hc : decide (g = f) = decide (f = g) := by rw [Bool.eq_iff_iff]; simp [eq_comm]
    simp only [Instr.findAsking, Sem.run_bind, he, Result.andThen_ok, List.findIdx?_cons, hc]
    by_cases hfg : f = g
    · simp [hfg, h.1.2]
    · simp only [decide_eq_false hfg, Bool.false_eq_true, if_false, ih]
      congr 1
      cases hq : ks.findIdx? fun p => decide (p = f) with
      | none => simp
      | some j => simp [Nat.add_assoc, Nat.add_comm 1 j]
/-- Where a key stands. -/
theorem run_findKey (f : Bytes) (hf : f.length = 16) (w : World) (es : Array MapEntry) (ks : List Bytes) (hme : es.toList.map (fun e => (e.key, e.val)) = ents ks) (hml : ∀ k ∈ ks, k.length = 16) :
    (Instr.findKey 28 (.agg (vb f).toArray) es.toList).run Try.prog w = .ok ((ks.findIdx? fun k => decide (k = f)).map fun j => (j, Value.bool true)) w := by
  have hfa := run_find_key f hf w es.toList ks 0 hme hml
  simp only [Nat.zero_add] at hfa
  cases hes : es.toList with
  | nil =>
    rw [hes] at hme
    have : ks = [] := by simpa [ents] using hme.symm
    simp [Instr.findKey, Instr.findNow, run_underlying undK16, this]
  | cons e rest =>
    rw [hes] at hfa
    have hn : Instr.findNow (.array 16 5) (.agg (vb f).toArray) (e :: rest) 0 = none := by
      simp only [Instr.findNow, sameNow_array]
    simp only [Instr.findKey, Sem.run_bind, run_underlying undK16, Result.andThen_ok, hn, hfa]
theorem find_mem (ks : List Bytes) (f : Bytes) : (ks.findIdx? fun k => decide (k = f)).isSome = decide (f ∈ ks) := by
  rw [List.findIdx?_isSome, Bool.eq_iff_iff]
  simp
theorem run_lookup_key (f : Bytes) (hf : f.length = 16) (mb : Nat) (es : Array MapEntry) (clock : Nat) (w : World) (hm : w.heap[mb]? = some (.map es clock)) (ks : List Bytes)
    (hme : es.toList.map (fun e => (e.key, e.val)) = ents ks) (hml : ∀ k ∈ ks, k.length = 16) :
    (Instr.lookup 63 (.map (some mb)) (.agg (vb f).toArray) false).run Try.prog w = .ok (.bool (decide (f ∈ ks))) w := by
  have hkey := run_findKey f hf w es ks hme hml
  have hobj : (getObj mb).run Try.prog w = .ok (.map es clock) w := by simp [getObj, Sem.run, hm]
  simp only [Instr.lookup, Sem.run_bind, run_underlying undKm, Result.andThen_ok, hobj, Sem.run_pure, check_key _ 9998 f hf, hkey]
  rw [← find_mem]
  cases hq : ks.findIdx? fun k => decide (k = f) with
  | none => simp
  | some j => simp
theorem sameBits_all (n : Nat) (l : Bytes) : ((vb l).zip (vb l)).all (fun (x, y) => Instr.sameBits n x y) = true := by
  induction l with
  | nil => rfl
  | cons a l ih =>
    show (Instr.sameBits n (.int .u8 (ub a)) (.int .u8 (ub a)) && ((vb l).zip (vb l)).all (fun (x, y) => Instr.sameBits n x y)) = true
    rw [ih, Bool.and_true]
    cases n <;> simp [Instr.sameBits]
theorem keyStays (k : Bytes) (w : World) : (Instr.keyThatStays (.agg (vb k).toArray) (.agg (vb k).toArray)).run Try.prog w = .ok (.agg (vb k).toArray) w := by
  have h : Instr.sameBits 10000 (.agg (vb k).toArray) (.agg (vb k).toArray) = true := by
    show ((vb k).toArray.size == (vb k).toArray.size && ((vb k).toArray.toList.zip (vb k).toArray.toList).all fun (x, y) => Instr.sameBits 9999 x y) = true
    rw [beq_self_eq_true, Bool.true_and]
    exact sameBits_all 9999 k
  unfold Instr.keyThatStays
  rw [h]
  rfl
end Go.Proofs.Ytpkelokaammmjaa
end
/-! The walks of the small methods of sym.Table: Nth, Keys, Boxes, Fresh. -/
section
namespace Go.Proofs.Ytpkelokaammmjaa
open Go.RowKit Go.QT
theorem agg62 (W : World) : (isAgg 49).run Try.prog W = .ok false W := by kernel_rfl
theorem ub107 : ub 107 = 107 := by simp [ub]
set_option maxRecDepth 100000 in
set_option maxHeartbeats 400000 in
theorem nth_any (n : Nat) (hn : n < 9223372036854775808) (tb : Nat) (w : World) : Calls Try.prog 35 #[.pointer (some ⟨tb, 0, none⟩), .int .i64 (n : Int)] w (APost w (mkB 107 n)) := by
  have H69 := Hd.mk (fun W => smark_any 107 n hn W)
  rw [ub107] at H69
  go_enter Try.func35, Try.ntmps35
  go_upto_region 1 with (fail)
  rw [z16_eq]
  have hK : Row (w.alloc (.cells (vb zKey).toArray 28)) w.heap.size 28 zKey := Row.new w 28 zKey
  have hB : Below w.heap.size w (w.alloc (.cells (vb zKey).toArray 28)) := (Below.refl _ _).alloc (Nat.le_refl _) _
  generalize w.alloc (.cells (vb zKey).toArray 28) = w1 at *
  have hlt := hK.lt
  have HK := Hd.mk hK
  clear hK
  go_wp2_with (first | (go_at_call 23; refine (H69.out _).mono ?_; rintro e w2 ⟨rfl, hb2⟩) | (refine wl_storeW rfl 28 _ _ rfl w.heap.size 0 (vb (mkB 107 n)) rfl rfl 28 _ (vb (mkB 107 n)) (HK.out.below hb2 hlt) (by simp [zKey, mkB_len]) i42 (vb_ones _) (by simp [zKey, mkB_len]) ?_; intro w6 hr6 hg6 hs6))
  refine bodyPost_ret (results_cell_row (p := 4) (ty := 28) rfl _ _ w.heap.size 28 (vb (mkB 107 n)).toArray (0, 0) _ rfl hr6 ty42 rfl (by rw [i42]; rfl)) rfl ?_
  exact ⟨rfl, (hB.trans (hb2.mono hB.size)).grown hg6 (hB.trans (hb2.mono hB.size)).size (by rintro j hj; cases hj; omega)⟩
set_option maxRecDepth 100000 in
theorem nkeys_any (F : Nat → Prop) (tb : Nat) (s : STab) (w : World) (hT : TabAt w F tb s) : Calls Try.prog 34 #[.pointer (some ⟨tb, 0, none⟩)] w (VPost w (.int .i64 (s.keys.length : Int))) := by
  obtain ⟨mb, vk, vx, vs, bodies, sums, es, clock, hR⟩ := hT
  obtain ⟨A, cp, hve, hcp, hcp2⟩ := hR.k.form
  have x0 := hR.t.cell 0
  rw [hve, List.length_map] at x0
  have x1 : w.cell? ⟨tb, 0, none⟩ = some (.slice A s.keys.length cp) := x0
  clear x0 hve hR hcp hcp2
  go_enter Try.func34, Try.ntmps34
  go_wp2
  go_ret
  exact ⟨rfl, rfl⟩
/-- The frame of a result's own cell. -/
theorem TPost.key {w w0 w1 w2 : World} {F F' : Nat → Prop} {tb g : Nat} {s : STab} {_l : Bytes} (hB : Below w.heap.size w w0) (hF : ∀ q, F q → q < w.heap.size) (hg0 : w.heap.size ≤ g) (hg1 : g < w0.heap.size)
    (hT : TabAt w1 F' tb s) (h1 : ∀ q, F' q → F q ∨ w0.heap.size ≤ q) (h2 : ∀ q, F q → F' q) (hf : Fr F w0 w1) (hg : w1.grownBy w2 (some g)) (hr : ∃ T l, Row w2 g T l) :
    ∃ F', TabAt w2 F' tb s ∧ (∀ q, F' q → F q ∨ w.heap.size ≤ q) ∧ (∀ q, F q → F' q) ∧ Fr F w w2 := by
  refine ⟨F', hT.keep hg.size (fun q hq => hg.block q (hT.lt q hq) (fun e => ?_)), fun q hq => (h1 q hq).elim .inl (fun h => .inr (Nat.le_trans hB.size h)), h2, ?_⟩
  · injection e with e
    subst e
    rcases h1 q hq with h | h
    · have := hF q h; omega
    · omega
  · exact ((Fr.of_below F hB).trans hf (fun q hq => .inl hq)).then_grown hg (fun k hk => by injection hk with hk; subst hk; exact .inr hg0)
set_option maxRecDepth 100000 in
set_option maxHeartbeats 400000 in
theorem fresh_any (F : Nat → Prop) (tb : Nat) (s : STab) (w : World) (hT : TabAt w F tb s) (hn : s.keys.length < 1000000) :
    Calls Try.prog 7 #[.pointer (some ⟨tb, 0, none⟩)] w (TPost w F tb (s.add SFrom.fresh) (.agg (vb (mkB 107 (s.keys.length + 1))).toArray)) := by
  have HT := Hd.mk hT
  have HA := Hd.mk (fun W (h : TabAt W F tb s) => add_any F tb s SFrom.fresh W h rfl hn)
  have hlt := hT.lt
  have Hlt := Hd.mk hlt
  have hbz : ∀ W, (Instr.build 58 #[]).run Try.prog W = .ok (.agg (fromCells SFrom.fresh).toArray) W := fun W => by kernel_rfl
  have Hbz := Hd.mk hbz
  clear hT hn hlt hbz
  go_enter Try.func7, Try.ntmps7
  go_upto_region 1 with (fail)
  rw [z16_eq]
  have hK : Row (w.alloc (.cells (vb zKey).toArray 28)) w.heap.size 28 zKey := Row.new w 28 zKey
  have hB : Below w.heap.size w (w.alloc (.cells (vb zKey).toArray 28)) := (Below.refl _ _).alloc (Nat.le_refl _) _
  generalize w.alloc (.cells (vb zKey).toArray 28) = w1 at *
  refine wp_region_lit ?_
  refine wl_val rfl (.pointer (some ⟨tb, 0, none⟩)) rfl ?_
  simp only [Act.put, List.setIfInBounds_toArray, List.set_cons_succ, List.set_cons_zero]
  refine wl_val rfl (.agg (fromCells SFrom.fresh).toArray) (by unfold execOp; simp [Hbz.out]) ?_
  simp only [Act.put, List.setIfInBounds_toArray, List.set_cons_succ, List.set_cons_zero]
  refine wl_call rfl 21 _ _ rfl [.pointer (some ⟨tb, 0, none⟩), .agg (fromCells SFrom.fresh).toArray] rfl (by kernel_rfl) (HA.out _ (HT.out.below hB)) ?_
  rintro e w2 ⟨rfl, F', hT2, hF1, hF2, hf2⟩
  refine ⟨_, rfl, ?_⟩
  simp only [Act.put, List.setIfInBounds_toArray, List.set_cons_succ, List.set_cons_zero]
  have hK2 : Row w2 w.heap.size 28 zKey := (hf2.block _ hK.lt (fun h => by have := Hlt.out _ h; omega)).trans hK
  have hKl := hK.lt
  have HK2 := Hd.mk hK2
  clear hK hK2
  go_wp2_with (refine wl_storeW rfl 28 _ _ rfl w.heap.size 0 (vb (mkB 107 (s.keys.length + 1))) rfl rfl 28 _ (vb (mkB 107 (s.keys.length + 1))) HK2.out (by simp [zKey, mkB_len]) i42 (vb_ones _) (by simp [zKey, mkB_len]) ?_; intro w6 hr6 hg6 hs6)
  refine bodyPost_ret (results_cell_row (p := 2) (ty := 28) rfl _ _ w.heap.size 28 (vb (mkB 107 (s.keys.length + 1))).toArray (0, 0) _ rfl hr6 ty42 rfl (by rw [i42]; rfl)) rfl ?_
  exact ⟨rfl, TPost.key (_l := []) hB Hlt.out (Nat.le_refl _) hKl hT2 hF1 hF2 hf2 hg6 ⟨_, _, hr6⟩⟩
end Go.Proofs.Ytpkelokaammmjaa
end
