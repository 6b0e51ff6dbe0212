/- Plain laws of a table: what is known is one thing each. (Texts laid one behind the other: Digest, Came, SNew, RTab, Rv, ConstB, RPut, LMark, XS, OpenB, RowL, Five, Mask, STl.) -/
import Derived.ProofKit
import Derived.Carry
import Derived.ChangeShapes
import Derived.Test.YtjjcnijdjhhdoaaCA5
/-! The walk of (sym.Table).Digest. -/
section
namespace Go.Proofs.Ytjjcnijdjhhdoaa
open Go.RowKit Go.QT
theorem SB.isSlice' {w : World} {v : Value} {l : Bytes} (h : SB w v l) : v.cells = #[v] := by
  obtain ⟨A, c, rfl, _⟩ := h; rfl
theorem tybss : Try.prog.underlying 63 = some (.slice 28) := by kernel_rfl
theorem ibs3 : (Try.prog.info? 28).map (fun i => (i.zero, i.size, i.bytes)) = some (some (.slice none 0 0), 1, 24) := by kernel_rfl
theorem ibs1 : (Try.prog.info? 28).map (·.size) = some 1 := by kernel_rfl
theorem zbs (W : World) : (zeroValue 28).run Try.prog W = .ok (.slice none 0 0) W := by kernel_rfl
theorem agg63 (W : World) : (isAgg 63).run Try.prog W = .ok false W := by kernel_rfl
theorem i63 : (Try.prog.info? 63).map (·.size) = some 1 := by kernel_rfl
theorem exec_box {P : Program} {o : Oper} {a : Act} (t : TypeId) (x : Operand) (ho : o.op = .box t x) (v : Value) (hx : a.eval x = v) (hv : v.cells = #[v]) (W : World) : (execOp a.eval o).run P W = .ok (.value (.pointer (some ⟨W.heap.size, 0, none⟩))) (W.alloc (.cells #[v] t)) := by
  have h : (Instr.box t v).run P W = .ok (.pointer (some ⟨W.heap.size, 0, none⟩)) (W.alloc (.cells #[v] t)) := by simp [Instr.box, newVar, newRow, hv]
  unfold execOp
  simp only [ho, hx, Sem.run_bind, h, Result.andThen_ok, Sem.run_pure]
/-- The table behind a new sum. -/
theorem TabR.summed {w w' : World} {F : Nat → Prop} {tb mb : Nat} {vk vx vs v' body : Value} {bodies sums : List Value} {es : Array MapEntry} {clock : Nat} {s : STab} {l : Bytes} (h : TabR w F tb mb vk vx vs bodies sums es clock s)
    (hv : OV w' 0 28 1 v' (sums.map (fun v => [v]) ++ [[body]])) (hg : w.grownBy w' vs.ownBlock) (hb : OB w 0 body l) (hbx : Disj body vs) :
    TabR (w'.setCell ⟨tb, 2, none⟩ v') (fun q => F q ∨ v'.ownBlock = some q ∨ body.ownBlock = some q) tb mb vk vx v' bodies (sums ++ [body]) es clock { s with sums := s.sums ++ [l] } := by
  have hs : w.heap.size ≤ w'.heap.size := hg.size
  have e0 : ∀ q, some q ≠ vs.ownBlock → q ≠ tb → q < w.heap.size → (w'.setCell ⟨tb, 2, none⟩ v').heap[q]? = w.heap[q]? := fun q h1 h2 h3 =>
    (Below.heap_setCell w' ⟨tb, 2, none⟩ v' q h2).trans (hg.block q h3 h1)
  have hvl : ∀ q, v'.ownBlock = some q → q < w'.heap.size := fun q hq => (hv.block q hq).2
  have h1 : Blk w' tb 123 [vk, vx, vs, .map (some mb)] := h.t.grown hg (fun e => own_ne h.u.own h.t (by decide) tb e.symm rfl)
  have hkeep : ∀ {v : Value} {m : Bytes}, OB w 0 v m → Disj v vs → OB (w'.setCell ⟨tb, 2, none⟩ v') 0 v m := fun ho hd => OB.keep ho fun q hq => e0 q (fun e => hd q hq e.symm) (own_ne ho h.t (by decide) q hq) (OB.own ho q hq).2
  refine { t := h1.set 2 v', k := ?_, kl := h.kl, x := ?_, xn := h.xn, xl := h.xl, xb := ?_, u := ?_, un := by simp [h.un], ub := ?_, m := ?_, me := h.me, ml := h.ml, ft := .inl h.ft, fm := .inl h.fm, fk := fun q hq => .inl (h.fk q hq), fx := fun q hq => .inl (h.fx q hq), fu := fun q hq => .inr (.inl hq), fl := ?_ }
  · exact h.k.keep fun q hq => e0 q (fun e => own_disj h.k.own h.u.own (by decide) q hq e.symm) (own_ne h.k.own h.t (by decide) q hq) (h.k.block q hq).2
  · exact h.x.keep fun q hq => e0 q (fun e => own_disj h.x.own h.u.own (by decide) q hq e.symm) (own_ne h.x.own h.t (by decide) q hq) (h.x.block q hq).2
  · intro i b v hb1 hb2
    obtain ⟨a1, a2, a3⟩ := h.xb i b v hb1 hb2
    exact ⟨hkeep a1 (own_disj a1 h.u.own (by decide)), fun q hq => .inl (a2 q hq), a3⟩
  · have h2 : OV w' 0 28 1 v' ((sums ++ [body]).map fun v => [v]) := by rw [List.map_append]; exact hv
    exact h2.far (fun q hq e => own_ne hv.own h1 (by decide) q hq e) _
  · intro i b v hb1 hb2
    by_cases hi : i < s.sums.length
    · have e1 : s.sums[i]? = some b := by simpa [List.getElem?_append_left hi] using hb1
      have e2 : sums[i]? = some v := by rw [List.getElem?_append_left (by rw [h.un]; exact hi)] at hb2; exact hb2
      obtain ⟨a1, a2, a3⟩ := h.ub i b v e1 e2
      exact ⟨hkeep a1 (own_disj a1 h.u.own (by decide)), fun q hq => .inl (a2 q hq), a3⟩
    · have e1 : (s.sums ++ [l])[i]? = some b := hb1
      have hi2 : i = s.sums.length := by
        have := (List.getElem?_eq_some_iff.1 e1).1
        simp at this; omega
      subst hi2
      have e3 : b = l := by simpa using e1.symm
      have e4 : v = body := by
        rw [← h.un] at hb2
        simpa using hb2.symm
      subst e3; subst e4
      exact ⟨hkeep hb hbx, fun q hq => .inr (.inr hq), hb.one⟩
  · have hml : mb < w.heap.size := h.fl mb h.fm
    exact (e0 mb (fun e => own_ne_map h.u.own h.m mb e.symm rfl) (fun e => blk_ne_map h.t h.m e.symm) hml).trans h.m
  · intro q hq
    have : (w'.setCell ⟨tb, 2, none⟩ v').heap.size = w'.heap.size := by simp [World.setCell]
    rcases hq with hq | hq | hq
    · have := h.fl q hq; omega
    · have := hvl q hq; omega
    · have := (OB.own hb q hq).2; omega
/-- The table's sums as rows. -/
theorem TabR.ss {w : World} {F : Nat → Prop} {tb mb : Nat} {vk vx vs : Value} {bodies sums : List Value} {es : Array MapEntry} {clock : Nat} {s : STab} (h : TabR w F tb mb vk vx vs bodies sums es clock s) : SS w vs s.sums := by
  have hl : (sums.map fun v => [v]).length = s.sums.length := by rw [List.length_map, h.un]
  obtain ⟨A, cap, hv, h1, h2⟩ := h.u.form
  rw [hl] at hv h1
  refine ⟨A, cap, hv, h1, h2, fun i hi => ?_⟩
  obtain ⟨g, cap', hv', _, hg, _, _, cur, hB, hcur⟩ := h.u.at_ (i := i) (by rw [hl]; exact hi)
  rw [hl, hv] at hv'
  injection hv' with hA _ _
  have hsi : i < sums.length := by rw [h.un]; exact hi
  have hc := hcur 0 (by omega)
  rw [List.getElem_map] at hc
  obtain ⟨a1, _, _⟩ := h.ub i s.sums[i] sums[i] (List.getElem?_eq_getElem hi) (List.getElem?_eq_getElem hsi)
  refine ⟨g, 0, sums[i], hA, hg, ?_, ?_⟩
  · rw [Nat.zero_add, hB.cell]
    simpa using hc
  · have e : s.sums.getD i [] = s.sums[i] := by simp [List.getD, List.getElem?_eq_getElem hi]
    rw [e]; exact a1.sb
set_option maxRecDepth 100000 in
set_option maxHeartbeats 1000000 in
theorem digest_any (F : Nat → Prop) (tb : Nat) (s : STab) (l : Bytes) (bv : Value) (w : World) (hT : TabAt w F tb s) (hbv : SB w bv l) (hl : l.length ≤ 1000000) (hn : s.sums.length < 1000000) :
    Calls Try.prog 32 #[.pointer (some ⟨tb, 0, none⟩), bv] w (SPost w F tb (s.digest l) (mkB 100 (s.sumAt l + 1))) := by
  obtain ⟨mb, vk, vx, vs, bodies, sums, es, clock, hR⟩ := hT
  have HR := Hd.mk hR
  have Hbv := Hd.mk hbv
  have htb := hR.fl tb hR.ft
  have hul : (sums.map fun v => [v]).length = s.sums.length := by rw [List.length_map, hR.un]
  have Hul := Hd.mk hul
  have hb1 : bv.cells = #[bv] := hbv.isSlice'
  have Hb1 := Hd.mk hb1
  clear hR hbv hul hb1
  go_enter Try.func32, Try.ntmps32
  refine wp_seq_k ?_
  intro K hK
  refine wp_region_lit ?_
  refine wl_run rfl (.pointer (some ⟨w.heap.size, 0, none⟩)) (show _ = Result.ok _ (w.alloc (.cells #[bv] 28)) from exec_box 28 (.tmp 1) rfl bv rfl Hb1.out _) ?_
  simp only [Act.put, List.setIfInBounds_toArray, List.set_cons_succ, List.set_cons_zero]
  have hb : Below w.heap.size w (w.alloc (.cells #[bv] 28)) := (Below.refl _ _).alloc (Nat.le_refl _) _
  have hKk : Blk (w.alloc (.cells #[bv] 28)) w.heap.size 28 [bv] := Blk.new w 28 [bv]
  generalize w.alloc (.cells #[bv] 28) = w1 at *
  have HT1 := Hd.mk (HR.out.keep hb.size (fun q hq => hb.block q (HR.out.fl q hq)))
  have x0 : w1.cell? ⟨tb, 2, none⟩ = some vs := by have := HT1.out.t.cell 2; exact this
  have xb : w1.cell? ⟨w.heap.size, 0, none⟩ = some bv := by rw [hKk.cell]; rfl
  have HI := Hd.mk (indexfunc_any vs s.sums w.heap.size bv l w1 HT1.out.ss xb (Hbv.out.below hb))
  have HB := Hd.mk hb
  have HKk := Hd.mk hKk
  have hkl := hKk.lt
  clear hb hKk
  go_upto_region 1 with (fail)
  refine wp_region_lit ?_
  refine wl_val rfl (.pointer (some ⟨tb, 0, none⟩)) (rfl) ?_
  simp only [Act.put, List.setIfInBounds_toArray, List.set_cons_succ, List.set_cons_zero]
  refine wl_val rfl (.pointer (some ⟨tb, 0, none⟩)) (by simp [go_sem]) ?_
  simp only [Act.put, List.setIfInBounds_toArray, List.set_cons_succ, List.set_cons_zero]
  refine wl_val rfl (.pointer (some ⟨tb, 2, none⟩)) (by simp [go_sem]) ?_
  simp only [Act.put, List.setIfInBounds_toArray, List.set_cons_succ, List.set_cons_zero]
  refine wl_val rfl (vs) (exec_cell _ _ (by rfl) ⟨tb, 2, none⟩ _ (by rfl) (agg63 _) x0) ?_
  simp only [Act.put, List.setIfInBounds_toArray, List.set_cons_succ, List.set_cons_zero]
  refine wl_val rfl (.func (.func 75) #[] #[.pointer (some ⟨w.heap.size, 0, none⟩)]) (by simp [go_sem]) ?_
  simp only [Act.put, List.setIfInBounds_toArray, List.set_cons_succ, List.set_cons_zero]
  refine wl_call rfl 74 _ _ rfl [vs, .func (.func 75) #[] #[.pointer (some ⟨w.heap.size, 0, none⟩)]] rfl (by kernel_rfl) (HI.out) ?_
  rintro e w2 ⟨rfl, rfl⟩
  refine ⟨_, rfl, ?_⟩
  simp only [Act.put, List.setIfInBounds_toArray, List.set_cons_succ, List.set_cons_zero]
  by_cases hhit : s.sumAt l < s.sums.length
  · have hi : idxR l s.sums = ((s.sumAt l : Nat) : Int) := if_pos hhit
    have Hd1 : Hd (s.digest l = s) := ⟨if_pos hhit⟩
    rw [hi]
    have hlo : decide (((s.sumAt l : Nat) : Int) < 0) = false := decide_eq_false (by omega)
    have Hn : Hd (s.sumAt l < 1000000) := ⟨by omega⟩
    clear hi hhit xb
    generalize hN : s.sumAt l = N at *
    have HN := Hd.mk hN
    clear hN
    have ub100 : ub 100 = 100 := by simp [ub]
    have H69 := Hd.mk (smark_any 100 (N + 1) (by have := Hn.out; omega) w1)
    rw [ub100] at H69
    clear ub100
    have hN2 : (N : Int) < 1000000 := by have := Hn.out; omega
    have hN0 : (0 : Int) ≤ N := by omega
    have eN : ((N : Int) + 1) = ((N + 1 : Nat) : Int) := by omega
    have EN := Hd.mk eN
    clear eN
    go_upto_region 5 with (fail)
    refine wp_region_lit ?_
    refine wl_val rfl (.int .i64 (N : Int)) (rfl) ?_
    simp only [Act.put, List.setIfInBounds_toArray, List.set_cons_succ, List.set_cons_zero]
    refine wl_val rfl (.int .i64 ((N + 1 : Nat) : Int)) (exec_add 3 _ (.tmp 32) _ (by rfl) N 1 (by rfl) (by rfl) _ (by omega) (by omega) (by omega) _) ?_
    simp only [Act.put, List.setIfInBounds_toArray, List.set_cons_succ, List.set_cons_zero]
    refine wl_call rfl 69 _ _ rfl [.int .u8 100, .int .i64 ((N + 1 : Nat) : Int)] rfl (by kernel_rfl) (H69.out) ?_
    rintro e w7 ⟨rfl, hb7⟩
    refine ⟨_, rfl, ?_⟩
    have HT7 := Hd.mk (TabR.keep HT1.out hb7.size (fun q hq => hb7.block q (HT1.out.fl q hq)))
    have HF7 := Hd.mk ((Fr.of_below F HB.out).then_below hb7)
    clear hb7
    simp only [Act.put, List.setIfInBounds_toArray, List.set_cons_succ, List.set_cons_zero]
    go_upto_region 6 with (refine wl_storeW rfl 42 _ _ rfl w7.heap.size 0 (vb (mkB 100 (N + 1))) rfl rfl 42 _ (vb (mkB 100 (N + 1))) (Blk.new w7 42 (List.replicate 16 (.int .u8 0))) (by simp [mkB_len]) i42 (vb_ones _) (by simp [mkB_len]) ?_; intro w8 hr8 hg8 hs8)
    have hRow : Row w8 w7.heap.size 42 (mkB 100 (N + 1)) := hr8
    have HT8 := Hd.mk (HT7.out.keep (w' := w8) (by have := hg8.size; simp at this; omega) (fun q hq => (hg8.block q (by have := HT7.out.fl q hq; simp; omega) (fun e => by injection e with e; have := HT7.out.fl q hq; omega)).trans (Below.heap_alloc w7 _ q (HT7.out.fl q hq))))
    have HF8 := Hd.mk ((HF7.out.then_below ((Below.refl _ _).alloc (Nat.le_refl _) (.cells (List.replicate 16 (Value.int .u8 0)).toArray 42))).then_grown hg8 (fun q hq => .inr (by injection hq with hq; have := HF7.out.size; omega)))
    have hsb := SB.row hRow (by simp [mkB_len, maxLen])
    have Hsb := Hd.mk hsb
    have hlF := HF7.out.size
    clear hr8 hg8 hs8 hsb HF7 hRow
    go_wp2
    go_ret
    rw [Hd1.out]
    refine ⟨_, _, rfl, Hsb.out, ⟨_, _, _, _, _, _, _, _, HT8.out⟩, fun q hq => .inl hq, fun q hq => hq, HF8.out, fun q hq => ?_⟩
    have hq2 : q = w7.heap.size := by simpa [Value.ownBlock] using hq.symm
    subst hq2
    exact ⟨hlF, fun hq3 => by have := HT7.out.fl _ hq3; omega⟩
  · have hi : idxR l s.sums = -1 := if_neg hhit
    have hsn : s.sumAt l = s.sums.length := by have h1 : s.sumAt l ≤ s.sums.length := List.findIdx_le_length; omega
    have Hd1 : Hd (s.digest l = { s with sums := s.sums ++ [l] }) := ⟨if_neg hhit⟩
    rw [hi, hsn]
    clear hi hhit xb
    have Hsn := Hd.mk hsn
    clear hsn
    go_upto_region 3 with (fail)
    refine pH_begin (n := 12) 9 (fun W => W.cell? ⟨tb, 2, none⟩ = some vs ∧ W.cell? ⟨w.heap.size, 0, none⟩ = some bv) (by kernel_rfl) rfl ?_
    have HT2 := Hd.mk (HT1.out.keep (w' := w1.drewN 1) (Nat.le_refl _) (fun _ _ => rfl))
    have hS : (w1.drewN 1).cell? ⟨tb, 2, none⟩ = some vs ∧ (w1.drewN 1).cell? ⟨w.heap.size, 0, none⟩ = some bv := ⟨x0, by show w1.cell? _ = _; rw [HKk.out.cell]; rfl⟩
    have HB2 : Hd (Below w.heap.size w (w1.drewN 1)) := ⟨below_drewN HB.out 1⟩
    have hlt1 : w.heap.size < (w1.drewN 1).heap.size := hkl
    clear HT1 HB x0 HI
    generalize w1.drewN 1 = w2 at *
    refine pH_val (i := 0) (some 15) (.pointer (some ⟨tb, 0, none⟩)) rfl rfl (by kernel_rfl) (by kernel_rfl) (by kernel_rfl) (by kernel_rfl) (by kernel_rfl) (fun _ d _ _ _ h => by cases d <;> exact h) (by kernel_rfl) hS (fun _ _ => rfl) ?_
    simp only [Act.put, List.setIfInBounds_toArray, List.set_cons_succ, List.set_cons_zero]
    refine pH_val (i := 1) (some 16) (.pointer (some ⟨tb, 0, none⟩)) rfl rfl (by kernel_rfl) (by kernel_rfl) (by kernel_rfl) (by kernel_rfl) (by kernel_rfl) (fun _ d _ _ _ h => by cases d <;> exact h) (by kernel_rfl) hS (fun _ _ => rfl) ?_
    simp only [Act.put, List.setIfInBounds_toArray, List.set_cons_succ, List.set_cons_zero]
    refine pH_val (i := 2) (some 17) (.pointer (some ⟨tb, 0, none⟩)) rfl rfl (by kernel_rfl) (by kernel_rfl) (by kernel_rfl) (by kernel_rfl) (by kernel_rfl) (fun _ d _ _ _ h => by cases d <;> exact h) (by kernel_rfl) hS (by intro W _; simp [go_sem]) ?_
    simp only [Act.put, List.setIfInBounds_toArray, List.set_cons_succ, List.set_cons_zero]
    refine pH_val (i := 3) (some 18) (.pointer (some ⟨tb, 2, none⟩)) rfl rfl (by kernel_rfl) (by kernel_rfl) (by kernel_rfl) (by kernel_rfl) (by kernel_rfl) (fun _ d _ _ _ h => by cases d <;> exact h) (by kernel_rfl) hS (by intro W _; simp [go_sem]) ?_
    simp only [Act.put, List.setIfInBounds_toArray, List.set_cons_succ, List.set_cons_zero]
    refine pH_val (i := 4) (some 19) (vs) rfl rfl (by kernel_rfl) (by kernel_rfl) (by kernel_rfl) (by kernel_rfl) (by kernel_rfl) (fun _ d _ _ _ h => by cases d <;> exact h) (by kernel_rfl) hS (fun W h => exec_cell _ _ (by rfl) ⟨tb, 2, none⟩ _ (by rfl) (agg63 W) h.1) ?_
    simp only [Act.put, List.setIfInBounds_toArray, List.set_cons_succ, List.set_cons_zero]
    refine pH_val (i := 5) (some 20) (bv) rfl rfl (by kernel_rfl) (by kernel_rfl) (by kernel_rfl) (by kernel_rfl) (by kernel_rfl) (fun _ d _ _ _ h => by cases d <;> exact h) (by kernel_rfl) hS (fun W h => exec_cell _ _ (by rfl) ⟨w.heap.size, 0, none⟩ _ (by rfl) (agg28 W) h.2) ?_
    simp only [Act.put, List.setIfInBounds_toArray, List.set_cons_succ, List.set_cons_zero]
    refine pH_call (i := 6) (some 21) rfl rfl (by kernel_rfl) (by kernel_rfl) 73 _ _ rfl [bv] rfl (by kernel_rfl) (clone_any bv l _ (Hbv.out.below HB2.out) (by omega)) ?_
    rintro e w3 ⟨body, rfl, hob, hb3⟩
    have HT3 := Hd.mk (HT2.out.keep hb3.size (fun q hq => hb3.block q (HT2.out.fl q hq)))
    have HB3 := Hd.mk (HB2.out.trans (hb3.mono HB2.out.size))
    have hS3 : w3.cell? ⟨tb, 2, none⟩ = some vs ∧ w3.cell? ⟨w.heap.size, 0, none⟩ = some bv := ⟨(hb3.cell (p := ⟨tb, 2, none⟩) (by show tb < _; omega)).trans hS.1, (hb3.cell (p := ⟨w.heap.size, 0, none⟩) hlt1).trans hS.2⟩
    have hs3 := hb3.size
    clear HT2 HB2 hb3 hS
    refine ⟨_, rfl, (fun _ => hS3), ?_⟩
    simp only [Act.put, List.setIfInBounds_toArray, List.set_cons_succ, List.set_cons_zero]
    have hS4 : (w3.alloc (.cells #[body] 28)).cell? ⟨tb, 2, none⟩ = some vs ∧ (w3.alloc (.cells #[body] 28)).cell? ⟨w.heap.size, 0, none⟩ = some bv := ⟨(World.cell?_alloc_lt w3 _ ⟨tb, 2, none⟩ (by show tb < _; omega)).trans hS3.1, (World.cell?_alloc_lt w3 _ ⟨w.heap.size, 0, none⟩ (by show w.heap.size < _; omega)).trans hS3.2⟩
    refine pH_run (i := 7) (some 22) (.slice (some ⟨w3.heap.size, 0, none⟩) 1 1) rfl rfl (by kernel_rfl) (by kernel_rfl) ((exec_bs1 63 28 _ (by rfl) body (.slice none 0 0) 1 (by rfl) tybss ibs1 zbs (by omega) (by omega) rfl (by rw [hob.cells1]; rfl) w3).trans (show _ = Result.ok _ (w3.alloc (.cells #[body] 28)) by rw [hob.cells1])) (fun _ => hS4) ?_
    simp only [Act.put, List.setIfInBounds_toArray, List.set_cons_succ, List.set_cons_zero]
    have HT4 := Hd.mk (HT3.out.keep (w' := w3.alloc (.cells #[body] 28)) (by simp) (fun q hq => Below.heap_alloc w3 _ q (HT3.out.fl q hq)))
    have hob4 : OB (w3.alloc (.cells #[body] 28)) 0 body l := (OB.mono hob (Nat.zero_le _)).alloc _
    have HB4 := Hd.mk (HB3.out.alloc HB3.out.size (.cells #[body] 28))
    have hbd : ∀ q, body.ownBlock = some q → w2.heap.size ≤ q := fun q hq => (hob.own q hq).1
    have hBk : Blk (w3.alloc (.cells #[body] 28)) w3.heap.size 28 [body] := Blk.new w3 28 [body]
    have hs4 : (w3.alloc (.cells #[body] 28)).heap.size = w3.heap.size + 1 := by simp
    generalize hg3 : w3.heap.size = g3 at *
    generalize w3.alloc (.cells #[body] 28) = w4 at *
    clear hob HT3 HB3 hS3
    refine pH_pushV (i := 8) (some 23) rfl rfl (by kernel_rfl) (by kernel_rfl) (.tmp 19) (.tmp 22) 63 rfl 0 28 1 24 (.slice none 0 0) tybss ibs3 rfl (by omega) vs (sums.map fun v => [v]) rfl HT4.out.u g3 28 [body] 1 rfl hBk rfl (by intro z hz; simp at hz; subst hz; exact hob4.one) (by rw [Hul.out]; omega) (by rw [Hul.out]; unfold maxLen; omega) (by omega) ?_
    intro v' w5 hv5 hg5 hat5
    have hxb : ∀ q, vs.ownBlock = some q → q < w.heap.size := fun q hq => HR.out.fl q (HR.out.fu q hq)
    have hdj : Disj body vs := own_disj hob4 HT4.out.u.own (by decide)
    have HT5 := Hd.mk (TabR.summed (l := l) HT4.out hv5 hg5 hob4 hdj)
    have ht5 := HT4.out.t.grown hg5 (fun e => own_ne HT4.out.u.own HT4.out.t (by decide) tb e.symm rfl)
    have hS5 : w5.cell? ⟨tb, 2, none⟩ = some vs ∧ w5.cell? ⟨w.heap.size, 0, none⟩ = some bv := ⟨by have := ht5.cell 2; exact this, (World.cell?_of_block (a := ⟨w.heap.size, 0, none⟩) (hg5.block _ (by show w.heap.size < _; omega) (fun e => by have := hxb _ e.symm; simp at this))).trans hS4.2⟩
    have HF5 : Hd (Fr F w w5) := ⟨(Fr.of_below F HB4.out).then_grown hg5 (fun q hq => .inl (HR.out.fu q hq))⟩
    have Ht5 := Hd.mk ht5
    have hs5 := hg5.size
    have hat : ∀ q, v'.ownBlock = some q → F q ∨ w.heap.size ≤ q := by
      intro q hq
      rcases hat5 with e | e
      · rw [e] at hq; exact .inl (HR.out.fu q hq)
      · rw [e] at hq; injection hq with hq; right; omega
    have hv1 : v'.oneCell' = true ∧ v'.cells = #[v'] := by obtain ⟨A, c, e, _⟩ := hv5.form; rw [e]; exact ⟨rfl, rfl⟩
    have Hat := Hd.mk hat
    clear hat hat5 hg5 hS4 ht5 HT4 hv5 hob4 HB4 hBk
    refine ⟨(fun _ => hS5), ?_⟩
    simp only [Act.put, List.setIfInBounds_toArray, List.set_cons_succ, List.set_cons_zero]
    refine pH_run (i := 9) (some 24) (.pointer (some ⟨tb, 0, none⟩)) rfl rfl (by kernel_rfl) (by kernel_rfl) (show _ = Result.ok _ w5 by simp [go_sem]) (fun h => absurd h (by omega)) ?_
    simp only [Act.put, List.setIfInBounds_toArray, List.set_cons_succ, List.set_cons_zero]
    refine pH_run (i := 10) (some 25) (.pointer (some ⟨tb, 2, none⟩)) rfl rfl (by kernel_rfl) (by kernel_rfl) (show _ = Result.ok _ w5 by simp [go_sem]) (fun h => absurd h (by omega)) ?_
    simp only [Act.put, List.setIfInBounds_toArray, List.set_cons_succ, List.set_cons_zero]
    refine pH_runs (i := 11) none rfl rfl (by kernel_rfl) (by kernel_rfl) (exec_storeCell 63 _ _ (by rfl) tb 2 v' (by rfl) (by rfl) 123 _ Ht5.out (by simp) i63 hv1.1 hv1.2) (fun h => absurd h (by omega)) ?_
    simp only [Act.put]
    refine pH_done (by kernel_rfl) ?_ _
    go_upto_region 4 with (fail)
    have HF6 : Hd (Fr F w (w5.setCell ⟨tb, 2, none⟩ v')) := ⟨⟨HF5.out.os, HF5.out.tape, HF5.out.output, by simpa [World.setCell] using HF5.out.size, fun q hq hF => (Below.heap_setCell w5 ⟨tb, 2, none⟩ v' q (fun e => hF (e ▸ HR.out.ft))).trans (HF5.out.block q hq hF)⟩⟩
    have hs6 : (w5.setCell ⟨tb, 2, none⟩ v').heap.size = w5.heap.size := by simp [World.setCell]
    generalize w5.setCell ⟨tb, 2, none⟩ v' = w6 at *
    clear HF5 Ht5 hS5 hv1
    obtain ⟨A, cp, hve, hcp, hcp2⟩ := HT5.out.u.form
    have hkl2 : ((sums ++ [body]).map fun v => [v]).length = s.sums.length + 1 := by rw [List.length_map, List.length_append, HR.out.un]; rfl
    rw [hkl2] at hve hcp
    unfold maxLen at hcp2
    have x0 := HT5.out.t.cell 2
    rw [hve] at x0
    have x1 : w6.cell? ⟨tb, 2, none⟩ = some (.slice A (s.sums.length + 1) cp) := x0
    clear x0 hkl2
    have ub100 : ub 100 = 100 := by simp [ub]
    have H69 := Hd.mk (smark_any 100 (s.sums.length + 1) (by omega) w6)
    rw [ub100] at H69
    clear ub100
    refine wp_region_lit ?_
    refine wl_val rfl (.pointer (some ⟨tb, 0, none⟩)) (rfl) ?_
    simp only [Act.put, List.setIfInBounds_toArray, List.set_cons_succ, List.set_cons_zero]
    refine wl_val rfl (.pointer (some ⟨tb, 0, none⟩)) (by simp [go_sem]) ?_
    simp only [Act.put, List.setIfInBounds_toArray, List.set_cons_succ, List.set_cons_zero]
    refine wl_val rfl (.pointer (some ⟨tb, 2, none⟩)) (by simp [go_sem]) ?_
    simp only [Act.put, List.setIfInBounds_toArray, List.set_cons_succ, List.set_cons_zero]
    refine wl_val rfl (.slice A (s.sums.length + 1) cp) (exec_cell _ _ (by rfl) ⟨tb, 2, none⟩ _ (by rfl) (agg63 _) x1) ?_
    simp only [Act.put, List.setIfInBounds_toArray, List.set_cons_succ, List.set_cons_zero]
    refine wl_val rfl (.int .i64 ((s.sums.length + 1 : Nat) : Int)) (by simp [go_sem]) ?_
    simp only [Act.put, List.setIfInBounds_toArray, List.set_cons_succ, List.set_cons_zero]
    refine wl_val rfl (.int .i64 (s.sums.length : Int)) (exec_sub 3 _ (.tmp 30) _ (by rfl) ((s.sums.length + 1 : Nat) : Int) 1 (by rfl) (by rfl) _ (by omega) (by omega) (by omega) _) ?_
    simp only [Act.put, List.setIfInBounds_toArray, List.set_cons_succ, List.set_cons_zero]
    go_upto_region 5 with (fail)
    refine wp_region_lit ?_
    refine wl_val rfl (.int .i64 (s.sums.length : Int)) (rfl) ?_
    simp only [Act.put, List.setIfInBounds_toArray, List.set_cons_succ, List.set_cons_zero]
    refine wl_val rfl (.int .i64 ((s.sums.length + 1 : Nat) : Int)) (exec_add 3 _ (.tmp 32) _ (by rfl) s.sums.length 1 (by rfl) (by rfl) _ (by omega) (by omega) (by omega) _) ?_
    simp only [Act.put, List.setIfInBounds_toArray, List.set_cons_succ, List.set_cons_zero]
    refine wl_call rfl 69 _ _ rfl [.int .u8 100, .int .i64 ((s.sums.length + 1 : Nat) : Int)] rfl (by kernel_rfl) (H69.out) ?_
    rintro e w7 ⟨rfl, hb7⟩
    refine ⟨_, rfl, ?_⟩
    have HT7 := Hd.mk (TabR.keep HT5.out hb7.size (fun q hq => hb7.block q (HT5.out.fl q hq)))
    have HF7 := Hd.mk (HF6.out.then_below hb7)
    have hs7 := hb7.size
    have hF5 : ∀ q, (F q ∨ v'.ownBlock = some q ∨ body.ownBlock = some q) → F q ∨ w.heap.size ≤ q := fun q hq => by
      rcases hq with hq | hq | hq
      · exact .inl hq
      · exact Hat.out q hq
      · exact .inr (by have := hbd q hq; omega)
    clear HF6 hb7 x1
    simp only [Act.put, List.setIfInBounds_toArray, List.set_cons_succ, List.set_cons_zero]
    go_upto_region 6 with (refine wl_storeW rfl 42 _ _ rfl w7.heap.size 0 (vb (mkB 100 (s.sums.length + 1))) rfl rfl 42 _ (vb (mkB 100 (s.sums.length + 1))) (Blk.new w7 42 (List.replicate 16 (.int .u8 0))) (by simp [mkB_len]) i42 (vb_ones _) (by simp [mkB_len]) ?_; intro w8 hr8 hg8 hs8)
    have hRow : Row w8 w7.heap.size 42 (mkB 100 (s.sums.length + 1)) := hr8
    have HT8 := Hd.mk (HT7.out.keep (w' := w8) (by have := hg8.size; simp at this; omega) (fun q hq => (hg8.block q (by have := HT7.out.fl q hq; simp; omega) (fun e => by injection e with e; have := HT7.out.fl q hq; omega)).trans (Below.heap_alloc w7 _ q (HT7.out.fl q hq))))
    have HF8 := Hd.mk ((HF7.out.then_below ((Below.refl _ _).alloc (Nat.le_refl _) (.cells (List.replicate 16 (Value.int .u8 0)).toArray 42))).then_grown hg8 (fun q hq => .inr (by injection hq with hq; have := HF7.out.size; omega)))
    have hsb := SB.row hRow (by simp [mkB_len, maxLen])
    have Hsb := Hd.mk hsb
    have hlF := HF7.out.size
    clear hr8 hg8 hs8 hsb HF7 hRow
    go_wp2
    go_ret
    rw [Hd1.out, Hsn.out]
    refine ⟨_, _, rfl, Hsb.out, ⟨_, _, _, _, _, _, _, _, HT8.out⟩, hF5, fun q hq => .inl hq, HF8.out, fun q hq => ?_⟩
    have hq2 : q = w7.heap.size := by simpa [Value.ownBlock] using hq.symm
    subst hq2
    exact ⟨hlF, fun hq3 => by have := HT7.out.fl _ hq3; omega⟩
end Go.Proofs.Ytjjcnijdjhhdoaa
end
/-! The walk of (sym.Table).Came. -/
section
namespace Go.Proofs.Ytjjcnijdjhhdoaa
open Go.RowKit Go.QT
/-- What a call leaves that answers how a key came. -/
def CmPost (w : World) (o : Option SFrom) (e : Ending) (w' : World) : Prop :=
  ∃ f, e = .returned (.tuple #[.agg (fromCells f).toArray, .bool o.isSome]) ∧ (o = some f ∨ o = none ∧ f = SFrom.fresh) ∧ Below w.heap.size w w'
theorem ck_some {s : STab} {l : Bytes} {kd : UInt8} {n : Nat} (hm : markOf l = some (kd, n)) (hk : kd = 107) (hn : 1 ≤ n) : s.came l = s.keys[n - 1]? := by
  unfold STab.came; rw [hm]; simp [hk, hn]
theorem ck_none {s : STab} {l : Bytes} {kd : UInt8} {n : Nat} (hm : markOf l = some (kd, n)) (h : ¬ (kd = 107 ∧ 1 ≤ n)) : s.came l = none := by
  unfold STab.came; rw [hm]; simp only [if_neg h]
theorem ck_nomark {s : STab} {l : Bytes} (hm : markOf l = none) : s.came l = none := by
  unfold STab.came; rw [hm]
theorem zf_eq : (#[Value.int IntKind.u8 0, Value.int IntKind.u8 0, Value.int IntKind.u8 0, Value.int IntKind.u8 0, Value.int IntKind.u8 0, Value.int IntKind.u8 0, Value.int IntKind.u8 0, Value.int IntKind.u8 0, Value.int IntKind.u8 0, Value.int IntKind.u8 0, Value.int IntKind.u8 0, Value.int IntKind.u8 0, Value.int IntKind.u8 0, Value.int IntKind.u8 0, Value.int IntKind.u8 0, Value.int IntKind.u8 0, Value.string ⟨#[]⟩, Value.bool false] : Array Value) = (fromCells SFrom.fresh).toArray := by
  rw [fromCells, SFrom.fresh]
  show _ = (vb zKey ++ [Value.string ByteArray.empty, Value.bool false]).toArray
  rw [zKey, vb_zeros]; rfl
set_option maxRecDepth 100000 in
set_option maxHeartbeats 1000000 in
theorem came_any (F : Nat → Prop) (tb : Nat) (s : STab) (l : Bytes) (w : World) (hT : TabAt w F tb s) (hl : l.length = 16) (hn : s.keys.length < 1000000) :
    Calls Try.prog 38 #[.pointer (some ⟨tb, 0, none⟩), .agg (vb l).toArray] w (CmPost w (s.came l)) := by
  obtain ⟨mb, vk, vx, vs, bodies, sums, es, clock, hR⟩ := hT
  have HR := Hd.mk hR
  have htb := hR.fl tb hR.ft
  have hzl : (s.keys.map fromCells).length = s.keys.length := by rw [List.length_map]
  have Hzl := Hd.mk hzl
  have Hl16 := Hd.mk hl
  have hbz : ∀ W, (Instr.build 70 #[]).run Try.prog W = .ok (.agg (fromCells SFrom.fresh).toArray) W := fun W => by kernel_rfl
  have Hbz := Hd.mk hbz
  clear hR hzl hl hbz
  go_enter Try.func38, Try.ntmps38
  go_upto_region 1 with (fail)
  rw [zf_eq]
  have hb : Below w.heap.size w ((w.alloc (.cells (vb l).toArray 42)).alloc (.cells (fromCells SFrom.fresh).toArray 70)) := ((Below.refl _ _).alloc (Nat.le_refl _) _).alloc (by simp) _
  have hK : Row ((w.alloc (.cells (vb l).toArray 42)).alloc (.cells (fromCells SFrom.fresh).toArray 70)) w.heap.size 42 l := Row.alloc (Row.new w 42 l) _
  have hZ : Blk ((w.alloc (.cells (vb l).toArray 42)).alloc (.cells (fromCells SFrom.fresh).toArray 70)) (w.heap.size + 1) 70 (fromCells SFrom.fresh) := new2 w _ 70 _
  generalize (w.alloc (.cells (vb l).toArray 42)).alloc (.cells (fromCells SFrom.fresh).toArray 70) = w1 at *
  have HT1 := Hd.mk (HR.out.keep hb.size (fun q hq => hb.block q (HR.out.fl q hq)))
  have hzlt := hZ.lt
  have HZ := Hd.mk hZ
  have hsb := SB.row hK (by rw [Hl16.out]; unfold maxLen; omega)
  rw [Hl16.out] at hsb
  have HM := Hd.mk (Mark_any _ l _ hsb)
  clear hZ hsb hK
  refine wp_region_lit ?_
  refine wl_val rfl (.slice (some ⟨w.heap.size, 0, none⟩) 16 16) (by simp [go_sem]) ?_
  simp only [Act.put, List.setIfInBounds_toArray, List.set_cons_succ, List.set_cons_zero]
  refine wl_call rfl 27 _ _ rfl [.slice (some ⟨w.heap.size, 0, none⟩) 16 16] rfl (by kernel_rfl) (HM.out) ?_
  rintro e w2 ⟨rfl, hb2⟩
  refine ⟨_, rfl, ?_⟩
  have HT2 := Hd.mk (HT1.out.keep hb2.size (fun q hq => hb2.block q (HT1.out.fl q hq)))
  have HB2 := Hd.mk (hb.trans (hb2.mono hb.size))
  have HZ2 := Hd.mk (HZ.out.below hb2 hzlt)
  have hz2 := HZ2.out.lt
  clear HT1 hb hb2 HZ HM
  obtain ⟨A, cp, hve, hcp, hcp2⟩ := HT2.out.k.form
  rw [Hzl.out] at hve hcp
  unfold maxLen at hcp2
  have x0 := HT2.out.t.cell 0
  rw [hve] at x0
  have x1 : w2.cell? ⟨tb, 0, none⟩ = some (.slice A s.keys.length cp) := x0
  clear x0
  have Hve := Hd.mk hve
  clear hve
  simp only [Act.put, List.setIfInBounds_toArray, List.set_cons_succ, List.set_cons_zero]
  cases hmo : markOf l with
  | none =>
    have Hmo := Hd.mk hmo
    rw [mkV_none]
    go_upto_region 3 with (fail)
    have Hno := Hd.mk (ck_nomark (s := s) Hmo.out)
    refine wp_region_lit ?_
    refine wl_val rfl (.agg (fromCells SFrom.fresh).toArray) (by unfold execOp; simp [Hbz.out]) ?_
    simp only [Act.put, List.setIfInBounds_toArray, List.set_cons_succ, List.set_cons_zero]
    go_wp2_with (refine wl_storeW rfl 70 _ _ rfl (w.heap.size + 1) 0 (fromCells SFrom.fresh) rfl rfl 70 _ (fromCells SFrom.fresh) HZ2.out (by simp [fromCells, SFrom.fresh, zKey]) i70 (fromCells_one _) (by simp [fromCells, SFrom.fresh, zKey]) ?_; intro w6 hr6 hg6 hs6)
    refine bodyPost_ret (results_cell_tmp (p := 4) (q := 5) (ty := 70) rfl _ _ (w.heap.size + 1) 70 (fromCells SFrom.fresh) _ (.bool false) rfl rfl hr6 ty70 rfl i70) rfl ?_
    rw [Hno.out]
    exact ⟨SFrom.fresh, rfl, .inr ⟨rfl, rfl⟩, HB2.out.grown hg6 HB2.out.size (by rintro j hj; cases hj; omega)⟩
  | some kn =>
    obtain ⟨kd, n⟩ := kn
    have Hmo := Hd.mk hmo
    clear hmo
    rw [mkV_some]
    have hkb := ub_ne kd 107 107 (by simp [ub])
    by_cases hk : kd = 107
    · rw [decide_eq_true hk] at hkb
      by_cases hn1 : 1 ≤ n
      · have d1 : decide ((n : Int) < 1) = false := by simp; omega
        by_cases hnb : n ≤ s.keys.length
        · have d2 : decide ((n : Int) > s.keys.length) = false := by simp; omega
          have Hk := Hd.mk hk
          clear hk
          go_upto_region 4 with (fail)
          have hi : n - 1 < s.keys.length := by omega
          have Hkey : Hd (s.came l = some s.keys[n - 1]) := ⟨by rw [ck_some Hmo.out Hk.out hn1, List.getElem?_eq_getElem hi]⟩
          have hl16 := HR.out.kl s.keys[n - 1] (List.getElem_mem hi)
          obtain ⟨g, cap, hv2, _, hglt, _, _, cur, hBlk, hcur⟩ := HT2.out.k.at_ (i := n - 1) (by rw [Hzl.out]; exact hi)
          rw [Hve.out, Hzl.out] at hv2
          injection hv2 with hA _ hcap
          subst hA
          clear hcap
          have hcur2 : ∀ j v, (fromCells s.keys[n - 1])[j]? = some v → cur[(n - 1) * 18 + j]? = some v := by
            intro j v hj
            have hj2 : j < 18 := by
              have := (List.getElem?_eq_some_iff.1 hj).1
              rw [fromCells_len _ hl16] at this; exact this
            rw [hcur j hj2]
            rw [List.getElem_map]
            exact hj
          have Hcur2 := Hd.mk hcur2
          generalize s.keys[n - 1] = X at *
          have HBlk := Hd.mk hBlk
          have hlen := fromCells_len X hl16
          have Hlen := Hd.mk hlen
          clear hcur hcur2 hBlk hl16 hlen
          refine wp_region_lit ?_
          refine wl_val rfl (.pointer (some ⟨tb, 0, none⟩)) (rfl) ?_
          simp only [Act.put, List.setIfInBounds_toArray, List.set_cons_succ, List.set_cons_zero]
          refine wl_val rfl (.pointer (some ⟨tb, 0, none⟩)) (by simp [go_sem]) ?_
          simp only [Act.put, List.setIfInBounds_toArray, List.set_cons_succ, List.set_cons_zero]
          refine wl_val rfl (.pointer (some ⟨tb, 0, none⟩)) (by simp [go_sem]) ?_
          simp only [Act.put, List.setIfInBounds_toArray, List.set_cons_succ, List.set_cons_zero]
          refine wl_val rfl (.slice (some ⟨g, 0, none⟩) s.keys.length cp) (exec_cell _ _ (by rfl) ⟨tb, 0, none⟩ _ (by rfl) (agg121 _) x1) ?_
          simp only [Act.put, List.setIfInBounds_toArray, List.set_cons_succ, List.set_cons_zero]
          refine wl_val rfl (.int .i64 (n : Int)) (rfl) ?_
          simp only [Act.put, List.setIfInBounds_toArray, List.set_cons_succ, List.set_cons_zero]
          refine wl_val rfl (.int .i64 ((n - 1 : Nat) : Int)) (exec_sub 3 _ (.tmp 39) _ (by rfl) n 1 (by rfl) (by rfl) _ (by omega) (by omega) (by omega) _) ?_
          simp only [Act.put, List.setIfInBounds_toArray, List.set_cons_succ, List.set_cons_zero]
          refine wl_val rfl (.pointer (some ⟨g, 0 + (n - 1) * 18, none⟩)) (exec_idx 121 70 18 (.tmp 38) (.tmp 40) (by rfl) g 0 s.keys.length cp (n - 1) (by rfl) (by rfl) hi tyfs i70 _) ?_
          simp only [Act.put, List.setIfInBounds_toArray, List.set_cons_succ, List.set_cons_zero]
          refine wl_val rfl (.agg (fromCells X).toArray) (exec_load 70 _ (by rfl) g (0 + (n - 1) * 18) (by rfl) 70 cur (fromCells X) _ HBlk.out (by rw [Nat.zero_add]; exact Hcur2.out) ty70 rfl (by rw [Hlen.out]; exact i70)) ?_
          simp only [Act.put, List.setIfInBounds_toArray, List.set_cons_succ, List.set_cons_zero]
          refine wl_storeW rfl 70 _ _ rfl (w.heap.size + 1) 0 (fromCells X) rfl rfl 70 _ (fromCells X) HZ2.out (by rw [Hlen.out]; simp [fromCells, SFrom.fresh, zKey]) (by rw [Hlen.out]; exact i70) (fromCells_one X) (by rw [Hlen.out]; simp [fromCells, SFrom.fresh, zKey]) ?_
          intro w4 hr4 hg4 hs4
          simp only [Act.put]
          have Hr4 := Hd.mk hr4
          have HB4 := Hd.mk (HB2.out.grown hg4 HB2.out.size (by rintro j hj; cases hj; omega))
          clear hr4 hg4
          go_wp2
          refine bodyPost_ret (results_cell_tmp (p := 4) (q := 5) (ty := 70) rfl _ _ (w.heap.size + 1) 70 (fromCells X) _ (.bool true) rfl rfl Hr4.out ty70 rfl (by rw [Hlen.out]; exact i70)) rfl ?_
          rw [Hkey.out]
          exact ⟨X, rfl, .inl rfl, HB4.out⟩
        · have d2 : decide ((n : Int) > s.keys.length) = true := by simp; omega
          have Hk := Hd.mk hk
          clear hk
          go_upto_region 3 with (fail)
          have Hno := Hd.mk ((ck_some (s := s) Hmo.out Hk.out hn1).trans (List.getElem?_eq_none (by omega)))
          refine wp_region_lit ?_
          refine wl_val rfl (.agg (fromCells SFrom.fresh).toArray) (by unfold execOp; simp [Hbz.out]) ?_
          simp only [Act.put, List.setIfInBounds_toArray, List.set_cons_succ, List.set_cons_zero]
          go_wp2_with (refine wl_storeW rfl 70 _ _ rfl (w.heap.size + 1) 0 (fromCells SFrom.fresh) rfl rfl 70 _ (fromCells SFrom.fresh) HZ2.out (by simp [fromCells, SFrom.fresh, zKey]) i70 (fromCells_one _) (by simp [fromCells, SFrom.fresh, zKey]) ?_; intro w6 hr6 hg6 hs6)
          refine bodyPost_ret (results_cell_tmp (p := 4) (q := 5) (ty := 70) rfl _ _ (w.heap.size + 1) 70 (fromCells SFrom.fresh) _ (.bool false) rfl rfl hr6 ty70 rfl i70) rfl ?_
          rw [Hno.out]
          exact ⟨SFrom.fresh, rfl, .inr ⟨rfl, rfl⟩, HB2.out.grown hg6 HB2.out.size (by rintro j hj; cases hj; omega)⟩
      · have d1 : decide ((n : Int) < 1) = true := by simp; omega
        have Hk := Hd.mk hk
        clear hk
        go_upto_region 3 with (fail)
        have Hno := Hd.mk (ck_none (s := s) Hmo.out (fun hh => hn1 hh.2))
        refine wp_region_lit ?_
        refine wl_val rfl (.agg (fromCells SFrom.fresh).toArray) (by unfold execOp; simp [Hbz.out]) ?_
        simp only [Act.put, List.setIfInBounds_toArray, List.set_cons_succ, List.set_cons_zero]
        go_wp2_with (refine wl_storeW rfl 70 _ _ rfl (w.heap.size + 1) 0 (fromCells SFrom.fresh) rfl rfl 70 _ (fromCells SFrom.fresh) HZ2.out (by simp [fromCells, SFrom.fresh, zKey]) i70 (fromCells_one _) (by simp [fromCells, SFrom.fresh, zKey]) ?_; intro w6 hr6 hg6 hs6)
        refine bodyPost_ret (results_cell_tmp (p := 4) (q := 5) (ty := 70) rfl _ _ (w.heap.size + 1) 70 (fromCells SFrom.fresh) _ (.bool false) rfl rfl hr6 ty70 rfl i70) rfl ?_
        rw [Hno.out]
        exact ⟨SFrom.fresh, rfl, .inr ⟨rfl, rfl⟩, HB2.out.grown hg6 HB2.out.size (by rintro j hj; cases hj; omega)⟩
    · rw [decide_eq_false hk] at hkb
      have Hk := Hd.mk hk
      clear hk
      go_upto_region 3 with (fail)
      have Hno := Hd.mk (ck_none (s := s) Hmo.out (fun hh => Hk.out hh.1))
      refine wp_region_lit ?_
      refine wl_val rfl (.agg (fromCells SFrom.fresh).toArray) (by unfold execOp; simp [Hbz.out]) ?_
      simp only [Act.put, List.setIfInBounds_toArray, List.set_cons_succ, List.set_cons_zero]
      go_wp2_with (refine wl_storeW rfl 70 _ _ rfl (w.heap.size + 1) 0 (fromCells SFrom.fresh) rfl rfl 70 _ (fromCells SFrom.fresh) HZ2.out (by simp [fromCells, SFrom.fresh, zKey]) i70 (fromCells_one _) (by simp [fromCells, SFrom.fresh, zKey]) ?_; intro w6 hr6 hg6 hs6)
      refine bodyPost_ret (results_cell_tmp (p := 4) (q := 5) (ty := 70) rfl _ _ (w.heap.size + 1) 70 (fromCells SFrom.fresh) _ (.bool false) rfl rfl hr6 ty70 rfl i70) rfl ?_
      rw [Hno.out]
      exact ⟨SFrom.fresh, rfl, .inr ⟨rfl, rfl⟩, HB2.out.grown hg6 HB2.out.size (by rintro j hj; cases hj; omega)⟩
end Go.Proofs.Ytjjcnijdjhhdoaa
end
/-! The walk of sym.New: an empty table. -/
section
namespace Go.Proofs.Ytjjcnijdjhhdoaa
open Go.RowKit Go.QT
def NPost (w : World) (e : Ending) (w' : World) : Prop :=
  ∃ tb F, e = .returned (.pointer (some ⟨tb, 0, none⟩)) ∧ TabAt w' F tb STab.empty ∧ (∀ q, F q → w.heap.size ≤ q) ∧ Below w.heap.size w w'
theorem empty_tab (w : World) : TabAt ((w.alloc (.map #[] 0)).alloc (.cells #[.slice none 0 0, .slice none 0 0, .slice none 0 0, .map (some w.heap.size)] 123)) (fun q => q = w.heap.size ∨ q = w.heap.size + 1) (w.heap.size + 1) STab.empty := by
  refine ⟨w.heap.size, .slice none 0 0, .slice none 0 0, .slice none 0 0, [], [], #[], 0, ?_⟩
  refine { t := new2 w _ 123 _, k := OV.nil _ _ _ _, kl := by simp [STab.empty], x := OV.nil _ _ _ _, xn := rfl, xl := by simp [STab.empty], xb := by simp [STab.empty], u := OV.nil _ _ _ _, un := rfl, ub := by simp [STab.empty], m := ?_, me := by simp [STab.empty], ml := by simp [STab.empty], ft := .inr rfl, fm := .inl rfl, fk := by simp [Value.ownBlock], fx := by simp [Value.ownBlock], fu := by simp [Value.ownBlock], fl := ?_ }
  · rw [Below.heap_alloc _ _ _ (by simp)]
    exact heap_alloc_new w _
  · intro q hq
    rcases hq with rfl | rfl <;> simp <;> omega
set_option maxRecDepth 100000 in
theorem snew_any (w : World) : Calls Try.prog 28 #[] w (NPost w) := by
  have hmm := @run_makeMap Try.prog
  have h1 : ∀ W, (Instr.makeMap 120 none).run Try.prog W = .ok (.map (some W.heap.size)) (W.alloc (.map #[] 0)) := fun W => rfl
  have H1 := Hd.mk h1
  have hb : ∀ (g : Nat) W, (Instr.build 123 #[(3, .map (some g))]).run Try.prog W = .ok (.agg #[.slice none 0 0, .slice none 0 0, .slice none 0 0, .map (some g)]) W := fun g W => by kernel_rfl
  have Hb := Hd.mk hb
  clear hmm h1 hb
  go_enter Try.func28, Try.ntmps28
  go_upto_region 1 with (fail)
  refine wp_region_lit ?_
  refine wl_run rfl (.map (some w.heap.size)) (show _ = Result.ok _ (w.alloc (.map #[] 0)) by kernel_rfl) ?_
  simp only [Act.put, List.setIfInBounds_toArray, List.set_cons_succ, List.set_cons_zero]
  refine wl_val rfl (.agg #[.slice none 0 0, .slice none 0 0, .slice none 0 0, .map (some w.heap.size)]) (by kernel_rfl) ?_
  simp only [Act.put, List.setIfInBounds_toArray, List.set_cons_succ, List.set_cons_zero]
  refine wl_run rfl (.pointer (some ⟨w.heap.size + 1, 0, none⟩)) (show _ = Result.ok _ ((w.alloc (.map #[] 0)).alloc (.cells #[.slice none 0 0, .slice none 0 0, .slice none 0 0, .map (some w.heap.size)] 123)) by simp [go_sem]) ?_
  simp only [Act.put, List.setIfInBounds_toArray, List.set_cons_succ, List.set_cons_zero]
  go_wp2
  go_ret
  exact ⟨_, _, rfl, empty_tab w, fun q hq => by rcases hq with rfl | rfl <;> omega, ((Below.refl _ _).alloc (Nat.le_refl _) _).alloc (by simp) _⟩
end Go.Proofs.Ytjjcnijdjhhdoaa
end
/-! A sym.Table among the things that a call holds. -/
section
namespace Go.Proofs.Ytjjcnijdjhhdoaa
open Go.RowKit Go.QT
def rTab (F : Nat → Prop) (tb : Nat) (s : STab) : Res where
  F := F
  Φ := fun w => TabAt w F tb s
  lt := fun h => h.lt
  keep := fun h hs hk => h.keep hs hk
section
variable {F0 F : Nat → Prop} {w0 w w' : World} {ro rs : List Res} {tb : Nat} {s s' : STab} {P : Program} {o : Oper} {a : Act} {v : Value} {e : Ending}
theorem Hp.tab (h : Hp F0 w0 w ro rs) (i : Nat) (hi : rs[i]? = some (rTab F tb s)) (hp : TPost w F tb s' v e w') : e = .returned v ∧ ∃ F', Hp F0 w0 w' ro (rs.set i (rTab F' tb s')) := by
  obtain ⟨he, F', hT, h1, _, hf⟩ := hp
  exact ⟨he, F', h.upd i hi hf (rTab F' tb s') hT h1⟩
/-- What a call leaves that answers v and may turn the table. -/
def TP (w : World) (F : Nat → Prop) (tb : Nat) (s : STab) (v : Value) (e : Ending) (w' : World) : Prop := e = .returned v ∧ ∃ F', Hp F w w' [] [rTab F' tb s]
theorem TPost.tp (hT : TabAt w F tb s) (hp : TPost w F tb s' v e w') : TP w F tb s' v e w' := by
  have := (Hp.one (rTab F tb s) hT).tab 0 rfl hp
  exact this
theorem Hp.tp (h : Hp F0 w0 w ro rs) (i : Nat) (hi : rs[i]? = some (rTab F tb s)) (hp : TP w F tb s' v e w') : e = .returned v ∧ ∃ F', Hp F0 w0 w' ro (rs.set i (rTab F' tb s')) := by
  obtain ⟨he, F', hh⟩ := hp
  exact ⟨he, F', h.upd i hi hh.fr (rTab F' tb s') (hh.own 0 _ rfl) (hh.mine 0 _ rfl)⟩
theorem x_tp (h : Hp F0 w0 w ro rs) (i : Nat) (hi : rs[i]? = some (rTab F tb s)) (fn : FuncId) (al : List Value) (hp : pureVal P (execOp a.eval o) = some (.enter fn al.toArray))
    (hc : TabAt w F tb s → Calls P fn al.toArray w (TP w F tb s' v)) : OpTo P o a w (fun u w' => u = v ∧ ∃ F', Hp F0 w0 w' ro (rs.set i (rTab F' tb s'))) :=
  OpTo.enter fn al hp (hc (h.own i _ hi)) fun e w' hq => by
    obtain ⟨he, h'⟩ := h.tp i hi hq
    exact ⟨v, he, rfl, h'⟩
/-- A call of a method that may turn the table. -/
theorem x_tab (h : Hp F0 w0 w ro rs) (i : Nat) (hi : rs[i]? = some (rTab F tb s)) (fn : FuncId) (al : List Value) (hp : pureVal P (execOp a.eval o) = some (.enter fn al.toArray))
    (hc : TabAt w F tb s → Calls P fn al.toArray w (TPost w F tb s' v)) : OpTo P o a w (fun u w' => u = v ∧ ∃ F', Hp F0 w0 w' ro (rs.set i (rTab F' tb s'))) :=
  OpTo.enter fn al hp (hc (h.own i _ hi)) fun e w' hq => by
    obtain ⟨he, h'⟩ := h.tab i hi hq
    exact ⟨v, he, rfl, h'⟩
end
end Go.Proofs.Ytjjcnijdjhhdoaa
end
/-! Slices whose elements have any number of cells: what is read, what is the call's own; steps on them. -/
section
namespace Go.Proofs.Ytjjcnijdjhhdoaa
open Go.RowKit Go.QT
/-- A slice reads as elements of sz cells. -/
structure RV (w : World) (sz : Nat) (A : Option Addr) (c : Nat) (xs : List (List Value)) : Prop where
  le : xs.length ≤ c
  cap : c ≤ maxLen
  len : ∀ x ∈ xs, x.length = sz
  at_ : xs ≠ [] → ∃ b o, A = some ⟨b, o, none⟩ ∧ b < w.heap.size ∧ ∀ i x, xs[i]? = some x → ∀ j u, x[j]? = some u → w.cell? ⟨b, o + i * sz + j, none⟩ = some u
def ownA : Option Addr → Option Nat := fun A => A.map (·.block)
def rRV (sz : Nat) (A : Option Addr) (c : Nat) (xs : List (List Value)) : Res where
  F := fun q => xs ≠ [] ∧ ownA A = some q
  Φ := fun w => RV w sz A c xs
  lt := fun h q hq => by
    obtain ⟨b, o, rfl, hb, _⟩ := h.at_ hq.1
    have : b = q := by simpa [ownA] using hq.2
    omega
  keep := fun h hs hk => ⟨h.le, h.cap, h.len, fun hne => by
    obtain ⟨b, o, rfl, hb, hc⟩ := h.at_ hne
    exact ⟨b, o, rfl, by omega, fun i x hx j u hu => (World.cell?_of_block (hk b ⟨hne, rfl⟩)).trans (hc i x hx j u hu)⟩⟩
/-- The bytes as elements. -/
def bx (l : Bytes) : List (List Value) := l.map fun x => [.int .u8 (ub x)]
@[simp] theorem bx_len (l : Bytes) : (bx l).length = l.length := by simp [bx]
theorem bx_get (l : Bytes) (i : Nat) (hi : i < l.length) : (bx l)[i]? = some [.int .u8 (ub (gb l i))] := by simp [bx, gb, hi]
theorem SB.rv {w : World} {A : Option Addr} {n c : Nat} {l : Bytes} (h : SB w (.slice A n c) l) : RV w 1 A c (bx l) := by
  obtain ⟨A', c', e, hc, hm, hcell⟩ := h
  injection e with e1 e2 e3
  subst e1; subst e3
  refine ⟨by simpa using hc, hm, by simp [bx], fun hne => ?_⟩
  obtain ⟨b, o, rfl, hb, hcl⟩ := hcell (by rintro rfl; exact hne rfl)
  refine ⟨b, o, rfl, hb, fun i x hx j u hu => ?_⟩
  have hi : i < l.length := by have := (List.getElem?_eq_some_iff.1 hx).1; simpa using this
  rw [bx_get l i hi] at hx
  injection hx with hx
  subst hx
  have hj : j = 0 := by have := (List.getElem?_eq_some_iff.1 hu).1; simpa using this
  subst hj
  injection hu with hu
  subst hu
  simpa using hcl i hi
theorem RV.sb {w : World} {A : Option Addr} {c : Nat} {l : Bytes} (h : RV w 1 A c (bx l)) : SB w (.slice A l.length c) l :=
  ⟨A, c, rfl, by simpa using h.le, h.cap, fun hne => by
    obtain ⟨b, o, rfl, hb, hc⟩ := h.at_ (by intro h0; apply hne; simpa [bx] using h0)
    refine ⟨b, o, rfl, hb, fun i hi => ?_⟩
    simpa using hc i _ (bx_get l i hi) 0 _ rfl⟩
/-- Where an element lies. -/
def eAt (A : Option Addr) (k : Nat) : Value := match A with | some a => .pointer (some (a.add k)) | none => undef
section
variable {P : Program} {o : Oper} {a : Act} {w w' : World} {sz c : Nat} {A : Option Addr} {xs : List (List Value)}
theorem RV.keep (h : RV w sz A c xs) (hs : w.heap.size ≤ w'.heap.size) (hk : ∀ q, ownA A = some q → w'.heap[q]? = w.heap[q]?) : RV w' sz A c xs :=
  (rRV sz A c xs).keep h hs fun q hq => hk q hq.2
theorem RV.below (h : RV w sz A c xs) (hb : Below w.heap.size w w') : RV w' sz A c xs :=
  (rRV sz A c xs).keep h hb.size fun q hq => hb.block q ((rRV sz A c xs).lt h q hq)
/-- The place of an element. -/
theorem e_idx (h : RV w sz A c xs) (i : Nat) (hi : i < xs.length) (t : TypeId) (x y : Operand) (ho : o.op = .indexAddr t x y) (k : IntKind) (hx : a.eval x = .slice A xs.length c) (hy : a.eval y = .int k (i : Int)) (E : TypeId) (ht : P.underlying t = some (.slice E)) (hE : pureVal P (sizeOf E) = some sz) (W : World) :
    (execOp a.eval o).run P W = .ok (.value (eAt A (i * sz))) W := by
  obtain ⟨b, o', rfl, hb, hc⟩ := h.at_ (by rintro rfl; simp at hi)
  have h0 : (0 : Int) ≤ i ∧ (i : Int) < xs.length := ⟨by omega, by omega⟩
  have h1 : (Instr.indexAt t (.slice (some ⟨b, o', none⟩) xs.length c) (.int k (i : Int))).run P W = .ok (eAt (some ⟨b, o', none⟩) (i * sz)) W := by
    simp [Instr.indexAt, asIntOf, run_underlying ht, hi, pureVal_run hE, eAt]
  unfold execOp
  simp only [ho, hx, hy, Sem.run_bind, h1, Result.andThen_ok, Sem.run_pure]
theorem eAt_some (h : RV w sz A c xs) (i : Nat) (hi : i < xs.length) : ∃ b k, A = some ⟨b, k, none⟩ ∧ eAt A (i * sz) = pt b (k + i * sz) ∧ ∀ j u, (xs[i]'hi)[j]? = some u → w.cell? ⟨b, k + i * sz + j, none⟩ = some u := by
  obtain ⟨b, o', rfl, hb, hc⟩ := h.at_ (by rintro rfl; simp at hi)
  refine ⟨b, o', rfl, ?_, fun j u hu => hc i _ (List.getElem?_eq_getElem hi) j u hu⟩
  unfold eAt pt
  by_cases h0 : i * sz = 0
  · rw [h0]; simp [Addr.add]
  · simp [Addr.add, h0]
/-- A cell of an element. -/
theorem e_elem (h : RV w sz A c xs) (i : Nat) (hi : i < xs.length) (t : TypeId) (x : Operand) (ho : o.op = .load t x) (v : Value) (hx : a.eval x = eAt A (i * sz)) (hv : (xs[i]'hi)[0]? = some v) (ht : pureVal P (isAgg t) = some false) :
    (execOp a.eval o).run P w = .ok (.value v) w := by
  obtain ⟨b, k, rfl, e, hc⟩ := eAt_some h i hi
  have hcell : w.cell? ⟨b, k + i * sz, none⟩ = some v := by simpa using hc 0 v hv
  have hl : (loadVar t ⟨b, k + i * sz, none⟩).run P w = .ok v w := by simp [loadVar, pureVal_run ht, hcell]
  unfold execOp
  rw [e] at hx
  simp only [ho, hx, pt, Instr.loadAt, Instr.sureAddr, Sem.run_bind, Sem.run_pure, Result.andThen_ok, hl]
/-- An element of more cells. -/
theorem e_elems (h : RV w sz A c xs) (i : Nat) (hi : i < xs.length) (t : TypeId) (x : Operand) (ho : o.op = .load t x) (ds : List Value) (hx : a.eval x = eAt A (i * sz)) (hv : xs[i]'hi = ds) (hB : rowB P t ds.length = true) :
    (execOp a.eval o).run P w = .ok (.value (.agg ds.toArray)) w := by
  obtain ⟨b, k, rfl, e, hc⟩ := eAt_some h i hi
  obtain ⟨d, hu, hr, hs⟩ := rowB_spec hB
  have hl := run_loadVar_mid (P := P) w b (k + i * sz) t ds d (fun j v hj => hc j v (by rw [hv]; exact hj)) hu hr hs
  unfold execOp
  rw [e] at hx
  simp only [ho, hx, pt, Instr.loadAt, Instr.sureAddr, Sem.run_bind, Sem.run_pure, Result.andThen_ok, hl]
theorem OV.rv {base E : Nat} {A : Option Addr} {n : Nat} (h : OV w base E sz (.slice A n c) xs) : n = xs.length ∧ RV w sz A c xs := by
  have hf := h.form
  obtain ⟨A', c', e, h1, h2⟩ := hf
  injection e with e1 e2 e3
  subst e1; subst e2; subst e3
  refine ⟨rfl, h1, h2, h.len, fun hne => ?_⟩
  have hpos : 0 < xs.length := by
    rcases Nat.eq_zero_or_pos xs.length with h0 | h0
    · exact absurd (List.eq_nil_of_length_eq_zero h0) hne
    · exact h0
  obtain ⟨g, cap, e, hb, hlt, _⟩ := h.at_ (i := 0) hpos
  injection e with e1 _ _
  subst e1
  refine ⟨g, 0, rfl, hlt, fun i x hx j u hu => ?_⟩
  have hi : i < xs.length := (List.getElem?_eq_some_iff.1 hx).1
  obtain ⟨g', cap', e', _, _, _, _, cur, hB, hcur⟩ := h.at_ hi
  injection e' with e1' _ _
  injection e1' with e1'
  injection e1' with e2'
  subst e2'
  have hxe : xs[i] = x := by rw [List.getElem?_eq_getElem hi] at hx; injection hx
  subst hxe
  have hj : j < sz := by rw [← h.len _ (List.getElem_mem hi)]; exact (List.getElem?_eq_some_iff.1 hu).1
  rw [Nat.zero_add, hB.cell, hcur j hj]
  exact hu
/-- append of one element, that lies in a block of its own, to a row of the call's own. -/
theorem x_push {F0 : Nat → Prop} {w0 : World} {ro rs : List Res} (h : Hp F0 w0 w ro rs) (i j : Nat) {E : TypeId} {v : Value} {g : Nat} {T : TypeId} {news : List Value} (hi : rs[i]? = some (rOV E sz v xs)) (hj : rs[j]? = some (rBlk g T news)) (_hij : i ≠ j)
    (s x : Operand) (t : TypeId) (ho : o.op = .call { callee := .builtin .append, args := #[s, x], argTypes := #[t, t] }) (bytes : Nat) (z : Value) (ht : P.underlying t = some (.slice E)) (hinf : (P.info? E).map (fun i => (i.zero, i.size, i.bytes)) = some (some z, sz, bytes))
    (hzs : z.cells.size = sz) (hsz : 0 < sz) (hs : a.eval s = v) (c : Nat) (hx : a.eval x = .slice (some ⟨g, 0, none⟩) 1 c) (hn : news.length = sz) (h1 : ∀ u ∈ news, u.oneCell' = true)
    (hlen : (xs.length + 1) * bytes ≤ 140737488355328) (hlen2 : xs.length < maxLen) :
    OpTo P o a w (fun u w' => ∃ A cc, u = .slice A (xs ++ [news]).length cc ∧ Hp F0 w0 w' ro (rs.set i (rOV E sz u (xs ++ [news])))) := by
  have hv : OV w 0 E sz v xs := h.own i _ hi
  have hb : Blk w g T news := h.own j _ hj
  obtain ⟨v', w', hrun, h2, h3, h4⟩ := OV.push (P := P) s x t ho 0 E sz bytes z ht hinf hzs hsz v xs hs hv g T news c hx hb hn h1 hlen hlen2 (Nat.zero_le _)
  obtain ⟨A, cc, e, _, _⟩ := h2.form
  refine OpTo.run v' hrun ⟨A, cc, e, h.upd i hi (Fr.of_grown h3 (fun q hq => .inl hq)) (rOV E sz v' (xs ++ [news])) h2 (fun q hq => ?_)⟩
  rcases h4 with h4 | h4
  · left; show v.ownBlock = some q; rw [← h4]; exact hq
  · right
    have : v'.ownBlock = some q := hq
    rw [h4] at this
    injection this with this
    omega
/-- A row of the call's own without elements. -/
theorem Hp.ovNil {F0 : Nat → Prop} {w0 : World} {ro rs : List Res} (h : Hp F0 w0 w ro rs) (E sz : Nat) : Hp F0 w0 w ro (rOV E sz (.slice none 0 0) [] :: rs) :=
  h.newS (Below.refl _ _) _ (OV.nil w 0 E sz) (fun q hq => by simp [rOV, Value.ownBlock] at hq)
theorem Hp.obNil {F0 : Nat → Prop} {w0 : World} {ro rs : List Res} (h : Hp F0 w0 w ro rs) : Hp F0 w0 w ro (rOB (.slice none 0 0) [] :: rs) :=
  h.newS (Below.refl _ _) _ (OB.nil w 0) (fun q hq => by simp [rOB, Value.ownBlock] at hq)
/-- A block of bytes becomes a row of the call's own. -/
theorem Hp.blkOB {F0 : Nat → Prop} {w0 : World} {ro rs : List Res} (h : Hp F0 w0 w ro rs) (i : Nat) {g : Nat} (l : Bytes) (hi : rs[i]? = some (rBlk g 5 (vb l))) (hl : l.length ≤ maxLen) : Hp F0 w0 w ro (rs.set i (rOB (.slice (some ⟨g, 0, none⟩) l.length l.length) l)) := by
  have hb : Row w g 5 l := h.own i _ hi
  refine h.upd i hi (Fr.refl _ _) _ (OB.new w g l hl hb (Nat.zero_le _)) (fun q hq => .inl ?_)
  have : g = q := by simpa [rOB, Value.ownBlock] using hq
  exact this.symm
/-- append of bytes that are read to a row of the call's own. -/
theorem x_appB {F0 : Nat → Prop} {w0 : World} {ro rs : List Res} (h : Hp F0 w0 w ro rs) (i : Nat) {v : Value} {l m : Bytes} (hi : rs[i]? = some (rOB v l)) (s x : Operand) (ho : o.op = .call { callee := .builtin .append, args := #[s, x], argTypes := #[28, 28] })
    (u : Value) (hs : a.eval s = v) (hx : a.eval x = u) (hu : SB w u m) (hlen : l.length + m.length ≤ 140737488355328) :
    OpTo Try.prog o a w (fun u w' => ∃ A cc, u = .slice A (l ++ m).length cc ∧ Hp F0 w0 w' ro (rs.set i (rOB u (l ++ m)))) := by
  have hv : OB w 0 v l := h.own i _ hi
  obtain ⟨i0, hi0, hz0, hz1, hz2⟩ := info_parts i5
  obtain ⟨A, c, rfl, hc, hm, hcell⟩ := hu
  have hr := (SB.reads (w := w) (A := A) (n := m.length) (c := c) ⟨A, c, rfl, hc, hm, hcell⟩).2
  obtain ⟨v', w', hrun, h2, h3, h4⟩ := run_append_any (P := Try.prog) w 0 28 o.type 5 i0 _ 1 1 ty28 hi0 hz0 hz1 hz2 rfl (by omega) v l.length (vb l) hv w.heap.size A m.length c (vb m) hr (vb_ones m) (by unfold maxLen; omega) (by omega) (Nat.zero_le _)
  have h2' : OB w' 0 v' (l ++ m) := by
    unfold OB
    rw [List.length_append, vb_append]
    exact h2
  have hsb := SB.own h2'
  obtain ⟨A', c', e, _, _⟩ := hsb
  have hrun' : (execOp a.eval o).run Try.prog w = .ok (.value v') w' := by
    unfold execOp
    simp only [ho, resolve, invoke, builtin, Sem.run_bind, Sem.run_pure, Result.andThen_ok, List.map_toArray, List.map_cons, List.map_nil, hs, hx, hrun]
  refine OpTo.run v' hrun' ⟨A', c', e, h.upd i hi (Fr.of_grown h3 (fun q hq => .inl hq)) (rOB v' (l ++ m)) h2' (fun q hq => ?_)⟩
  rcases h4 with h4 | h4
  · left; show v.ownBlock = some q; rw [← h4]; exact hq
  · right
    have : v'.ownBlock = some q := hq
    rw [h4] at this
    injection this with this
    omega
/-- A call that leaves new bytes. -/
theorem x_bytes {F0 : Nat → Prop} {w0 : World} {ro rs : List Res} (h : Hp F0 w0 w ro rs) {l : Bytes} (fn : FuncId) (al : List Value) (hp : pureVal P (execOp a.eval o) = some (.enter fn al.toArray)) (hc : Calls P fn al.toArray w (BPost w l)) :
    OpTo P o a w (fun u w' => ∃ A cc, u = .slice A l.length cc ∧ Hp F0 w0 w' ro (rOB u l :: rs)) :=
  OpTo.enter fn al hp hc fun e w' hq => by
    obtain ⟨v, he, ho, hb⟩ := hq
    obtain ⟨A, cc, e2, _⟩ := ho.sb
    exact ⟨v, he, A, cc, e2, h.newS hb _ (ho.mono (Nat.zero_le _)) (fun q hq => (ho.own q hq).1)⟩
/-- A call that leaves nothing. -/
theorem x_apost {F0 : Nat → Prop} {w0 : World} {ro rs : List Res} (h : Hp F0 w0 w ro rs) {l : Bytes} (fn : FuncId) (al : List Value) (hp : pureVal P (execOp a.eval o) = some (.enter fn al.toArray)) (hc : Calls P fn al.toArray w (APost w l)) :
    OpTo P o a w (fun u w' => u = .agg (vb l).toArray ∧ Hp F0 w0 w' ro rs) :=
  OpTo.enter fn al hp hc fun _e _w' hq => ⟨_, hq.1, rfl, h.below hq.2⟩
theorem x_vpost {F0 : Nat → Prop} {w0 : World} {ro rs : List Res} (h : Hp F0 w0 w ro rs) {v : Value} (fn : FuncId) (al : List Value) (hp : pureVal P (execOp a.eval o) = some (.enter fn al.toArray)) (hc : Calls P fn al.toArray w (VPost w v)) :
    OpTo P o a w (fun u w' => u = v ∧ Hp F0 w0 w' ro rs) :=
  OpTo.enter fn al hp hc fun e w' hq => ⟨_, hq.1, rfl, by rw [← hq.2]; exact h⟩
/-- []byte(s). -/
theorem x_conv {F0 : Nat → Prop} {w0 : World} {ro rs : List Res} (h : Hp F0 w0 w ro rs) (x : Operand) (ho : o.op = .convert 9 28 x) (s : ByteArray) (hx : a.eval x = .string s) (hs : s.size ≤ maxLen) :
    OpTo Try.prog o a w (fun u w' => ∃ A cc, u = .slice A s.data.toList.length cc ∧ Hp F0 w0 w' (rSB u s.data.toList :: ro) rs) := by
  obtain ⟨v, w', hrun, hsb, hb, g, c, hg, hf⟩ := conv_sb s w hs
  have hr : (execOp a.eval o).run Try.prog w = .ok (.value v) w' := by
    unfold execOp
    simp only [ho, hx, Sem.run_bind, hrun, Result.andThen_ok, Sem.run_pure]
  refine OpTo.run v hr ⟨some ⟨g, 0, none⟩, c, by rw [hf]; simp, h.newR hb _ hsb (fun q hq => ?_)⟩
  have h2 : v.ownBlock = some q := hq.2
  rw [hf] at h2
  have : g = q := by simpa [Value.ownBlock] using h2
  omega
end
end Go.Proofs.Ytjjcnijdjhhdoaa
end
/-! Constant bytes: []byte("..") of a constant. -/
section
namespace Go.Proofs.Ytjjcnijdjhhdoaa
open Go.RowKit Go.QT
/-- A new block with a mark reads as its bytes. -/
theorem SB.marked (w : World) (l : Bytes) (fr : Nat × Nat) (hl : l.length ≤ maxLen) : SB (w.alloc (.cells (vb l).toArray 5 fr)) (.slice (some ⟨w.heap.size, 0, none⟩) l.length l.length) l := by
  refine ⟨_, _, rfl, Nat.le_refl _, hl, fun _ => ⟨w.heap.size, 0, rfl, by simp, fun i hi => ?_⟩⟩
  rw [Nat.zero_add, World.cell?_alloc_mark w (vb l).toArray 5 fr i]
  simpa using vb_get l i hi
theorem exec_convC {o : Oper} {a : Act} (x : Operand) (ho : o.op = .convert 28 28 x) (w : World) (C : Array Value) (n c : Nat) (hx : a.eval x = .slice (some ⟨w.heap.size, 0, none⟩) n c) :
    (execOp a.eval o).run Try.prog (w.alloc (.cells C 5)) = .ok (.value (.slice (some ⟨w.heap.size, 0, none⟩) n c)) (w.alloc (.cells C 5 (C.size, C.size + 1))) := by
  have h := Lib.run_convert_bytes_const (P := Try.prog) w 28 5 C n c u28 ubyte
  unfold execOp
  simp only [ho, hx, Sem.run_bind, h, Result.andThen_ok, Sem.run_pure]
end Go.Proofs.Ytjjcnijdjhhdoaa
end
/-! The walk of compeerref01.Put. -/
section
namespace Go.Proofs.Ytjjcnijdjhhdoaa
open Go.RowKit Go.QT
def rpT (n : Nat) : Nat → Bytes × Nat
  | 0 => ([], n)
  | k+1 => (UInt8.ofNat ((rpT n k).2 % 256) :: (rpT n k).1, (rpT n k).2 / 256)
theorem ofNat_mod (x : Nat) : UInt8.ofNat (x % 256) = UInt8.ofNat x := by
  apply UInt8.toNat_inj.1; simp
theorem rpT_eq (n : Nat) : (rpT n 8).1 = put8 n := by
  simp [rpT, put8, ofNat_mod, Nat.div_div_eq_div_mul, List.range_succ]
theorem rpT_len (n k : Nat) : (rpT n k).1.length = k := by
  induction k with
  | zero => rfl
  | succ k ih => simp [rpT, ih]
theorem rpT_le (n k : Nat) (h : n < 18446744073709551616) : (rpT n k).2 < 18446744073709551616 := by
  induction k with
  | zero => exact h
  | succ k ih => show _ / 256 < _; omega
set_option maxRecDepth 100000 in
set_option maxHeartbeats 1000000 in
theorem rput_any (n : Nat) (hn : n < 18446744073709551616) (w : World) : Calls Try.prog 65 #[.int .u64 (n : Int)] w (BPost w (put8 n)) := by
  have Hfin := Hd.mk (rpT_eq n)
  have HL := Hd.mk (rpT_len n)
  have HN := Hd.mk (rpT_le n · hn)
  clear hn
  go_enter Try.func65, Try.ntmps65
  go_upto_region 2 with (fail)
  have hv : OB (w.alloc (.cells #[] 5)) w.heap.size (.slice (some ⟨w.heap.size, 0, none⟩) 0 0) (rpT n 0).1 := OB.new _ _ [] (by simp) (Row.new w 5 []) (Nat.le_refl _)
  have hB : Below w.heap.size w (w.alloc (.cells #[] 5)) := (Below.refl _ _).alloc (Nat.le_refl _) _
  generalize w.alloc (.cells #[] 5) = w1 at *
  go_wp2
  go_loopw [0, 3, 4] (fun N v i wr => ∃ k : Nat, k ≤ 8 ∧ i = .int .i64 (k : Int) ∧ N = .int .u64 ((rpT n k).2 : Int) ∧ OB wr w.heap.size v (rpT n k).1 ∧ Below w.heap.size w wr) (fun _ _ i _ => 8 - (intOf i).toNat)
  case atStart => exact ⟨0, by omega, rfl, rfl, hv, hB⟩
  case round =>
    clear hv hB
    obtain ⟨k, hk, rfl, rfl, hv, hB⟩ := hrel
    have hl := HL.out k
    have hnn := HN.out k
    by_cases hlt : k < 8
    · have Hs : Hd (rpT n (k+1) = (UInt8.ofNat ((rpT n k).2 % 256) :: (rpT n k).1, (rpT n k).2 / 256)) := ⟨rfl⟩
      generalize (rpT n k).1 = L at *
      generalize (rpT n k).2 = N at *
      obtain ⟨w3, rfl⟩ : ∃ w1 : World, w1 = wr := ⟨_, rfl⟩
      have hub : ub (UInt8.ofNat (N % 256)) = (N : Int) % 256 := by rw [ub_ofNat]; omega
      have hR : Row (w3.alloc (.cells #[.int .u8 ((N : Int) % 256)] 5)) w3.heap.size 5 [UInt8.ofNat (N % 256)] := by
        unfold Row; rw [vb_cons, hub]; exact heap_alloc_new w3 _
      have HR := Hd.mk hR
      have Hv := Hd.mk hv
      have Hl := Hd.mk hl
      clear hub hR hv hl
      go_wp2_with (at_builtin; refine wl_append rfl (.tmp 13) (.tmp 14) rfl w.heap.size (.slice (some ⟨w3.heap.size, 0, none⟩) 1 1) _ [UInt8.ofNat (N % 256)] L rfl rfl (OB.new _ _ [UInt8.ofNat (N % 256)] (by simp [maxLen]) HR.out hB.size) (Hv.out.alloc _).sb (by rw [Hl.out]; simp; omega) (by have := hB.size; simp; omega) ?_; intro v' w' hv' hg' hat')
      refine ⟨⟨k + 1, by omega, by go_num, by rw [Hs.out]; go_num, by rw [Hs.out]; exact hv', ?_⟩, by simp [intOf]; omega⟩
      exact (hB.alloc hB.size _).grown hg' (by have := hB.size; simp; omega) (by rintro j hj; have := hB.size; simp [Value.ownBlock] at hj; omega)
    · have hk8 : k = 8 := by omega
      rw [hk8, Hfin.out] at hv
      have Hv := Hd.mk hv
      clear hv hk8 hl
      go_wp2
      go_ret
      exact ⟨_, rfl, Hv.out, hB⟩
end Go.Proofs.Ytjjcnijdjhhdoaa
end
/-! The walk of the law's own mark: a mark. -/
section
namespace Go.Proofs.Ytjjcnijdjhhdoaa
open Go.RowKit Go.QT
def mk0 (k : UInt8) : Bytes := [255, 254, k, 0, 0, 0, 0, 0, 0, 0, 0, 0, 0, 0, 0, 0]
def mk0V (k : UInt8) : List Value := [.int .u8 255, .int .u8 254, .int .u8 (ub k), .int .u8 0, .int .u8 0, .int .u8 0, .int .u8 0, .int .u8 0, .int .u8 0, .int .u8 0, .int .u8 0, .int .u8 0, .int .u8 0, .int .u8 0, .int .u8 0, .int .u8 0]
theorem mk0_eq (k : UInt8) : vb (mk0 k) = mk0V k := by
  simp [vb, mk0, mk0V, ub]
theorem mk0_one (k : UInt8) : ∀ v ∈ mk0V k, v.oneCell' = true := by rw [← mk0_eq]; exact vb_ones _
theorem ovr_mark2 (k : UInt8) (n : Nat) : ovr (mk0 k) 8 (put8 n) = mkB k n := rfl
theorem ty22' : Try.prog.underlying 22 = some (.array 16 5) := by kernel_rfl
theorem i22' : (Try.prog.info? 22).map (·.size) = some 16 := by kernel_rfl
set_option maxRecDepth 100000 in
set_option maxHeartbeats 1000000 in
theorem lmark_any (k : UInt8) (n : Nat) (hn : n < 9223372036854775808) (w : World) : Calls Try.prog 24 #[.int .u8 (ub k), .int .i64 (n : Int)] w (APost w (mkB k n)) := by
  have Hov := Hd.mk (ovr_mark2 k n)
  have hmi : (Try.prog.info? 22).map (·.size) = some (mk0V k).length := i22'
  have Hmi := Hd.mk hmi
  clear hmi
  go_enter Try.func24, Try.ntmps24
  go_upto_region 1 with (fail)
  rw [z16_eq]
  have h4 : Row (w.alloc (.cells (vb zKey).toArray 22)) w.heap.size 22 zKey := Row.new w 22 zKey
  have hB : Below w.heap.size w (w.alloc (.cells (vb zKey).toArray 22)) := (Below.refl _ _).alloc (Nat.le_refl _) _
  have hsz : (w.alloc (.cells (vb zKey).toArray 22)).heap.size = w.heap.size + 1 := by simp
  generalize w.alloc (.cells (vb zKey).toArray 22) = w1 at *
  have H4 := Hd.mk h4
  have Hsz := Hd.mk hsz
  have hlt := h4.lt
  clear h4 hsz
  go_upto_region 2 with (refine wl_storeW rfl 22 _ _ rfl w1.heap.size 0 (mk0V k) rfl rfl 22 _ (mk0V k) (Blk.new w1 22 (List.replicate 16 (.int .u8 0))) (by simp [mk0V]) (by exact Hmi.out) (mk0_one k) (by simp [mk0V]) ?_; intro w2 hr2' hg2 hs2)
  have hr2 : Row w2 (w.heap.size + 1) 22 (mk0 k) := by unfold Row; rw [mk0_eq, ← Hsz.out]; exact hr2'
  have h42 : Row w2 w.heap.size 22 zKey := (H4.out.alloc _).grown' hg2 (by simp; omega)
  have hB2 : Below w.heap.size w w2 := (hB.alloc hB.size (.cells (List.replicate 16 (Value.int .u8 0)).toArray 22)).grown hg2 (by have := hB.size; simp; omega) (by rintro j hj; cases hj; omega)
  clear H4 hr2' hg2 hB hs2
  rw [Hsz.out]
  clear Hsz hlt
  simp only [Act.put]
  refine oH_begin (n := 5) (fun _ => True) (by kernel_rfl) rfl ?_
  have hS : Row (w2.drewN 1) (w.heap.size + 1) 22 (mk0 k) ∧ Row (w2.drewN 1) w.heap.size 22 zKey ∧ Below w.heap.size w (w2.drewN 1) := ⟨hr2.drewN 1, h42.drewN 1, below_drewN hB2 1⟩
  generalize w2.drewN 1 = w3 at *
  refine oH_val (i := 0) (some 8) (.slice (some ⟨w.heap.size + 1, 8, none⟩) 8 8) rfl rfl (by kernel_rfl) (by kernel_rfl) (by kernel_rfl) (fun _ d _ _ _ h => by cases d <;> exact h) (by kernel_rfl) trivial (by intro W _; simp [go_sem]) ?_
  simp only [Act.put, List.setIfInBounds_toArray, List.set_cons_succ, List.set_cons_zero]
  refine oH_val (i := 1) (some 9) (.int .i64 (n : Int)) rfl rfl (by kernel_rfl) (by kernel_rfl) (by kernel_rfl) (fun _ d _ _ _ h => by cases d <;> exact h) (by kernel_rfl) trivial (fun _ _ => rfl) ?_
  simp only [Act.put, List.setIfInBounds_toArray, List.set_cons_succ, List.set_cons_zero]
  refine oH_val (i := 2) (some 10) (.int .u64 (n : Int)) rfl rfl (by kernel_rfl) (by kernel_rfl) (by kernel_rfl) (fun _ d _ _ _ h => by cases d <;> exact h) (by kernel_rfl) trivial (by intro W _; have e := u64_of n hn; simp [go_sem, e]) ?_
  simp only [Act.put, List.setIfInBounds_toArray, List.set_cons_succ, List.set_cons_zero]
  refine oH_call (i := 3) (some 11) rfl rfl (by kernel_rfl) (by kernel_rfl) 65 _ _ rfl [.int .u64 (n : Int)] rfl (by kernel_rfl) (rput_any n (by omega) _) ?_
  rintro e w4 ⟨vp, rfl, hp, hb4⟩
  have hS4 : Row w4 (w.heap.size + 1) 22 (mk0 k) ∧ Row w4 w.heap.size 22 zKey ∧ Below w.heap.size w w4 := ⟨hS.1.below hb4 hS.1.lt, hS.2.1.below hb4 hS.2.1.lt, hS.2.2.trans (hb4.mono hS.2.2.size)⟩
  refine ⟨_, rfl, trivial, ?_⟩
  simp only [Act.put, List.setIfInBounds_toArray, List.set_cons_succ, List.set_cons_zero]
  refine oH_run (i := 4) (some 12) (goInt (put8 n).length) rfl rfl (by kernel_rfl) (by kernel_rfl) (exec_copy (.tmp 8) (.tmp 11) (by rfl) (w.heap.size + 1) 8 8 8 22 _ (put8 n) vp (by rfl) (by rfl) hS4.1 hp.sb (fun e => by have := congrArg List.length e; rw [put8_len] at this; cases this) (by rw [put8_len]; omega) (by rw [put8_len]; simp [mk0])) trivial ?_
  simp only [Act.put, List.setIfInBounds_toArray, List.set_cons_succ, List.set_cons_zero]
  have hr5 : Row (w4.setRow (w.heap.size + 1) (vb (ovr (mk0 k) 8 (put8 n))).toArray) (w.heap.size + 1) 22 (ovr (mk0 k) 8 (put8 n)) := Blk.setRow hS4.1 _
  have hg5 := only_setRow (w := w4) (w.heap.size + 1) (vb (ovr (mk0 k) 8 (put8 n))).toArray
  generalize w4.setRow (w.heap.size + 1) (vb (ovr (mk0 k) 8 (put8 n))).toArray = w5 at *
  rw [Hov.out] at hr5
  have h45 : Row w5 w.heap.size 22 zKey := hS4.2.1.grown' hg5 (by simp)
  have hB5 : Below w.heap.size w w5 := hS4.2.2.grown hg5 hS4.2.2.size (by rintro j hj; cases hj; omega)
  clear hS hS4 hb4 hp hg5 hr2 h42 hB2
  refine wpAnyH_done (by kernel_rfl) ?_ _
  have hi1 : (Try.prog.info? 22).map (·.size) = some (vb (mkB k n)).length := i22'
  have hlt5 := hr5.lt
  have Hr5 := Hd.mk hr5
  have H45 := Hd.mk h45
  have Hi1 := Hd.mk hi1
  clear hr5 h45 hi1
  go_wp2_with (first | (refine wl_load rfl 22 _ rfl (w.heap.size + 1) 0 rfl 22 (vb (mkB k n)) (vb (mkB k n)) _ Hr5.out (by simp) ty22' rfl (by exact Hi1.out) ?_) | (refine wl_storeW rfl 22 _ _ rfl w.heap.size 0 (vb (mkB k n)) rfl rfl 22 _ (vb (mkB k n)) H45.out (by simp [zKey, mkB_len]) (by exact Hi1.out) (vb_ones _) (by simp [zKey, mkB_len]) ?_; intro w6 hb6 hg6 hs6))
  refine bodyPost_ret (results_cell_row (p := 4) (ty := 22) rfl _ _ w.heap.size 22 (vb (mkB k n)).toArray (0, 0) _ rfl (by exact hb6) ty22' rfl (by rw [Hi1.out]; simp)) rfl ?_
  exact ⟨rfl, hB5.grown hg6 hB5.size (by rintro j hj; cases hj; omega)⟩
end Go.Proofs.Ytjjcnijdjhhdoaa
end
/-! Steps: calls of package sym, on what is held. -/
section
namespace Go.Proofs.Ytjjcnijdjhhdoaa
open Go.RowKit Go.QT
section
variable {F0 F : Nat → Prop} {w0 w w' : World} {ro rs : List Res} {tb : Nat} {s s2 : STab} {o : Oper} {a : Act} {v : Value} {e : Ending}
theorem Hp.updR (h : Hp F0 w0 w ro rs) (i : Nat) {r : Res} (hi : rs[i]? = some r) (hf : Fr r.F w w') (r' : Res) (hr : r'.Φ w') (hF : ∀ q, r'.F q → r.F q ∨ w.heap.size ≤ q) (t : Res) (ht : t.Φ w') (hn : ∀ q, t.F q → w.heap.size ≤ q ∧ ¬ r'.F q) :
    Hp F0 w0 w' (t :: ro) (rs.set i r') := by
  have hil : i < rs.length := (List.getElem?_eq_some_iff.1 hi).1
  refine (h.upd i hi hf r' hr hF).addR t ht (fun j s hs q h1 h2 => ?_)
  by_cases e : j = i
  · subst e
    rw [List.getElem?_set_self hil] at hs
    injection hs with hs
    subst hs
    exact (hn q h1).2 h2
  · rw [List.getElem?_set_ne (Ne.symm e)] at hs
    exact absurd (s.lt (h.own j s hs) q h2) (Nat.not_lt.2 (hn q h1).1)
theorem x_snew (h : Hp F0 w0 w ro rs) (hp : pureVal Try.prog (execOp a.eval o) = some (.enter 28 #[])) :
    OpTo Try.prog o a w (fun u w' => ∃ tb F, u = pt tb 0 ∧ Hp F0 w0 w' ro (rTab F tb STab.empty :: rs)) :=
  OpTo.enter 28 [] hp (snew_any w) fun e w' hq => by
    obtain ⟨tb, F, he, hT, hF, hb⟩ := hq
    exact ⟨_, he, tb, F, rfl, h.newS hb (rTab F tb STab.empty) hT hF⟩
/-- A method that answers a key's mark. -/
theorem x_tkey (h : Hp F0 w0 w ro rs) (i : Nat) (hi : rs[i]? = some (rTab F tb s)) (fn : FuncId) (al : List Value) (hp : pureVal Try.prog (execOp a.eval o) = some (.enter fn al.toArray)) {n : Nat}
    (hc : TabAt w F tb s → Calls Try.prog fn al.toArray w (TPost w F tb s2 (.agg (vb (mkB 107 n)).toArray))) :
    OpTo Try.prog o a w (fun u w' => ∃ K F' s', u = .agg (vb (kl K)).toArray ∧ kl K = mkB 107 n ∧ s' = s2 ∧ Hp F0 w0 w' ro (rs.set i (rTab F' tb s'))) :=
  (x_tab h i hi fn al hp hc).mono fun u w' hr => by
    obtain ⟨hu, F', h'⟩ := hr
    obtain ⟨K, hK⟩ := kl_of (mkB 107 n) (mkB_len _ _)
    exact ⟨K, F', s2, by rw [hu, hK], hK.symm, rfl, h'⟩
theorem x_fresh (h : Hp F0 w0 w ro rs) (i : Nat) (hi : rs[i]? = some (rTab F tb s)) (hp : pureVal Try.prog (execOp a.eval o) = some (.enter 33 #[pt tb 0])) (hn : s.keys.length < 1000000) :
    OpTo Try.prog o a w (fun u w' => ∃ K F' s', u = .agg (vb (kl K)).toArray ∧ kl K = mkB 107 (s.keys.length + 1) ∧ s' = s.add SFrom.fresh ∧ Hp F0 w0 w' ro (rs.set i (rTab F' tb s'))) :=
  x_tkey h i hi 33 [pt tb 0] hp fun hT => fresh_any F tb s w hT hn
theorem x_derive (h : Hp F0 w0 w ro rs) (i : Nat) (hi : rs[i]? = some (rTab F tb s)) (K : Fin 16 → UInt8) (l : ByteArray) (hp : pureVal Try.prog (execOp a.eval o) = some (.enter 30 #[pt tb 0, .agg (vb (kl K)).toArray, .string l])) (hn : s.keys.length < 1000000) :
    OpTo Try.prog o a w (fun u w' => ∃ K' F' s', u = .agg (vb (kl K')).toArray ∧ kl K' = mkB 107 (s.num (deriveF (kl K) l)) ∧ s' = s.made (deriveF (kl K) l) ∧ Hp F0 w0 w' ro (rs.set i (rTab F' tb s'))) :=
  x_tkey h i hi 30 [pt tb 0, .agg (vb (kl K)).toArray, .string l] hp fun hT => derive_any F tb s (kl K) l w hT (kl_len K) hn
theorem x_text (h : Hp F0 w0 w ro rs) (i : Nat) (hi : rs[i]? = some (rTab F tb s)) (p q : ByteArray) (hp : pureVal Try.prog (execOp a.eval o) = some (.enter 29 #[pt tb 0, .string p, .string q])) (h1 : p.size ≤ 1000000) (h2 : q.size ≤ 1000000) (hn : s.keys.length < 1000000) :
    OpTo Try.prog o a w (fun u w' => ∃ K' F' s', u = .agg (vb (kl K')).toArray ∧ kl K' = mkB 107 (s.num (textF p q)) ∧ s' = s.made (textF p q) ∧ Hp F0 w0 w' ro (rs.set i (rTab F' tb s'))) :=
  x_tkey h i hi 29 [pt tb 0, .string p, .string q] hp fun hT => text_any F tb s p q w hT h1 h2 hn
/-- A method that answers a row of bytes that nobody turns. -/
theorem x_spost (h : Hp F0 w0 w ro rs) (i : Nat) (hi : rs[i]? = some (rTab F tb s)) (fn : FuncId) (al : List Value) (hp : pureVal Try.prog (execOp a.eval o) = some (.enter fn al.toArray)) (l : Bytes)
    (hc : TabAt w F tb s → Calls Try.prog fn al.toArray w (SPost w F tb s2 l)) :
    OpTo Try.prog o a w (fun u w' => ∃ A cc F' s', u = .slice A l.length cc ∧ s' = s2 ∧ Hp F0 w0 w' (rSB (.slice A l.length cc) l :: ro) (rs.set i (rTab F' tb s'))) :=
  OpTo.enter fn al hp (hc (h.own i _ hi)) fun e w' hq => by
    obtain ⟨v, F', he, hsb, hT, h1, h2, hf, hn⟩ := hq
    obtain ⟨A, cc, rfl, hc1, hc2, hcell⟩ := hsb
    exact ⟨_, he, A, cc, F', s2, rfl, rfl, h.updR i hi hf (rTab F' tb s2) hT h1 (rSB (.slice A l.length cc) l) ⟨A, cc, rfl, hc1, hc2, hcell⟩ (fun q hq => hn q hq.2)⟩
theorem x_seal (h : Hp F0 w0 w ro rs) (i : Nat) (hi : rs[i]? = some (rTab F tb s)) (K : Fin 16 → UInt8) (u : Int) (l : Bytes) (bv : Value) (hp : pureVal Try.prog (execOp a.eval o) = some (.enter 31 #[pt tb 0, .agg (vb (kl K)).toArray, .int .i64 u, bv])) (hb : SB w bv l) (hl : l.length ≤ 1000000) (hn : s.boxes.length < 1000000) :
    OpTo Try.prog o a w (fun u' w' => ∃ A cc F' s', u' = .slice A 16 cc ∧ s' = s.seal (kl K) u l ∧ Hp F0 w0 w' (rSB (.slice A 16 cc) (mkB 98 (s.boxes.length + 1)) :: ro) (rs.set i (rTab F' tb s'))) := by
  have := x_spost h i hi 31 [pt tb 0, .agg (vb (kl K)).toArray, .int .i64 u, bv] hp (mkB 98 (s.boxes.length + 1)) fun hT => seal_any F tb s (kl K) u l bv w hT (kl_len K) hb hl hn
  rw [mkB_len] at this
  exact this
theorem x_digest (h : Hp F0 w0 w ro rs) (i : Nat) (hi : rs[i]? = some (rTab F tb s)) (l : Bytes) (bv : Value) (hp : pureVal Try.prog (execOp a.eval o) = some (.enter 32 #[pt tb 0, bv])) (hb : SB w bv l) (hl : l.length ≤ 1000000) (hn : s.sums.length < 1000000) :
    OpTo Try.prog o a w (fun u' w' => ∃ A cc F' s', u' = .slice A 16 cc ∧ s' = s.digest l ∧ Hp F0 w0 w' (rSB (.slice A 16 cc) (mkB 100 (s.sumAt l + 1)) :: ro) (rs.set i (rTab F' tb s'))) := by
  have := x_spost h i hi 32 [pt tb 0, bv] hp (mkB 100 (s.sumAt l + 1)) fun hT => digest_any F tb s l bv w hT hb hl hn
  rw [mkB_len] at this
  exact this
/-- Open: what is in the box is the call's own. -/
theorem x_open (h : Hp F0 w0 w ro rs) (i : Nat) (hi : rs[i]? = some (rTab F tb s)) (K : Fin 16 → UInt8) (u : Int) (l : Bytes) (bv : Value) (r : Option Bytes) (hp : pureVal Try.prog (execOp a.eval o) = some (.enter 34 #[pt tb 0, .agg (vb (kl K)).toArray, .int .i64 u, bv])) (hb : SB w bv l) (hl : ∀ b ∈ s.boxes, b.body.length ≤ 1000000) (hx16 : ∀ b ∈ s.boxes, b.by_.length = 16) (hn : s.boxes.length < 1000000) (hr : s.open_ (kl K) u l = r) :
    OpTo Try.prog o a w (fun u' w' => ∃ A cc, u' = .tuple #[.slice A (r.getD []).length cc, .bool r.isSome] ∧ Hp F0 w0 w' ro (rOB (.slice A (r.getD []).length cc) (r.getD []) :: rs)) :=
  OpTo.enter 34 [pt tb 0, .agg (vb (kl K)).toArray, .int .i64 u, bv] hp (open_any F tb s (kl K) u l bv w (h.own i _ hi) (kl_len K) hb hl hx16 hn) fun e w' hq => by
    subst hr
    obtain ⟨v, he, ho, hb⟩ := hq
    obtain ⟨A, cc, rfl, _⟩ := ho.sb
    exact ⟨_, he, A, cc, rfl, h.newS hb _ (ho.mono (Nat.zero_le _)) (fun q hq => (ho.own q hq).1)⟩
/-- Box. -/
theorem x_box (h : Hp F0 w0 w ro rs) (i : Nat) (hi : rs[i]? = some (rTab F tb s)) (l : Bytes) (bv : Value) (r : Option SSealed) (hp : pureVal Try.prog (execOp a.eval o) = some (.enter 35 #[pt tb 0, bv])) (hb : SB w bv l) (hl : ∀ b ∈ s.boxes, b.body.length ≤ 1000000) (hx16 : ∀ b ∈ s.boxes, b.by_.length = 16) (hn : s.boxes.length < 1000000) (hr : s.box l = r) :
    OpTo Try.prog o a w (fun u' w' => ∃ K us l' A cc, u' = .tuple #[.agg (vb (kl K) ++ [Value.int .i64 us, Value.slice A l'.length cc]).toArray, .bool r.isSome] ∧ (r = some ⟨kl K, us, l'⟩ ∨ r = none ∧ kl K = zKey ∧ us = 0 ∧ l' = []) ∧ Hp F0 w0 w' ro (rOB (.slice A l'.length cc) l' :: rs)) :=
  OpTo.enter 35 [pt tb 0, bv] hp (box_any' F tb s l bv w (h.own i _ hi) hb hl hn) fun e w' hq => by
    subst hr
    obtain ⟨x, body, he, hx, ho, hb⟩ := hq
    have hlen : x.by_.length = 16 := by
      rcases hx with hx | ⟨_, rfl⟩
      · have hm : x ∈ s.boxes := by
          unfold STab.box at hx
          split at hx
          · split at hx
            · exact List.mem_of_getElem? hx
            · cases hx
          · cases hx
        exact hx16 x hm
      · rfl
    obtain ⟨K, hK⟩ := kl_of x.by_ hlen
    obtain ⟨A, cc, rfl, _⟩ := ho.sb
    refine ⟨_, he, K, x.usage, x.body, A, cc, by rw [← hK]; rfl, ?_, h.newS hb _ (ho.mono (Nat.zero_le _)) (fun q hq => (ho.own q hq).1)⟩
    rw [← hK]
    rcases hx with hx | ⟨h1, rfl⟩
    · exact .inl hx
    · exact .inr ⟨h1, rfl, rfl, rfl⟩
/-- Came. -/
theorem x_came (h : Hp F0 w0 w ro rs) (i : Nat) (hi : rs[i]? = some (rTab F tb s)) (K : Fin 16 → UInt8) (r : Option SFrom) (hp : pureVal Try.prog (execOp a.eval o) = some (.enter 38 #[pt tb 0, .agg (vb (kl K)).toArray])) (hf16 : ∀ f ∈ s.keys, f.of.length = 16) (hn : s.keys.length < 1000000) (hr : s.came (kl K) = r) :
    OpTo Try.prog o a w (fun u' w' => ∃ K' l b, u' = .tuple #[.agg (vb (kl K') ++ [Value.string l, Value.bool b]).toArray, .bool r.isSome] ∧ (r = some ⟨kl K', l, b⟩ ∨ r = none ∧ kl K' = zKey ∧ l = ByteArray.empty ∧ b = false) ∧ Hp F0 w0 w' ro rs) :=
  OpTo.enter 38 [pt tb 0, .agg (vb (kl K)).toArray] hp (came_any F tb s (kl K) w (h.own i _ hi) (kl_len K) hn) fun e w' hq => by
    subst hr
    obtain ⟨f, he, hx, hb⟩ := hq
    have hlen : f.of.length = 16 := by
      rcases hx with hx | ⟨_, rfl⟩
      · have hm : f ∈ s.keys := by
          unfold STab.came at hx
          split at hx
          · split at hx
            · exact List.mem_of_getElem? hx
            · cases hx
          · cases hx
        exact hf16 f hm
      · rfl
    obtain ⟨K', hK⟩ := kl_of f.of hlen
    refine ⟨_, he, K', f.label, f.text, by rw [← hK]; rfl, ?_, h.below hb⟩
    rw [← hK]
    rcases hx with hx | ⟨h1, rfl⟩
    · exact .inl hx
    · exact .inr ⟨h1, rfl, rfl, rfl⟩
theorem Hp.tabW (h : Hp F0 w0 w ro rs) (i : Nat) (hi : rs[i]? = some (rTab F tb s)) : (∀ b ∈ s.boxes, b.by_.length = 16) ∧ (∀ f ∈ s.keys, f.of.length = 16) ∧ (∀ p ∈ s.known, p.1.of.length = 16) := by
  obtain ⟨_, _, _, _, _, _, _, _, hR⟩ := h.own i _ hi
  exact ⟨hR.xl, hR.kl, hR.ml⟩
theorem x_nkeys (h : Hp F0 w0 w ro rs) (i : Nat) (hi : rs[i]? = some (rTab F tb s)) (hp : pureVal Try.prog (execOp a.eval o) = some (.enter 36 #[pt tb 0])) :
    OpTo Try.prog o a w (fun u w' => u = .int .i64 (s.keys.length : Int) ∧ Hp F0 w0 w' ro rs) :=
  x_vpost h 36 [pt tb 0] hp (nkeys_any F tb s w (h.own i _ hi))
theorem x_nboxes (h : Hp F0 w0 w ro rs) (i : Nat) (hi : rs[i]? = some (rTab F tb s)) (hp : pureVal Try.prog (execOp a.eval o) = some (.enter 37 #[pt tb 0])) :
    OpTo Try.prog o a w (fun u w' => u = .int .i64 (s.boxes.length : Int) ∧ Hp F0 w0 w' ro rs) :=
  x_vpost h 37 [pt tb 0] hp (nboxes_any F tb s w (h.own i _ hi))
/-- A call that answers sixteen bytes. -/
theorem x_key (h : Hp F0 w0 w ro rs) {l : Bytes} (fn : FuncId) (al : List Value) (hp : pureVal Try.prog (execOp a.eval o) = some (.enter fn al.toArray)) (hl : l.length = 16) (hc : Calls Try.prog fn al.toArray w (APost w l)) :
    OpTo Try.prog o a w (fun u w' => ∃ K, u = .agg (vb (kl K)).toArray ∧ kl K = l ∧ Hp F0 w0 w' ro rs) :=
  (x_apost h fn al hp hc).mono fun u w' hr => by
    obtain ⟨K, hK⟩ := kl_of l hl
    exact ⟨K, by rw [← hK]; exact hr.1, hK.symm, hr.2⟩
theorem x_nth (h : Hp F0 w0 w ro rs) (n : Nat) (hp : pureVal Try.prog (execOp a.eval o) = some (.enter 39 #[pt tb 0, .int .i64 (n : Int)])) (hn : n < 9223372036854775808) :
    OpTo Try.prog o a w (fun u w' => ∃ K, u = .agg (vb (kl K)).toArray ∧ kl K = mkB 107 n ∧ Hp F0 w0 w' ro rs) :=
  x_key h 39 [pt tb 0, .int .i64 (n : Int)] hp (mkB_len _ _) (nth_any n hn tb w)
theorem x_lmark (h : Hp F0 w0 w ro rs) (k : UInt8) (n : Nat) (hp : pureVal Try.prog (execOp a.eval o) = some (.enter 24 #[.int .u8 (ub k), .int .i64 (n : Int)])) (hn : n < 9223372036854775808) :
    OpTo Try.prog o a w (fun u w' => ∃ K, u = .agg (vb (kl K)).toArray ∧ kl K = mkB k n ∧ Hp F0 w0 w' ro rs) :=
  x_key h 24 [.int .u8 (ub k), .int .i64 (n : Int)] hp (mkB_len _ _) (lmark_any k n hn w)
theorem x_Mark (h : Hp F0 w0 w ro rs) (l : Bytes) (bv : Value) (hp : pureVal Try.prog (execOp a.eval o) = some (.enter 27 #[bv])) (hb : SB w bv l) (r : Value) (hr : mkV (markOf l) = r) :
    OpTo Try.prog o a w (fun u w' => u = r ∧ Hp F0 w0 w' ro rs) :=
  OpTo.enter 27 [bv] hp (Mark_any bv l w hb) fun _e _w' hq => ⟨_, hq.1, hr, h.below hq.2⟩
theorem x_plain (h : Hp F0 w0 w ro rs) (l : Bytes) (bv : Value) (hp : pureVal Try.prog (execOp a.eval o) = some (.enter 25 #[bv])) (hb : SB w bv l) (r : Value) (hr : plV (markOf l) = r) :
    OpTo Try.prog o a w (fun u w' => u = r ∧ Hp F0 w0 w' ro rs) :=
  OpTo.enter 25 [bv] hp (lplain_any bv l w hb) fun e w' hq => by
    obtain ⟨he, n, rfl⟩ := hq
    exact ⟨_, he, hr, h.drewN n⟩
theorem x_same (h : Hp F0 w0 w ro rs) (l m : Bytes) (u v : Value) (hp : pureVal Try.prog (execOp a.eval o) = some (.enter 18 #[u, v])) (hu : SB w u l) (hv : SB w v m) (b : Bool) (hb : decide (l = m) = b) :
    OpTo Try.prog o a w (fun u w' => u = .bool b ∧ Hp F0 w0 w' ro rs) :=
  OpTo.enter 18 [u, v] hp (same_any u v l m w hu hv) fun e w' hq => by
    subst hb
    obtain ⟨he, n, rfl⟩ := hq
    exact ⟨_, he, rfl, h.drewN n⟩
/-- Find. -/
theorem x_find (h : Hp F0 w0 w ro rs) (l : Bytes) (bv : Value) (hp : pureVal Try.prog (execOp a.eval o) = some (.enter 26 #[bv])) (hb : SB w bv l) (hl : l.length ≤ 1000000) :
    OpTo Try.prog o a w (fun u w' => ∃ A cc, u = .slice A (findB l).length cc ∧ Hp F0 w0 w' ro (rOV 42 16 (.slice A (findB l).length cc) ((findB l).map vb) :: rs)) :=
  OpTo.enter 26 [bv] hp (find_any bv l w hb hl) fun e w' hq => by
    obtain ⟨v, he, ho, hbl⟩ := hq
    obtain ⟨A, cc, e2, _⟩ := ho.form
    rw [List.length_map] at e2
    subst e2
    exact ⟨_, he, A, cc, rfl, h.newS hbl (rOV 42 16 _ _) (ho.mono (Nat.zero_le _)) (fun q hq => (ho.block q hq).1)⟩
/-- Keys held against one another. -/
theorem e_keq (K L : Fin 16 → UInt8) (t t' : TypeId) (x y : Operand) (ho : o.op = .binOp .eql t x y t') (hx : a.eval x = .agg (vb (kl K)).toArray) (hy : a.eval y = .agg (vb (kl L)).toArray)
    (ht : Try.prog.underlying t = some (.array 16 5)) (hg : Try.prog.eqGuardType Try.prog.depth t = false) (b : Bool) (hb : decide (kl K = kl L) = b) (W : World) :
    (execOp a.eval o).run Try.prog W = .ok (.value (.bool b)) W := by
  subst hb; exact exec_eq16 t t' x y ho (kl K) (kl L) hx hy ht hg (kl_len K) (kl_len L) W
theorem e_kne (K L : Fin 16 → UInt8) (t t' : TypeId) (x y : Operand) (ho : o.op = .binOp .neq t x y t') (hx : a.eval x = .agg (vb (kl K)).toArray) (hy : a.eval y = .agg (vb (kl L)).toArray)
    (ht : Try.prog.underlying t = some (.array 16 5)) (hg : Try.prog.eqGuardType Try.prog.depth t = false) (b : Bool) (hb : decide (kl K ≠ kl L) = b) (W : World) :
    (execOp a.eval o).run Try.prog W = .ok (.value (.bool b)) W := by
  subst hb
  rw [exec_ne16 t t' x y ho (kl K) (kl L) hx hy ht hg (kl_len K) (kl_len L) W]
  by_cases h : kl K = kl L <;> simp [h]
theorem e_keqB (k l : Bytes) (hk : k.length = 16) (hl : l.length = 16) (t t' : TypeId) (x y : Operand) (ho : o.op = .binOp .eql t x y t') (hx : a.eval x = .agg (vb k).toArray) (hy : a.eval y = .agg (vb l).toArray)
    (ht : Try.prog.underlying t = some (.array 16 5)) (hg : Try.prog.eqGuardType Try.prog.depth t = false) (b : Bool) (hb : decide (k = l) = b) (W : World) :
    (execOp a.eval o).run Try.prog W = .ok (.value (.bool b)) W := by
  subst hb; exact exec_eq16 t t' x y ho k l hx hy ht hg hk hl W
theorem e_kneB (k l : Bytes) (hk : k.length = 16) (hl : l.length = 16) (t t' : TypeId) (x y : Operand) (ho : o.op = .binOp .neq t x y t') (hx : a.eval x = .agg (vb k).toArray) (hy : a.eval y = .agg (vb l).toArray)
    (ht : Try.prog.underlying t = some (.array 16 5)) (hg : Try.prog.eqGuardType Try.prog.depth t = false) (b : Bool) (hb : decide (k ≠ l) = b) (W : World) :
    (execOp a.eval o).run Try.prog W = .ok (.value (.bool b)) W := by
  subst hb
  rw [exec_ne16 t t' x y ho k l hx hy ht hg hk hl W]
  by_cases h : k = l <;> simp [h]
theorem e_min (x y : Operand) (ts : Array TypeId) (ho : o.op = .call { callee := .builtin .min, args := #[x, y], argTypes := ts }) (k k' : IntKind) (m n : Int) (hx : a.eval x = .int k m) (hy : a.eval y = .int k' n) (r : Int) (hr : (if n < m then n else m) = r) (W : World) :
    (execOp a.eval o).run Try.prog W = .ok (.value (.int k r)) W := by
  subst hr
  unfold execOp
  simp only [ho, resolve, invoke, builtin, Sem.run_bind, Sem.run_pure, Result.andThen_ok, List.map_toArray, List.map_cons, List.map_nil, hx, hy, run_min_int2]
/-- Keys of one text are one. -/
theorem kl_inj {K L : Fin 16 → UInt8} (h : kl K = kl L) : K = L := by
  funext i
  have h2 : (kl K)[i.val]? = (kl L)[i.val]? := by rw [h]
  unfold kl at h2
  rw [List.getElem?_ofFn, List.getElem?_ofFn, dif_pos i.isLt, dif_pos i.isLt] at h2
  exact Option.some.inj h2
/-- Bytes that stand in the program. -/
theorem x_bsl (h : Hp F0 w0 w ro rs) (l : Bytes) (hn : newVal Try.prog (execOp a.eval o) = some (.cells (vb l).toArray 5, fun r => some (.value (.slice (some ⟨r, 0, none⟩) l.length l.length)))) :
    OpTo Try.prog o a w (fun v w' => ∃ g, v = .slice (some ⟨g, 0, none⟩) l.length l.length ∧ w' = w.alloc (.cells (vb l).toArray 5) ∧ g = w.heap.size ∧ Hp F0 w0 w ro rs ∧ Hp F0 w0 w' ro (rBlk g 5 (vb l) :: rs)) :=
  OpTo.run (.slice (some ⟨w.heap.size, 0, none⟩) l.length l.length) (newVal_run hn w rfl) ⟨_, rfl, rfl, rfl, h, h.alloc 5 (vb l)⟩
theorem x_bcv {W : World} (h : Hp F0 w0 w ro rs) (l : Bytes) (hW : W = w.alloc (.cells (vb l).toArray 5)) (g : Nat) (hg : g = w.heap.size) (x : Operand) (ho : o.op = .convert 28 28 x) (hx : a.eval x = .slice (some ⟨g, 0, none⟩) l.length l.length) (hl : l.length ≤ maxLen) :
    OpTo Try.prog o a W (fun v w' => v = .slice (some ⟨g, 0, none⟩) l.length l.length ∧ Hp F0 w0 w' (rSB (.slice (some ⟨g, 0, none⟩) l.length l.length) l :: ro) rs) := by
  subst hW; subst hg
  refine OpTo.run _ (exec_convC x ho w (vb l).toArray l.length l.length hx) ⟨rfl, ?_⟩
  have hsz : (vb l).toArray.size = l.length := by simp
  rw [hsz]
  exact h.newR ((Below.refl _ _).alloc (Nat.le_refl _) _) (rSB (.slice (some ⟨w.heap.size, 0, none⟩) l.length l.length) l) (SB.marked w l (l.length, l.length + 1) hl) (fun q hq => by
    have : w.heap.size = q := by simpa [Value.ownBlock] using hq.2
    omega)
/-- A block of bytes, read. -/
theorem SB.blk {g : Nat} {T : TypeId} {l : Bytes} {n c : Nat} (hb : Blk w g T (vb l)) (hn : n = l.length) (hc : decide (n ≤ c) = true) (hm : decide (c ≤ maxLen) = true) : SB w (.slice (some ⟨g, 0, none⟩) n c) l := by
  subst hn
  refine ⟨_, _, rfl, of_decide_eq_true hc, of_decide_eq_true hm, fun _ => ⟨g, 0, rfl, hb.lt, fun i hi => ?_⟩⟩
  rw [hb.cell, Nat.zero_add]
  exact vb_get l i hi
theorem SB.blk16 {g : Nat} {T : TypeId} {K : Fin 16 → UInt8} (hb : Blk w g T (vb (kl K))) : SB w (.slice (some ⟨g, 0, none⟩) 16 16) (kl K) :=
  SB.blk hb (kl_len K).symm (by decide) (by decide)
end
end Go.Proofs.Ytjjcnijdjhhdoaa
end
/-! An array of sixteen bytes, opened and shut. -/
section
namespace Go.Proofs.Ytjjcnijdjhhdoaa
open Go.ChangeShapes Go.WideShapes Go.ChangeAt Go.RowKit
set_option maxRecDepth 100000
variable {H : Type} {enc : TypeId × Value → H} {w : World} {base : Nat} {spare : Nat → Bool} {held : Bool}
theorem wf_ub (a : UInt8) : (Lit.int .u8 (ub a)).wf = true := by
  have := nb_lt a
  simp [Lit.wf, IntKind.min, IntKind.max, IntKind.signed, IntKind.bits, ub]
  unfold nb at this; omega
theorem tb1 (m : Nat) (a : UInt8) : DataW.trod enc Try.prog w base spare held (m+1) 5 [.int .u8 (ub a)] = some (.lit (.int .u8 (ub a)), []) := by
  simp [DataW.trod, Try.underlying5, wf_ub]
def db {H : Type} (b : Bytes) : DataW H := .agg (b.map fun a => .lit (.int .u8 (ub a)))
theorem all_vb (cs : List Value) (h : ∀ c ∈ cs, ∃ a, c = .int .u8 (ub a)) : ∃ b : Bytes, cs = vb b := by
  induction cs with
  | nil => exact ⟨[], rfl⟩
  | cons c cs ih =>
    obtain ⟨a, rfl⟩ := h c (by simp)
    obtain ⟨b, rfl⟩ := ih fun c hc => h c (by simp [hc])
    exact ⟨a :: b, rfl⟩
theorem c22 : Try.prog.cellsOf 22 = 16 := by kernel_rfl
theorem c5 : Try.prog.cellsOf 5 = 1 := by kernel_rfl
theorem tb16 (m : Nat) (b : Bytes) (hb : b.length = 16) : DataW.trod enc Try.prog w base spare held (m+2) 22 (vb b) = some (db b, []) := by
  unfold DataW.trod
  rw [Try.underlying22]
  match b, hb with
  | [a0, a1, a2, a3, a4, a5, a6, a7, a8, a9, a10, a11, a12, a13, a14, a15], _ =>
  have r16 : List.range 16 = [0, 1, 2, 3, 4, 5, 6, 7, 8, 9, 10, 11, 12, 13, 14, 15] := rfl
  simp [c22, c5, r16, vb, tb1, db]
theorem tb_int {m : Nat} {c : Value} {x : DataW H × List MemPlace} (h : DataW.trod enc Try.prog w base spare held m 5 [c] = some x) : ∃ a, c = .int .u8 (ub a) := by
  obtain ⟨n, hc, _, hw⟩ := DataW.trod_int Try.underlying5 h
  have := bounds_u8 hw
  exact ⟨toB n, by rw [ub_u8 (by omega) (by omega)]; simpa using hc⟩
theorem open_b16 {r : Reach} {b0 : Nat} {v : Value} {d : DataW H} {p : List MemPlace} (hv : Value.okWide Try.prog w r b0 22 v) (h : DataW.Trod enc Try.prog w base spare held 22 v d p) :
    ∃ b : Bytes, b.length = 16 ∧ v = .agg (vb b).toArray ∧ d = db b ∧ p = [] := by
  unfold Value.okWide at hv
  rw [Try.underlying22] at hv
  obtain ⟨cs, rfl, hc, _⟩ := hv
  obtain ⟨fuel, h⟩ := h
  obtain ⟨l, rfl⟩ : ∃ l : List Value, cs = l.toArray := ⟨cs.toList, by simp⟩
  simp only [Value.cells] at h
  rw [c22] at hc
  have hl : l.length = 16 := by simpa using hc
  obtain ⟨xs, m, rfl, hx, _, hxs, hi⟩ := DataW.trod_array Try.underlying22 h
  rw [c5] at hi
  obtain ⟨b, rfl⟩ := all_vb l (by
    intro c hcm
    obtain ⟨i, hil, rfl⟩ := List.getElem_of_mem hcm
    have hi' := hi i (by omega)
    have : (l.drop (i * 1)).take 1 = [l[i]] := by
      rw [Nat.mul_one, List.drop_eq_getElem_cons hil]; rfl
    rw [this, List.getElem?_eq_getElem (by omega)] at hi'
    exact tb_int hi')
  have hb : b.length = 16 := by simpa [vb] using hl
  refine ⟨b, hb, rfl, ?_⟩
  cases m with
  | zero =>
    have := hi 0 (by omega)
    rw [List.getElem?_eq_getElem (by omega)] at this
    simp [DataW.trod] at this
  | succ m =>
    rw [tb16 m b hb] at h
    simp only [Option.some.injEq, Prod.mk.injEq] at h
    exact ⟨h.1.symm, h.2.symm⟩
theorem shut_b16 {b : Bytes} (hb : b.length = 16) : DataW.Trod enc Try.prog w base spare held 22 (.agg (vb b).toArray) (db b) [] :=
  ⟨2, tb16 0 b hb⟩
end Go.Proofs.Ytjjcnijdjhhdoaa
end
/-! What every law's row needs: from 'the call returns true and what was there is as it was' to the row's post; slices of bytes that came in. -/
section
namespace Go.Proofs.Ytjjcnijdjhhdoaa
open Go.ChangeShapes Go.WideShapes Go.ChangeAt Go.RowKit
theorem Try.own : ownKnob Try.prog.godebug = none := by kernel_rfl
theorem Try.laidOut : laidOutB Try.prog = true := by kernel_rfl
section
variable {H : Type} {enc : TypeId × Value → H} {P : Program}
theorem trodAll_stays {W W' : World} {sp' : Nat → Bool} (hl : laidOutB P = true) : ∀ (ts : List TypeId) (vs : List Value) (ds : List (DataW H)) (ps : List MemPlace),
    (ts.all fun t => P.readableRec t && decide (t < P.types.size)) = true → DataW.TrodAll enc P W 0 (fun _ => true) true ts vs ds ps →
    (∀ p ∈ ps, W.sameAt W' p) → (∀ p ∈ ps, sp' p.block = true) → DataW.TrodAll enc P W' 0 sp' true ts vs ds ps
  | [], _, _, _, _, h, _, _ => by
    obtain ⟨rfl, rfl, rfl⟩ := trodAll_nil h
    exact rfl
  | t :: ts, _, _, _, ht, h, hs, hsp => by
    obtain ⟨v, vs, d, ds, a, b, rfl, rfl, rfl, h1, h2⟩ := trodAll_cons h
    rw [List.all_cons, Bool.and_eq_true, Bool.and_eq_true, decide_eq_true_eq] at ht
    exact ⟨a, b, WideElems.Trod_stays hl ht.1.1 ht.1.2 h1 (fun p hp => hs p (by simp [hp])) (fun p hp => hsp p (by simp [hp])),
      trodAll_stays hl ts vs ds b ht.2 h2 (fun p hp => hs p (by simp [hp])) (fun p hp => hsp p (by simp [hp])), rfl⟩
theorem post_of_below {f : Func} {s : ChangeSpec} {apart fresh handsOn again : Bool} {W W' : World} {args : Array Value} {v : Value} {ds gs : List (DataW H)} {before pa pv : List MemPlace}
    (hW : DataW.Whole enc P f.params.toList s.vars apart W args.toList ds gs before)
    (hres : ∀ (b : Nat) (sp : Nat → Bool) (hd : Bool), DataW.TrodAll enc P W' b sp hd f.resultTypes.toList (v.resultList f.resultTypes.size) (s.fn H (ds ++ gs)).results [])
    (hargs : ∀ sp : Nat → Bool, (∀ p ∈ before, sp p.block = true) → DataW.TrodAll enc P W' 0 sp true f.params.toList args.toList (s.fn H (ds ++ gs)).args pa)
    (hvars : ∀ sp : Nat → Bool, (∀ p ∈ before, sp p.block = true) → DataW.TrodVars enc P W' sp s.vars (s.fn H (ds ++ gs)).vars pv)
    (hps : before = pa ++ pv) (hb : Below W.heap.size W W')
    (hok : ∀ (j : Nat) (t : TypeId) (r : Value), f.resultTypes[j]? = some t → (v.resultList f.resultTypes.size)[j]? = some r → Value.okWide P W' .any 0 t r) :
    s.post enc P f apart fresh handsOn again W args v W' := by
  have hlt : ∀ p ∈ before, p.block < W.heap.size := fun p hp => hW.lt p hp
  have hold : ∀ p ∈ before, (fun b => decide (b < W.heap.size)) p.block = true := fun p hp => by simpa using hlt p hp
  refine ⟨ds, gs, before, [], pa, pv, hW, hres _ _ _, hargs _ hold, hvars _ hold, World.keptBut_mono (fun p hp => ⟨hp, ?_⟩) (hb.frame (· ∈ before)), fun _ => ?_⟩
  · rw [hps, List.mem_append] at hp
    exact Or.inr hp
  · obtain ⟨_, _, _, _, _, hz, hn⟩ := hW
    refine ⟨hok, _, _, ([] ++ pa) ++ pv, ⟨[] ++ pa, pv, trodAll_append (hargs _ (fun _ _ => rfl)) (hres _ _ _), hvars _ (fun _ _ => rfl), rfl, ?_, ?_⟩, ?_⟩
    · intro b off hp
      have hin : MemPlace.cell b off ∈ before := by rw [hps]; simpa using hp
      rw [hb.frozen (hlt _ hin)]
      exact hz b off hin
    · intro ha
      have := hn ha
      rw [hps] at this
      simpa using this
    · intro p hp _
      rw [hps]
      simpa using hp
/-- A law's post: it returned true, and what was there is as it was. -/
theorem law_post {f : Func} {s : ChangeSpec} {apart fresh handsOn again : Bool} {W W' : World} {args : Array Value} {ds gs : List (DataW H)} {before : List MemPlace} {tb : TypeId}
    (hl : laidOutB P = true) (hts : (f.params.toList.all fun t => P.readableRec t && decide (t < P.types.size)) = true) (htb : P.underlying tb = some .bool) (hr : f.resultTypes = #[tb]) (hv : s.vars = [])
    (hfn : ∀ ds : List (DataW H), ds.length = f.params.size → s.fn H ds = ⟨[.lit (.bool true)], ds, []⟩)
    (hW : DataW.Whole enc P f.params.toList s.vars apart W args.toList ds gs before) (hb : Below W.heap.size W W') :
    s.post enc P f apart fresh handsOn again W args (.bool true) W' := by
  have hW' := hW
  have hlt : ∀ p ∈ before, p.block < W.heap.size := fun p hp => hW.lt p hp
  obtain ⟨p, q, hA, hV, rfl, hfz, hnd⟩ := hW
  rw [hv] at hV
  obtain ⟨rfl, rfl⟩ := trodVars_none hV
  have hlen : ds.length = f.params.size := by
    have : ∀ (ts : List TypeId) (vs : List Value) (ds : List (DataW H)) (p : List MemPlace), DataW.TrodAll enc P W 0 (fun _ => true) true ts vs ds p → ds.length = ts.length := by
      intro ts
      induction ts with
      | nil => intro vs ds p h; obtain ⟨rfl, rfl, rfl⟩ := trodAll_nil h; rfl
      | cons t ts ih =>
        intro vs ds p h
        obtain ⟨v, vs, d, ds, a, b, rfl, rfl, rfl, h1, h2⟩ := trodAll_cons h
        simp [ih _ _ _ h2]
    simpa using this _ _ _ _ hA
  simp only [List.append_nil] at hW' hlt
  have hds : s.fn H (ds ++ []) = ⟨[.lit (.bool true)], ds, []⟩ := by rw [List.append_nil]; exact hfn ds hlen
  refine post_of_below (pa := p) (pv := []) (gs := []) hW' ?_ ?_ ?_ (by simp) hb ?_
  · intro b sp hd
    rw [hds, hr]
    exact trodAll_mk1 (shut_bool htb true)
  · intro sp hsp
    rw [hds]
    exact trodAll_stays hl _ _ _ _ hts hA (fun x hx => hb.same (hlt x hx)) hsp
  · intro sp _
    rw [hds, hv]
    exact rfl
  · exact ok_one hr rfl (okWide_bool_mk htb true)
end
section
variable {H : Type} {enc : TypeId × Value → H} {w : World} {base : Nat}
set_option maxRecDepth 100000 in
/-- A slice of bytes that came in. -/
theorem open_bs {b0 : Nat} {v : Value} {d : DataW H} {p : List MemPlace} {sp : Nat → Bool} (hv : Value.okWide Try.prog w .any b0 28 v) (h : DataW.Trod enc Try.prog w base sp true 28 v d p) : ∃ l : Bytes, SB w v l := by
  obtain ⟨a1, len, cap, rfl⟩ := okWide_slice Try.underlying28 hv
  obtain ⟨fuel, hf⟩ := h
  rcases open_ints Try.underlying28 Try.underlying5 c5 hf with ⟨hcs, hx⟩ | ⟨a, len', cap', zs, hcs, _, hl, hm, hz, hx, hcell, hwz⟩
  · simp [Value.cells] at hcs
    obtain ⟨rfl, rfl, rfl⟩ := hcs
    exact ⟨[], SB.nil _ _ (Nat.zero_le _) _⟩
  · simp [Value.cells] at hcs
    obtain ⟨rfl, rfl, rfl⟩ := hcs
    have hzl : len ≤ zs.length := by rw [hz]; split <;> omega
    refine ⟨(zs.take len).map toB, some a, cap, ?_, ?_, hm, ?_⟩
    · simp; omega
    · simp; omega
    intro hne
    have hlen : 0 < len := by
      rcases Nat.eq_zero_or_pos len with h0 | h0
      · subst h0; simp at hne
      · exact h0
    obtain ⟨ab, ao, spot⟩ := a
    have h0 := hcell 0 (by omega)
    have hspot : spot = none := by simpa [Addr.add] using World.cell?_spot h0
    subst hspot
    refine ⟨ab, ao, rfl, ?_, fun i hi => ?_⟩
    · rcases Nat.lt_or_ge ab w.heap.size with h' | h'
      · exact h'
      · rw [Addr.add_lit] at h0
        simp [World.cell?, Array.getElem?_eq_none h'] at h0
    · have hi' : i < len := by simpa [Nat.min_eq_left hzl] using hi
      have hc := hcell i (by omega)
      rw [Addr.add_lit] at hc
      rw [hc]
      have e : zs.getD i 0 = zs[i]'(by omega) := by simp [List.getD, List.getElem?_eq_getElem (show i < zs.length by omega)]
      have hb : 0 ≤ zs.getD i 0 ∧ zs.getD i 0 ≤ 255 := by rw [List.getD_eq_getElem?_getD]; exact range_u8 hwz i
      have e2 : gb ((zs.take len).map toB) i = toB (zs.getD i 0) := by
        rw [e]
        simp [gb, hi', show i < zs.length by omega]
      rw [e2, ub_u8 (by omega) (by omega)]
end
end Go.Proofs.Ytjjcnijdjhhdoaa
end
/-! Five parameters. -/
section
namespace Go.Proofs.Ytjjcnijdjhhdoaa
open Go.ChangeShapes
variable {H : Type} {enc : TypeId × Value → H} {P : Program} {w : World} {base : Nat} {spare : Nat → Bool} {held : Bool}
theorem trodAll_five {t t' t'' t3 t4 : TypeId} {args : Array Value} {ds : List (DataW H)} {ps : List MemPlace} (h : DataW.TrodAll enc P w base spare held [t, t', t'', t3, t4] args.toList ds ps) :
    ∃ v v' v'' v3 v4 d d' d'' d3 d4 p p' p'' p3 p4, args = #[v, v', v'', v3, v4] ∧ ds = [d, d', d'', d3, d4] ∧ ps = p ++ p' ++ p'' ++ p3 ++ p4 ∧ DataW.Trod enc P w base spare held t v d p ∧ DataW.Trod enc P w base spare held t' v' d' p' ∧ DataW.Trod enc P w base spare held t'' v'' d'' p'' ∧ DataW.Trod enc P w base spare held t3 v3 d3 p3 ∧ DataW.Trod enc P w base spare held t4 v4 d4 p4 := by
  obtain ⟨v, vs, d, ds', p, q, hargs, rfl, rfl, hd, hrest⟩ := trodAll_cons h
  obtain ⟨v', vs', d', ds'', p', q', rfl, rfl, rfl, hd', hrest'⟩ := trodAll_cons hrest
  obtain ⟨v'', vs'', d'', ds''', p'', q'', rfl, rfl, rfl, hd'', hrest''⟩ := trodAll_cons hrest'
  obtain ⟨v3, vs3, d3, ds3, p3, q3, rfl, rfl, rfl, hd3, hrest3⟩ := trodAll_cons hrest''
  obtain ⟨v4, vs4, d4, ds4, p4, q4, rfl, rfl, rfl, hd4, hrest4⟩ := trodAll_cons hrest3
  obtain ⟨rfl, rfl, rfl⟩ := trodAll_nil hrest4
  exact ⟨v, v', v'', v3, v4, d, d', d'', d3, d4, p, p', p'', p3, p4, by cases args; simp_all, rfl, by simp, hd, hd', hd'', hd3, hd4⟩
end Go.Proofs.Ytjjcnijdjhhdoaa
end
/-! Masks of ints. -/
section
namespace Go.Proofs.Ytjjcnijdjhhdoaa
theorem and_mask (x : Int) (m : Nat) (hm : m < 4611686018427387904) : ∃ n : Nat, bits .and .i64 x (m : Int) = (n : Int) ∧ n ≤ m := by
  refine ⟨((BitVec.ofInt 64 x) &&& (BitVec.ofInt 64 (m : Int))).toNat, ?_, ?_⟩
  · show IntKind.i64.wrap ((((BitVec.ofInt 64 x) &&& (BitVec.ofInt 64 (m : Int))).toNat : Nat) : Int) = _
    have h : ((BitVec.ofInt 64 x) &&& (BitVec.ofInt 64 (m : Int))).toNat ≤ m := by
      rw [BitVec.toNat_and, BitVec.ofInt_natCast, BitVec.toNat_ofNat]
      exact Nat.le_trans Nat.and_le_right (Nat.mod_le _ _)
    rw [IntKind.wrap_i64]
    omega
  · rw [BitVec.toNat_and, BitVec.ofInt_natCast, BitVec.toNat_ofNat]
    exact Nat.le_trans Nat.and_le_right (Nat.mod_le _ _)
end Go.Proofs.Ytjjcnijdjhhdoaa
end
/-! Plain laws of a table: what is known is one thing each. -/
section
namespace Go.Proofs.Ytjjcnijdjhhdoaa
theorem mkB_inj {k : UInt8} {m n : Nat} (hm : m < 18446744073709551616) (hn : n < 18446744073709551616) (h : mkB k m = mkB k n) : m = n := by
  have h1 : (mkB k m).drop 8 = (mkB k n).drop 8 := by rw [h]
  have h2 : put8 m = put8 n := h1
  rw [← getN_put8 m hm, ← getN_put8 n hn, h2]
structure STab.WF (s : STab) : Prop where
  le : ∀ p ∈ s.known, 1 ≤ p.2 ∧ p.2 ≤ s.keys.length
  inj : ∀ p ∈ s.known, ∀ q ∈ s.known, p.2 = q.2 → p.1 = q.1
theorem STab.WF.empty : STab.empty.WF := ⟨by simp [STab.empty], by simp [STab.empty]⟩
theorem STab.WF.add {s : STab} (h : s.WF) (f : SFrom) : (s.add f).WF :=
  ⟨fun p hp => by have := h.le p hp; simp only [STab.add, List.length_append, List.length_cons, List.length_nil]; omega, fun p hp q hq => h.inj p hp q hq⟩
theorem STab.WF.made {s : STab} (h : s.WF) (f : SFrom) : (s.made f).WF := by
  unfold STab.made
  split
  · exact h
  · refine ⟨fun p hp => ?_, fun p hp q hq e => ?_⟩
    · simp only [List.mem_append, List.mem_singleton] at hp
      simp only [List.length_append, List.length_cons, List.length_nil]
      rcases hp with hp | rfl
      · have := h.le p hp; omega
      · simp
    · simp only [List.mem_append, List.mem_singleton] at hp hq
      rcases hp with hp | rfl
      · rcases hq with hq | rfl
        · exact h.inj p hp q hq e
        · have := h.le p hp; simp only at e; omega
      · rcases hq with hq | rfl
        · have := h.le q hq; simp only at e; omega
        · rfl
theorem STab.at_mem {s : STab} {f : SFrom} {n : Nat} (h : s.at_ f = some n) : (f, n) ∈ s.known := by
  unfold STab.at_ at h
  rw [Option.map_eq_some_iff] at h
  obtain ⟨p, hp, rfl⟩ := h
  have h1 := List.find?_some hp
  have h2 := List.mem_of_find?_eq_some hp
  have : p.1 = f := by simpa using h1
  subst this
  exact h2
theorem STab.num_le {s : STab} (h : s.WF) (f : SFrom) : 1 ≤ s.num f ∧ s.num f ≤ s.keys.length + 1 := by
  unfold STab.num
  cases hc : s.at_ f with
  | none => simp
  | some n => have := h.le _ (STab.at_mem hc); simp at this ⊢; omega
theorem STab.num_iff {s : STab} (h : s.WF) {f : SFrom} {n : Nat} (hf : s.at_ f = some n) (g : SFrom) : n = s.num g ↔ f = g := by
  have hm := STab.at_mem hf
  constructor
  · intro e
    cases hc : s.at_ g with
    | none =>
      have := h.le _ hm
      rw [e, STab.num, hc] at this
      simp at this
      omega
    | some k =>
      have hk := STab.at_mem hc
      rw [STab.num, hc] at e
      exact h.inj _ hm _ hk (by simpa using e)
  · rintro rfl
    rw [STab.num, hf]; rfl
theorem STab.made_keys (s : STab) (f : SFrom) : (s.made f).keys.length ≤ s.keys.length + 1 := by
  unfold STab.made; split <;> simp
theorem STab.made_mono (s : STab) (f : SFrom) : s.keys.length ≤ (s.made f).keys.length := by
  unfold STab.made; split <;> simp
theorem STab.at_made (s : STab) (f : SFrom) : (s.made f).at_ f = some (s.num f) := by
  unfold STab.made STab.num
  cases h : s.at_ f with
  | some n => simp only [h]; rfl
  | none =>
    unfold STab.at_ at h ⊢
    rw [Option.map_eq_none_iff] at h
    simp [List.find?_append, h]
theorem STab.num_again (s : STab) (f : SFrom) : (s.made f).num f = s.num f := by
  conv => lhs; unfold STab.num
  rw [STab.at_made]; rfl
/-- What is known stays. -/
theorem STab.at_made_of (s : STab) (f g : SFrom) (n : Nat) (h : s.at_ f = some n) : (s.made g).at_ f = some n := by
  unfold STab.made
  cases hg : s.at_ g with
  | some m => exact h
  | none =>
    unfold STab.at_ at h ⊢
    simp only [List.find?_append]
    cases hf : s.known.find? (fun p => decide (p.1 = f)) with
    | none => rw [hf] at h; cases h
    | some p => rw [hf] at h; simpa using h
theorem STab.num_of (s : STab) (f : SFrom) (n : Nat) (h : s.at_ f = some n) : s.num f = n := by unfold STab.num; rw [h]; rfl
section
variable {s s' : STab} {f g : SFrom} {n : Nat}
theorem keys_made (h : s' = s.made f) : s'.keys.length ≤ s.keys.length + 1 := h ▸ STab.made_keys s f
theorem num_again' (h : s' = s.made f) : s'.num f = s.num f := h ▸ STab.num_again s f
theorem at_made' (h : s' = s.made f) : s'.at_ f = some (s.num f) := h ▸ STab.at_made s f
theorem at_more (h : s' = s.made g) (hf : s.at_ f = some n) : s'.at_ f = some n := h ▸ STab.at_made_of s f g n hf
theorem wf_made (h : s' = s.made f) (hw : s.WF) : s'.WF := h ▸ hw.made f
/-- Keys of two that are known. -/
theorem mk_iff (hw : s.WF) (hf : s.at_ f = some n) (hl : s.keys.length < 1000000) (g : SFrom) : mkB 107 n = mkB 107 (s.num g) ↔ f = g := by
  have h1 := hw.le _ (STab.at_mem hf)
  have h2 := STab.num_le hw g
  simp only at h1
  constructor
  · intro h; exact (STab.num_iff hw hf g).1 (mkB_inj (by omega) (by omega) h)
  · rintro rfl; rw [STab.num_of _ _ _ hf]
theorem derive_inj {k l : Bytes} {a b : ByteArray} : deriveF k a = deriveF l b ↔ k = l ∧ a = b := by
  simp [deriveF]
end
end Go.Proofs.Ytjjcnijdjhhdoaa
end
