/- More steps on slices: parts of them, their elements' places and cells. -/
import Derived.Test.YtecomegocafocaaCA3
set_option maxRecDepth 100000
set_option maxHeartbeats 4000000
namespace Go.Proofs.Ytecomegocafocaa
section
open Go.RowKit Go.QT
/-- What a call leaves that answers what is in a box. -/
theorem agg28b (W : World) : (isAgg 22).run Try.prog W = .ok false W := by kernel_rfl
def XPost (w : World) (o : Option SSealed) (e : Ending) (w' : World) : Prop :=
 ∃ x body, e = .returned (.tuple #[.agg (sealCells x body).toArray, .bool o.isSome]) /\ (o = some x ∨ o = none /\ x = zSealed) /\ OB w' w.heap.size body x.body /\ Below w.heap.size w w'
theorem sl_some {s : STab} {l : Bytes} {kd : UInt8} {n : Nat} (hm : markOf l = some (kd, n)) (hk : kd = 98) (hn : 1 <= n) : s.box l = s.boxes[n - 1]? := by
 unfold STab.box; rw [hm]; simp [hk, hn]
theorem sl_none {s : STab} {l : Bytes} {kd : UInt8} {n : Nat} (hm : markOf l = some (kd, n)) (h : ¬ (kd = 98 /\ 1 <= n)) : s.box l = none := by
 unfold STab.box; rw [hm]; simp only [if_neg h]
theorem sl_nomark {s : STab} {l : Bytes} (hm : markOf l = none) : s.box l = none := by
 unfold STab.box; rw [hm]
theorem zs_eq : (#[Value.int IntKind.u8 0, Value.int IntKind.u8 0, Value.int IntKind.u8 0, Value.int IntKind.u8 0, Value.int IntKind.u8 0, Value.int IntKind.u8 0, Value.int IntKind.u8 0, Value.int IntKind.u8 0, Value.int IntKind.u8 0, Value.int IntKind.u8 0, Value.int IntKind.u8 0, Value.int IntKind.u8 0, Value.int IntKind.u8 0, Value.int IntKind.u8 0, Value.int IntKind.u8 0, Value.int IntKind.u8 0, Value.int IntKind.i64 0, Value.slice none 0 0] : Array Value) = (sealCells zSealed (.slice none 0 0)).toArray := by
 rw [sealCells, zSealed]
 show _ = (vb zKey ++ [Value.int .i64 0, Value.slice none 0 0]).toArray
 rw [zKey, vb_zeros]; rfl
theorem box_any' (F : Nat -> Prop) (tb : Nat) (s : STab) (l : Bytes) (bv : Value) (w : World) (hT : TabAt w F tb s) (hbv : SB w bv l) (hl : ∀ b ∈ s.boxes, b.body.length <= 1000000) (hn : s.boxes.length < 1000000) :
   Calls Try.prog 105 #[.pointer (some ⟨tb, 0, none⟩), bv] w (XPost w (s.box l)) := by
 obtain ⟨mb, vk, vx, vs, bodies, sums, es, clock, hR⟩ := hT
 have HR := Hd.mk hR
 have Hbv := Hd.mk hbv
 have htb := hR.fl tb hR.ft
 have Hl := Hd.mk hl
 have hzl : (List.zipWith sealCells s.boxes bodies).length = s.boxes.length := by rw [List.length_zipWith, hR.xn, Nat.min_self]
 have Hzl := Hd.mk hzl
 have Hi0 : Hd ((Try.prog.info? 98).map (·.size) = some (sealCells zSealed (.slice none 0 0)).length) := ⟨i56⟩
 clear hR hbv hl hzl
 go_enter Try.func105, Try.ntmps105
 go_upto_region 1 with (fail)
 rw [zs_eq]
 have hb : Below w.heap.size w (w.alloc (.cells (sealCells zSealed (.slice none 0 0)).toArray 98)) := (Below.refl _ _).alloc (Nat.le_refl _) _
 have hZ : Blk (w.alloc (.cells (sealCells zSealed (.slice none 0 0)).toArray 98)) w.heap.size 98 (sealCells zSealed (.slice none 0 0)) := Blk.new w 98 _
 generalize w.alloc (.cells (sealCells zSealed (.slice none 0 0)).toArray 98) = w1 at *
 have HT1 := Hd.mk (HR.out.keep hb.size (fun q hq => hb.block q (HR.out.fl q hq)))
 have hzlt := hZ.lt
 have HZ := Hd.mk hZ
 have HM := Hd.mk (Mark_any _ l _ (Hbv.out.below hb))
 clear hZ
 have hbz : ∀ W, (Instr.build 98 #[]).run Try.prog W = .ok (.agg (sealCells zSealed (.slice none 0 0)).toArray) W := fun W => by kernel_rfl
 have Hbz := Hd.mk hbz
 clear hbz
 refine wp_region_lit ?_
 refine wl_val rfl bv rfl ?_
 simp only [Act.put, u1, u2, u3]
 refine wl_call rfl 46 _ _ rfl [bv] rfl (by kernel_rfl) HM.out ?_
 rintro e w2 ⟨rfl, hb2⟩
 refine ⟨_, rfl, ?_⟩
 simp only [Act.put, u1, u2, u3]
 have HT2 := Hd.mk (HT1.out.keep hb2.size (fun q hq => hb2.block q (HT1.out.fl q hq)))
 have HB2 := Hd.mk (hb.trans (hb2.mono hb.size))
 have HZ2 := Hd.mk (HZ.out.below hb2 hzlt)
 have hz2 := HZ2.out.lt
 clear HT1 hb hb2 HZ HM
 obtain ⟨A, cp, hve, hcp, hcp2⟩ := HT2.out.x.form
 rw [Hzl.out] at hve hcp
 unfold maxLen at hcp2
 have x0 := HT2.out.t.cell 1
 rw [hve] at x0
 have x1 : w2.cell? ⟨tb, 1, none⟩ = some (.slice A s.boxes.length cp) := x0
 clear x0
 have Hve := Hd.mk hve
 clear hve
 cases hmo : markOf l with
 | none =>
   have Hmo := Hd.mk hmo
   rw [mkV_none]
   go_upto_region 3 with (fail)
   have Hno := Hd.mk (sl_nomark (s := s) Hmo.out)
   refine wp_region_lit ?_
   refine wl_val rfl (.agg (sealCells zSealed (.slice none 0 0)).toArray) (by unfold execOp; simp [Hbz.out]) ?_
   simp only [Act.put, u1, u2, u3]
   go_wp2_with (refine wl_storeW rfl 98 _ _ rfl w.heap.size 0 (sealCells zSealed (.slice none 0 0)) rfl rfl 98 _ (sealCells zSealed (.slice none 0 0)) HZ2.out (by simp [sealCells, zSealed, zKey]) i56 (sealCells_one _ _ rfl) (by simp [sealCells, zSealed, zKey]) ?_; intro w6 hr6 hg6 hs6)
   refine bodyPost_ret (results_cell_tmp (p := 4) (q := 5) (ty := 98) rfl _ _ w.heap.size 98 (sealCells zSealed (.slice none 0 0)) _ (.bool false) rfl rfl hr6 ty56 rfl i56) rfl ?_
   rw [Hno.out]
   exact ⟨zSealed, .slice none 0 0, rfl, .inr ⟨rfl, rfl⟩, OB.nil _ _, HB2.out.grown hg6 HB2.out.size (by rintro j hj; cases hj; omega)⟩
 | some kn =>
   obtain ⟨kd, n⟩ := kn
   have Hmo := Hd.mk hmo
   clear hmo
   rw [mkV_some]
   have hkb := ub_ne kd 98 98 (by simp [ub])
   by_cases hk : kd = 98
   · rw [decide_eq_true hk] at hkb
     by_cases hn1 : 1 <= n
     · have d1 : decide ((n : Int) < 1) = false := by simp; omega
       by_cases hnb : n <= s.boxes.length
       · have d2 : decide ((n : Int) > s.boxes.length) = false := by simp; omega
         have Hk := Hd.mk hk
         clear hk
         go_upto_region 4 with (fail)
         have hi : n - 1 < s.boxes.length := by omega
         have Hbox : Hd (s.box l = some s.boxes[n - 1]) := ⟨by rw [sl_some Hmo.out Hk.out hn1, List.getElem?_eq_getElem hi]⟩
         have hbi : n - 1 < bodies.length := by rw [HR.out.xn]; exact hi
         obtain ⟨hob, _, _⟩ := HT2.out.xb (n - 1) s.boxes[n - 1] bodies[n - 1] (List.getElem?_eq_getElem hi) (List.getElem?_eq_getElem hbi)
         have hl16 := HR.out.xl s.boxes[n - 1] (List.getElem_mem hi)
         have hlb := Hl.out s.boxes[n - 1] (List.getElem_mem hi)
         obtain ⟨g, cap, hv2, _, hglt, _, _, cur, hBlk, hcur⟩ := HT2.out.x.at_ (i := n - 1) (by rw [Hzl.out]; exact hi)
         rw [Hve.out, Hzl.out] at hv2
         injection hv2 with hA _ hcap
         subst hA
         clear hcap
         have hcur2 : ∀ j v, (sealCells s.boxes[n - 1] bodies[n - 1])[j]? = some v -> cur[(n - 1) * 18 + j]? = some v := by
           intro j v hj
           have hj2 : j < 18 := by
             have := (List.getElem?_eq_some_iff.1 hj).1
             rw [sealCells_len _ _ hl16] at this; exact this
           rw [hcur j hj2]
           rw [List.getElem_zipWith]
           exact hj
         have Hcur2 := Hd.mk hcur2
         generalize s.boxes[n - 1] = X at *
         generalize bodies[n - 1] = Bd at *
         have HBlk := Hd.mk hBlk
         have Hob := Hd.mk hob
         have H16 := Hd.mk hl16
         have hlen := sealCells_len X Bd hl16
         have Hlen := Hd.mk hlen
         clear hcur hcur2 hBlk hob hl16 hlen
         refine wp_region_lit ?_
         refine wl_val rfl (.pointer (some ⟨tb, 0, none⟩)) (rfl) ?_
         simp only [Act.put, u1, u2, u3]
         refine wl_val rfl (.pointer (some ⟨tb, 0, none⟩)) (by simp [go_sem]) ?_
         simp only [Act.put, u1, u2, u3]
         refine wl_val rfl (.pointer (some ⟨tb, 1, none⟩)) (by simp [go_sem]) ?_
         simp only [Act.put, u1, u2, u3]
         refine wl_val rfl (.slice (some ⟨g, 0, none⟩) s.boxes.length cp) (exec_cell _ _ (by rfl) ⟨tb, 1, none⟩ _ (by rfl) (agg62 _) x1) ?_
         simp only [Act.put, u1, u2, u3]
         refine wl_val rfl (.int .i64 (n : Int)) (rfl) ?_
         simp only [Act.put, u1, u2, u3]
         refine wl_val rfl (.int .i64 ((n - 1 : Nat) : Int)) (exec_sub 3 _ (.tmp 40) _ (by rfl) n 1 (by rfl) (by rfl) _ (by omega) (by omega) (by omega) _) ?_
         simp only [Act.put, u1, u2, u3]
         refine wl_val rfl (.pointer (some ⟨g, 0 + (n - 1) * 18, none⟩)) (exec_idx 88 98 18 (.tmp 39) (.tmp 41) (by rfl) g 0 s.boxes.length cp (n - 1) (by rfl) (by rfl) hi tyss i56 _) ?_
         simp only [Act.put, u1, u2, u3]
         refine wl_val rfl (.agg (sealCells X Bd).toArray) (exec_load 98 _ (by rfl) g (0 + (n - 1) * 18) (by rfl) 98 cur (sealCells X Bd) _ HBlk.out (by rw [Nat.zero_add]; exact Hcur2.out) ty56 rfl (by rw [Hlen.out]; exact i56)) ?_
         simp only [Act.put, u1, u2, u3]
         refine wl_run rfl (.pointer (some ⟨w2.heap.size, 0, none⟩)) (show _ = Result.ok _ (w2.alloc (.cells (sealCells zSealed (.slice none 0 0)).toArray 98)) by kernel_rfl) ?_
         simp only [Act.put, u1, u2, u3]
         have h1c := sealCells_one X Bd Hob.out.one
         have HB3 := Hd.mk (HB2.out.alloc HB2.out.size (.cells (sealCells zSealed (.slice none 0 0)).toArray 98))
         have HN3 := Hd.mk (Blk.new w2 98 (sealCells zSealed (.slice none 0 0)))
         have HZ3 := Hd.mk (HZ2.out.alloc (.cells (sealCells zSealed (.slice none 0 0)).toArray 98))
         have HO3 := Hd.mk (Hob.out.alloc (.cells (sealCells zSealed (.slice none 0 0)).toArray 98))
         have hs3 : (w2.alloc (.cells (sealCells zSealed (.slice none 0 0)).toArray 98)).heap.size = w2.heap.size + 1 := by simp
         have hfb : ∀ q, Bd.ownBlock = some q -> q < w2.heap.size := fun q hq => (OB.own Hob.out q hq).2
         generalize hg2 : w2.heap.size = g2 at *
         generalize w2.alloc (.cells (sealCells zSealed (.slice none 0 0)).toArray 98) = w3 at *
         refine wl_storeW rfl 98 _ _ rfl g2 0 (sealCells X Bd) rfl rfl 98 _ (sealCells X Bd) HN3.out (by rw [Hlen.out, sealCells_len _ _ rfl]; omega) (by rw [Hlen.out]; exact i56) h1c (by rw [Hlen.out]; simp [sealCells, zSealed, zKey]) ?_
         intro w4 hr4 hg4 hs4
         simp only [Act.put]
         have HB4 := Hd.mk (HB3.out.grown hg4 HB3.out.size (by rintro j hj; cases hj; omega))
         have HZ4 := Hd.mk (HZ3.out.grown hg4 (fun e => by injection e with e; omega))
         have HO4 : Hd (OB w4 0 Bd X.body) := ⟨OB.grown HO3.out hg4 (fun q hq e => by injection e with e; have := hfb q hq; omega)⟩
         have HR4 := Hd.mk hr4
         have hl4 := hr4.lt
         have x17 : w4.cell? ⟨g2, 17, none⟩ = some Bd := by rw [hr4.cell]; simp [sealCells, H16.out]
         clear hr4 hg4 HB3 HN3 HZ3 HO3 x1 HT2
         go_upto_region 5 with (fail)
         refine wp_region_lit ?_
         refine wl_val rfl (.pointer (some ⟨g2, 17, none⟩)) (by simp [go_sem]) ?_
         simp only [Act.put, u1, u2, u3]
         refine wl_val rfl (Bd) (exec_cell _ _ (by rfl) ⟨g2, 17, none⟩ _ (by rfl) (agg28b _) x17) ?_
         simp only [Act.put, u1, u2, u3]
         refine wl_call rfl 31 _ _ rfl [Bd] rfl (by kernel_rfl) (clone_any Bd X.body _ HO4.out.sb (by omega)) ?_
         rintro e w5 ⟨nb5, rfl, hob5, hb5⟩
         refine ⟨_, rfl, ?_⟩
         have HB5 := Hd.mk (HB4.out.trans (hb5.mono HB4.out.size))
         have HZ5 := Hd.mk (HZ4.out.below hb5 HZ4.out.lt)
         have HR5 := Hd.mk (HR4.out.below hb5 hl4)
         have hl5 := HR5.out.lt
         have hs5 := hb5.size
         have hB4s := HB4.out.size
         clear hb5 HB4 HZ4 HO4 HR4 x17
         simp only [Act.put, u1, u2, u3]
         refine wl_val rfl (.pointer (some ⟨g2, 17, none⟩)) (by simp [go_sem]) ?_
         simp only [Act.put, u1, u2, u3]
         refine wl_runs rfl (exec_storeCell 22 _ _ rfl g2 17 nb5 rfl rfl 98 (sealCells X Bd) HR5.out (by rw [Hlen.out]; omega) (by kernel_rfl) hob5.one hob5.cells1) ?_
         simp only [Act.put]
         have hset : (sealCells X Bd).set 17 nb5 = sealCells X nb5 := by
           obtain ⟨⟨k, u, bd⟩, _⟩ : ∃ Y : SSealed, Y = X := ⟨X, rfl⟩
           obtain ⟨a0, a1, a2, a3, a4, a5, a6, a7, a8, a9, a10, a11, a12, a13, a14, a15, hX⟩ := l16 X.by_ H16.out
           unfold sealCells
           rw [hX]; rfl
         have HR6 : Hd (Blk (w5.setCell ⟨g2, 17, none⟩ nb5) g2 98 (sealCells X nb5)) := ⟨by rw [← hset]; exact HR5.out.set 17 nb5⟩
         have HZ6 : Hd (Blk (w5.setCell ⟨g2, 17, none⟩ nb5) w.heap.size 98 (sealCells zSealed (.slice none 0 0))) := ⟨HZ5.out.far (by simp; omega) _⟩
         have HO6 : Hd (OB (w5.setCell ⟨g2, 17, none⟩ nb5) w4.heap.size nb5 X.body) := ⟨OB.far hob5 (fun q hq => by have := (hob5.own q hq).1; simp; omega) _⟩
         have HB6 := Hd.mk (HB5.out.setCell (p := ⟨g2, 17, none⟩) (by show w.heap.size <= g2; omega) nb5)
         have H1 := sealCells_one X nb5 hob5.one
         have hl6 := sealCells_len X nb5 H16.out
         generalize w5.setCell ⟨g2, 17, none⟩ nb5 = w6 at *
         have Hl6 := Hd.mk hl6
         have HH1 := Hd.mk H1
         clear HB5 HZ5 HR5 hob5 hset hl6 H1
         go_wp2_with (first | (refine wl_load rfl 98 _ rfl g2 0 rfl 98 (sealCells X nb5) (sealCells X nb5) _ HR6.out (by simp) ty56 rfl (by rw [Hl6.out]; exact i56) ?_) | (refine wl_storeW rfl 98 _ _ rfl w.heap.size 0 (sealCells X nb5) rfl rfl 98 _ (sealCells X nb5) HZ6.out (by rw [Hl6.out]; simp [sealCells, zSealed, zKey]) (by rw [Hl6.out]; exact i56) HH1.out (by rw [Hl6.out]; simp [sealCells, zSealed, zKey]) ?_; intro w7 hr7 hg7 hs7))
         refine bodyPost_ret (results_cell_tmp (p := 4) (q := 5) (ty := 98) rfl _ _ w.heap.size 98 (sealCells X nb5) _ (.bool true) rfl rfl hr7 ty56 rfl (by rw [Hl6.out]; exact i56)) rfl ?_
         rw [Hbox.out]
         exact ⟨X, nb5, rfl, .inl rfl, OB.mono (OB.grown HO6.out hg7 (fun q hq e => by injection e with e; have := (HO6.out.own q hq).1; omega)) hB4s, HB6.out.grown hg7 HB6.out.size (by rintro j hj; cases hj; omega)⟩
       · have d2 : decide ((n : Int) > s.boxes.length) = true := by simp; omega
         have Hk := Hd.mk hk
         clear hk
         go_upto_region 3 with (fail)
         have Hno := Hd.mk ((sl_some (s := s) Hmo.out Hk.out hn1).trans (List.getElem?_eq_none (by omega)))
         refine wp_region_lit ?_
         refine wl_val rfl (.agg (sealCells zSealed (.slice none 0 0)).toArray) (by unfold execOp; simp [Hbz.out]) ?_
         simp only [Act.put, u1, u2, u3]
         go_wp2_with (refine wl_storeW rfl 98 _ _ rfl w.heap.size 0 (sealCells zSealed (.slice none 0 0)) rfl rfl 98 _ (sealCells zSealed (.slice none 0 0)) HZ2.out (by simp [sealCells, zSealed, zKey]) i56 (sealCells_one _ _ rfl) (by simp [sealCells, zSealed, zKey]) ?_; intro w6 hr6 hg6 hs6)
         refine bodyPost_ret (results_cell_tmp (p := 4) (q := 5) (ty := 98) rfl _ _ w.heap.size 98 (sealCells zSealed (.slice none 0 0)) _ (.bool false) rfl rfl hr6 ty56 rfl i56) rfl ?_
         rw [Hno.out]
         exact ⟨zSealed, .slice none 0 0, rfl, .inr ⟨rfl, rfl⟩, OB.nil _ _, HB2.out.grown hg6 HB2.out.size (by rintro j hj; cases hj; omega)⟩
     · have d1 : decide ((n : Int) < 1) = true := by simp; omega
       have Hk := Hd.mk hk
       clear hk
       go_upto_region 3 with (fail)
       have Hno := Hd.mk (sl_none (s := s) Hmo.out (fun hh => hn1 hh.2))
       refine wp_region_lit ?_
       refine wl_val rfl (.agg (sealCells zSealed (.slice none 0 0)).toArray) (by unfold execOp; simp [Hbz.out]) ?_
       simp only [Act.put, u1, u2, u3]
       go_wp2_with (refine wl_storeW rfl 98 _ _ rfl w.heap.size 0 (sealCells zSealed (.slice none 0 0)) rfl rfl 98 _ (sealCells zSealed (.slice none 0 0)) HZ2.out (by simp [sealCells, zSealed, zKey]) i56 (sealCells_one _ _ rfl) (by simp [sealCells, zSealed, zKey]) ?_; intro w6 hr6 hg6 hs6)
       refine bodyPost_ret (results_cell_tmp (p := 4) (q := 5) (ty := 98) rfl _ _ w.heap.size 98 (sealCells zSealed (.slice none 0 0)) _ (.bool false) rfl rfl hr6 ty56 rfl i56) rfl ?_
       rw [Hno.out]
       exact ⟨zSealed, .slice none 0 0, rfl, .inr ⟨rfl, rfl⟩, OB.nil _ _, HB2.out.grown hg6 HB2.out.size (by rintro j hj; cases hj; omega)⟩
   · rw [decide_eq_false hk] at hkb
     have Hk := Hd.mk hk
     clear hk
     go_upto_region 3 with (fail)
     have Hno := Hd.mk (sl_none (s := s) Hmo.out (fun hh => Hk.out hh.1))
     refine wp_region_lit ?_
     refine wl_val rfl (.agg (sealCells zSealed (.slice none 0 0)).toArray) (by unfold execOp; simp [Hbz.out]) ?_
     simp only [Act.put, u1, u2, u3]
     go_wp2_with (refine wl_storeW rfl 98 _ _ rfl w.heap.size 0 (sealCells zSealed (.slice none 0 0)) rfl rfl 98 _ (sealCells zSealed (.slice none 0 0)) HZ2.out (by simp [sealCells, zSealed, zKey]) i56 (sealCells_one _ _ rfl) (by simp [sealCells, zSealed, zKey]) ?_; intro w6 hr6 hg6 hs6)
     refine bodyPost_ret (results_cell_tmp (p := 4) (q := 5) (ty := 98) rfl _ _ w.heap.size 98 (sealCells zSealed (.slice none 0 0)) _ (.bool false) rfl rfl hr6 ty56 rfl i56) rfl ?_
     rw [Hno.out]
     exact ⟨zSealed, .slice none 0 0, rfl, .inr ⟨rfl, rfl⟩, OB.nil _ _, HB2.out.grown hg6 HB2.out.size (by rintro j hj; cases hj; omega)⟩
end
section
open Go.RowKit Go.QT
/-- What is in a box, by its key and usage. -/
def STab.open_ (s : STab) (k : Bytes) (u : Int) (l : Bytes) : Option Bytes := (s.box l).bind fun x => if x.by_ = k /\ x.usage = u then some x.body else none
def OpPost (w : World) (o : Option Bytes) (e : Ending) (w' : World) : Prop := ∃ v, e = .returned (.tuple #[v, .bool o.isSome]) /\ OB w' w.heap.size v (o.getD []) /\ Below w.heap.size w w'
theorem aggint (W : World) : (isAgg 3).run Try.prog W = .ok false W := by kernel_rfl
theorem open_any (F : Nat -> Prop) (tb : Nat) (s : STab) (k : Bytes) (u : Int) (l : Bytes) (bv : Value) (w : World) (hT : TabAt w F tb s) (hk : k.length = 16) (hbv : SB w bv l) (hl : ∀ b ∈ s.boxes, b.body.length <= 1000000) (hx16 : ∀ b ∈ s.boxes, b.by_.length = 16) (hn : s.boxes.length < 1000000) :
   Calls Try.prog 104 #[.pointer (some ⟨tb, 0, none⟩), .agg (vb k).toArray, .int .i64 u, bv] w (OpPost w (s.open_ k u l)) := by
 have HX := Hd.mk (fun W (h : TabAt W F tb s) (hb : SB W bv l) => box_any' F tb s l bv W h hb hl hn)
 have HT := Hd.mk hT
 have Hk := Hd.mk hk
 have Hbv := Hd.mk hbv
 have hik : (Try.prog.info? 32).map (·.size) = some (vb k).length := by rw [vb_length, hk]; exact i42
 have Hik := Hd.mk hik
 have H16 : Hd (∀ x, (s.box l = some x ∨ s.box l = none /\ x = zSealed) -> x.by_.length = 16) := ⟨fun x hx => by
   rcases hx with hx | ⟨_, rfl⟩
   · unfold STab.box at hx
     split at hx
     · split at hx
       · exact hx16 x (List.mem_of_getElem? hx)
       · cases hx
     · cases hx
   · rfl⟩
 have Ho : Hd (s.open_ k u l = (s.box l).bind fun x => if x.by_ = k /\ x.usage = u then some x.body else none) := ⟨rfl⟩
 clear hT hk hbv hl hx16 hik
 go_enter Try.func104, Try.ntmps104
 go_upto_region 1 with (fail)
 have hb : Below w.heap.size w (w.alloc (.cells (vb k).toArray 32)) := (Below.refl _ _).alloc (Nat.le_refl _) _
 have hKk : Row (w.alloc (.cells (vb k).toArray 32)) w.heap.size 32 k := Row.new w 32 k
 generalize w.alloc (.cells (vb k).toArray 32) = w1 at *
 have hB1 := HX.out _ (HT.out.below hb) (Hbv.out.below hb)
 have hKl := hKk.lt
 refine wp_region_lit ?_
 refine wl_val rfl (.pointer (some ⟨tb, 0, none⟩)) (rfl) ?_
 simp only [Act.put, u1, u2, u3]
 refine wl_val rfl (bv) (rfl) ?_
 simp only [Act.put, u1, u2, u3]
 refine wl_call rfl 105 _ _ rfl [.pointer (some ⟨tb, 0, none⟩), bv] rfl (by kernel_rfl) (hB1) ?_
 rintro e w2 ⟨x, body, rfl, hx, hob, hb2⟩
 refine ⟨_, rfl, ?_⟩
 have HB2 := Hd.mk (hb.trans (hb2.mono hb.size))
 have HK2 := Hd.mk (hKk.below hb2 hKl)
 have hx16 := H16.out x hx
 have Hx16 := Hd.mk hx16
 have Hx := Hd.mk hx
 have Hob := Hd.mk hob
 have hs12 := hb2.size
 have Hsl := Hd.mk (sealCells_len x body hx16)
 have Hone := Hd.mk (sealCells_one x body hob.one)
 clear hb2 hKk hB1 hx16 hx hob HX H16 HT
 generalize hbs : (s.box l).isSome = bs at *
 have Hbs := Hd.mk hbs
 clear hbs
 simp only [Act.put, u1, u2, u3]
 refine wl_val rfl (.tuple #[.agg (sealCells x body).toArray, .bool bs]) (rfl) ?_
 simp only [Act.put, u1, u2, u3]
 refine wl_val rfl (.agg (sealCells x body).toArray) (rfl) ?_
 simp only [Act.put, u1, u2, u3]
 refine wl_val rfl (.bool bs) (rfl) ?_
 simp only [Act.put, u1, u2, u3]
 refine wl_run rfl (.pointer (some ⟨w2.heap.size, 0, none⟩)) (show _ = Result.ok _ (w2.alloc (.cells (sealCells zSealed (.slice none 0 0)).toArray 98)) by kernel_rfl) ?_
 simp only [Act.put, u1, u2, u3]
 have HB3 := Hd.mk (HB2.out.alloc HB2.out.size (.cells (sealCells zSealed (.slice none 0 0)).toArray 98))
 have HN3 := Hd.mk (Blk.new w2 98 (sealCells zSealed (.slice none 0 0)))
 have HK3 := Hd.mk (HK2.out.alloc (.cells (sealCells zSealed (.slice none 0 0)).toArray 98))
 have HO3 := Hd.mk (Hob.out.alloc (.cells (sealCells zSealed (.slice none 0 0)).toArray 98))
 have hs3 : (w2.alloc (.cells (sealCells zSealed (.slice none 0 0)).toArray 98)).heap.size = w2.heap.size + 1 := by simp
 have hfb : ∀ q, body.ownBlock = some q -> q < w2.heap.size := fun q hq => (OB.own Hob.out q hq).2
 have hk2 := HK2.out.lt
 generalize hg2 : w2.heap.size = g2 at *
 generalize w2.alloc (.cells (sealCells zSealed (.slice none 0 0)).toArray 98) = w3 at *
 clear HB2 HK2 Hob
 refine wl_storeW rfl 98 _ _ rfl g2 0 (sealCells x body) rfl rfl 98 _ (sealCells x body) HN3.out (by rw [Hsl.out, sealCells_len _ _ rfl]; omega) (by rw [Hsl.out]; exact i56) Hone.out (by rw [Hsl.out]; simp [sealCells, zSealed, zKey]) ?_
 intro w4 hr4 hg4 hs4
 simp only [Act.put]
 have HB4 := Hd.mk (HB3.out.grown hg4 HB3.out.size (by rintro j hj; cases hj; have := hb.size; omega))
 have HK4 := Hd.mk (HK3.out.grown' hg4 (fun e => by injection e with e; omega))
 have HO4 : Hd (OB w4 w1.heap.size body x.body) := ⟨OB.grown HO3.out hg4 (fun q hq e => by injection e with e; have := hfb q hq; omega)⟩
 have HR4 := Hd.mk hr4
 have hl4 := hr4.lt
 have x16 : w4.cell? ⟨g2, 16, none⟩ = some (.int .i64 x.usage) := by rw [hr4.cell]; simp [sealCells, Hx16.out]
 have x17 : w4.cell? ⟨g2, 17, none⟩ = some body := by rw [hr4.cell]; simp [sealCells, Hx16.out]
 clear hr4 hg4 HB3 HN3 HK3 HO3
 refine wl_run rfl (.bool bs) (show _ = Result.ok _ w4 by simp [go_sem]) ?_
 simp only [Act.put, u1, u2, u3]
 cases bs with
 | false =>
   have hn : s.box l = none := by
     cases hq : s.box l with
     | none => rfl
     | some y => rw [hq] at Hbs; cases Hbs.out
   have Hn := Hd.mk hn
   clear hn
   go_wp2
   go_ret2
   rw [Ho.out, Hn.out]
   exact ⟨_, rfl, OB.nil _ _, HB4.out⟩
 | true =>
   have hy : s.box l = some x := by
     rcases Hx.out with h | ⟨h, _⟩
     · exact h
     · rw [h] at Hbs; cases Hbs.out
   have Hy := Hd.mk hy
   clear hy
   by_cases hby : x.by_ = k
   · by_cases hu : x.usage = u
     · have hus : (x.usage != u) = false := by rw [bne_eq_false_iff_eq]; exact hu
       go_upto_region 2 with (fail)
       refine wp_region_lit ?_
       refine wl_val rfl (.bool true) (rfl) ?_
       simp only [Act.put, u1, u2, u3]
       refine wl_val rfl (.bool false) (by simp [go_sem]) ?_
       simp only [Act.put, u1, u2, u3]
       refine wl_val rfl (.bool false) (rfl) ?_
       simp only [Act.put, u1, u2, u3]
       refine wl_valG (by kernel_rfl) (.pointer (some ⟨g2, 0, none⟩)) (by simp [go_sem]) ?_
       simp only [Act.put, u1, u2, u3]
       refine wl_valG (by kernel_rfl) (.agg (vb x.by_).toArray) (exec_load 32 _ (by rfl) g2 0 (by rfl) 98 (sealCells x body) (vb x.by_) _ HR4.out (fun j v hj => by rw [Nat.zero_add, sealCells, List.getElem?_append_left (List.getElem?_eq_some_iff.1 hj).1]; exact hj) ty42 rfl (by rw [vb_length, Hx16.out]; exact i42)) ?_
       simp only [Act.put, u1, u2, u3]
       refine wl_valG (by kernel_rfl) (.agg (vb k).toArray) (exec_load 32 _ (by rfl) w.heap.size 0 (by rfl) 32 (vb k) (vb k) _ HK4.out (by simp) ty42 rfl Hik.out) ?_
       simp only [Act.put, u1, u2, u3]
       refine wl_valG (by kernel_rfl) (.bool false) ((exec_ne16 32 _ _ _ (by rfl) x.by_ k (by rfl) (by rfl) ty42 eg42 Hx16.out Hk.out _).trans (by rw [decide_eq_true hby]; rfl)) ?_
       simp only [Act.put, u1, u2, u3]
       refine wl_val rfl (.bool false) (rfl) ?_
       simp only [Act.put, u1, u2, u3]
       refine wl_val rfl (.bool false) (rfl) ?_
       simp only [Act.put, u1, u2, u3]
       refine wl_valG (by kernel_rfl) (.pointer (some ⟨g2, 16, none⟩)) (by simp [go_sem]) ?_
       simp only [Act.put, u1, u2, u3]
       refine wl_valG (by kernel_rfl) (.int .i64 x.usage) (exec_cell _ _ (by rfl) ⟨g2, 16, none⟩ _ (by rfl) (aggint _) x16) ?_
       simp only [Act.put, u1, u2, u3]
       refine wl_valG (by kernel_rfl) (.int .i64 u) (rfl) ?_
       simp only [Act.put, u1, u2, u3]
       refine wl_valG (by kernel_rfl) (.bool false) (by have e : (x.usage != u) = false := hus; simp [go_sem, e]) ?_
       simp only [Act.put, u1, u2, u3]
       refine wl_val rfl (.bool false) (rfl) ?_
       simp only [Act.put, u1, u2, u3]
       clear hus
       go_upto_region 4 with (fail)
       refine wp_region_lit ?_
       refine wl_val rfl (.pointer (some ⟨g2, 17, none⟩)) (by simp [go_sem]) ?_
       simp only [Act.put, u1, u2, u3]
       refine wl_val rfl (body) (exec_cell _ _ (by rfl) ⟨g2, 17, none⟩ _ (by rfl) (agg28b _) x17) ?_
       simp only [Act.put, u1, u2, u3]
       go_wp2
       go_ret2
       rw [Ho.out, Hy.out, Option.bind_some, if_pos ⟨hby, hu⟩]
       exact ⟨_, rfl, OB.mono HO4.out hb.size, HB4.out⟩
     · have hus : (x.usage != u) = true := by rw [bne_iff_ne]; exact hu
       go_upto_region 2 with (fail)
       refine wp_region_lit ?_
       refine wl_val rfl (.bool true) (rfl) ?_
       simp only [Act.put, u1, u2, u3]
       refine wl_val rfl (.bool false) (by simp [go_sem]) ?_
       simp only [Act.put, u1, u2, u3]
       refine wl_val rfl (.bool false) (rfl) ?_
       simp only [Act.put, u1, u2, u3]
       refine wl_valG (by kernel_rfl) (.pointer (some ⟨g2, 0, none⟩)) (by simp [go_sem]) ?_
       simp only [Act.put, u1, u2, u3]
       refine wl_valG (by kernel_rfl) (.agg (vb x.by_).toArray) (exec_load 32 _ (by rfl) g2 0 (by rfl) 98 (sealCells x body) (vb x.by_) _ HR4.out (fun j v hj => by rw [Nat.zero_add, sealCells, List.getElem?_append_left (List.getElem?_eq_some_iff.1 hj).1]; exact hj) ty42 rfl (by rw [vb_length, Hx16.out]; exact i42)) ?_
       simp only [Act.put, u1, u2, u3]
       refine wl_valG (by kernel_rfl) (.agg (vb k).toArray) (exec_load 32 _ (by rfl) w.heap.size 0 (by rfl) 32 (vb k) (vb k) _ HK4.out (by simp) ty42 rfl Hik.out) ?_
       simp only [Act.put, u1, u2, u3]
       refine wl_valG (by kernel_rfl) (.bool false) ((exec_ne16 32 _ _ _ (by rfl) x.by_ k (by rfl) (by rfl) ty42 eg42 Hx16.out Hk.out _).trans (by rw [decide_eq_true hby]; rfl)) ?_
       simp only [Act.put, u1, u2, u3]
       refine wl_val rfl (.bool false) (rfl) ?_
       simp only [Act.put, u1, u2, u3]
       refine wl_val rfl (.bool false) (rfl) ?_
       simp only [Act.put, u1, u2, u3]
       refine wl_valG (by kernel_rfl) (.pointer (some ⟨g2, 16, none⟩)) (by simp [go_sem]) ?_
       simp only [Act.put, u1, u2, u3]
       refine wl_valG (by kernel_rfl) (.int .i64 x.usage) (exec_cell _ _ (by rfl) ⟨g2, 16, none⟩ _ (by rfl) (aggint _) x16) ?_
       simp only [Act.put, u1, u2, u3]
       refine wl_valG (by kernel_rfl) (.int .i64 u) (rfl) ?_
       simp only [Act.put, u1, u2, u3]
       refine wl_valG (by kernel_rfl) (.bool true) (by have e : (x.usage != u) = true := hus; simp [go_sem, e]) ?_
       simp only [Act.put, u1, u2, u3]
       refine wl_val rfl (.bool true) (rfl) ?_
       simp only [Act.put, u1, u2, u3]
       clear hus
       go_wp2
       go_ret2
       rw [Ho.out, Hy.out, Option.bind_some, if_neg (fun hh => hu hh.2)]
       exact ⟨_, rfl, OB.nil _ _, HB4.out⟩
   · go_upto_region 2 with (fail)
     refine wp_region_lit ?_
     refine wl_val rfl (.bool true) (rfl) ?_
     simp only [Act.put, u1, u2, u3]
     refine wl_val rfl (.bool false) (by simp [go_sem]) ?_
     simp only [Act.put, u1, u2, u3]
     refine wl_val rfl (.bool false) (rfl) ?_
     simp only [Act.put, u1, u2, u3]
     refine wl_valG (by kernel_rfl) (.pointer (some ⟨g2, 0, none⟩)) (by simp [go_sem]) ?_
     simp only [Act.put, u1, u2, u3]
     refine wl_valG (by kernel_rfl) (.agg (vb x.by_).toArray) (exec_load 32 _ (by rfl) g2 0 (by rfl) 98 (sealCells x body) (vb x.by_) _ HR4.out (fun j v hj => by rw [Nat.zero_add, sealCells, List.getElem?_append_left (List.getElem?_eq_some_iff.1 hj).1]; exact hj) ty42 rfl (by rw [vb_length, Hx16.out]; exact i42)) ?_
     simp only [Act.put, u1, u2, u3]
     refine wl_valG (by kernel_rfl) (.agg (vb k).toArray) (exec_load 32 _ (by rfl) w.heap.size 0 (by rfl) 32 (vb k) (vb k) _ HK4.out (by simp) ty42 rfl Hik.out) ?_
     simp only [Act.put, u1, u2, u3]
     refine wl_valG (by kernel_rfl) (.bool true) ((exec_ne16 32 _ _ _ (by rfl) x.by_ k (by rfl) (by rfl) ty42 eg42 Hx16.out Hk.out _).trans (by rw [decide_eq_false hby]; rfl)) ?_
     simp only [Act.put, u1, u2, u3]
     refine wl_val rfl (.bool true) (rfl) ?_
     simp only [Act.put, u1, u2, u3]
     refine wl_val rfl (.bool true) (rfl) ?_
     simp only [Act.put, u1, u2, u3]
     refine wl_skipG (by kernel_rfl) ?_
     simp only [Act.put, u1, u2, u3]
     refine wl_skipG (by kernel_rfl) ?_
     simp only [Act.put, u1, u2, u3]
     refine wl_skipG (by kernel_rfl) ?_
     simp only [Act.put, u1, u2, u3]
     refine wl_skipG (by kernel_rfl) ?_
     simp only [Act.put, u1, u2, u3]
     refine wl_val rfl (.bool true) (rfl) ?_
     simp only [Act.put, u1, u2, u3]
     go_wp2
     go_ret2
     rw [Ho.out, Hy.out, Option.bind_some, if_neg (fun hh => hby hh.1)]
     exact ⟨_, rfl, OB.nil _ _, HB4.out⟩
end
section
open Go.RowKit Go.QT
/-- A slice value reads as rows of bytes. -/
def SS (w : World) (v : Value) (ls : List Bytes) : Prop :=
 ∃ A c, v = .slice A ls.length c /\ ls.length <= c /\ c <= maxLen /\ ∀ i, i < ls.length -> ∃ b o u, A = some ⟨b, o, none⟩ /\ b < w.heap.size /\ w.cell? ⟨b, o + i, none⟩ = some u /\ SB w u (ls.getD i [])
def joinTo (ls : List Bytes) : Nat -> Bytes
 | 0 => []
 | k+1 => joinTo ls k ++ ls.getD k []
theorem joinTo_flat (ls : List Bytes) (k : Nat) (h : k <= ls.length) : joinTo ls k = (ls.take k).flatten := by
 induction k with
 | zero => rfl
 | succ k ih =>
   have e : ls.getD k [] = ls[k]'(by omega) := by simp [List.getD, List.getElem?_eq_getElem (show k < ls.length by omega)]
   rw [joinTo, ih (by omega), List.take_succ_eq_append_getElem (show k < ls.length by omega), List.flatten_append, e, List.flatten_cons, List.flatten_nil, List.append_nil]
theorem joinTo_all (ls : List Bytes) : joinTo ls ls.length = ls.flatten := by rw [joinTo_flat _ _ (Nat.le_refl _), List.take_length]
theorem joinTo_le (ls : List Bytes) (k : Nat) (h : k <= ls.length) : (joinTo ls k).length <= ls.flatten.length := by
 rw [joinTo_flat _ _ h]
 conv => rhs; rw [← List.take_append_drop k ls]
 rw [List.flatten_append, List.length_append]; omega
theorem joined_any (v : Value) (ls : List Bytes) (w : World) (hv : SS w v ls) (hl : ls.flatten.length <= 140737488355328) : Calls Try.prog 34 #[v] w (BPost w ls.flatten) := by
 obtain ⟨A, c, rfl, hc1, hc2, hcell⟩ := hv
 unfold maxLen at hc2
 have Hcell := Hd.mk hcell
 have Hfin := Hd.mk (joinTo_all ls)
 have Hle := Hd.mk (joinTo_le ls)
 clear hcell
 go_enter Try.func34, Try.ntmps34
 go_wp2
 go_loopw [3, 8] (fun u i wr => ∃ k : Nat, k <= ls.length /\ i = .int .i64 (k : Int) /\ OB wr w.heap.size u (joinTo ls k) /\ Below w.heap.size w wr) (fun _ i _ => ls.length - (intOf i).toNat)
 case atStart => exact ⟨0, by omega, rfl, OB.nil _ _, Below.refl _ _⟩
 case round =>
   obtain ⟨k, hk, rfl, ho, hB⟩ := hrel
   have hle := Hle.out k hk
   by_cases hlt : k < ls.length
   · obtain ⟨b, o, u, hA, hbl, hx, hs⟩ := Hcell.out k hlt
     subst hA
     have Hs : Hd (joinTo ls (k+1) = joinTo ls k ++ ls.getD k []) := ⟨rfl⟩
     have hle2 := Hle.out (k+1) hlt
     rw [Hs.out, List.length_append] at hle2
     have hsb := hs.below hB
     have x0 := (hB.cell (p := ⟨b, o + k, none⟩) hbl).trans hx
     generalize ls.getD k [] = m at *
     generalize joinTo ls k = L at *
     obtain ⟨w2, rfl⟩ : ∃ w1 : World, w1 = wr := ⟨_, rfl⟩
     have Ho := Hd.mk ho
     have Hsb := Hd.mk hsb
     clear ho hsb hs hx
     go_wp2_with (at_builtin; refine wl_append rfl (.tmp 12) (.tmp 13) rfl w.heap.size _ _ L m rfl rfl Ho.out Hsb.out (by omega) hB.size ?_; intro v' w' hv' hg' hat')
     refine ⟨⟨k + 1, by omega, by go_num, by rw [Hs.out]; exact hv', Ho.out.grownBelow hB hg' (Nat.le_refl _) (Nat.le_refl _)⟩, by simp [intOf]; omega⟩
   · have hk2 : k = ls.length := by omega
     rw [hk2, Hfin.out] at ho
     have Ho := Hd.mk ho
     clear ho hk2
     go_wp2
     go_ret
     exact ⟨_, rfl, Ho.out, hB⟩
end
section
open Go.RowKit Go.QT
/-- Three rows of bytes, side by side. -/
theorem SS.three (w : World) (va vb' vc : Value) (a b c : Bytes) (ha : SB w va a) (hb : SB w vb' b) (hc : SB w vc c) : SS (w.alloc (.cells #[va, vb', vc] 22)) (.slice (some ⟨w.heap.size, 0, none⟩) 3 3) [a, b, c] := by
 have hB : Below w.heap.size w (w.alloc (.cells #[va, vb', vc] 22)) := (Below.refl _ _).alloc (Nat.le_refl _) _
 have hk : Blk (w.alloc (.cells #[va, vb', vc] 22)) w.heap.size 22 [va, vb', vc] := Blk.new w 22 [va, vb', vc]
 refine ⟨_, 3, rfl, by simp, by unfold maxLen; omega, fun i hi => ?_⟩
 have hc' := hk.cell
 match i, hi with
 | 0, _ => exact ⟨w.heap.size, 0, va, rfl, hk.lt, hc' 0, ha.below hB⟩
 | 1, _ => exact ⟨w.heap.size, 0, vb', rfl, hk.lt, hc' 1, hb.below hB⟩
 | 2, _ => exact ⟨w.heap.size, 0, vc, rfl, hk.lt, hc' 2, hc.below hB⟩
theorem SB.isSlice {w : World} {v : Value} {l : Bytes} (h : SB w v l) : v.cells = #[v] := by
 obtain ⟨A, c, rfl, _⟩ := h; rfl
theorem run_bs3 (va vb' vc : Value) (ha : va.cells = #[va]) (hb : vb'.cells = #[vb']) (hc : vc.cells = #[vc]) (w : World) :
   (Instr.buildSlice 89 3 #[(0, va), (1, vb'), (2, vc)]).run Try.prog w = .ok (.slice (some ⟨w.heap.size, 0, none⟩) 3 3) (w.alloc (.cells #[va, vb', vc] 22)) := by
 have ht : Try.prog.underlying 89 = some (.slice 22) := by kernel_rfl
 have hs : (sizeOf 22).run Try.prog w = .ok 1 w := by kernel_rfl
 have hz : (zeroValue 22).run Try.prog w = .ok (.slice none 0 0) w := by kernel_rfl
 have hzz : ((Array.range (3 * 1)).map fun x => (Value.slice none 0 0).cells[x % (Value.slice none 0 0).cells.size]!) = #[.slice none 0 0, .slice none 0 0, .slice none 0 0] := by kernel_rfl
 have hf : Instr.fill (fun i => some (i * 1, 1)) #[.slice none 0 0, .slice none 0 0, .slice none 0 0] [(0, va), (1, vb'), (2, vc)] = some #[va, vb', vc] := by
   simp [Instr.fill, ha, hb, hc]
 have h0 : ¬ (3 * 1 > 2 ^ 24) := by omega
 have h1 : ¬ (3 * 1 = 0) := by omega
 simp only [Instr.buildSlice, Sem.run_bind, run_underlying ht, Result.andThen_ok, hs]
 rw [if_neg h0, if_neg h1]
 simp only [Sem.run_bind, hz, Result.andThen_ok, Sem.run_pure, hzz, hf]
 simp [newRow]
theorem exec_bs3 {o : Oper} {a : Act} (x y z : Operand) (ho : o.op = .buildSlice 89 3 #[(0, x), (1, y), (2, z)]) (va vb' vc : Value) (hx : a.eval x = va) (hy : a.eval y = vb') (hz : a.eval z = vc) (ha : va.cells = #[va]) (hb : vb'.cells = #[vb']) (hc : vc.cells = #[vc]) (w : World) :
   (execOp a.eval o).run Try.prog w = .ok (.value (.slice (some ⟨w.heap.size, 0, none⟩) 3 3)) (w.alloc (.cells #[va, vb', vc] 22)) := by
 have h := run_bs3 va vb' vc ha hb hc w
 unfold execOp
 simp [ho, hx, hy, hz, h]
theorem text_any (F : Nat -> Prop) (tb : Nat) (s : STab) (p q : ByteArray) (w : World) (hT : TabAt w F tb s) (hp : p.size <= 1000000) (hq : q.size <= 1000000) (hn : s.keys.length < 1000000) :
   Calls Try.prog 12 #[.pointer (some ⟨tb, 0, none⟩), .string p, .string q] w (TPost w F tb (s.made (textF p q)) (.agg (vb (mkB 107 (s.num (textF p q)))).toArray)) := by
 have HT := Hd.mk hT
 have HM := Hd.mk (fun W (h : TabAt W F tb s) => made_any F tb s (textF p q) W h rfl hn)
 have Hlt := Hd.mk hT.lt
 have Hn := Hd.mk hn
 clear hT hn
 go_enter Try.func12, Try.ntmps12
 go_upto_region 1 with (fail)
 rw [z16_eq]
 have hb : Below w.heap.size w (w.alloc (.cells (vb zKey).toArray 32)) := (Below.refl _ _).alloc (Nat.le_refl _) _
 have hKr : Row (w.alloc (.cells (vb zKey).toArray 32)) w.heap.size 32 zKey := Row.new w 32 zKey
 generalize w.alloc (.cells (vb zKey).toArray 32) = w1 at *
 refine wp_region_lit ?_
 refine wl_val rfl (.pointer (some ⟨tb, 0, none⟩)) (rfl) ?_
 simp only [Act.put, u1, u2, u3]
 refine wl_val rfl (.string p) (rfl) ?_
 simp only [Act.put, u1, u2, u3]
 refine wl_val rfl (.int .i64 (p.size : Int)) (by simp [go_sem]) ?_
 simp only [Act.put, u1, u2, u3]
 refine wl_val rfl (.int .u64 (p.size : Int)) (by have e := u64_of p.size (by omega); simp [go_sem, e]) ?_
 simp only [Act.put, u1, u2, u3]
 refine wl_call rfl 35 _ _ rfl [.int .u64 (p.size : Int)] rfl (by kernel_rfl) (put_any p.size _) ?_
 rintro e w2 ⟨v1, rfl, ho1, hb2⟩
 refine ⟨_, rfl, ?_⟩
 have c2 := hb2
 simp only [Act.put, u1, u2, u3]
 refine wl_val rfl (.string p) (rfl) ?_
 simp only [Act.put, u1, u2, u3]
 refine wl_conv_sb rfl (.tmp 12) rfl p rfl (by unfold maxLen; omega) ?_
 intro v2 w3 hs2 hb3
 have c3 := c2.trans (hb3.mono c2.size)
 simp only [Act.put, u1, u2, u3]
 refine wl_val rfl (.string q) (rfl) ?_
 simp only [Act.put, u1, u2, u3]
 refine wl_conv_sb rfl (.tmp 14) rfl q rfl (by unfold maxLen; omega) ?_
 intro v3 w4 hs3 hb4
 have c4 := c3.trans (hb4.mono c3.size)
 have hsa := (ho1.sb.below hb3).below hb4
 have hsb := hs2.below hb4
 simp only [Act.put, u1, u2, u3]
 refine wl_run rfl (.slice (some ⟨w4.heap.size, 0, none⟩) 3 3) (show _ = Result.ok _ (w4.alloc (.cells #[v1, v2, v3] 22)) from exec_bs3 (.tmp 11) (.tmp 13) (.tmp 15) (by rfl) v1 v2 v3 (by rfl) (by rfl) (by rfl) hsa.isSlice hsb.isSlice hs3.isSlice _) ?_
 simp only [Act.put, u1, u2, u3]
 have hSS := SS.three w4 v1 v2 v3 _ _ _ hsa hsb hs3
 have c5 := c4.alloc c4.size (.cells #[v1, v2, v3] 22)
 have hfl : ([put8 p.size, p.data.toList, q.data.toList] : List Bytes).flatten = put8 p.size ++ p.data.toList ++ q.data.toList := by simp
 have hll : (put8 p.size ++ p.data.toList ++ q.data.toList).length <= 140737488355328 := by
   rw [List.length_append, List.length_append, put8_len]
   have e1 : p.data.toList.length = p.size := by simp
   have e2 : q.data.toList.length = q.size := by simp
   omega
 have hj := joined_any _ _ _ hSS (by rw [hfl]; exact hll)
 rw [hfl] at hj
 generalize w4.alloc (.cells #[v1, v2, v3] 22) = w5 at *
 refine wl_call rfl 34 _ _ rfl [.slice (some ⟨w4.heap.size, 0, none⟩) 3 3] rfl (by kernel_rfl) (hj) ?_
 rintro e w6 ⟨v6, rfl, ho6, hb6⟩
 refine ⟨_, rfl, ?_⟩
 have c6 := c5.trans (hb6.mono c5.size)
 have hB6 := hb.trans (c6.mono hb.size)
 simp only [Act.put, u1, u2, u3]
 refine wl_val rfl (.string ⟨(put8 p.size ++ p.data.toList ++ q.data.toList).toArray⟩) (exec_sb_conv (.tmp 17) (by rfl) v6 _ (by rfl) ho6.sb) ?_
 simp only [Act.put, u1, u2, u3]
 refine wl_val rfl (.agg (fromCells (textF p q)).toArray) (exec_build_text (.tmp 18) _ (by rfl) ⟨(put8 p.size ++ p.data.toList ++ q.data.toList).toArray⟩ (by rfl) (by rfl) _) ?_
 simp only [Act.put, u1, u2, u3]
 refine wl_call rfl 33 _ _ rfl [.pointer (some ⟨tb, 0, none⟩), .agg (fromCells (textF p q)).toArray] rfl (by kernel_rfl) (HM.out _ (HT.out.below hB6)) ?_
 rintro e w7 ⟨rfl, F2, hT2, hF1, hF2, hf2⟩
 refine ⟨_, rfl, ?_⟩
 have hK6 : Row w6 w.heap.size 32 zKey := hKr.below c6 hKr.lt
 have hK7 : Row w7 w.heap.size 32 zKey := (hf2.block _ hK6.lt (fun h => by have := Hlt.out _ h; omega)).trans hK6
 have hKl := hK6.lt
 have HK7 := Hd.mk hK7
 clear hK7 hK6 hKr
 simp only [Act.put, u1, u2, u3]
 go_wp2_with (refine wl_storeW rfl 32 _ _ rfl w.heap.size 0 (vb (mkB 107 (s.num (textF p q)))) rfl rfl 32 _ (vb (mkB 107 (s.num (textF p q)))) HK7.out (by simp [zKey, mkB_len]) i42 (vb_ones _) (by simp [zKey, mkB_len]) ?_; intro w8 hr8 hg8 hs8)
 refine bodyPost_ret (results_cell_row (p := 6) (ty := 32) rfl _ _ w.heap.size 32 (vb (mkB 107 (s.num (textF p q)))).toArray (0, 0) _ rfl hr8 ty42 rfl (by rw [i42]; rfl)) rfl ?_
 exact ⟨rfl, TPost.key (_l := []) hB6 Hlt.out (Nat.le_refl _) hKl hT2 hF1 hF2 hf2 hg8 ⟨_, _, hr8⟩⟩
end
section
open Go.RowKit Go.QT
end
section
open Go.RowKit Go.QT
def NPost (w : World) (e : Ending) (w' : World) : Prop :=
 ∃ tb F, e = .returned (.pointer (some ⟨tb, 0, none⟩)) /\ TabAt w' F tb STab.empty /\ (∀ q, F q -> w.heap.size <= q) /\ Below w.heap.size w w'
theorem empty_tab (w : World) : TabAt ((w.alloc (.map #[] 0)).alloc (.cells #[.slice none 0 0, .slice none 0 0, .slice none 0 0, .map (some w.heap.size)] 91)) (fun q => q = w.heap.size ∨ q = w.heap.size + 1) (w.heap.size + 1) STab.empty := by
 refine ⟨w.heap.size, .slice none 0 0, .slice none 0 0, .slice none 0 0, [], [], #[], 0, ?_⟩
 refine { t := new2 w _ 91 _, k := OV.nil _ _ _ _, kl := by simp [STab.empty], x := OV.nil _ _ _ _, xn := rfl, xl := by simp [STab.empty], xb := by simp [STab.empty], u := OV.nil _ _ _ _, un := rfl, ub := by simp [STab.empty], m := ?_, me := by simp [STab.empty], ml := by simp [STab.empty], ft := .inr rfl, fm := .inl rfl, fk := by simp [Value.ownBlock], fx := by simp [Value.ownBlock], fu := by simp [Value.ownBlock], fl := ?_ }
 · rw [Below.heap_alloc _ _ _ (by simp)]
   exact heap_alloc_new w _
 · intro q hq
   rcases hq with rfl | rfl <;> simp <;> omega
theorem snew_any (w : World) : Calls Try.prog 8 #[] w (NPost w) := by
 have hmm := @run_makeMap Try.prog
 have h1 : ∀ W, (Instr.makeMap 86 none).run Try.prog W = .ok (.map (some W.heap.size)) (W.alloc (.map #[] 0)) := fun W => rfl
 have H1 := Hd.mk h1
 have hb : ∀ (g : Nat) W, (Instr.build 91 #[(3, .map (some g))]).run Try.prog W = .ok (.agg #[.slice none 0 0, .slice none 0 0, .slice none 0 0, .map (some g)]) W := fun g W => by kernel_rfl
 have Hb := Hd.mk hb
 clear hmm h1 hb
 go_enter Try.func8, Try.ntmps8
 go_upto_region 1 with (fail)
 refine wp_region_lit ?_
 refine wl_run rfl (.map (some w.heap.size)) (show _ = Result.ok _ (w.alloc (.map #[] 0)) by kernel_rfl) ?_
 simp only [Act.put, u1, u2, u3]
 refine wl_val rfl (.agg #[.slice none 0 0, .slice none 0 0, .slice none 0 0, .map (some w.heap.size)]) (by kernel_rfl) ?_
 simp only [Act.put, u1, u2, u3]
 refine wl_run rfl (.pointer (some ⟨w.heap.size + 1, 0, none⟩)) (show _ = Result.ok _ ((w.alloc (.map #[] 0)).alloc (.cells #[.slice none 0 0, .slice none 0 0, .slice none 0 0, .map (some w.heap.size)] 91)) by simp [go_sem]) ?_
 simp only [Act.put, u1, u2, u3]
 go_wp2
 go_ret
 exact ⟨_, _, rfl, empty_tab w, fun q hq => by rcases hq with rfl | rfl <;> omega, ((Below.refl _ _).alloc (Nat.le_refl _) _).alloc (by simp) _⟩
end
section
open Go.RowKit Go.QT
def rTab (F : Nat -> Prop) (tb : Nat) (s : STab) : Res where
 F := F
 Φ := fun w => TabAt w F tb s
 lt := fun h => h.lt
 keep := fun h hs hk => h.keep hs hk
section
variable {F0 F : Nat -> Prop} {w0 w w' : World} {ro rs : List Res} {tb : Nat} {s s' : STab} {P : Program} {o : Oper} {a : Act} {v : Value} {e : Ending}
theorem Hp.tab (h : Hp F0 w0 w ro rs) (i : Nat) (hi : rs[i]? = some (rTab F tb s)) (hp : TPost w F tb s' v e w') : e = .returned v /\ ∃ F', Hp F0 w0 w' ro (rs.set i (rTab F' tb s')) := by
 obtain ⟨he, F', hT, h1, _, hf⟩ := hp
 exact ⟨he, F', h.upd i hi hf (rTab F' tb s') hT h1⟩
/-- A call of a method that may turn the table. -/
theorem x_tab (h : Hp F0 w0 w ro rs) (i : Nat) (hi : rs[i]? = some (rTab F tb s)) (fn : FuncId) (al : List Value) (hp : pureVal P (execOp a.eval o) = some (.enter fn al.toArray))
   (hc : TabAt w F tb s -> Calls P fn al.toArray w (TPost w F tb s' v)) : OpTo P o a w (fun u w' => u = v /\ ∃ F', Hp F0 w0 w' ro (rs.set i (rTab F' tb s'))) :=
 OpTo.enter fn al hp (hc (h.own i _ hi)) fun e w' hq => by
   obtain ⟨he, h'⟩ := h.tab i hi hq
   exact ⟨v, he, rfl, h'⟩
end
end
section
open Go.RowKit Go.QT
noncomputable def look (x : Nat → Value) (l : List (Nat × Value)) (i : Nat) : Value :=
 List.rec (x i) (fun p _ ih => bif Nat.beq p.1 i then p.2 else ih) l
noncomputable def frL (f : Nat → Value) (n : Nat) : Nat → List Value :=
 Nat.rec (fun _ => []) (fun _ ih i => f i :: ih (i + 1)) n
noncomputable def patch (x : Nat → Value) (n : Nat) (l : List (Nat × Value)) : Act := { tmps := (frL (look x l) n 0).toArray, defers := [] }
theorem frL_get (f : Nat → Value) : ∀ (n k i : Nat), (frL f n k)[i]? = if i < n then some (f (k + i)) else none
 | 0, k, i => by show ([] : List Value)[i]? = _; simp
 | n + 1, k, 0 => by show (f k :: frL f n (k + 1))[0]? = _; simp
 | n + 1, k, i + 1 => by
   have h := frL_get f n (k + 1) i
   show (f k :: frL f n (k + 1))[i + 1]? = _
   rw [List.getElem?_cons_succ, h]
   by_cases hi : i < n
   · rw [if_pos hi, if_pos (by omega)]; congr 2; omega
   · rw [if_neg hi, if_neg (by omega)]
theorem look_dead (x : Nat → Value) (l : List (Nat × Value)) (h : l.map (fun p => x p.1) = l.map (·.2)) (i : Nat) : look x l i = x i := by
 induction l with
 | nil => rfl
 | cons p l ih =>
   simp only [List.map_cons, List.cons.injEq] at h
   show (bif Nat.beq p.1 i then p.2 else look x l i) = x i
   cases hb : Nat.beq p.1 i with
   | true => have := Nat.eq_of_beq_eq_true hb; subst this; exact h.1.symm
   | false => exact ih h.2
theorem patch_eq (a : Act) (n : Nat) (l : List (Nat × Value)) (hs : a.tmps.size = n) (hd : a.defers = []) (h : l.map (fun p => dead a p.1) = l.map (·.2)) : a = patch (dead a) n l := by
 obtain ⟨tmps, defers⟩ := a
 simp only at hs hd
 subst hd
 unfold patch
 congr 1
 apply Array.ext'
 apply List.ext_getElem?
 intro i
 rw [frL_get, Nat.zero_add, look_dead _ _ h]
 by_cases hi : i < n
 · rw [if_pos hi]
   simp [dead, hs, hi]
 · rw [if_neg hi]
   simp [hs]; omega
theorem wp_reset {P : Program} {Q : Exit → Act → World → Prop} {a : Act} {w : World} {c : Code} (n : Nat) (l : List (Nat × Value)) (k : ∀ x, c.wp P Q (patch x n l) w) (hs : a.tmps.size = n := by kernel_rfl) (hd : a.defers = [] := by kernel_rfl) (h : l.map (fun p => dead a p.1) = l.map (·.2) := by kernel_rfl) : c.wp P Q a w := by
 have := k (dead a)
 rwa [← patch_eq a n l hs hd h] at this
/-! ### Steps that keep the frame so -/
def putL : Option Nat → Value → List (Nat × Value) → List (Nat × Value)
 | some d, v, l => (d, v) :: l
 | none, _, l => l
def okD (n : Nat) : Option Nat → Bool
 | some d => decide (d < n)
 | none => true
theorem put_patch (x : Nat → Value) (n : Nat) (l : List (Nat × Value)) (d : Option Nat) (v : Value) (h : okD n d = true) : (patch x n l).put d v = patch x n (putL d v l) := by
 cases d with
 | none => rfl
 | some d =>
   have hd : d < n := of_decide_eq_true h
   show ({ tmps := (patch x n l).tmps.setIfInBounds d v, defers := _ } : Act) = _
   unfold patch
   congr 1
   apply Array.ext'
   simp only [Array.toList_setIfInBounds]
   apply List.ext_getElem?
   intro i
   rw [List.getElem?_set, frL_get, frL_get, Nat.zero_add]
   have hlen : (frL (look x l) n 0).length = n := by
     have h1 := frL_get (look x l) n 0 n
     have h2 : n ≤ (frL (look x l) n 0).length ∨ (frL (look x l) n 0).length < n := by omega
     rcases h2 with h2 | h2
     · rw [if_neg (Nat.lt_irrefl n)] at h1
       have := List.getElem?_eq_none_iff.1 h1
       omega
     · have h3 := frL_get (look x l) n 0 (frL (look x l) n 0).length
       rw [if_pos h2, List.getElem?_eq_none (Nat.le_refl _)] at h3
       cases h3
   show _ = if i < n then some (bif Nat.beq d i then v else look x l i) else none
   by_cases e : d = i
   · subst e
     rw [if_pos rfl, if_pos (by rw [hlen]; exact hd), if_pos hd, Nat.beq_refl]; rfl
   · rw [if_neg e]
     have : Nat.beq d i = false := by
       cases hb : Nat.beq d i with
       | false => rfl
       | true => exact absurd (Nat.eq_of_beq_eq_true hb) e
     rw [this]; rfl
noncomputable def evP (x : Nat → Value) (n : Nat) (e : List (Nat × Value)) : Operand → Value
 | .tmp i => bif Nat.blt i n then look x e i else undef
 | y => (patch x 0 []).eval y
theorem patch_get (x : Nat → Value) (n : Nat) (e : List (Nat × Value)) (i : Nat) : (patch x n e).tmps[i]? = if i < n then some (look x e i) else none := by
 show (frL (look x e) n 0).toArray[i]? = _
 rw [List.getElem?_toArray, frL_get, Nat.zero_add]
theorem blt_dec (i n : Nat) : Nat.blt i n = decide (i < n) := by
 cases h : Nat.blt i n with
 | true => exact (decide_eq_true (by rw [Nat.blt_eq] at h; exact h)).symm
 | false => exact (decide_eq_false (fun hh => by rw [← Nat.blt_eq, h] at hh; cases hh)).symm
theorem eval_patch (x : Nat → Value) (n : Nat) (e : List (Nat × Value)) : (patch x n e).eval = evP x n e := by
 funext y
 cases y with
 | tmp i =>
   show (patch x n e).tmps.getD i undef = bif Nat.blt i n then look x e i else undef
   rw [Array.getD_eq_getD_getElem?, patch_get, blt_dec]
   by_cases h : i < n <;> simp [h]
 | _ => rfl
noncomputable def yieldP (ops : Array Oper) (x : Nat → Value) (n : Nat) (e : List (Nat × Value)) (j : Nat) : Option Bool :=
 match (ops[j]?).bind (·.dst) with
 | some d => if Nat.blt d n then (match look x e d with | .bool b => some b | _ => none) else none
 | none => none
theorem yield_patch (ops : Array Oper) (x : Nat → Value) (n : Nat) (e : List (Nat × Value)) : yielded ops (patch x n e).tmps = yieldP ops x n e := by
 funext j
 unfold yielded yieldP
 cases hd : (ops[j]?).bind (·.dst) with
 | none => rfl
 | some d =>
   show (match (patch x n e).tmps[d]? with | some (.bool b) => some b | _ => none) = (if Nat.blt d n = true then (match look x e d with | .bool b => some b | _ => none) else none)
   rw [patch_get, blt_dec]
   by_cases h : d < n
   · simp only [h, if_true, decide_true]
     cases look x e d <;> rfl
   · simp [h]
noncomputable def pureE (P : Program) (o : Oper) (ev : Operand → Value) : Option Value :=
 match pureVal P (execOp ev o) with
 | some (.value v) => some v
 | _ => none
theorem pureE_eq (P : Program) (o : Oper) (x : Nat → Value) (n : Nat) (e : List (Nat × Value)) : pureE P o (evP x n e) = pureOp P o (patch x n e) := by
 unfold pureE pureOp; rw [eval_patch] <;> rfl
noncomputable def runP (P : Program) (ops : Array Oper) (x : Nat → Value) (n : Nat) : Nat → List Oper → List (Nat × Value) → Option (List Oper × List (Nat × Value))
 | 0, l, e => some (l, e)
 | _ + 1, [], _ => none
 | k + 1, o :: l, e =>
   if okD n o.dst then
     if Region.wanted o (yieldP ops x n e) then
       match pureE P o (evP x n e) with
       | some v => runP P ops x n k l (putL o.dst v e)
       | none => none
     else runP P ops x n k l (putL o.dst undef e)
   else none
section
variable {P : Program} {ops : Array Oper} {rest l l' : List Oper} {o : Oper} {w w' : World} {Q : Exit → Act → World → Prop} {R : Value → World → Prop} {x : Nat → Value} {n : Nat} {e : List (Nat × Value)}
theorem wq_pr : ∀ (k : Nat) (l : List Oper) (e : List (Nat × Value)) (l' : List Oper) (e' : List (Nat × Value)), runP P ops x n k l e = some (l', e') → wpList P ops Q l' (patch x n e') w → wpList P ops Q l (patch x n e) w
 | 0, l, e, l', e', h, k => by simp only [runP, Option.some.injEq, Prod.mk.injEq] at h; obtain ⟨rfl, rfl⟩ := h; exact k
 | _ + 1, [], _, _, _, h, _ => by simp [runP] at h
 | m + 1, o :: l, e, l', e', h, k => by
   unfold runP at h
   split at h
   · rename_i hd
     split at h
     · rename_i hw
       rw [← yield_patch] at hw
       split at h
       · rename_i v hv
         rw [pureE_eq] at hv
         refine wpList_step fun K hK => ?_
         rw [if_pos hw]
         unfold Oper.wp
         rw [pureOp_run hv]
         refine hK _ _ ?_
         rw [put_patch _ _ _ _ _ hd]
         exact wq_pr m l _ l' e' h k
       · cases h
     · rename_i hw
       rw [← yield_patch] at hw
       refine wpList_step fun K hK => ?_
       rw [if_neg hw]
       refine hK _ _ ?_
       rw [put_patch _ _ _ _ _ hd]
       exact wq_pr m l _ l' e' h k
   · cases h
theorem wq_p (k : Nat) (vs : List (Nat × Value)) (hk : WL P ops Q (l.drop k) (patch x n (vs ++ e)) w) (h : runP P ops x n k l e = some (l.drop k, vs ++ e) := by kernel_rfl) : WL P ops Q l (patch x n e) w :=
 ⟨wq_pr k l e _ _ h hk.run⟩
theorem wq_to (d : Option Nat) (h : OpTo P o (patch x n e) w R) (k : ∀ v w', R v w' → WL P ops Q rest (patch x n (putL d v e)) w') (hd : o.dst = d := by kernel_rfl) (ho : okD n d = true := by kernel_rfl) (hw : Region.wanted o (yieldP ops x n e) = true := by kernel_rfl) : WL P ops Q (o :: rest) (patch x n e) w := by
 subst hd
 rw [← yield_patch] at hw
 exact wl_to hw h fun v w' hr => by rw [put_patch _ _ _ _ _ ho]; exact k v w' hr
theorem wq_v (d : Option Nat) (v : Value) (hv : (execOp (patch x n e).eval o).run P w = .ok (.value v) w) (k : WL P ops Q rest (patch x n (putL d v e)) w) (hd : o.dst = d := by kernel_rfl) (ho : okD n d = true := by kernel_rfl) (hw : Region.wanted o (yieldP ops x n e) = true := by kernel_rfl) : WL P ops Q (o :: rest) (patch x n e) w := by
 subst hd
 rw [← yield_patch] at hw
 exact wl_v hw v hv (by rw [put_patch _ _ _ _ _ ho]; exact k)
/-! ### Regions that draw -/
noncomputable def freeP (P : Program) (md : Region.Mode) (ops : Array Oper) (p : Nat) (x : Nat → Value) (n : Nat) : List Nat → Array Bool → List (Nat × Value) → Option (List (Nat × Value))
 | [], _, e => some e
 | i :: r, L, e =>
   match ops[i]? with
   | none => none
   | some o =>
     if (decide (i < p) && okD n o.dst && (Region.ready md ops L).contains i && Region.free md ops L i) then
       if Region.wanted o (yieldP ops x n e) then
         match pureE P o (evP x n e) with
         | some v => freeP P md ops p x n r (L.setIfInBounds i true) (putL o.dst v e)
         | none => none
       else freeP P md ops p x n r (L.setIfInBounds i true) (putL o.dst undef e)
     else none
variable {md : Region.Mode} {S : World → Prop} {p : Nat} {L : Array Bool}
theorem pQ_pr (hs : Region.noSelect ops = true) (hph : phaseB md ops p = true) (hQ : ∀ c d v a w, Q (.panic c) (Act.put a d v) w → Q (.panic c) a w) (hS : S w) (f : Nat) :
   ∀ (is : List Nat) (L : Array Bool) (e e' : List (Nat × Value)), freeP P md ops p x n is L e = some e' → wpAnyT P md ops Q S p f (marks L is) (patch x n e') w → wpAnyT P md ops Q S p (f + is.length) L (patch x n e) w
 | [], L, e, e', h, k => by simp only [freeP, Option.some.injEq] at h; subst h; exact k
 | i :: r, L, e, e', h, k => by
   unfold freeP at h
   split at h
   · cases h
   · rename_i o ho
     split at h
     · rename_i hc
       simp only [Bool.and_eq_true, decide_eq_true_eq] at hc
       obtain ⟨⟨⟨hip, hok⟩, hr⟩, hf⟩ := hc
       split at h
       · rename_i hw
         rw [← yield_patch] at hw
         split at h
         · rename_i v hv
           rw [pureE_eq] at hv
           exact pH_val o.dst v ho rfl hs hf hr hph (decide_eq_true hip) hQ hw hS (fun W _ => pureOp_run hv W) (by rw [put_patch _ _ _ _ _ hok]; exact pQ_pr hs hph hQ hS f r _ _ e' h k)
         · cases h
       · rename_i hw
         rw [← yield_patch] at hw
         exact pH_skip o.dst ho rfl hs hf hr hph (decide_eq_true hip) hQ (by simpa using hw) hS (by rw [put_patch _ _ _ _ _ hok]; exact pQ_pr hs hph hQ hS f r _ _ e' h k)
     · cases h
theorem pQ_p {m : Nat} (f : Nat) (is : List Nat) (vs : List (Nat × Value)) (L' : Array Bool) (hL : marks L is = L') (hn : m = f + is.length) (hs : Region.noSelect ops = true) (hph : phaseB md ops p = true) (hQ : ∀ c d v a w, Q (.panic c) (Act.put a d v) w → Q (.panic c) a w) (hS : S w)
   (h : freeP P md ops p x n is L e = some (vs ++ e)) (k : wpAnyT P md ops Q S p f L' (patch x n (vs ++ e)) w) : wpAnyT P md ops Q S p m L (patch x n e) w := by
 subst hL; subst hn; exact pQ_pr hs hph hQ hS f is L e _ h k
theorem pQ_v {f : Nat} (i : Nat) (d : Option Nat) (v : Value) (L' : Array Bool) (hL : marks L [i] = L') (hi : ops[i]? = some o) (hd : o.dst = d) (hok : okD n d = true) (hs : Region.noSelect ops = true) (hf : Region.free md ops L i = true) (hr : (Region.ready md ops L).contains i = true)
   (hph : phaseB md ops p = true) (hip : decide (i < p) = true) (hQ : ∀ c d v a w, Q (.panic c) (Act.put a d v) w → Q (.panic c) a w) (hw : Region.wanted o (yieldP ops x n e) = true) (hS : S w)
   (hv : ∀ W, S W → (execOp (patch x n e).eval o).run P W = .ok (.value v) W) (k : wpAnyT P md ops Q S p f L' (patch x n (putL d v e)) w) : wpAnyT P md ops Q S p (f + 1) L (patch x n e) w := by
 rw [← put_patch _ _ _ _ _ hok] at k
 rw [← yield_patch] at hw
 exact pH_v i d v L' hL hi hd hs hf hr hph hip hQ hw hS hv k
theorem pQ_to {f : Nat} (i : Nat) (d : Option Nat) (L' : Array Bool) (hL : marks L [i] = L') (hi : ops[i]? = some o) (hd : o.dst = d) (hok : okD n d = true) (hr : Region.ready md ops L = [i]) (hw : Region.wanted o (yieldP ops x n e) = true)
   (h : OpTo P o (patch x n e) w R) (k : ∀ v w', R v w' → (i < p → S w') ∧ wpAnyT P md ops Q S p f L' (patch x n (putL d v e)) w') : wpAnyT P md ops Q S p (f + 1) L (patch x n e) w :=
 pH_to i d L' hL hi hd hr (by rw [yield_patch]; exact hw) h fun v w' hr => by rw [put_patch _ _ _ _ _ hok]; exact k v w' hr
theorem pQ_op {f : Nat} (i : Nat) (d : Option Nat) (L' : Array Bool) (hL : marks L [i] = L') (hi : ops[i]? = some o) (hd : o.dst = d) (hok : okD n d = true) (hw : Region.wanted o (yieldP ops x n e) = true)
   (h : OpTo P o (patch x n e) w R) (k : ∀ v w', R v w' → (i < p → S w') ∧ wpAnyT P md ops Q S p f L' (patch x n (putL d v e)) w') :
   wpOp P ops Q i (fun a' w' => (i < p → S w') ∧ wpAnyT P md ops Q S p f (L.setIfInBounds i true) a' w') (patch x n e) w :=
 pH_op i d L' hL hi hd (by rw [yield_patch]; exact hw) h fun v w' hr => by rw [put_patch _ _ _ _ _ hok]; exact k v w' hr
theorem eq_is {v u : Value} (h : pureE P o (evP x n e) = some v) (hv : v = u) {W : World} : (execOp (patch x n e).eval o).run P W = .ok (.value u) W :=
 e_is (by rw [← pureE_eq]; exact h) hv
end
theorem eqI {P : Program} {o : Oper} {x : Nat → Value} {n : Nat} {e : List (Nat × Value)} {u : Value} (v : Value) (hv : v = u) {W : World} (h : pureE P o (evP x n e) = some v := by kernel_rfl) : (execOp (patch x n e).eval o).run P W = .ok (.value u) W := eq_is h hv
theorem pEq {a : Act} {l : List (Nat × Value)} (n : Nat) (hs : a.tmps.size = n := by kernel_rfl) (hd : a.defers = [] := by kernel_rfl) (h : l.map (fun p => dead a p.1) = l.map (·.2) := by kernel_rfl) : a = patch (dead a) n l := patch_eq a n l hs hd h
theorem wT {P : Program} {ops : Array Oper} {rest : List Oper} {o : Oper} {w : World} {Q : Exit → Act → World → Prop} {R : Value → World → Prop} {x : Nat → Value} {n : Nat} {e : List (Nat × Value)} (d : Nat) (h : OpTo P o (patch x n e) w R) (k : ∀ v w', R v w' → WL P ops Q rest (patch x n (putL (some d) v e)) w') (hd : o.dst = some d := by kernel_rfl) (ho : okD n (some d) = true := by kernel_rfl) (hw : Region.wanted o (yieldP ops x n e) = true := by kernel_rfl) : WL P ops Q (o :: rest) (patch x n e) w := wq_to (some d) h k hd ho hw
theorem wV {P : Program} {ops : Array Oper} {rest : List Oper} {o : Oper} {w : World} {Q : Exit → Act → World → Prop} {x : Nat → Value} {n : Nat} {e : List (Nat × Value)} (d : Nat) (v : Value) (hv : (execOp (patch x n e).eval o).run P w = .ok (.value v) w) (k : WL P ops Q rest (patch x n (putL (some d) v e)) w) (hd : o.dst = some d := by kernel_rfl) (ho : okD n (some d) = true := by kernel_rfl) (hw : Region.wanted o (yieldP ops x n e) = true := by kernel_rfl) : WL P ops Q (o :: rest) (patch x n e) w := wq_v (some d) v hv k hd ho hw
end
section
open Go.RowKit Go.QT
def fmask (l : List Nat) : Nat := l.foldl (fun m d => m ||| (1 <<< d)) 0
theorem bit1 (d i : Nat) : Nat.testBit (1 <<< d) i = decide (d = i) := by
 rw [Nat.one_shiftLeft, Nat.testBit_two_pow]
theorem fmask_go (l : List Nat) : ∀ (m i : Nat), Nat.testBit (l.foldl (fun m d => m ||| (1 <<< d)) m) i = (Nat.testBit m i || l.contains i) := by
 induction l with
 | nil => intro m i; simp
 | cons d l ih =>
   intro m i
   rw [List.foldl_cons, ih, Nat.testBit_or, bit1, List.contains_cons, Bool.or_assoc]
   congr 2
   rw [Bool.eq_iff_iff, decide_eq_true_eq, beq_iff_eq]; exact eq_comm
theorem fmask_bit (l : List Nat) (i : Nat) : Nat.testBit (fmask l) i = l.contains i := by unfold fmask; rw [fmask_go]; simp
def edgesOf (md : Region.Mode) (o : Oper) : List Nat := o.after.toList.filterMap fun e => if Region.binds md e then some e.on else none
def memN (i : Nat) : List Nat -> Bool
 | [] => false
 | d :: l => Nat.beq d i || memN i l
theorem memN_eq (i : Nat) : ∀ l : List Nat, memN i l = l.contains i
 | [] => rfl
 | d :: l => by
   rw [List.contains_cons, memN, memN_eq i l]
   congr 1
   rw [Bool.eq_iff_iff, beq_iff_eq]
   exact ⟨fun h => (Nat.eq_of_beq_eq_true h).symm, fun h => by subst h; exact Nat.beq_refl _⟩
def sumO (md : Region.Mode) (ops : Array Oper) (o : Oper) : Nat × List Nat × Nat := (match o.dst with | some d => d + 1 | none => 0, o.looksAt ops, fmask (edgesOf md o))
def sumOf (md : Region.Mode) (ops : Array Oper) : List (Nat × List Nat × Nat) := ops.toList.map (sumO md ops)
def apS (x y : Nat × List Nat × Nat) : Bool :=
 (match x.1 with | 0 => true | d + 1 => !(memN d y.2.1) && !(Nat.beq y.1 (d + 1))) && (match y.1 with | 0 => true | d + 1 => !(memN d x.2.1))
def goF (x : Nat × List Nat × Nat) (M i : Nat) : List (Nat × List Nat × Nat) -> Nat -> Bool
 | [], _ => true
 | y :: r, j => (Nat.beq j i || Nat.testBit M j || Nat.testBit y.2.2 i || apS x y) && goF x M i r (j + 1)
def freeS (sm : List (Nat × List Nat × Nat)) (M i : Nat) : Bool := match sm[i]? with | none => false | some x => goF x M i sm 0
def rdyY (M i : Nat) (y : Nat × List Nat × Nat) : Bool := !(Nat.testBit M i) && Nat.beq (y.2.2 &&& M) y.2.2
def rdyS (sm : List (Nat × List Nat × Nat)) (M i : Nat) : Bool := match sm[i]? with | none => false | some y => rdyY M i y
def goR (M : Nat) : List (Nat × List Nat × Nat) -> Nat -> List Nat
 | [], _ => []
 | y :: r, j => if rdyY M j y then j :: goR M r (j + 1) else goR M r (j + 1)
theorem ap_of (md : Region.Mode) (ops : Array Oper) (x y : Oper) (h : apS (sumO md ops x) (sumO md ops y) = true) : x.apart ops y = true := by
 unfold apS sumO at h
 unfold Oper.apart
 simp only at h
 cases hx : x.dst <;> cases hy : y.dst <;> simp only [hx, hy, memN_eq, Bool.and_eq_true, Bool.true_and, Bool.and_true] at h ⊢ <;> try trivial
 · rename_i d d'
   refine ⟨⟨h.1.1, ?_⟩, h.2⟩
   have h2 := h.1.2
   simp only [Bool.not_eq_true'] at h2
   have h3 : d' + 1 ≠ d + 1 := Nat.ne_of_beq_eq_false h2
   have hne : d' ≠ d := fun e => h3 (by rw [e])
   simpa using hne
theorem gofall (x : Nat × List Nat × Nat) (M i : Nat) : ∀ (sm : List (Nat × List Nat × Nat)) (k : Nat), goF x M i sm k = true -> ∀ j y, sm[j]? = some y -> (Nat.beq (k + j) i || Nat.testBit M (k + j) || Nat.testBit y.2.2 i || apS x y) = true
 | [], _, _, j, y, hy => by simp at hy
 | z :: r, k, h, j, y, hy => by
   unfold goF at h
   rw [Bool.and_eq_true] at h
   cases j with
   | zero => simp at hy; subst hy; exact h.1
   | succ j =>
     have := gofall x M i r (k + 1) h.2 j y (by simpa using hy)
     rwa [show k + 1 + j = k + (j + 1) by omega] at this
theorem bl_getD (n M i : Nat) (b : Bool) : (bl n M).getD i b = if i < n then Nat.testBit M i else b := by
 rw [Array.getD_eq_getD_getElem?]
 unfold bl
 rw [List.getElem?_toArray, List.getElem?_map]
 by_cases h : i < n
 · rw [List.getElem?_range h]; simp [h]
 · rw [List.getElem?_eq_none (by simpa using h)]; simp [h]
theorem sum_get {md : Region.Mode} {ops : Array Oper} {sm : List (Nat × List Nat × Nat)} (hs : sumOf md ops = sm) (i : Nat) : sm[i]? = (ops[i]?).map (sumO md ops) := by
 subst hs; unfold sumOf; rw [List.getElem?_map, Array.getElem?_toList]
theorem free_of {md : Region.Mode} {ops : Array Oper} {sm : List (Nat × List Nat × Nat)} {N M i : Nat} (hs : sumOf md ops = sm) (hn : ops.size = N) (h : freeS sm M i = true) : Region.free md ops (bl N M) i = true := by
 unfold freeS at h
 rw [sum_get hs] at h
 unfold Region.free
 cases ho : ops[i]? with
 | none => rw [ho] at h; cases h
 | some oi =>
   rw [ho] at h
   simp only [Option.map_some] at h
   simp only
   rw [List.all_eq_true]
   intro j hj
   have hj := List.mem_range.1 hj
   have hoj : ops[j]? = some ops[j] := Array.getElem?_eq_getElem hj
   have h2 := gofall _ M i sm 0 h j (sumO md ops ops[j]) (by rw [sum_get hs, hoj]; rfl)
   rw [Nat.zero_add] at h2
   rw [bl_getD, if_pos (by omega), hoj]
   simp only [Bool.or_eq_true] at h2 ⊢
   rcases h2 with ((h2 | h2) | h2) | h2
   · left; left; simpa using Nat.eq_of_beq_eq_true h2
   · left; right; exact h2
   · right; left
     have h3 : (edgesOf md ops[j]).contains i = true := by rw [← fmask_bit]; exact h2
     have h4 : i ∈ edgesOf md ops[j] := by simpa using h3
     unfold edgesOf at h4
     rw [List.mem_filterMap] at h4
     obtain ⟨e, he, hi⟩ := h4
     split at hi
     · rename_i hb
       injection hi with hi
       rw [Array.any_eq_true']
       exact ⟨e, by simpa using he, by rw [hb, Bool.true_and]; simpa using hi⟩
     · cases hi
   · right; right; exact ap_of md ops _ _ h2
theorem and_self_iff (m M : Nat) : Nat.beq (m &&& M) m = true ↔ ∀ i, Nat.testBit m i = true -> Nat.testBit M i = true := by
 constructor
 · intro h i hi
   have e := Nat.eq_of_beq_eq_true h
   have := congrArg (fun z => Nat.testBit z i) e
   simp only [Nat.testBit_and, hi, Bool.true_and] at this
   exact this
 · intro h
   have e : m &&& M = m := by
     apply Nat.eq_of_testBit_eq
     intro i
     rw [Nat.testBit_and]
     cases hm : Nat.testBit m i with
     | false => rfl
     | true => rw [h i hm]; rfl
   rw [e]; exact Nat.beq_refl m
theorem rdy_of {md : Region.Mode} {ops : Array Oper} {N M i : Nat} (hn : ops.size = N) (hM : M < 2 ^ N) (hi : i < N) :
   (!(bl N M).getD i true && ((ops[i]?).map (·.after.all fun e => !Region.binds md e || (bl N M).getD e.on false)).getD false) = rdyY M i (sumO md ops (ops[i]'(by omega))) := by
 have ho : ops[i]? = some ops[i] := Array.getElem?_eq_getElem (by omega)
 rw [bl_getD, if_pos hi, ho]
 unfold rdyY
 congr 1
 simp only [Option.map_some, Option.getD_some]
 rw [Bool.eq_iff_iff, and_self_iff, Array.all_eq_true']
 constructor
 · intro h j hj
   have h3 : (edgesOf md ops[i]).contains j = true := by rw [← fmask_bit]; exact hj
   have h4 : j ∈ edgesOf md ops[i] := by simpa using h3
   unfold edgesOf at h4
   rw [List.mem_filterMap] at h4
   obtain ⟨e, he, hj'⟩ := h4
   split at hj'
   · rename_i hb
     injection hj' with hj'
     have := h e (by simpa using he)
     rw [hb, bl_getD, hj'] at this
     by_cases hlt : j < N
     · simpa [hlt] using this
     · simp [hlt] at this
   · cases hj'
 · intro h e he
   cases hb : Region.binds md e with
   | false => rfl
   | true =>
     have h3 : e.on ∈ edgesOf md ops[i] := by
       unfold edgesOf
       rw [List.mem_filterMap]
       exact ⟨e, by simpa using he, by rw [if_pos hb]⟩
     have h4 := h e.on (by show Nat.testBit (fmask (edgesOf md ops[i])) e.on = true; rw [fmask_bit]; simpa using h3)
     rw [bl_getD]
     by_cases hlt : e.on < N
     · simp [hlt, h4]
     · have := Nat.testBit_lt_two_pow (x := M) (i := e.on) (Nat.lt_of_lt_of_le hM (Nat.pow_le_pow_right (by omega) (by omega)))
       rw [this] at h4; cases h4
theorem goR_filter (M : Nat) : ∀ (sm : List (Nat × List Nat × Nat)) (k : Nat), goR M sm k = (List.range' k sm.length).filter fun i => match sm[i - k]? with | some y => rdyY M i y | none => false
 | [], k => rfl
 | z :: r, k => by
   rw [List.length_cons, List.range'_succ, List.filter_cons]
   simp only [Nat.sub_self, List.getElem?_cons_zero]
   have e : (List.range' (k + 1) r.length).filter (fun i => match (z :: r)[i - k]? with | some y => rdyY M i y | none => false) = goR M r (k + 1) := by
     rw [goR_filter M r (k + 1)]
     apply List.filter_congr
     intro i hi
     have := (List.mem_range'_1.1 hi).1
     rw [show i - k = (i - (k + 1)) + 1 by omega, List.getElem?_cons_succ]
   rw [e]
   rfl
theorem ready_of {md : Region.Mode} {ops : Array Oper} {sm : List (Nat × List Nat × Nat)} {N M : Nat} (hs : sumOf md ops = sm) (hn : ops.size = N) (hM : Nat.blt M (2 ^ N) = true) : Region.ready md ops (bl N M) = goR M sm 0 := by
 have hM : M < 2 ^ N := by rw [Nat.blt_eq] at hM; exact hM
 rw [goR_filter]
 have hl : sm.length = ops.size := by subst hs; simp [sumOf]
 unfold Region.ready
 rw [hl, List.range_eq_range']
 apply List.filter_congr
 intro i hi
 have hi := (List.mem_range'_1.1 hi).2
 rw [rdy_of hn hM (by omega), Nat.sub_zero, sum_get hs, Array.getElem?_eq_getElem (by omega)]
 rfl
theorem rdy_mem {md : Region.Mode} {ops : Array Oper} {sm : List (Nat × List Nat × Nat)} {N M i : Nat} (hs : sumOf md ops = sm) (hn : ops.size = N) (hM : Nat.blt M (2 ^ N) = true) (h : rdyS sm M i = true) : (Region.ready md ops (bl N M)).contains i = true := by
 unfold rdyS at h
 rw [sum_get hs] at h
 cases ho : ops[i]? with
 | none => rw [ho] at h; cases h
 | some o =>
   rw [ho] at h
   have hi : i < ops.size := (Array.getElem?_eq_some_iff.1 ho).1
   have he : ops[i] = o := by rw [Array.getElem?_eq_getElem hi] at ho; injection ho
   have hM' : M < 2 ^ N := by rw [Nat.blt_eq] at hM; exact hM
   rw [List.contains_iff_mem]
   unfold Region.ready
   rw [List.mem_filter, List.mem_range]
   refine ⟨hi, ?_⟩
   rw [rdy_of hn hM' (by omega), he]
   exact h
theorem bl_set (N M i : Nat) : (bl N M).setIfInBounds i true = bl N (M ||| (1 <<< i)) := by
 apply Array.ext'
 simp only [Array.toList_setIfInBounds]
 apply List.ext_getElem?
 intro j
 unfold bl
 rw [List.getElem?_set]
 simp only [List.getElem?_map, List.length_map, List.length_range]
 by_cases hj : j < N
 · rw [List.getElem?_range hj]
   simp only [Option.map_some]
   rw [Nat.testBit_or, bit1]
   by_cases e : i = j
   · subst e; simp [hj]
   · simp [e]
 · rw [List.getElem?_eq_none (by simpa using hj)]
   by_cases e : i = j
   · subst e; simp [hj]
   · simp [e]
def maskOf (M : Nat) (is : List Nat) : Nat := is.foldl (fun M i => M ||| (1 <<< i)) M
theorem marks_bl (N : Nat) : ∀ (is : List Nat) (M : Nat), marks (bl N M) is = bl N (maskOf M is)
 | [], _ => rfl
 | i :: is, M => by
   show marks ((bl N M).setIfInBounds i true) is = _
   rw [bl_set, marks_bl N is]; rfl
noncomputable def freeR (P : Program) (ops : Array Oper) (sm : List (Nat × List Nat × Nat)) (p N : Nat) (x : Nat -> Value) (n : Nat) : List Nat -> Nat -> List (Nat × Value) -> Option (List (Nat × Value))
 | [], _, e => some e
 | i :: r, M, e =>
   match ops[i]? with
   | none => none
   | some o =>
     if (Nat.blt i p && okD n o.dst && rdyS sm M i && freeS sm M i && Nat.blt M (2 ^ N)) then
       if Region.wanted o (yieldP ops x n e) then
         match pureE P o (evP x n e) with
         | some v => freeR P ops sm p N x n r (M ||| (1 <<< i)) (putL o.dst v e)
         | none => none
       else freeR P ops sm p N x n r (M ||| (1 <<< i)) (putL o.dst undef e)
     else none
section
variable {P : Program} {ops : Array Oper} {o : Oper} {w w' : World} {Q : Exit -> Act -> World -> Prop} {R : Value -> World -> Prop} {x : Nat -> Value} {n : Nat} {e : List (Nat × Value)} {md : Region.Mode} {S : World -> Prop} {p N M : Nat} {sm : List (Nat × List Nat × Nat)}
/-- What is known of a region. -/
structure Rg (md : Region.Mode) (ops : Array Oper) (Q : Exit -> Act -> World -> Prop) (p N : Nat) (sm : List (Nat × List Nat × Nat)) : Prop where
 ns : Region.noSelect ops = true
 ph : phaseB md ops p = true
 sum : sumOf md ops = sm
 sz : ops.size = N
 hQ : ∀ c d v a w, Q (.panic c) (Act.put a d v) w -> Q (.panic c) a w
theorem free_freeR (hsum : sumOf md ops = sm) (hN : ops.size = N) : ∀ (is : List Nat) (M : Nat) (e e' : List (Nat × Value)), freeR P ops sm p N x n is M e = some e' -> freeP P md ops p x n is (bl N M) e = some e'
 | [], _, _, _, h => h
 | i :: r, M, e, e', h => by
   have h0 : freeR P ops sm p N x n (i :: r) M e = (match ops[i]? with
     | none => none
     | some o =>
       if (Nat.blt i p && okD n o.dst && rdyS sm M i && freeS sm M i && Nat.blt M (2 ^ N)) = true then
         if Region.wanted o (yieldP ops x n e) = true then
           (match pureE P o (evP x n e) with
           | some v => freeR P ops sm p N x n r (M ||| (1 <<< i)) (putL o.dst v e)
           | none => none)
         else freeR P ops sm p N x n r (M ||| (1 <<< i)) (putL o.dst undef e)
       else none) := rfl
   have g0 : freeP P md ops p x n (i :: r) (bl N M) e = (match ops[i]? with
     | none => none
     | some o =>
       if (decide (i < p) && okD n o.dst && (Region.ready md ops (bl N M)).contains i && Region.free md ops (bl N M) i) = true then
         if Region.wanted o (yieldP ops x n e) = true then
           (match pureE P o (evP x n e) with
           | some v => freeP P md ops p x n r ((bl N M).setIfInBounds i true) (putL o.dst v e)
           | none => none)
         else freeP P md ops p x n r ((bl N M).setIfInBounds i true) (putL o.dst undef e)
       else none) := rfl
   rw [h0] at h
   rw [g0]
   clear h0 g0
   generalize ops[i]? = oi at h ⊢
   cases oi with
   | none => exact h
   | some o =>
     by_cases hc : (Nat.blt i p && okD n o.dst && rdyS sm M i && freeS sm M i && Nat.blt M (2 ^ N)) = true
     · have h := (if_pos hc).symm.trans h
       simp only [Bool.and_eq_true] at hc
       obtain ⟨⟨⟨⟨h1, h2⟩, h3⟩, h4⟩, h5⟩ := hc
       rw [Nat.blt_eq] at h1
       refine (if_pos (by rw [decide_eq_true h1, h2, rdy_mem hsum hN h5 h3, free_of hsum hN h4]; rfl)).trans ?_
       by_cases hw : Region.wanted o (yieldP ops x n e) = true
       · have h := (if_pos hw).symm.trans h
         refine (if_pos hw).trans ?_
         generalize pureE P o (evP x n e) = ov at h ⊢
         cases ov with
         | none => exact h
         | some v =>
           have g := free_freeR hsum hN r _ _ e' h
           rw [← bl_set] at g
           exact g
       · have h := (if_neg hw).symm.trans h
         refine (if_neg hw).trans ?_
         have g := free_freeR hsum hN r _ _ e' h
         rw [← bl_set] at g
         exact g
     · have h := (if_neg hc).symm.trans h
       cases h
theorem pR_p {m : Nat} (f : Nat) (is : List Nat) (vs : List (Nat × Value)) (M' : Nat) (hs : Rg md ops Q p N sm) (hS : S w) (k : wpAnyT P md ops Q S p f (bl N M') (patch x n (vs ++ e)) w)
   (hM : maskOf M is = M' := by kernel_rfl) (hn : m = f + is.length := by kernel_rfl) (h : freeR P ops sm p N x n is M e = some (vs ++ e) := by kernel_rfl) : wpAnyT P md ops Q S p m (bl N M) (patch x n e) w :=
 pQ_p f is vs (bl N M') (by rw [marks_bl, hM]) hn hs.ns hs.ph hs.hQ hS (free_freeR hs.sum hs.sz is M e _ h) k
theorem pR_v {f : Nat} (i : Nat) (d : Option Nat) (v : Value) (M' : Nat) (hi : ops[i]? = some o) (hs : Rg md ops Q p N sm) (hS : S w)
   (hv : ∀ W, S W -> (execOp (patch x n e).eval o).run P W = .ok (.value v) W) (k : wpAnyT P md ops Q S p f (bl N M') (patch x n (putL d v e)) w)
   (hM : M ||| (1 <<< i) = M' := by kernel_rfl) (hd : o.dst = d := by kernel_rfl) (hok : okD n d = true := by kernel_rfl) (hf : (freeS sm M i && rdyS sm M i && Nat.blt M (2 ^ N) && Nat.blt i p) = true := by kernel_rfl) (hw : Region.wanted o (yieldP ops x n e) = true := by kernel_rfl) : wpAnyT P md ops Q S p (f + 1) (bl N M) (patch x n e) w := by
 simp only [Bool.and_eq_true, Nat.blt_eq] at hf
 obtain ⟨⟨⟨h1, h2⟩, h3⟩, h4⟩ := hf
 have h3' : Nat.blt M (2 ^ N) = true := by rw [Nat.blt_eq]; exact h3
 exact pQ_v i d v (bl N M') (by rw [marks_bl]; show bl N (M ||| (1 <<< i)) = _; rw [hM]) hi hd hok hs.ns (free_of hs.sum hs.sz h1) (rdy_mem hs.sum hs.sz h3' h2) hs.ph (decide_eq_true h4) hs.hQ hw hS hv k
theorem pR_to {f : Nat} (i : Nat) (d : Option Nat) (M' : Nat) (hi : ops[i]? = some o) (hs : Rg md ops Q p N sm)
   (h : OpTo P o (patch x n e) w R) (k : ∀ v w', R v w' -> (i < p -> S w') /\ wpAnyT P md ops Q S p f (bl N M') (patch x n (putL d v e)) w')
   (hM : M ||| (1 <<< i) = M' := by kernel_rfl) (hd : o.dst = d := by kernel_rfl) (hok : okD n d = true := by kernel_rfl) (hb : Nat.blt M (2 ^ N) = true := by kernel_rfl) (hr : goR M sm 0 = [i] := by kernel_rfl) (hw : Region.wanted o (yieldP ops x n e) = true := by kernel_rfl) : wpAnyT P md ops Q S p (f + 1) (bl N M) (patch x n e) w :=
 pQ_to i d (bl N M') (by rw [marks_bl]; show bl N (M ||| (1 <<< i)) = _; rw [hM]) hi hd hok (by rw [ready_of hs.sum hs.sz hb, hr]) hw h k
theorem pR_op {f : Nat} (i : Nat) (d : Option Nat) (M' : Nat) (hi : ops[i]? = some o)
   (h : OpTo P o (patch x n e) w R) (k : ∀ v w', R v w' -> (i < p -> S w') /\ wpAnyT P md ops Q S p f (bl N M') (patch x n (putL d v e)) w')
   (hM : M ||| (1 <<< i) = M' := by kernel_rfl) (hd : o.dst = d := by kernel_rfl) (hok : okD n d = true := by kernel_rfl) (hw : Region.wanted o (yieldP ops x n e) = true := by kernel_rfl) :
   wpOp P ops Q i (fun a' w' => (i < p -> S w') /\ wpAnyT P md ops Q S p f ((bl N M).setIfInBounds i true) a' w') (patch x n e) w :=
 pQ_op i d (bl N M') (by rw [marks_bl]; show bl N (M ||| (1 <<< i)) = _; rw [hM]) hi hd hok hw h k
theorem pR_or {f : Nat} (i j : Nat) (hs : Rg md ops Q p N sm)
   (h1 : wpOp P ops Q i (fun a' w' => (i < p -> S w') /\ wpAnyT P md ops Q S p f ((bl N M).setIfInBounds i true) a' w') (patch x n e) w)
   (h2 : wpOp P ops Q j (fun a' w' => (j < p -> S w') /\ wpAnyT P md ops Q S p f ((bl N M).setIfInBounds j true) a' w') (patch x n e) w) (hb : Nat.blt M (2 ^ N) = true := by kernel_rfl) (hr : goR M sm 0 = [i, j] := by kernel_rfl) : wpAnyT P md ops Q S p (f + 1) (bl N M) (patch x n e) w :=
 pH_or i j (by rw [ready_of hs.sum hs.sz hb, hr]) h1 h2
theorem pR_done {a : Act} (hs : Rg md ops Q p N sm) (h : Q .normal a w) (fuel : Nat) (hb : Nat.blt M (2 ^ N) = true := by kernel_rfl) (hr : goR M sm 0 = [] := by kernel_rfl) : wpAnyT P md ops Q S p fuel (bl N M) a w :=
 pH_done (by rw [ready_of hs.sum hs.sz hb, hr]) h fuel
theorem pR_go {F0 : Nat -> Prop} {w0 : World} {ro rs : List Res} (h : Hp F0 w0 w ro rs) {id : Nat} {l : List Oper} {a : Act} (p : Nat) (S : World -> Prop) (sm : List (Nat × List Nat × Nat)) (hn : l.length = N) (hQ : ∀ c d v a w, Q (.panic c) (Act.put a d v) w -> Q (.panic c) a w)
   (k : Rg .any l.toArray Q p N sm -> ∀ w', Hp F0 w0 w' ro rs -> wpAnyT P .any l.toArray Q S p N (bl N 0) a w')
   (hm : P.follows .mixedOrders = true := by kernel_rfl) (hL : Array.replicate N false = bl N 0 := by kernel_rfl) (hs : Region.noSelect l.toArray = true := by kernel_rfl) (hph : phaseB .any l.toArray p = true := by kernel_rfl) (hsum : sumOf .any l.toArray = sm := by kernel_rfl) : (Code.region id l.toArray true).wp P Q a w :=
 pH_go h p S hm hn hL hs hph fun h1 h2 w' hw => k ⟨h1, h2, hsum, by simpa using hn, hQ⟩ w' hw
end
end
section
open Go.RowKit Go.QT
/-- A slice reads as elements of sz cells. -/
structure RV (w : World) (sz : Nat) (A : Option Addr) (c : Nat) (xs : List (List Value)) : Prop where
 le : xs.length <= c
 cap : c <= maxLen
 len : ∀ x ∈ xs, x.length = sz
 at_ : xs ≠ [] -> ∃ b o, A = some ⟨b, o, none⟩ /\ b < w.heap.size /\ ∀ i x, xs[i]? = some x -> ∀ j u, x[j]? = some u -> w.cell? ⟨b, o + i * sz + j, none⟩ = some u
def ownA : Option Addr -> Option Nat := fun A => A.map (·.block)
def rRV (sz : Nat) (A : Option Addr) (c : Nat) (xs : List (List Value)) : Res where
 F := fun q => xs ≠ [] /\ ownA A = some q
 Φ := fun w => RV w sz A c xs
 lt := fun h q hq => by
   obtain ⟨b, o, rfl, hb, _⟩ := h.at_ hq.1
   have : b = q := by simpa [ownA] using hq.2
   omega
 keep := fun h hs hk => ⟨h.le, h.cap, h.len, fun hne => by
   obtain ⟨b, o, rfl, hb, hc⟩ := h.at_ hne
   exact ⟨b, o, rfl, by omega, fun i x hx j u hu => (World.cell?_of_block (hk b ⟨hne, rfl⟩)).trans (hc i x hx j u hu)⟩⟩
/-- The bytes as elements. -/
def bx (l : Bytes) : List (List Value) := l.map fun x => [.int .u8 (ub x)]
@[simp] theorem bx_len (l : Bytes) : (bx l).length = l.length := by simp [bx]
theorem bx_get (l : Bytes) (i : Nat) (hi : i < l.length) : (bx l)[i]? = some [.int .u8 (ub (gb l i))] := by simp [bx, gb, hi]
theorem SB.rv {w : World} {A : Option Addr} {n c : Nat} {l : Bytes} (h : SB w (.slice A n c) l) : RV w 1 A c (bx l) := by
 obtain ⟨A', c', e, hc, hm, hcell⟩ := h
 injection e with e1 e2 e3
 subst e1; subst e3
 refine ⟨by simpa using hc, hm, by simp [bx], fun hne => ?_⟩
 obtain ⟨b, o, rfl, hb, hcl⟩ := hcell (by rintro rfl; exact hne rfl)
 refine ⟨b, o, rfl, hb, fun i x hx j u hu => ?_⟩
 have hi : i < l.length := by have := (List.getElem?_eq_some_iff.1 hx).1; simpa using this
 rw [bx_get l i hi] at hx
 injection hx with hx
 subst hx
 have hj : j = 0 := by have := (List.getElem?_eq_some_iff.1 hu).1; simpa using this
 subst hj
 injection hu with hu
 subst hu
 simpa using hcl i hi
/-- Where an element lies. -/
def eAt (A : Option Addr) (k : Nat) : Value := match A with | some a => .pointer (some (a.add k)) | none => undef
section
variable {P : Program} {o : Oper} {a : Act} {w w' : World} {sz c : Nat} {A : Option Addr} {xs : List (List Value)}
/-- The place of an element. -/
theorem e_idx (h : RV w sz A c xs) (i : Nat) (hi : i < xs.length) (t : TypeId) (x y : Operand) (ho : o.op = .indexAddr t x y) (k : IntKind) (hx : a.eval x = .slice A xs.length c) (hy : a.eval y = .int k (i : Int)) (E : TypeId) (ht : P.underlying t = some (.slice E)) (hE : pureVal P (sizeOf E) = some sz) (W : World) :
   (execOp a.eval o).run P W = .ok (.value (eAt A (i * sz))) W := by
 obtain ⟨b, o', rfl, hb, hc⟩ := h.at_ (by rintro rfl; simp at hi)
 have h0 : (0 : Int) <= i /\ (i : Int) < xs.length := ⟨by omega, by omega⟩
 have h1 : (Instr.indexAt t (.slice (some ⟨b, o', none⟩) xs.length c) (.int k (i : Int))).run P W = .ok (eAt (some ⟨b, o', none⟩) (i * sz)) W := by
   simp [Instr.indexAt, asIntOf, run_underlying ht, hi, pureVal_run hE, eAt]
 unfold execOp
 simp only [ho, hx, hy, Sem.run_bind, h1, Result.andThen_ok, Sem.run_pure]
theorem OV.rv {base E : Nat} {A : Option Addr} {n : Nat} (h : OV w base E sz (.slice A n c) xs) : n = xs.length /\ RV w sz A c xs := by
 have hf := h.form
 obtain ⟨A', c', e, h1, h2⟩ := hf
 injection e with e1 e2 e3
 subst e1; subst e2; subst e3
 refine ⟨rfl, h1, h2, h.len, fun hne => ?_⟩
 have hpos : 0 < xs.length := by
   rcases Nat.eq_zero_or_pos xs.length with h0 | h0
   · exact absurd (List.eq_nil_of_length_eq_zero h0) hne
   · exact h0
 obtain ⟨g, cap, e, hb, hlt, _⟩ := h.at_ (i := 0) hpos
 injection e with e1 _ _
 subst e1
 refine ⟨g, 0, rfl, hlt, fun i x hx j u hu => ?_⟩
 have hi : i < xs.length := (List.getElem?_eq_some_iff.1 hx).1
 obtain ⟨g', cap', e', _, _, _, _, cur, hB, hcur⟩ := h.at_ hi
 injection e' with e1' _ _
 injection e1' with e1'
 injection e1' with e2'
 subst e2'
 have hxe : xs[i] = x := by rw [List.getElem?_eq_getElem hi] at hx; injection hx
 subst hxe
 have hj : j < sz := by rw [← h.len _ (List.getElem_mem hi)]; exact (List.getElem?_eq_some_iff.1 hu).1
 rw [Nat.zero_add, hB.cell, hcur j hj]
 exact hu
/-- append of one element, that lies in a block of its own, to a row of the call's own. -/
theorem x_push {F0 : Nat -> Prop} {w0 : World} {ro rs : List Res} (h : Hp F0 w0 w ro rs) (i j : Nat) {E : TypeId} {v : Value} {g : Nat} {T : TypeId} {news : List Value} (hi : rs[i]? = some (rOV E sz v xs)) (hj : rs[j]? = some (rBlk g T news)) (_hij : i ≠ j)
   (s x : Operand) (t : TypeId) (ho : o.op = .call { callee := .builtin .append, args := #[s, x], argTypes := #[t, t] }) (bytes : Nat) (z : Value) (ht : P.underlying t = some (.slice E)) (hinf : (P.info? E).map (fun i => (i.zero, i.size, i.bytes)) = some (some z, sz, bytes))
   (hzs : z.cells.size = sz) (hsz : 0 < sz) (hs : a.eval s = v) (c : Nat) (hx : a.eval x = .slice (some ⟨g, 0, none⟩) 1 c) (hn : news.length = sz) (h1 : ∀ u ∈ news, u.oneCell' = true)
   (hlen : (xs.length + 1) * bytes <= 140737488355328) (hlen2 : xs.length < maxLen) :
   OpTo P o a w (fun u w' => ∃ A cc, u = .slice A (xs ++ [news]).length cc /\ Hp F0 w0 w' ro (rs.set i (rOV E sz u (xs ++ [news])))) := by
 have hv : OV w 0 E sz v xs := h.own i _ hi
 have hb : Blk w g T news := h.own j _ hj
 obtain ⟨v', w', hrun, h2, h3, h4⟩ := OV.push (P := P) s x t ho 0 E sz bytes z ht hinf hzs hsz v xs hs hv g T news c hx hb hn h1 hlen hlen2 (Nat.zero_le _)
 obtain ⟨A, cc, e, _, _⟩ := h2.form
 refine OpTo.run v' hrun ⟨A, cc, e, h.upd i hi (Fr.of_grown h3 (fun q hq => .inl hq)) (rOV E sz v' (xs ++ [news])) h2 (fun q hq => ?_)⟩
 rcases h4 with h4 | h4
 · left; show v.ownBlock = some q; rw [← h4]; exact hq
 · right
   have : v'.ownBlock = some q := hq
   rw [h4] at this
   injection this with this
   omega
/-- A row of the call's own without elements. -/
theorem Hp.ovNil {F0 : Nat -> Prop} {w0 : World} {ro rs : List Res} (h : Hp F0 w0 w ro rs) (E sz : Nat) : Hp F0 w0 w ro (rOV E sz (.slice none 0 0) [] :: rs) :=
 h.newS (Below.refl _ _) _ (OV.nil w 0 E sz) (fun q hq => by simp [rOV, Value.ownBlock] at hq)
theorem Hp.obNil {F0 : Nat -> Prop} {w0 : World} {ro rs : List Res} (h : Hp F0 w0 w ro rs) : Hp F0 w0 w ro (rOB (.slice none 0 0) [] :: rs) :=
 h.newS (Below.refl _ _) _ (OB.nil w 0) (fun q hq => by simp [rOB, Value.ownBlock] at hq)
/-- A block of bytes becomes a row of the call's own. -/
theorem Hp.blkOB {F0 : Nat -> Prop} {w0 : World} {ro rs : List Res} (h : Hp F0 w0 w ro rs) (i : Nat) {g : Nat} (l : Bytes) (hi : rs[i]? = some (rBlk g 5 (vb l))) (hl : l.length <= maxLen) : Hp F0 w0 w ro (rs.set i (rOB (.slice (some ⟨g, 0, none⟩) l.length l.length) l)) := by
 have hb : Row w g 5 l := h.own i _ hi
 refine h.upd i hi (Fr.refl _ _) _ (OB.new w g l hl hb (Nat.zero_le _)) (fun q hq => .inl ?_)
 have : g = q := by simpa [rOB, Value.ownBlock] using hq
 exact this.symm
/-- append of bytes that are read to a row of the call's own. -/
theorem x_appB {F0 : Nat -> Prop} {w0 : World} {ro rs : List Res} (h : Hp F0 w0 w ro rs) (i : Nat) {v : Value} {l m : Bytes} (hi : rs[i]? = some (rOB v l)) (s x : Operand) (ho : o.op = .call { callee := .builtin .append, args := #[s, x], argTypes := #[22, 22] })
   (u : Value) (hs : a.eval s = v) (hx : a.eval x = u) (hu : SB w u m) (hlen : l.length + m.length <= 140737488355328) :
   OpTo Try.prog o a w (fun u w' => ∃ A cc, u = .slice A (l ++ m).length cc /\ Hp F0 w0 w' ro (rs.set i (rOB u (l ++ m)))) := by
 have hv : OB w 0 v l := h.own i _ hi
 obtain ⟨i0, hi0, hz0, hz1, hz2⟩ := info_parts i5
 obtain ⟨A, c, rfl, hc, hm, hcell⟩ := hu
 have hr := (SB.reads (w := w) (A := A) (n := m.length) (c := c) ⟨A, c, rfl, hc, hm, hcell⟩).2
 obtain ⟨v', w', hrun, h2, h3, h4⟩ := run_append_any (P := Try.prog) w 0 22 o.type 5 i0 _ 1 1 ty28 hi0 hz0 hz1 hz2 rfl (by omega) v l.length (vb l) hv w.heap.size A m.length c (vb m) hr (vb_ones m) (by unfold maxLen; omega) (by omega) (Nat.zero_le _)
 have h2' : OB w' 0 v' (l ++ m) := by
   unfold OB
   rw [List.length_append, vb_append]
   exact h2
 have hsb := SB.own h2'
 obtain ⟨A', c', e, _, _⟩ := hsb
 have hrun' : (execOp a.eval o).run Try.prog w = .ok (.value v') w' := by
   unfold execOp
   simp only [ho, resolve, invoke, builtin, Sem.run_bind, Sem.run_pure, Result.andThen_ok, List.map_toArray, List.map_cons, List.map_nil, hs, hx, hrun]
 refine OpTo.run v' hrun' ⟨A', c', e, h.upd i hi (Fr.of_grown h3 (fun q hq => .inl hq)) (rOB v' (l ++ m)) h2' (fun q hq => ?_)⟩
 rcases h4 with h4 | h4
 · left; show v.ownBlock = some q; rw [← h4]; exact hq
 · right
   have : v'.ownBlock = some q := hq
   rw [h4] at this
   injection this with this
   omega
/-- A call that leaves new bytes. -/
theorem x_bytes {F0 : Nat -> Prop} {w0 : World} {ro rs : List Res} (h : Hp F0 w0 w ro rs) {l : Bytes} (fn : FuncId) (al : List Value) (hp : pureVal P (execOp a.eval o) = some (.enter fn al.toArray)) (hc : Calls P fn al.toArray w (BPost w l)) :
   OpTo P o a w (fun u w' => ∃ A cc, u = .slice A l.length cc /\ Hp F0 w0 w' ro (rOB u l :: rs)) :=
 OpTo.enter fn al hp hc fun e w' hq => by
   obtain ⟨v, he, ho, hb⟩ := hq
   obtain ⟨A, cc, e2, _⟩ := ho.sb
   exact ⟨v, he, A, cc, e2, h.newS hb _ (ho.mono (Nat.zero_le _)) (fun q hq => (ho.own q hq).1)⟩
/-- A call that leaves nothing. -/
theorem x_apost {F0 : Nat -> Prop} {w0 : World} {ro rs : List Res} (h : Hp F0 w0 w ro rs) {l : Bytes} (fn : FuncId) (al : List Value) (hp : pureVal P (execOp a.eval o) = some (.enter fn al.toArray)) (hc : Calls P fn al.toArray w (APost w l)) :
   OpTo P o a w (fun u w' => u = .agg (vb l).toArray /\ Hp F0 w0 w' ro rs) :=
 OpTo.enter fn al hp hc fun _e _w' hq => ⟨_, hq.1, rfl, h.below hq.2⟩
theorem x_vpost {F0 : Nat -> Prop} {w0 : World} {ro rs : List Res} (h : Hp F0 w0 w ro rs) {v : Value} (fn : FuncId) (al : List Value) (hp : pureVal P (execOp a.eval o) = some (.enter fn al.toArray)) (hc : Calls P fn al.toArray w (VPost w v)) :
   OpTo P o a w (fun u w' => u = v /\ Hp F0 w0 w' ro rs) :=
 OpTo.enter fn al hp hc fun e w' hq => ⟨_, hq.1, rfl, by rw [← hq.2]; exact h⟩
/-- []byte(s). -/
theorem x_conv {F0 : Nat -> Prop} {w0 : World} {ro rs : List Res} (h : Hp F0 w0 w ro rs) (x : Operand) (ho : o.op = .convert 9 22 x) (s : ByteArray) (hx : a.eval x = .string s) (hs : s.size <= maxLen) :
   OpTo Try.prog o a w (fun u w' => ∃ A cc, u = .slice A s.data.toList.length cc /\ Hp F0 w0 w' (rSB u s.data.toList :: ro) rs) := by
 obtain ⟨v, w', hrun, hsb, hb, g, c, hg, hf⟩ := conv_sb s w hs
 have hr : (execOp a.eval o).run Try.prog w = .ok (.value v) w' := by
   unfold execOp
   simp only [ho, hx, Sem.run_bind, hrun, Result.andThen_ok, Sem.run_pure]
 refine OpTo.run v hr ⟨some ⟨g, 0, none⟩, c, by rw [hf]; simp, h.newR hb _ hsb (fun q hq => ?_)⟩
 have h2 : v.ownBlock = some q := hq.2
 rw [hf] at h2
 have : g = q := by simpa [Value.ownBlock] using h2
 omega
end
end
section
open Go.RowKit Go.QT
end
section
open Go.RowKit Go.QT
section
variable {F0 F : Nat -> Prop} {w0 w w' : World} {ro rs : List Res} {tb : Nat} {s s2 : STab} {o : Oper} {a : Act} {v : Value} {e : Ending}
theorem x_snew (h : Hp F0 w0 w ro rs) (hp : pureVal Try.prog (execOp a.eval o) = some (.enter 8 #[])) :
   OpTo Try.prog o a w (fun u w' => ∃ tb F, u = pt tb 0 /\ Hp F0 w0 w' ro (rTab F tb STab.empty :: rs)) :=
 OpTo.enter 8 [] hp (snew_any w) fun e w' hq => by
   obtain ⟨tb, F, he, hT, hF, hb⟩ := hq
   exact ⟨_, he, tb, F, rfl, h.newS hb (rTab F tb STab.empty) hT hF⟩
/-- A method that answers a key's mark. -/
theorem x_tkey (h : Hp F0 w0 w ro rs) (i : Nat) (hi : rs[i]? = some (rTab F tb s)) (fn : FuncId) (al : List Value) (hp : pureVal Try.prog (execOp a.eval o) = some (.enter fn al.toArray)) {n : Nat}
   (hc : TabAt w F tb s -> Calls Try.prog fn al.toArray w (TPost w F tb s2 (.agg (vb (mkB 107 n)).toArray))) :
   OpTo Try.prog o a w (fun u w' => ∃ K F' s', u = .agg (vb (kl K)).toArray /\ kl K = mkB 107 n /\ s' = s2 /\ Hp F0 w0 w' ro (rs.set i (rTab F' tb s'))) :=
 (x_tab h i hi fn al hp hc).mono fun u w' hr => by
   obtain ⟨hu, F', h'⟩ := hr
   obtain ⟨K, hK⟩ := kl_of (mkB 107 n) (mkB_len _ _)
   exact ⟨K, F', s2, by rw [hu, hK], hK.symm, rfl, h'⟩
theorem x_fresh (h : Hp F0 w0 w ro rs) (i : Nat) (hi : rs[i]? = some (rTab F tb s)) (hp : pureVal Try.prog (execOp a.eval o) = some (.enter 18 #[pt tb 0])) (hn : s.keys.length < 1000000) :
   OpTo Try.prog o a w (fun u w' => ∃ K F' s', u = .agg (vb (kl K)).toArray /\ kl K = mkB 107 (s.keys.length + 1) /\ s' = s.add SFrom.fresh /\ Hp F0 w0 w' ro (rs.set i (rTab F' tb s'))) :=
 x_tkey h i hi 18 [pt tb 0] hp fun hT => fresh_any F tb s w hT hn
theorem x_text (h : Hp F0 w0 w ro rs) (i : Nat) (hi : rs[i]? = some (rTab F tb s)) (p q : ByteArray) (hp : pureVal Try.prog (execOp a.eval o) = some (.enter 12 #[pt tb 0, .string p, .string q])) (h1 : p.size <= 1000000) (h2 : q.size <= 1000000) (hn : s.keys.length < 1000000) :
   OpTo Try.prog o a w (fun u w' => ∃ K' F' s', u = .agg (vb (kl K')).toArray /\ kl K' = mkB 107 (s.num (textF p q)) /\ s' = s.made (textF p q) /\ Hp F0 w0 w' ro (rs.set i (rTab F' tb s'))) :=
 x_tkey h i hi 12 [pt tb 0, .string p, .string q] hp fun hT => text_any F tb s p q w hT h1 h2 hn
theorem x_nkeys (h : Hp F0 w0 w ro rs) (i : Nat) (hi : rs[i]? = some (rTab F tb s)) (hp : pureVal Try.prog (execOp a.eval o) = some (.enter 26 #[pt tb 0])) :
   OpTo Try.prog o a w (fun u w' => u = .int .i64 (s.keys.length : Int) /\ Hp F0 w0 w' ro rs) :=
 x_vpost h 26 [pt tb 0] hp (nkeys_any F tb s w (h.own i _ hi))
/-- A call that answers sixteen bytes. -/
theorem x_key (h : Hp F0 w0 w ro rs) {l : Bytes} (fn : FuncId) (al : List Value) (hp : pureVal Try.prog (execOp a.eval o) = some (.enter fn al.toArray)) (hl : l.length = 16) (hc : Calls Try.prog fn al.toArray w (APost w l)) :
   OpTo Try.prog o a w (fun u w' => ∃ K, u = .agg (vb (kl K)).toArray /\ kl K = l /\ Hp F0 w0 w' ro rs) :=
 (x_apost h fn al hp hc).mono fun u w' hr => by
   obtain ⟨K, hK⟩ := kl_of l hl
   exact ⟨K, by rw [← hK]; exact hr.1, hK.symm, hr.2⟩
theorem x_nth (h : Hp F0 w0 w ro rs) (n : Nat) (hp : pureVal Try.prog (execOp a.eval o) = some (.enter 28 #[pt tb 0, .int .i64 (n : Int)])) (hn : n < 9223372036854775808) :
   OpTo Try.prog o a w (fun u w' => ∃ K, u = .agg (vb (kl K)).toArray /\ kl K = mkB 107 n /\ Hp F0 w0 w' ro rs) :=
 x_key h 28 [pt tb 0, .int .i64 (n : Int)] hp (mkB_len _ _) (nth_any n hn tb w)
theorem e_kne (K L : Fin 16 -> UInt8) (t t' : TypeId) (x y : Operand) (ho : o.op = .binOp .neq t x y t') (hx : a.eval x = .agg (vb (kl K)).toArray) (hy : a.eval y = .agg (vb (kl L)).toArray)
   (ht : Try.prog.underlying t = some (.array 16 5)) (hg : Try.prog.eqGuardType Try.prog.depth t = false) (b : Bool) (hb : decide (kl K ≠ kl L) = b) (W : World) :
   (execOp a.eval o).run Try.prog W = .ok (.value (.bool b)) W := by
 subst hb
 rw [exec_ne16 t t' x y ho (kl K) (kl L) hx hy ht hg (kl_len K) (kl_len L) W]
 by_cases h : kl K = kl L <;> simp [h]
theorem e_min (x y : Operand) (ts : Array TypeId) (ho : o.op = .call { callee := .builtin .min, args := #[x, y], argTypes := ts }) (k k' : IntKind) (m n : Int) (hx : a.eval x = .int k m) (hy : a.eval y = .int k' n) (r : Int) (hr : (if n < m then n else m) = r) (W : World) :
   (execOp a.eval o).run Try.prog W = .ok (.value (.int k r)) W := by
 subst hr
 unfold execOp
 simp only [ho, resolve, invoke, builtin, Sem.run_bind, Sem.run_pure, Result.andThen_ok, List.map_toArray, List.map_cons, List.map_nil, hx, hy, run_min_int2]
/-- Keys of one text are one. -/
theorem kl_inj {K L : Fin 16 -> UInt8} (h : kl K = kl L) : K = L := by
 funext i
 have h2 : (kl K)[i.val]? = (kl L)[i.val]? := by rw [h]
 unfold kl at h2
 rw [List.getElem?_ofFn, List.getElem?_ofFn, dif_pos i.isLt, dif_pos i.isLt] at h2
 exact Option.some.inj h2
/-- Bytes that stand in the program. -/
theorem x_bsl (h : Hp F0 w0 w ro rs) (l : Bytes) (hn : newVal Try.prog (execOp a.eval o) = some (.cells (vb l).toArray 5, fun r => some (.value (.slice (some ⟨r, 0, none⟩) l.length l.length)))) :
   OpTo Try.prog o a w (fun v w' => ∃ g, v = .slice (some ⟨g, 0, none⟩) l.length l.length /\ w' = w.alloc (.cells (vb l).toArray 5) /\ g = w.heap.size /\ Hp F0 w0 w ro rs /\ Hp F0 w0 w' ro (rBlk g 5 (vb l) :: rs)) :=
 OpTo.run (.slice (some ⟨w.heap.size, 0, none⟩) l.length l.length) (newVal_run hn w rfl) ⟨_, rfl, rfl, rfl, h, h.alloc 5 (vb l)⟩
/-- A block of bytes, read. -/
theorem SB.blk {g : Nat} {T : TypeId} {l : Bytes} {n c : Nat} (hb : Blk w g T (vb l)) (hn : n = l.length) (hc : decide (n <= c) = true) (hm : decide (c <= maxLen) = true) : SB w (.slice (some ⟨g, 0, none⟩) n c) l := by
 subst hn
 refine ⟨_, _, rfl, of_decide_eq_true hc, of_decide_eq_true hm, fun _ => ⟨g, 0, rfl, hb.lt, fun i hi => ?_⟩⟩
 rw [hb.cell, Nat.zero_add]
 exact vb_get l i hi
theorem SB.blk16 {g : Nat} {T : TypeId} {K : Fin 16 -> UInt8} (hb : Blk w g T (vb (kl K))) : SB w (.slice (some ⟨g, 0, none⟩) 16 16) (kl K) :=
 SB.blk hb (kl_len K).symm (by decide) (by decide)
end
end
section

end
section
open Go.RowKit Go.QT
section
variable {P : Program} {o : Oper} {a : Act} {w w' w0 : World} {sz c : Nat} {A : Option Addr} {xs : List (List Value)} {F0 : Nat → Prop} {ro rs : List Res}
theorem RV.lenIs {n : Nat} (h : RV w sz A c xs) (hn : xs.length = n) : xs.length = n ∧ RV w sz A c xs := ⟨hn, h⟩
theorem e_cut_lh {v : Value} {l : Bytes} (h : SB w v l) (x lo hi : Operand) (ho : o.op = .slice 22 x (some lo) (some hi) none) (hx : a.eval x = v) (k k' : IntKind) (i j : Nat) (hlo : a.eval lo = .int k (i : Int)) (hhi : a.eval hi = .int k' (j : Int)) (h1 : i ≤ j) (h2 : j ≤ l.length) (W : World) :
   (execOp a.eval o).run Try.prog W = .ok (.value (cutS v i j)) W :=
 exec_cut_lh x lo hi ho v l hx h k k' (i : Int) (j : Int) hlo hhi (by omega) (by omega) (by omega) W
theorem e_cut_h {v : Value} {l : Bytes} (h : SB w v l) (x hi : Operand) (ho : o.op = .slice 22 x none (some hi) none) (hx : a.eval x = v) (k' : IntKind) (j : Nat) (hhi : a.eval hi = .int k' (j : Int)) (h2 : j ≤ l.length) (W : World) :
   (execOp a.eval o).run Try.prog W = .ok (.value (cutS v 0 j)) W :=
 exec_cut_h x hi ho v l hx h k' (j : Int) hhi (by omega) (by omega) W
theorem e_cut_l {v : Value} {l : Bytes} (h : SB w v l) (x lo : Operand) (ho : o.op = .slice 22 x (some lo) none none) (hx : a.eval x = v) (k : IntKind) (i : Nat) (hlo : a.eval lo = .int k (i : Int)) (h2 : i ≤ l.length) (W : World) :
   (execOp a.eval o).run Try.prog W = .ok (.value (cutS v i l.length)) W :=
 exec_cut_l x lo ho v l hx h k (i : Int) hlo (by omega) (by omega) W
theorem e_idxN (h : RV w sz A c xs) (i n : Nat) (hn : xs.length = n) (hi : i < n) (t : TypeId) (x y : Operand) (ho : o.op = .indexAddr t x y) (k : IntKind) (hx : a.eval x = .slice A n c) (hy : a.eval y = .int k (i : Int)) (E : TypeId) (ht : P.underlying t = some (.slice E)) (hE : pureVal P (sizeOf E) = some sz) (W : World) :
   (execOp a.eval o).run P W = .ok (.value (eAt A (i * sz))) W := by
 subst hn
 exact e_idx h i hi t x y ho k hx hy E ht hE W
theorem eAt_at (h : RV w sz A c xs) (i : Nat) (x : List Value) (hxi : xs[i]? = some x) (j : Nat) : ∃ b k, A = some ⟨b, k, none⟩ ∧ eAt A (i * sz + j) = pt b (k + (i * sz + j)) ∧ ∀ m u, x[j + m]? = some u → w.cell? ⟨b, k + (i * sz + j) + m, none⟩ = some u := by
 have hi : i < xs.length := (List.getElem?_eq_some_iff.1 hxi).1
 obtain ⟨b, o', rfl, hb, hc⟩ := h.at_ (by rintro rfl; simp at hi)
 refine ⟨b, o', rfl, ?_, fun m u hu => ?_⟩
 · unfold eAt pt
   by_cases h0 : i * sz + j = 0
   · rw [h0]; simp [Addr.add]
   · simp only [Addr.add]
     simp
     intro h2 h3; exact h0 (by omega)
 · have := hc i x hxi (j + m) u hu
   rw [show o' + (i * sz + j) + m = o' + i * sz + (j + m) by omega]
   exact this
/-- A cell of an element: its j-th. -/
theorem e_elemN (h : RV w sz A c xs) (i j : Nat) (x : List Value) (hxi : xs[i]? = some x) (t : TypeId) (p : Operand) (ho : o.op = .load t p) (v : Value) (hx : a.eval p = eAt A (i * sz + j)) (hv : x[j]? = some v) (ht : pureVal P (isAgg t) = some false) :
   (execOp a.eval o).run P w = .ok (.value v) w := by
 obtain ⟨b, k, rfl, e, hc⟩ := eAt_at h i x hxi j
 have hcell : w.cell? ⟨b, k + (i * sz + j), none⟩ = some v := by simpa using hc 0 v hv
 have hl : (loadVar t ⟨b, k + (i * sz + j), none⟩).run P w = .ok v w := by simp [loadVar, pureVal_run ht, hcell]
 unfold execOp
 rw [e] at hx
 simp only [ho, hx, pt, Instr.loadAt, Instr.sureAddr, Sem.run_bind, Sem.run_pure, Result.andThen_ok, hl]
/-- Cells of an element, from the j-th on. -/
theorem e_elemsN (h : RV w sz A c xs) (i j : Nat) (x : List Value) (hxi : xs[i]? = some x) (t : TypeId) (p : Operand) (ho : o.op = .load t p) (ds : List Value) (hx : a.eval p = eAt A (i * sz + j)) (hv : (x.drop j).take ds.length = ds) (hB : rowB P t ds.length = true) :
   (execOp a.eval o).run P w = .ok (.value (.agg ds.toArray)) w := by
 obtain ⟨b, k, rfl, e, hc⟩ := eAt_at h i x hxi j
 obtain ⟨d, hu, hr, hs⟩ := rowB_spec hB
 have hl := run_loadVar_mid (P := P) w b (k + (i * sz + j)) t ds d (fun m v hm => hc m v (slice_get x j ds.length m v (by rw [hv]; exact hm))) hu hr hs
 unfold execOp
 rw [e] at hx
 simp only [ho, hx, pt, Instr.loadAt, Instr.sureAddr, Sem.run_bind, Sem.run_pure, Result.andThen_ok, hl]
/-- The place of an element's field. -/
theorem e_fldN (h : RV w sz A c xs) (i j k : Nat) (x : List Value) (hxi : xs[i]? = some x) (p : Operand) (hx : a.eval p = eAt A (i * sz + j)) (hf : ∀ b n, pureVal P (execOp (fun _ => pt b n) o) = some (.value (pt b (n + k)))) (hE : ∀ ev : Operand → Value, execOp ev o = execOp (fun _ => ev p) o) (W : World) :
   (execOp a.eval o).run P W = .ok (.value (eAt A (i * sz + (j + k)))) W := by
 obtain ⟨b, n, rfl, e, _⟩ := eAt_at h i x hxi j
 have e2 : eAt (some ⟨b, n, none⟩) (i * sz + (j + k)) = pt b (n + (i * sz + (j + k))) := by
   unfold eAt pt
   by_cases h0 : i * sz + (j + k) = 0
   · rw [h0]; simp [Addr.add]
   · simp only [Addr.add]
     simp
     intro h2 h3 h4; exact absurd (show i * sz + (j + k) = 0 by omega) h0
 rw [hE, hx, e, e2, show n + (i * sz + (j + k)) = n + (i * sz + j) + k by omega]
 exact pureVal_run (hf _ _) W
/-- A new slice of values. -/
theorem x_bs (h : Hp F0 w0 w ro rs) (T : TypeId) (cs : List Value) (n : Nat) (hn : newVal P (execOp a.eval o) = some (.cells cs.toArray T, fun r => some (.value (.slice (some ⟨r, 0, none⟩) n n)))) :
   OpTo P o a w (fun v w' => ∃ g, v = .slice (some ⟨g, 0, none⟩) n n ∧ Hp F0 w0 w' ro (rBlk g T cs :: rs)) :=
 OpTo.run (.slice (some ⟨w.heap.size, 0, none⟩) n n) (newVal_run hn w rfl) ⟨_, rfl, h.alloc T cs⟩
theorem SB.rvn {l : Bytes} {n : Nat} (h : SB w (.slice A n c) l) : (bx l).length = n ∧ RV w 1 A c (bx l) := by
 obtain ⟨A', c', e, h1, h2, h3⟩ := id h
 injection e with e1 e2 e3
 subst e2
 exact ⟨bx_len l, SB.rv h⟩
theorem OV.rvn {base E : Nat} {n : Nat} (h : OV w base E sz (.slice A n c) xs) : xs.length = n ∧ RV w sz A c xs := ⟨(OV.rv h).1.symm, (OV.rv h).2⟩
/-- append of one element, its answer as one likes to spell it. -/
theorem x_pushG (h : Hp F0 w0 w ro rs) (i j : Nat) {E : TypeId} {v : Value} {g : Nat} {T : TypeId} {news : List Value} (hi : rs[i]? = some (rOV E sz v xs)) (hj : rs[j]? = some (rBlk g T news)) (hij : decide (i ≠ j) = true)
   (s x : Operand) (t : TypeId) (ho : o.op = .call { callee := .builtin .append, args := #[s, x], argTypes := #[t, t] }) (bytes : Nat) (z : Value) (ht : P.underlying t = some (.slice E)) (hinf : (P.info? E).map (fun i => (i.zero, i.size, i.bytes)) = some (some z, sz, bytes))
   (hzs : z.cells.size = sz) (hsz : decide (0 < sz) = true) (hs : a.eval s = v) (c : Nat) (hx : a.eval x = .slice (some ⟨g, 0, none⟩) 1 c) (hn : news.length = sz) (h1 : news.all (·.oneCell') = true)
   (hlen : (xs.length + 1) * bytes ≤ 140737488355328) (hlen2 : xs.length < maxLen) (ys : List (List Value)) (n : Nat) (hys : ys = xs ++ [news]) (hyn : ys.length = n) :
   OpTo P o a w (fun u w' => ∃ A cc, u = .slice A n cc ∧ Hp F0 w0 w' ro (rs.set i (rOV E sz (.slice A n cc) ys))) := by
 subst hys; subst hyn
 refine (x_push h i j hi hj (of_decide_eq_true hij) s x t ho bytes z ht hinf hzs (of_decide_eq_true hsz) hs c hx hn (by simpa using h1) hlen hlen2).mono fun u w' hr => ?_
 obtain ⟨A, cc, rfl, h'⟩ := hr
 exact ⟨A, cc, rfl, h'⟩
theorem x_appG (h : Hp F0 w0 w ro rs) (i : Nat) {v : Value} {l m : Bytes} (hi : rs[i]? = some (rOB v l)) (s x : Operand) (ho : o.op = .call { callee := .builtin .append, args := #[s, x], argTypes := #[22, 22] })
   (u : Value) (hs : a.eval s = v) (hx : a.eval x = u) (hu : SB w u m) (hlen : l.length + m.length ≤ 140737488355328) (r : Bytes) (n : Nat) (hr : r = l ++ m) (hn : r.length = n) :
   OpTo Try.prog o a w (fun u w' => ∃ A cc, u = .slice A n cc ∧ Hp F0 w0 w' ro (rs.set i (rOB (.slice A n cc) r))) := by
 subst hr; subst hn
 refine (x_appB h i hi s x ho u hs hx hu hlen).mono fun u w' hr => ?_
 obtain ⟨A, cc, rfl, h'⟩ := hr
 exact ⟨A, cc, rfl, h'⟩
end
theorem xPu {P : Program} {F0 : Nat → Prop} {w0 w : World} {ro rs : List Res} {sz : Nat} {xs : List (List Value)} {a : Act} {o : Oper} (h : Hp F0 w0 w ro rs) (i j : Nat) {E : TypeId} {v : Value} {g : Nat} {T : TypeId} {news : List Value} (hi : rs[i]? = some (rOV E sz v xs)) (hj : rs[j]? = some (rBlk g T news)) (s x : Operand) (t : TypeId) (bytes : Nat) (z : Value) (hlen : (xs.length + 1) * bytes ≤ 140737488355328) (hlen2 : xs.length < maxLen) (ys : List (List Value)) (n : Nat) (hij : decide (i ≠ j) = true := by kernel_rfl)
    (ho : o.op = .call { callee := .builtin .append, args := #[s, x], argTypes := #[t, t] } := by kernel_rfl) (ht : P.underlying t = some (.slice E) := by kernel_rfl) (hinf : (P.info? E).map (fun i => (i.zero, i.size, i.bytes)) = some (some z, sz, bytes) := by kernel_rfl) (hzs : z.cells.size = sz := by kernel_rfl) (hsz : decide (0 < sz) = true := by kernel_rfl) (hs : a.eval s = v := by kernel_rfl) (hx : a.eval x = .slice (some ⟨g, 0, none⟩) 1 1 := by kernel_rfl) (hn : news.length = sz := by kernel_rfl) (h1 : news.all (·.oneCell') = true := by kernel_rfl) (hys : ys = xs ++ [news] := by rfl) (hyn : ys.length = n := by rfl) :
    OpTo P o a w (fun u w' => ∃ A cc, u = .slice A n cc ∧ Hp F0 w0 w' ro (rs.set i (rOV E sz (.slice A n cc) ys))) := x_pushG h i j hi hj hij s x t ho bytes z ht hinf hzs hsz hs 1 hx hn h1 hlen hlen2 ys n hys hyn
theorem eIx {P : Program} {o : Oper} {a : Act} {w : World} {sz c : Nat} {A : Option Addr} {xs : List (List Value)} (h : RV w sz A c xs) (i n : Nat) (hn : xs.length = n) (hi : i < n) (t : TypeId) (x y : Operand) (k : IntKind) (E : TypeId) {W : World} (ho : o.op = .indexAddr t x y := by kernel_rfl) (hx : a.eval x = .slice A n c := by kernel_rfl) (hy : a.eval y = .int k (i : Int) := by kernel_rfl) (ht : P.underlying t = some (.slice E) := by kernel_rfl) (hE : pureVal P (sizeOf E) = some sz := by kernel_rfl) :
    (execOp a.eval o).run P W = .ok (.value (eAt A (i * sz))) W := e_idxN h i n hn hi t x y ho k hx hy E ht hE W
theorem eEl {P : Program} {o : Oper} {a : Act} {w : World} {sz c : Nat} {A : Option Addr} {xs : List (List Value)} (h : RV w sz A c xs) (i j : Nat) (x : List Value) (hxi : xs[i]? = some x) (t : TypeId) (p : Operand) (v : Value) (ho : o.op = .load t p := by kernel_rfl) (hx : a.eval p = eAt A (i * sz + j) := by kernel_rfl) (hv : x[j]? = some v := by kernel_rfl) (ht : pureVal P (isAgg t) = some false := by kernel_rfl) :
    (execOp a.eval o).run P w = .ok (.value v) w := e_elemN h i j x hxi t p ho v hx hv ht
end
end Go.Proofs.Ytecomegocafocaa
