/- The row of KnowsCloses: for every input the law returns true and what came in reads as it did. (Texts laid one behind the other: KCloses, KnowsCloses.) -/
import Derived.ChangeMaps5
import Derived.Test.YtjjcnijdjhhdoaaCA14
/-! The walk of KnowsCloses: true. -/
section
namespace Go.Proofs.Ytjjcnijdjhhdoaa
open Go.RowKit Go.QT
set_option maxRecDepth 100000 in
set_option maxHeartbeats 4000000 in
theorem knowsCloses_any (A B C D : Option Addr) (a b c d : Nat) (z : KIn) (w : World) (hz : InAt w A B C D a b c d z) : Calls Try.prog 14 #[.agg #[.slice A z.of.length a, .slice B z.bx.length b, .slice C z.ls.length c, .slice D z.ss.length d]] w fun e w' => e = .returned (.bool true) ∧ Below w.heap.size w w' := by
  have h0 := addRB (addRB (addRB (addRB (addRB (addRB (Hp.nil (fun _ => False) w) (rRV 1 D d (ivs z.ss)) hz.ss) (rRV 1 C c (ivs z.ls)) hz.ls) (rISs (z.bx.map (·.bv)) (z.bx.map (·.bs))) hz.x) (rISs (z.bx.map (·.kv)) (z.bx.map (·.ks))) hz.k) (rRV 3 B b (z.bx.map kbCells)) hz.bx) (rRV 1 A a (ivs z.of)) hz.of
  refine enter 200 Try.func14 rfl rfl ?_
  refine wp_reset 201 [(0, (Value.agg ([(Value.slice A z.of.length a), (Value.slice B z.bx.length b), (Value.slice C z.ls.length c), (Value.slice D z.ss.length d)]).toArray))] (fun x0 => ?_)
  refine wp_seq_k ?_
  intro K1 hK1
  refine reg_lit ?_
  refine wq_to (some 1) (x_new h0 87 ([(Value.slice A z.of.length a), (Value.slice B z.bx.length b), (Value.slice C z.ls.length c), (Value.slice D z.ss.length d)]) (fun r => pt r 0) (by kernel_rfl)) ?_
  rintro _ w2 ⟨g2, rfl, h2⟩
  refine wq_p 1 [(2, (Value.bool false))] ?_
  refine wl_end rfl ?_
  refine seq_n hK1 ?_
  refine wp_seq_k ?_
  intro K3 hK3
  refine wp_seq_k ?_
  intro K4 hK4
  refine reg_lit ?_
  refine wq_to (some 22) (OpTo.enter 46 [] (by kernel_rfl) (kalive_any _) (R := fun u w' => u = Value.bool true ∧ Below w2.heap.size w2 w') (fun e w' hq => ⟨_, hq.1, rfl, hq.2⟩)) ?_
  rintro _ w5 ⟨rfl, hb5⟩
  have h5 := h2.below hb5
  refine wq_p 1 [(23, (Value.bool false))] ?_
  refine wl_end rfl ?_
  refine seq_n hK4 ?_
  refine wp_cond_false (by kernel_rfl) ?_
  refine wp_skip ?_
  refine seq_n hK3 ?_
  refine wp_seq_k ?_
  intro K6 hK6
  refine wp_seq_k ?_
  intro K7 hK7
  refine reg_lit ?_
  refine wq_v (some 24) (Value.agg ([(Value.slice A z.of.length a), (Value.slice B z.bx.length b), (Value.slice C z.ls.length c), (Value.slice D z.ss.length d)]).toArray) (e_loads (h5.at_ 0 rfl) 87 (.tmp 1) (by kernel_rfl) 0 ([(Value.slice A z.of.length a), (Value.slice B z.bx.length b), (Value.slice C z.ls.length c), (Value.slice D z.ss.length d)]) (by kernel_rfl) (by kernel_rfl) (by kernel_rfl)) ?_
  refine wq_to (some 25) (x_few h5 (by kernel_rfl) ⟨h5.rd 0 rfl, h5.rd 1 rfl, h5.rd 2 rfl, h5.rd 3 rfl, h5.rd 4 rfl, h5.rd 5 rfl⟩) ?_
  rintro _ w8 ⟨t, rfl, ht, h8⟩
  refine wq_p 1 [(26, (Value.bool (!t)))] ?_
  refine wl_end rfl ?_
  refine seq_n hK7 ?_
  refine wp_cond_split (t := !t) (by kernel_rfl) (fun b9 => ?_) (fun b9 => ?_)
  ·
   refine wp_seq_k ?_
   intro K10 hK10
   refine reg_lit ?_
   refine wq_p 1 [(2, (Value.bool true))] ?_
   refine wl_end rfl ?_
   refine seq_n hK10 ?_
   refine wp_ret ?_
   refine seq_r ?_
   refine post_1 rfl (by kernel_rfl) (rtmp (v := (Value.bool true)) (by kernel_rfl)) ?_
   exact ⟨rfl, h8.below0⟩
  ·
   have hf : fewP z := ht (by simpa using b9)
   refine wp_skip ?_
   refine seq_n hK6 ?_
   refine wp_seq_k ?_
   intro K11 hK11
   refine reg_lit ?_
   refine wq_v (some 28) (Value.agg ([(Value.slice A z.of.length a), (Value.slice B z.bx.length b), (Value.slice C z.ls.length c), (Value.slice D z.ss.length d)]).toArray) (e_loads (h8.at_ 0 rfl) 87 (.tmp 1) (by kernel_rfl) 0 ([(Value.slice A z.of.length a), (Value.slice B z.bx.length b), (Value.slice C z.ls.length c), (Value.slice D z.ss.length d)]) (by kernel_rfl) (by kernel_rfl) (by kernel_rfl)) ?_
   refine wq_to (some 29) (x_kmade h8 (by kernel_rfl) ⟨h8.rd 0 rfl, h8.rd 1 rfl, h8.rd 2 rfl, h8.rd 3 rfl, h8.rd 4 rfl, h8.rd 5 rfl⟩ hf) ?_
   rintro _ w12 ⟨tb, F0, s, A1, c1, A2, c2, A3, c3, mv, hb, rfl, hk2, hb2, hmv, hht, h12⟩
   have hsm : Sm s := made_sm hf hk2 hb2
   obtain ⟨f1, f2, f3, f4, f5, f6⟩ := id hf
   have hkl : s.keys.length = z.of.length := by rw [hk2, kksTo_len]
   refine wq_p 9 [(6, (Value.slice A3 z.bx.length c3)), (5, (Value.slice A2 z.of.length c2)), (4, (Value.slice A1 z.bx.length c1)), (3, (pt tb 0)), (33, (Value.slice A3 z.bx.length c3)), (32, (Value.slice A2 z.of.length c2)), (31, (Value.slice A1 z.bx.length c1)), (30, (pt tb 0)), (27, (Value.tuple #[(pt tb 0), (Value.slice A1 z.bx.length c1), (Value.slice A2 z.of.length c2), (Value.slice A3 z.bx.length c3)]))] ?_
   refine wl_end rfl ?_
   refine seq_n hK11 ?_
   refine wp_seq_k ?_
   intro K13 hK13
   refine reg_lit ?_
   refine wq_p 1 [(34, (pt tb 0))] ?_
   refine wq_to (some 35) (x_knew (tb := tb) h12 (by kernel_rfl)) ?_
   rintro _ w14 ⟨m14, p14, F14, rfl, hp14, h14⟩
   refine wq_p 1 [(7, (pt m14 0))] ?_
   refine wl_end rfl ?_
   refine seq_n hK13 ?_
   refine wp_seq_k ?_
   intro K15 hK15
   refine wp_reset 201 [(0, (Value.agg ([(Value.slice A z.of.length a), (Value.slice B z.bx.length b), (Value.slice C z.ls.length c), (Value.slice D z.ss.length d)]).toArray)), (1, (pt g2 0)), (2, (Value.bool false)), (3, (pt tb 0)), (4, (Value.slice A1 z.bx.length c1)), (5, (Value.slice A2 z.of.length c2)), (6, (Value.slice A3 z.bx.length c3)), (7, (pt m14 0)), (23, (Value.bool false)), (26, (Value.bool (!t)))] (fun x16 => ?_)
   refine pR_go h14 7 (fun W => True) [(37, [5], 0), (38, [36], 1), (39, [37, 37], 2), (40, [6], 0), (41, [39], 8), (42, [40, 40], 16), (9, [38], 7), (10, [41], 127)] rfl (fun _ d _ _ _ h => by cases d <;> exact h) ?_
   intro hs17 w17 h17
   refine pR_p 4 [0, 1, 3, 4] [(40, (Value.int .i64 ((z.bx.length : Int)))), (39, (Value.slice A3 z.bx.length c3)), (37, (Value.int .i64 ((z.of.length : Int)))), (36, (Value.slice A2 z.of.length c2))] 27 hs17 trivial ?_
   refine pR_or 2 5 hs17 ?_ ?_
   ·
    refine pR_op 2 (some 38) 31 rfl (x_makeBools h17 z.of.length (by omega) (.tmp 37) (.tmp 37) (by kernel_rfl) (by kernel_rfl) (by kernel_rfl)) ?_
    rintro _ w18 ⟨A18, rfl, h18⟩
    refine ⟨fun _ => trivial, ?_⟩
    refine pR_p 2 [6] [(8, (Value.slice A18 z.of.length z.of.length))] 95 hs17 trivial ?_
    refine pR_to 5 (some 41) 127 rfl hs17 (x_makeBools h18 z.bx.length (by omega) (.tmp 40) (.tmp 40) (by kernel_rfl) (by kernel_rfl) (by kernel_rfl)) ?_
    rintro _ w19 ⟨A19, rfl, h19⟩
    refine ⟨fun _ => trivial, ?_⟩
    refine pR_to 7 (some 9) 255 rfl hs17 (OpTo.run (Value.slice A19 z.bx.length z.bx.length) (pureOp_run (by kernel_rfl) _) (R := fun v w => v = (Value.slice A19 z.bx.length z.bx.length) ∧ w19 = w) ⟨rfl, rfl⟩) ?_
    rintro _ _ ⟨rfl, rfl⟩
    refine ⟨fun h => absurd h (by decide), ?_⟩
    refine pR_done hs17 ?_ _
    refine seq_n hK15 ?_
    refine wp_seq_k ?_
    intro K20 hK20
    refine wp_seq_k ?_
    intro K21 hK21
    refine reg_lit ?_
    refine wq_p 1 [(42, (pt g2 2))] ?_
    refine wq_v (some 43) (Value.slice C z.ls.length c) (e_load (h19.at_ 10 rfl) 84 (.tmp 42) (by kernel_rfl) 2 (Value.slice C z.ls.length c) (by kernel_rfl) (by kernel_rfl) (by kernel_rfl)) ?_
    refine wq_p 2 [(45, (pt g2 3)), (44, (Value.int .i64 ((z.ls.length : Int))))] ?_
    refine wq_v (some 46) (Value.slice D z.ss.length d) (e_load (h19.at_ 10 rfl) 84 (.tmp 45) (by kernel_rfl) 3 (Value.slice D z.ss.length d) (by kernel_rfl) (by kernel_rfl) (by kernel_rfl)) ?_
    refine wq_p 1 [(47, (Value.int .i64 ((z.ss.length : Int))))] ?_
    refine wq_v (some 48) (Value.int .i64 (((max z.ls.length z.ss.length : Nat) : Int))) (e_maxN (.tmp 44) (.tmp 47) #[3, 3] (by kernel_rfl) .i64 .i64 (z.ls.length) (z.ss.length) (by kernel_rfl) (by kernel_rfl) _) ?_
    refine wq_p 1 [(49, (Value.int .i64 0))] ?_
    refine wl_end rfl ?_
    refine seq_n hK21 ?_
    refine wp_block ?_
    refine wp_loopm (fun mM xX aA wL => ∃ (i : Nat) (F1 : Nat → Prop) (S1 : KM) (f : List Bool) (g : List Bool), (i ≤ (max z.ls.length z.ss.length)) ∧ (WSl s (lkTo z.of.length z.ls (i)) (lbTo z.bx.length z.ss (i)) (i) S1) ∧ (Flags 107 z.of.length f (lkTo z.of.length z.ls (i))) ∧ (Flags 98 z.bx.length g (lbTo z.bx.length z.ss (i))) ∧ mM = (max z.ls.length z.ss.length) - (i) ∧ aA = patch xX 201 [(0, (Value.agg ([(Value.slice A z.of.length a), (Value.slice B z.bx.length b), (Value.slice C z.ls.length c), (Value.slice D z.ss.length d)]).toArray)), (1, (pt g2 0)), (2, (Value.bool false)), (3, (pt tb 0)), (4, (Value.slice A1 z.bx.length c1)), (5, (Value.slice A2 z.of.length c2)), (6, (Value.slice A3 z.bx.length c3)), (7, (pt m14 0)), (8, (Value.slice A18 z.of.length z.of.length)), (9, (Value.slice A19 z.bx.length z.bx.length)), (23, (Value.bool false)), (26, (Value.bool (!t))), (48, (Value.int .i64 (((max z.ls.length z.ss.length : Nat) : Int)))), (49, (Value.int .i64 ((i : Int))))] ∧ Hp (fun _ => False) w wL [rRV 1 A a (ivs z.of), rRV 3 B b (z.bx.map kbCells), rISs (z.bx.map (·.kv)) (z.bx.map (·.ks)), rISs (z.bx.map (·.bv)) (z.bx.map (·.bs)), rRV 1 C c (ivs z.ls), rRV 1 D d (ivs z.ss)] [rMind F1 none m14 p14 S1, rOV 4 1 ((Value.slice A18 z.of.length z.of.length)) (bvs f), rOV 4 1 ((Value.slice A19 z.bx.length z.bx.length)) (bvs g), rTab F0 tb s, rOV 28 1 ((Value.slice A1 z.bx.length c1)) (mv.map fun v => [v]), rSBs mv (mkTo z.bx.length), rOV 3 1 ((Value.slice A2 z.of.length c2)) (ivs (ofTo z.of z.of.length)), rOV 131 3 ((Value.slice A3 z.bx.length c3)) (hb.map kbCells), rISs (hb.map (·.kv)) (hb.map (·.ks)), rISs (hb.map (·.bv)) (hb.map (·.bs)), rBlk g2 87 ([(Value.slice A z.of.length a), (Value.slice B z.bx.length b), (Value.slice C z.ls.length c), (Value.slice D z.ss.length d)])]) ⟨_, 0, F14, (⟨[], [], [], []⟩), ((List.replicate z.of.length false)), ((List.replicate z.bx.length false)), (by omega), (WS.lists (s := s) WS.emptyl rfl (by simp [lbTo])), (Flags.zero 107 _), ((Flags.zero 98 _).eq (by simp [lbTo])), rfl, (patch_eq _ 201 _ (by kernel_rfl) (by kernel_rfl) (by kernel_rfl)), h19.sel [2, 1, 0, 3, 4, 5, 6, 7, 8, 9, 10] [0, 1, 2, 3, 4, 5] (by kernel_rfl) rfl rfl⟩ ?_
    rintro _ x22 _ w22 ⟨i, F1, S1, f, g, hi, hW, hfk, hfg, rfl, rfl, h22⟩
    have hfl := hfk.1
    have hgl := hfg.1
    refine wp_seq_k ?_
    intro K23 hK23
    refine reg_lit ?_
    refine wq_p 1 [(50, (Value.bool (decide ((i : Int) < ((max z.ls.length z.ss.length : Nat) : Int)))))] ?_
    refine wl_end rfl ?_
    refine seq_n hK23 ?_
    refine wp_seq_k ?_
    intro K24 hK24
    refine wp_if ((i : Int) < ((max z.ls.length z.ss.length : Nat) : Int)) (by kernel_rfl) (fun b25 => ?_) (fun b25 => ?_)
    ·
     refine wp_skip ?_
     refine seq_n hK24 ?_
     refine wp_seq_k ?_
     intro K26 hK26
     refine wp_block ?_
     refine wp_seq_k ?_
     intro K27 hK27
     refine reg_lit ?_
     refine wq_p 2 [(10, (Value.int .i64 ((i : Int)))), (51, (Value.int .i64 ((i : Int))))] ?_
     refine wl_end rfl ?_
     refine seq_n hK27 ?_
     refine wp_seq_k ?_
     intro K28 hK28
     refine wp_seq_k ?_
     intro K29 hK29
     rcases (show (i < z.ss.length ∧ 0 < z.bx.length) ∨ (¬ i < z.ss.length) ∨ (i < z.ss.length ∧ z.bx.length = 0) by omega) with ⟨his, hpos⟩ | his | ⟨his, hno⟩
     ·
      refine reg_lit ?_
      refine wq_p 2 [(53, (pt g2 3)), (52, (Value.int .i64 ((i : Int))))] ?_
      refine wq_v (some 54) (Value.slice D z.ss.length d) (e_load (h22.at_ 10 rfl) 84 (.tmp 53) (by kernel_rfl) 3 (Value.slice D z.ss.length d) (by kernel_rfl) (by kernel_rfl) (by kernel_rfl)) ?_
      refine wq_p 1 [(55, (Value.int .i64 ((z.ss.length : Int))))] ?_
      refine wq_v (some 56) (.bool true) (eq_is (v := (Value.bool (decide ((i : Int) < (z.ss.length : Int))))) (by kernel_rfl) (congrArg Value.bool (decide_eq_true (by omega)))) ?_
      refine wq_p 3 [(59, (Value.int .i64 ((z.bx.length : Int)))), (58, (Value.slice A1 z.bx.length c1)), (57, (Value.bool true))] ?_
      refine wq_v (some 60) (.bool true) (eq_is (v := (Value.bool (decide ((z.bx.length : Int) > 0)))) (by kernel_rfl) (congrArg Value.bool (decide_eq_true (by omega)))) ?_
      refine wq_p 1 [(61, (Value.bool true))] ?_
      refine wl_end rfl ?_
      refine seq_n hK29 ?_
      refine wp_cond_true (by kernel_rfl) ?_
      refine wp_seq_k ?_
      intro K31 hK31
      obtain ⟨x, hx⟩ : ∃ x, z.ss[i]? = some x := ⟨_, List.getElem?_eq_getElem (by omega)⟩
      have hkx := kN_lt x hpos
      refine reg_lit ?_
      refine wq_p 1 [(62, (pt g2 3))] ?_
      refine wq_v (some 63) (Value.slice D z.ss.length d) (e_load (h22.at_ 10 rfl) 84 (.tmp 62) (by kernel_rfl) 3 (Value.slice D z.ss.length d) (by kernel_rfl) (by kernel_rfl) (by kernel_rfl)) ?_
      refine wq_p 1 [(64, (Value.int .i64 ((i : Int))))] ?_
      refine wq_v (some 65) (eAt D (i * 1 + 0)) (e_idxN (RV.lenIs (n := z.ss.length) (h22.rd 5 rfl) (ivs_len _)).2 i z.ss.length (RV.lenIs (n := z.ss.length) (h22.rd 5 rfl) (ivs_len _)).1 (by omega) 84 (.tmp 63) (.tmp 64) (by kernel_rfl) .i64 (by kernel_rfl) (by kernel_rfl) 3 (by kernel_rfl) (by kernel_rfl) _) ?_
      refine wq_v (some 66) (Value.int .i64 x) (e_elemN (RV.lenIs (n := z.ss.length) (h22.rd 5 rfl) (ivs_len _)).2 i 0 ([(Value.int .i64 x)]) (ivs_get hx) 3 (.tmp 65) (by kernel_rfl) (Value.int .i64 x) (by kernel_rfl) (by kernel_rfl) (by kernel_rfl)) ?_
      refine wq_v (some 67) (Value.int .i64 ((m31 x : Int))) (eq_is (v := Value.int .i64 (bits .and .i64 x 31)) (by kernel_rfl) (congrArg (Value.int .i64) (m31_eq x).1)) ?_
      refine wq_p 2 [(69, (Value.int .i64 ((z.bx.length : Int)))), (68, (Value.slice A1 z.bx.length c1))] ?_
      refine wq_v (some 70) (Value.int .i64 ((kN z.bx.length x : Int))) (e_rem (.tmp 67) (.tmp 69) 3 3 (by kernel_rfl) (m31 x) (z.bx.length) (by kernel_rfl) (by kernel_rfl) (by omega) _) ?_
      refine wq_p 1 [(11, (Value.int .i64 ((kN z.bx.length x : Int))))] ?_
      refine wl_end rfl ?_
      refine seq_n hK31 ?_
      refine wp_seq_k ?_
      intro K32 hK32
      obtain ⟨MAA, mcA, myA, hvA, hlA⟩ := sbsget (h22.at_ 5 rfl) (by rw [mkTo_len]; exact hmv) (kN z.bx.length x) (by rw [mkTo_len]; omega)
      have hmA : myA = mkB 98 (kN z.bx.length x + 1) := by
        rw [mkTo_at (by omega)] at hlA
        injection hlA with hlA
        exact hlA.symm
      
      refine reg_lit ?_
      refine wq_p 1 [(71, (pt m14 0))] ?_
      refine wq_to (some 72) (x_bsl h22 [1, 2] (by kernel_rfl)) ?_
      rintro _ w33 ⟨g33, rfl, hw33, hg33, hq33, h33⟩
      refine wq_p 2 [(74, (Value.int .i64 ((kN z.bx.length x : Int)))), (73, (Value.slice A1 z.bx.length c1))] ?_
      refine wq_v (some 75) (eAt A1 (((kN z.bx.length x)) * 1 + 0)) (e_idxN (OV.rvn (h33.at_ 5 rfl)).2 ((kN z.bx.length x)) z.bx.length (OV.rvn (h33.at_ 5 rfl)).1 (by omega) 63 (.tmp 73) (.tmp 74) (by kernel_rfl) .i64 (by kernel_rfl) (by kernel_rfl) 28 (by kernel_rfl) (by kernel_rfl) _) ?_
      refine wq_v (some 76) (Value.slice MAA myA.length mcA) (e_elemN (OV.rvn (h33.at_ 5 rfl)).2 ((kN z.bx.length x)) 0 ([(Value.slice MAA myA.length mcA)]) (by rw [List.getElem?_map, hvA]; rfl) 28 (.tmp 75) (by kernel_rfl) (Value.slice MAA myA.length mcA) (by kernel_rfl) (by kernel_rfl) (by kernel_rfl)) ?_
      refine wq_to (some 77) (x_bsl h33 [3] (by kernel_rfl)) ?_
      rintro _ w34 ⟨g34, rfl, hw34, hg34, hq34, h34⟩
      refine wq_to (some 78) (x_bs h34 28 ([(Value.slice (some ⟨g33, 0, none⟩) 2 2), (Value.slice MAA myA.length mcA), (Value.slice (some ⟨g34, 0, none⟩) 1 1)]) 3 (by kernel_rfl)) ?_
      rintro _ w35 ⟨g35, rfl, h35⟩
      refine wq_to (some 79) (x_joined h35 [[1, 2], myA, [3]] (Value.slice (some ⟨g35, 0, none⟩) 3 3) (by kernel_rfl) (ss3 (h35.at_ 0 rfl) (SB.blk (h35.at_ 2 rfl) (by kernel_rfl) (by kernel_rfl) (by kernel_rfl)) ((h35.at_ 8 rfl) _ _ _ hvA hlA) (SB.blk (h35.at_ 1 rfl) (by kernel_rfl) (by kernel_rfl) (by kernel_rfl))) ([1, 2] ++ myA ++ [3]) (by simp) (by rw [hmA]; show 19 ≤ 1000000; decide)) ?_
      rintro _ w36 ⟨A36, c36, rfl, h36⟩
      refine wq_to (some 80) (x_see h36 4 7 rfl rfl (by kernel_rfl) hp14 (by kernel_rfl) (h36.apartO 4 7 0 rfl rfl rfl (by kernel_rfl) (by kernel_rfl)) hW (by omega) hsm (by rw [hmA]; show 19 ≤ 1000000; decide)) ?_
      rintro _ w37 ⟨F37, S37, rfl, hM37, h37⟩
      have hs9 := WS.saw123 (v := kN z.bx.length x + 1) hM37.toWS hmA (by omega)
      refine wl_end rfl ?_
      refine seq_n hK32 ?_
      refine wp_reset 201 [(0, (Value.agg ([(Value.slice A z.of.length a), (Value.slice B z.bx.length b), (Value.slice C z.ls.length c), (Value.slice D z.ss.length d)]).toArray)), (1, (pt g2 0)), (2, (Value.bool false)), (3, (pt tb 0)), (4, (Value.slice A1 z.bx.length c1)), (5, (Value.slice A2 z.of.length c2)), (6, (Value.slice A3 z.bx.length c3)), (7, (pt m14 0)), (8, (Value.slice A18 z.of.length z.of.length)), (9, (Value.slice A19 z.bx.length z.bx.length)), (10, (Value.int .i64 ((i : Int)))), (11, (Value.int .i64 ((kN z.bx.length x : Int)))), (23, (Value.bool false)), (26, (Value.bool (!t))), (48, (Value.int .i64 (((max z.ls.length z.ss.length : Nat) : Int)))), (49, (Value.int .i64 ((i : Int)))), (50, (Value.bool (decide ((i : Int) < ((max z.ls.length z.ss.length : Nat) : Int))))), (61, (Value.bool true))] (fun x38 => ?_)
      refine reg_lit ?_
      refine wq_p 2 [(82, (Value.int .i64 ((kN z.bx.length x : Int)))), (81, (Value.slice A19 z.bx.length z.bx.length))] ?_
      refine wq_v (some 83) (eAt A19 (((kN z.bx.length x)) * 1 + 0)) (e_idxN (OV.rvn (h37.at_ 6 rfl)).2 ((kN z.bx.length x)) z.bx.length (OV.rvn (h37.at_ 6 rfl)).1 (by omega) 98 (.tmp 81) (.tmp 82) (by kernel_rfl) .i64 (by kernel_rfl) (by kernel_rfl) 4 (by kernel_rfl) (by kernel_rfl) _) ?_
      refine wq_to none (x_setBool h37 6 rfl ((kN z.bx.length x)) (by rw [hgl]; omega) 4 (.tmp 83) (.const (Value.bool true)) (by kernel_rfl) true (by kernel_rfl) (by kernel_rfl) (by kernel_rfl) (g.set (kN z.bx.length x) true) rfl) ?_
      rintro _ w39 h39
      refine wl_end rfl ?_
      refine seq_n hK28 ?_
      refine wp_seq_k ?_
      intro K40 hK40
      rcases (show i < z.ls.length ∨ ¬ i < z.ls.length by omega) with hil | hil
      ·
       refine reg_lit ?_
       refine wq_p 2 [(85, (pt g2 2)), (84, (Value.int .i64 ((i : Int))))] ?_
       refine wq_v (some 86) (Value.slice C z.ls.length c) (e_load (h39.at_ 14 rfl) 84 (.tmp 85) (by kernel_rfl) 2 (Value.slice C z.ls.length c) (by kernel_rfl) (by kernel_rfl) (by kernel_rfl)) ?_
       refine wq_p 1 [(87, (Value.int .i64 ((z.ls.length : Int))))] ?_
       refine wq_v (some 88) (.bool true) (eq_is (v := (Value.bool (decide ((i : Int) < (z.ls.length : Int))))) (by kernel_rfl) (congrArg Value.bool (decide_eq_true (by omega)))) ?_
       refine wl_end rfl ?_
       refine seq_n hK40 ?_
       refine wp_cond_true (by kernel_rfl) ?_
       refine wp_seq_k ?_
       intro K42 hK42
       obtain ⟨y, hy⟩ : ∃ y, z.ls[i]? = some y := ⟨_, List.getElem?_eq_getElem (by omega)⟩
       have hky := kN_lt (n := z.of.length) y (by omega)
       refine reg_lit ?_
       refine wq_p 1 [(89, (pt g2 2))] ?_
       refine wq_v (some 90) (Value.slice C z.ls.length c) (e_load (h39.at_ 14 rfl) 84 (.tmp 89) (by kernel_rfl) 2 (Value.slice C z.ls.length c) (by kernel_rfl) (by kernel_rfl) (by kernel_rfl)) ?_
       refine wq_p 1 [(91, (Value.int .i64 ((i : Int))))] ?_
       refine wq_v (some 92) (eAt C (i * 1 + 0)) (e_idxN (RV.lenIs (n := z.ls.length) (h39.rd 4 rfl) (ivs_len _)).2 i z.ls.length (RV.lenIs (n := z.ls.length) (h39.rd 4 rfl) (ivs_len _)).1 (by omega) 84 (.tmp 90) (.tmp 91) (by kernel_rfl) .i64 (by kernel_rfl) (by kernel_rfl) 3 (by kernel_rfl) (by kernel_rfl) _) ?_
       refine wq_v (some 93) (Value.int .i64 y) (e_elemN (RV.lenIs (n := z.ls.length) (h39.rd 4 rfl) (ivs_len _)).2 i 0 ([(Value.int .i64 y)]) (ivs_get hy) 3 (.tmp 92) (by kernel_rfl) (Value.int .i64 y) (by kernel_rfl) (by kernel_rfl) (by kernel_rfl)) ?_
       refine wq_v (some 94) (Value.int .i64 ((m31 y : Int))) (eq_is (v := Value.int .i64 (bits .and .i64 y 31)) (by kernel_rfl) (congrArg (Value.int .i64) (m31_eq y).1)) ?_
       refine wq_p 2 [(96, (Value.int .i64 ((z.of.length : Int)))), (95, (Value.slice A2 z.of.length c2))] ?_
       refine wq_v (some 97) (Value.int .i64 ((kN z.of.length y : Int))) (e_rem (.tmp 94) (.tmp 96) 3 3 (by kernel_rfl) (m31 y) (z.of.length) (by kernel_rfl) (by kernel_rfl) (by omega) _) ?_
       refine wq_p 1 [(12, (Value.int .i64 ((kN z.of.length y : Int))))] ?_
       refine wl_end rfl ?_
       refine seq_n hK42 ?_
       refine wp_seq_k ?_
       intro K43 hK43
       refine reg_lit ?_
       refine wq_p 3 [(100, (Value.int .i64 ((kN z.of.length y : Int)))), (99, (pt tb 0)), (98, (pt m14 0))] ?_
       refine wq_v (some 101) (Value.int .i64 (((kN z.of.length y + 1 : Nat) : Int))) (exec_add _ _ _ _ rfl ((kN z.of.length y : Int)) 1 (by kernel_rfl) (by kernel_rfl) ((kN z.of.length y + 1 : Nat) : Int) (by omega) (by omega) (by omega) _) ?_
       refine wq_to (some 102) (x_nth (tb := tb) h39 ((kN z.of.length y + 1 : Nat)) (by kernel_rfl) (by have := kN_lt (n := z.of.length) y (by omega); omega)) ?_
       rintro _ w44 ⟨K44, rfl, hK44, h44⟩
       have hKx := hK44
       refine wq_to (some 103) (x_learn h44 4 7 rfl rfl (by kernel_rfl) hp14 K44 (by kernel_rfl) hs9 (by omega) hsm) ?_
       rintro _ w45 ⟨F45, S45, rfl, hM45, h45⟩
       refine wl_end rfl ?_
       refine seq_n hK43 ?_
       refine reg_lit ?_
       refine wq_p 2 [(105, (Value.int .i64 ((kN z.of.length y : Int)))), (104, (Value.slice A18 z.of.length z.of.length))] ?_
       refine wq_v (some 106) (eAt A18 (((kN z.of.length y)) * 1 + 0)) (e_idxN (OV.rvn (h45.at_ 5 rfl)).2 ((kN z.of.length y)) z.of.length (OV.rvn (h45.at_ 5 rfl)).1 (by omega) 98 (.tmp 104) (.tmp 105) (by kernel_rfl) .i64 (by kernel_rfl) (by kernel_rfl) 4 (by kernel_rfl) (by kernel_rfl) _) ?_
       refine wq_to none (x_setBool h45 5 rfl ((kN z.of.length y)) (by rw [hfl]; omega) 4 (.tmp 106) (.const (Value.bool true)) (by kernel_rfl) true (by kernel_rfl) (by kernel_rfl) (by kernel_rfl) (f.set (kN z.of.length y) true) rfl) ?_
       rintro _ w46 h46
       refine wl_end rfl ?_
       refine blk_n ?_
       refine seq_n hK26 ?_
       refine reg_lit ?_
       refine wq_v (some 107) (Value.int .i64 ((i : Int) + 1)) (exec_add _ _ _ _ rfl ((i : Int)) 1 (by kernel_rfl) (by kernel_rfl) ((i : Int) + 1) rfl (by omega) (by omega) _) ?_
       refine wq_p 1 [(49, (Value.int .i64 ((i : Int) + 1)))] ?_
       refine wl_end rfl ?_
       refine ⟨(max z.ls.length z.ss.length) - (i + 1), (by omega), (i + 1), F45, S45, ((f.set (kN z.of.length y) true)), ((g.set (kN z.bx.length x) true)), (by omega), (WS.lists (hM45.toWS) (by rw [lkTo_succ hy, hKx]) (by rw [lbTo_succ hpos hx, hmA])), (hfk.set (kN_lt y (by omega)) f2 (lkTo_succ hy)), (hfg.set (kN_lt x hpos) f3 (lbTo_succ hpos hx)), rfl, (patch_eq _ 201 _ (by kernel_rfl) (by kernel_rfl) (by kernel_rfl)), h46.sel [4, 5, 6, 7, 8, 9, 10, 11, 12, 13, 14] [0, 1, 2, 3, 4, 5] (by kernel_rfl) rfl rfl⟩
      ·
       refine reg_lit ?_
       refine wq_p 2 [(85, (pt g2 2)), (84, (Value.int .i64 ((i : Int))))] ?_
       refine wq_v (some 86) (Value.slice C z.ls.length c) (e_load (h39.at_ 14 rfl) 84 (.tmp 85) (by kernel_rfl) 2 (Value.slice C z.ls.length c) (by kernel_rfl) (by kernel_rfl) (by kernel_rfl)) ?_
       refine wq_p 1 [(87, (Value.int .i64 ((z.ls.length : Int))))] ?_
       refine wq_v (some 88) (.bool false) (eq_is (v := (Value.bool (decide ((i : Int) < (z.ls.length : Int))))) (by kernel_rfl) (congrArg Value.bool (decide_eq_false (by omega)))) ?_
       refine wl_end rfl ?_
       refine seq_n hK40 ?_
       refine wp_cond_false (by kernel_rfl) ?_
       refine wp_skip ?_
       refine blk_n ?_
       refine seq_n hK26 ?_
       refine reg_lit ?_
       refine wq_v (some 107) (Value.int .i64 ((i : Int) + 1)) (exec_add _ _ _ _ rfl ((i : Int)) 1 (by kernel_rfl) (by kernel_rfl) ((i : Int) + 1) rfl (by omega) (by omega) _) ?_
       refine wq_p 1 [(49, (Value.int .i64 ((i : Int) + 1)))] ?_
       refine wl_end rfl ?_
       refine ⟨(max z.ls.length z.ss.length) - (i + 1), (by omega), (i + 1), F37, S37, f, ((g.set (kN z.bx.length x) true)), (by omega), (WS.lists (hs9) (lkTo_stay (by omega)).symm (by rw [lbTo_succ hpos hx, hmA])), (hfk.eq (lkTo_stay (by omega))), (hfg.set (kN_lt x hpos) f3 (lbTo_succ hpos hx)), rfl, (patch_eq _ 201 _ (by kernel_rfl) (by kernel_rfl) (by kernel_rfl)), h39.sel [4, 5, 6, 7, 8, 9, 10, 11, 12, 13, 14] [0, 1, 2, 3, 4, 5] (by kernel_rfl) rfl rfl⟩
     ·
      refine reg_lit ?_
      refine wq_p 2 [(53, (pt g2 3)), (52, (Value.int .i64 ((i : Int))))] ?_
      refine wq_v (some 54) (Value.slice D z.ss.length d) (e_load (h22.at_ 10 rfl) 84 (.tmp 53) (by kernel_rfl) 3 (Value.slice D z.ss.length d) (by kernel_rfl) (by kernel_rfl) (by kernel_rfl)) ?_
      refine wq_p 1 [(55, (Value.int .i64 ((z.ss.length : Int))))] ?_
      refine wq_v (some 56) (.bool false) (eq_is (v := (Value.bool (decide ((i : Int) < (z.ss.length : Int))))) (by kernel_rfl) (congrArg Value.bool (decide_eq_false (by omega)))) ?_
      refine wq_p 3 [(59, undef), (58, undef), (57, (Value.bool false))] ?_
      refine wq_p 1 [(60, undef)] ?_
      refine wq_p 1 [(61, (Value.bool false))] ?_
      refine wl_end rfl ?_
      refine seq_n hK29 ?_
      refine wp_cond_false (by kernel_rfl) ?_
      refine wp_skip ?_
      refine seq_n hK28 ?_
      refine wp_seq_k ?_
      intro K47 hK47
      rcases (show i < z.ls.length ∨ ¬ i < z.ls.length by omega) with hil | hil
      ·
       refine reg_lit ?_
       refine wq_p 2 [(85, (pt g2 2)), (84, (Value.int .i64 ((i : Int))))] ?_
       refine wq_v (some 86) (Value.slice C z.ls.length c) (e_load (h22.at_ 10 rfl) 84 (.tmp 85) (by kernel_rfl) 2 (Value.slice C z.ls.length c) (by kernel_rfl) (by kernel_rfl) (by kernel_rfl)) ?_
       refine wq_p 1 [(87, (Value.int .i64 ((z.ls.length : Int))))] ?_
       refine wq_v (some 88) (.bool true) (eq_is (v := (Value.bool (decide ((i : Int) < (z.ls.length : Int))))) (by kernel_rfl) (congrArg Value.bool (decide_eq_true (by omega)))) ?_
       refine wl_end rfl ?_
       refine seq_n hK47 ?_
       refine wp_cond_true (by kernel_rfl) ?_
       refine wp_seq_k ?_
       intro K49 hK49
       obtain ⟨y, hy⟩ : ∃ y, z.ls[i]? = some y := ⟨_, List.getElem?_eq_getElem (by omega)⟩
       have hky := kN_lt (n := z.of.length) y (by omega)
       refine reg_lit ?_
       refine wq_p 1 [(89, (pt g2 2))] ?_
       refine wq_v (some 90) (Value.slice C z.ls.length c) (e_load (h22.at_ 10 rfl) 84 (.tmp 89) (by kernel_rfl) 2 (Value.slice C z.ls.length c) (by kernel_rfl) (by kernel_rfl) (by kernel_rfl)) ?_
       refine wq_p 1 [(91, (Value.int .i64 ((i : Int))))] ?_
       refine wq_v (some 92) (eAt C (i * 1 + 0)) (e_idxN (RV.lenIs (n := z.ls.length) (h22.rd 4 rfl) (ivs_len _)).2 i z.ls.length (RV.lenIs (n := z.ls.length) (h22.rd 4 rfl) (ivs_len _)).1 (by omega) 84 (.tmp 90) (.tmp 91) (by kernel_rfl) .i64 (by kernel_rfl) (by kernel_rfl) 3 (by kernel_rfl) (by kernel_rfl) _) ?_
       refine wq_v (some 93) (Value.int .i64 y) (e_elemN (RV.lenIs (n := z.ls.length) (h22.rd 4 rfl) (ivs_len _)).2 i 0 ([(Value.int .i64 y)]) (ivs_get hy) 3 (.tmp 92) (by kernel_rfl) (Value.int .i64 y) (by kernel_rfl) (by kernel_rfl) (by kernel_rfl)) ?_
       refine wq_v (some 94) (Value.int .i64 ((m31 y : Int))) (eq_is (v := Value.int .i64 (bits .and .i64 y 31)) (by kernel_rfl) (congrArg (Value.int .i64) (m31_eq y).1)) ?_
       refine wq_p 2 [(96, (Value.int .i64 ((z.of.length : Int)))), (95, (Value.slice A2 z.of.length c2))] ?_
       refine wq_v (some 97) (Value.int .i64 ((kN z.of.length y : Int))) (e_rem (.tmp 94) (.tmp 96) 3 3 (by kernel_rfl) (m31 y) (z.of.length) (by kernel_rfl) (by kernel_rfl) (by omega) _) ?_
       refine wq_p 1 [(12, (Value.int .i64 ((kN z.of.length y : Int))))] ?_
       refine wl_end rfl ?_
       refine seq_n hK49 ?_
       refine wp_seq_k ?_
       intro K50 hK50
       refine wp_reset 201 [(0, (Value.agg ([(Value.slice A z.of.length a), (Value.slice B z.bx.length b), (Value.slice C z.ls.length c), (Value.slice D z.ss.length d)]).toArray)), (1, (pt g2 0)), (2, (Value.bool false)), (3, (pt tb 0)), (4, (Value.slice A1 z.bx.length c1)), (5, (Value.slice A2 z.of.length c2)), (6, (Value.slice A3 z.bx.length c3)), (7, (pt m14 0)), (8, (Value.slice A18 z.of.length z.of.length)), (9, (Value.slice A19 z.bx.length z.bx.length)), (10, (Value.int .i64 ((i : Int)))), (12, (Value.int .i64 ((kN z.of.length y : Int)))), (23, (Value.bool false)), (26, (Value.bool (!t))), (48, (Value.int .i64 (((max z.ls.length z.ss.length : Nat) : Int)))), (49, (Value.int .i64 ((i : Int)))), (50, (Value.bool (decide ((i : Int) < ((max z.ls.length z.ss.length : Nat) : Int))))), (61, (Value.bool false)), (88, (Value.bool true))] (fun x51 => ?_)
       refine reg_lit ?_
       refine wq_p 3 [(100, (Value.int .i64 ((kN z.of.length y : Int)))), (99, (pt tb 0)), (98, (pt m14 0))] ?_
       refine wq_v (some 101) (Value.int .i64 (((kN z.of.length y + 1 : Nat) : Int))) (exec_add _ _ _ _ rfl ((kN z.of.length y : Int)) 1 (by kernel_rfl) (by kernel_rfl) ((kN z.of.length y + 1 : Nat) : Int) (by omega) (by omega) (by omega) _) ?_
       refine wq_to (some 102) (x_nth (tb := tb) h22 ((kN z.of.length y + 1 : Nat)) (by kernel_rfl) (by have := kN_lt (n := z.of.length) y (by omega); omega)) ?_
       rintro _ w52 ⟨K52, rfl, hK52, h52⟩
       have hKx := hK52
       refine wq_to (some 103) (x_learn h52 0 3 rfl rfl (by kernel_rfl) hp14 K52 (by kernel_rfl) hW (by omega) hsm) ?_
       rintro _ w53 ⟨F53, S53, rfl, hM53, h53⟩
       refine wl_end rfl ?_
       refine seq_n hK50 ?_
       refine reg_lit ?_
       refine wq_p 2 [(105, (Value.int .i64 ((kN z.of.length y : Int)))), (104, (Value.slice A18 z.of.length z.of.length))] ?_
       refine wq_v (some 106) (eAt A18 (((kN z.of.length y)) * 1 + 0)) (e_idxN (OV.rvn (h53.at_ 1 rfl)).2 ((kN z.of.length y)) z.of.length (OV.rvn (h53.at_ 1 rfl)).1 (by omega) 98 (.tmp 104) (.tmp 105) (by kernel_rfl) .i64 (by kernel_rfl) (by kernel_rfl) 4 (by kernel_rfl) (by kernel_rfl) _) ?_
       refine wq_to none (x_setBool h53 1 rfl ((kN z.of.length y)) (by rw [hfl]; omega) 4 (.tmp 106) (.const (Value.bool true)) (by kernel_rfl) true (by kernel_rfl) (by kernel_rfl) (by kernel_rfl) (f.set (kN z.of.length y) true) rfl) ?_
       rintro _ w54 h54
       refine wl_end rfl ?_
       refine blk_n ?_
       refine seq_n hK26 ?_
       refine reg_lit ?_
       refine wq_v (some 107) (Value.int .i64 ((i : Int) + 1)) (exec_add _ _ _ _ rfl ((i : Int)) 1 (by kernel_rfl) (by kernel_rfl) ((i : Int) + 1) rfl (by omega) (by omega) _) ?_
       refine wq_p 1 [(49, (Value.int .i64 ((i : Int) + 1)))] ?_
       refine wl_end rfl ?_
       refine ⟨(max z.ls.length z.ss.length) - (i + 1), (by omega), (i + 1), F53, S53, ((f.set (kN z.of.length y) true)), g, (by omega), (WS.lists ((hM53.toWS).moreN (Nat.le_succ _)) (by rw [lkTo_succ hy, hKx]) (lbTo_stay (by omega)).symm), (hfk.set (kN_lt y (by omega)) f2 (lkTo_succ hy)), (hfg.eq (lbTo_stay (by omega))), rfl, (patch_eq _ 201 _ (by kernel_rfl) (by kernel_rfl) (by kernel_rfl)), h54.sel [0, 1, 2, 3, 4, 5, 6, 7, 8, 9, 10] [0, 1, 2, 3, 4, 5] (by kernel_rfl) rfl rfl⟩
      ·
       refine reg_lit ?_
       refine wq_p 2 [(85, (pt g2 2)), (84, (Value.int .i64 ((i : Int))))] ?_
       refine wq_v (some 86) (Value.slice C z.ls.length c) (e_load (h22.at_ 10 rfl) 84 (.tmp 85) (by kernel_rfl) 2 (Value.slice C z.ls.length c) (by kernel_rfl) (by kernel_rfl) (by kernel_rfl)) ?_
       refine wq_p 1 [(87, (Value.int .i64 ((z.ls.length : Int))))] ?_
       refine wq_v (some 88) (.bool false) (eq_is (v := (Value.bool (decide ((i : Int) < (z.ls.length : Int))))) (by kernel_rfl) (congrArg Value.bool (decide_eq_false (by omega)))) ?_
       refine wl_end rfl ?_
       refine seq_n hK47 ?_
       refine wp_cond_false (by kernel_rfl) ?_
       refine wp_skip ?_
       refine blk_n ?_
       refine seq_n hK26 ?_
       refine reg_lit ?_
       refine wq_v (some 107) (Value.int .i64 ((i : Int) + 1)) (exec_add _ _ _ _ rfl ((i : Int)) 1 (by kernel_rfl) (by kernel_rfl) ((i : Int) + 1) rfl (by omega) (by omega) _) ?_
       refine wq_p 1 [(49, (Value.int .i64 ((i : Int) + 1)))] ?_
       refine wl_end rfl ?_
       refine ⟨(max z.ls.length z.ss.length) - (i + 1), (by omega), (i + 1), F1, S1, f, g, (by omega), (WS.lists ((hW).moreN (Nat.le_succ _)) (lkTo_stay (by omega)).symm (lbTo_stay (by omega)).symm), (hfk.eq (lkTo_stay (by omega))), (hfg.eq (lbTo_stay (by omega))), rfl, (patch_eq _ 201 _ (by kernel_rfl) (by kernel_rfl) (by kernel_rfl)), h22.sel [0, 1, 2, 3, 4, 5, 6, 7, 8, 9, 10] [0, 1, 2, 3, 4, 5] (by kernel_rfl) rfl rfl⟩
     ·
      refine reg_lit ?_
      refine wq_p 2 [(53, (pt g2 3)), (52, (Value.int .i64 ((i : Int))))] ?_
      refine wq_v (some 54) (Value.slice D z.ss.length d) (e_load (h22.at_ 10 rfl) 84 (.tmp 53) (by kernel_rfl) 3 (Value.slice D z.ss.length d) (by kernel_rfl) (by kernel_rfl) (by kernel_rfl)) ?_
      refine wq_p 1 [(55, (Value.int .i64 ((z.ss.length : Int))))] ?_
      refine wq_v (some 56) (.bool true) (eq_is (v := (Value.bool (decide ((i : Int) < (z.ss.length : Int))))) (by kernel_rfl) (congrArg Value.bool (decide_eq_true (by omega)))) ?_
      refine wq_p 3 [(59, (Value.int .i64 ((z.bx.length : Int)))), (58, (Value.slice A1 z.bx.length c1)), (57, (Value.bool true))] ?_
      refine wq_v (some 60) (.bool false) (eq_is (v := (Value.bool (decide ((z.bx.length : Int) > 0)))) (by kernel_rfl) (congrArg Value.bool (decide_eq_false (by omega)))) ?_
      refine wq_p 1 [(61, (Value.bool false))] ?_
      refine wl_end rfl ?_
      refine seq_n hK29 ?_
      refine wp_cond_false (by kernel_rfl) ?_
      refine wp_skip ?_
      refine seq_n hK28 ?_
      refine wp_seq_k ?_
      intro K55 hK55
      rcases (show i < z.ls.length ∨ ¬ i < z.ls.length by omega) with hil | hil
      ·
       refine reg_lit ?_
       refine wq_p 2 [(85, (pt g2 2)), (84, (Value.int .i64 ((i : Int))))] ?_
       refine wq_v (some 86) (Value.slice C z.ls.length c) (e_load (h22.at_ 10 rfl) 84 (.tmp 85) (by kernel_rfl) 2 (Value.slice C z.ls.length c) (by kernel_rfl) (by kernel_rfl) (by kernel_rfl)) ?_
       refine wq_p 1 [(87, (Value.int .i64 ((z.ls.length : Int))))] ?_
       refine wq_v (some 88) (.bool true) (eq_is (v := (Value.bool (decide ((i : Int) < (z.ls.length : Int))))) (by kernel_rfl) (congrArg Value.bool (decide_eq_true (by omega)))) ?_
       refine wl_end rfl ?_
       refine seq_n hK55 ?_
       refine wp_cond_true (by kernel_rfl) ?_
       refine wp_seq_k ?_
       intro K57 hK57
       obtain ⟨y, hy⟩ : ∃ y, z.ls[i]? = some y := ⟨_, List.getElem?_eq_getElem (by omega)⟩
       have hky := kN_lt (n := z.of.length) y (by omega)
       refine reg_lit ?_
       refine wq_p 1 [(89, (pt g2 2))] ?_
       refine wq_v (some 90) (Value.slice C z.ls.length c) (e_load (h22.at_ 10 rfl) 84 (.tmp 89) (by kernel_rfl) 2 (Value.slice C z.ls.length c) (by kernel_rfl) (by kernel_rfl) (by kernel_rfl)) ?_
       refine wq_p 1 [(91, (Value.int .i64 ((i : Int))))] ?_
       refine wq_v (some 92) (eAt C (i * 1 + 0)) (e_idxN (RV.lenIs (n := z.ls.length) (h22.rd 4 rfl) (ivs_len _)).2 i z.ls.length (RV.lenIs (n := z.ls.length) (h22.rd 4 rfl) (ivs_len _)).1 (by omega) 84 (.tmp 90) (.tmp 91) (by kernel_rfl) .i64 (by kernel_rfl) (by kernel_rfl) 3 (by kernel_rfl) (by kernel_rfl) _) ?_
       refine wq_v (some 93) (Value.int .i64 y) (e_elemN (RV.lenIs (n := z.ls.length) (h22.rd 4 rfl) (ivs_len _)).2 i 0 ([(Value.int .i64 y)]) (ivs_get hy) 3 (.tmp 92) (by kernel_rfl) (Value.int .i64 y) (by kernel_rfl) (by kernel_rfl) (by kernel_rfl)) ?_
       refine wq_v (some 94) (Value.int .i64 ((m31 y : Int))) (eq_is (v := Value.int .i64 (bits .and .i64 y 31)) (by kernel_rfl) (congrArg (Value.int .i64) (m31_eq y).1)) ?_
       refine wq_p 2 [(96, (Value.int .i64 ((z.of.length : Int)))), (95, (Value.slice A2 z.of.length c2))] ?_
       refine wq_v (some 97) (Value.int .i64 ((kN z.of.length y : Int))) (e_rem (.tmp 94) (.tmp 96) 3 3 (by kernel_rfl) (m31 y) (z.of.length) (by kernel_rfl) (by kernel_rfl) (by omega) _) ?_
       refine wq_p 1 [(12, (Value.int .i64 ((kN z.of.length y : Int))))] ?_
       refine wl_end rfl ?_
       refine seq_n hK57 ?_
       refine wp_seq_k ?_
       intro K58 hK58
       refine wp_reset 201 [(0, (Value.agg ([(Value.slice A z.of.length a), (Value.slice B z.bx.length b), (Value.slice C z.ls.length c), (Value.slice D z.ss.length d)]).toArray)), (1, (pt g2 0)), (2, (Value.bool false)), (3, (pt tb 0)), (4, (Value.slice A1 z.bx.length c1)), (5, (Value.slice A2 z.of.length c2)), (6, (Value.slice A3 z.bx.length c3)), (7, (pt m14 0)), (8, (Value.slice A18 z.of.length z.of.length)), (9, (Value.slice A19 z.bx.length z.bx.length)), (10, (Value.int .i64 ((i : Int)))), (12, (Value.int .i64 ((kN z.of.length y : Int)))), (23, (Value.bool false)), (26, (Value.bool (!t))), (48, (Value.int .i64 (((max z.ls.length z.ss.length : Nat) : Int)))), (49, (Value.int .i64 ((i : Int)))), (50, (Value.bool (decide ((i : Int) < ((max z.ls.length z.ss.length : Nat) : Int))))), (61, (Value.bool false)), (88, (Value.bool true))] (fun x59 => ?_)
       refine reg_lit ?_
       refine wq_p 3 [(100, (Value.int .i64 ((kN z.of.length y : Int)))), (99, (pt tb 0)), (98, (pt m14 0))] ?_
       refine wq_v (some 101) (Value.int .i64 (((kN z.of.length y + 1 : Nat) : Int))) (exec_add _ _ _ _ rfl ((kN z.of.length y : Int)) 1 (by kernel_rfl) (by kernel_rfl) ((kN z.of.length y + 1 : Nat) : Int) (by omega) (by omega) (by omega) _) ?_
       refine wq_to (some 102) (x_nth (tb := tb) h22 ((kN z.of.length y + 1 : Nat)) (by kernel_rfl) (by have := kN_lt (n := z.of.length) y (by omega); omega)) ?_
       rintro _ w60 ⟨K60, rfl, hK60, h60⟩
       have hKx := hK60
       refine wq_to (some 103) (x_learn h60 0 3 rfl rfl (by kernel_rfl) hp14 K60 (by kernel_rfl) hW (by omega) hsm) ?_
       rintro _ w61 ⟨F61, S61, rfl, hM61, h61⟩
       refine wl_end rfl ?_
       refine seq_n hK58 ?_
       refine reg_lit ?_
       refine wq_p 2 [(105, (Value.int .i64 ((kN z.of.length y : Int)))), (104, (Value.slice A18 z.of.length z.of.length))] ?_
       refine wq_v (some 106) (eAt A18 (((kN z.of.length y)) * 1 + 0)) (e_idxN (OV.rvn (h61.at_ 1 rfl)).2 ((kN z.of.length y)) z.of.length (OV.rvn (h61.at_ 1 rfl)).1 (by omega) 98 (.tmp 104) (.tmp 105) (by kernel_rfl) .i64 (by kernel_rfl) (by kernel_rfl) 4 (by kernel_rfl) (by kernel_rfl) _) ?_
       refine wq_to none (x_setBool h61 1 rfl ((kN z.of.length y)) (by rw [hfl]; omega) 4 (.tmp 106) (.const (Value.bool true)) (by kernel_rfl) true (by kernel_rfl) (by kernel_rfl) (by kernel_rfl) (f.set (kN z.of.length y) true) rfl) ?_
       rintro _ w62 h62
       refine wl_end rfl ?_
       refine blk_n ?_
       refine seq_n hK26 ?_
       refine reg_lit ?_
       refine wq_v (some 107) (Value.int .i64 ((i : Int) + 1)) (exec_add _ _ _ _ rfl ((i : Int)) 1 (by kernel_rfl) (by kernel_rfl) ((i : Int) + 1) rfl (by omega) (by omega) _) ?_
       refine wq_p 1 [(49, (Value.int .i64 ((i : Int) + 1)))] ?_
       refine wl_end rfl ?_
       refine ⟨(max z.ls.length z.ss.length) - (i + 1), (by omega), (i + 1), F61, S61, ((f.set (kN z.of.length y) true)), g, (by omega), (WS.lists ((hM61.toWS).moreN (Nat.le_succ _)) (by rw [lkTo_succ hy, hKx]) (by rw [lbTo_none hno, lbTo_none hno])), (hfk.set (kN_lt y (by omega)) f2 (lkTo_succ hy)), (hfg.eq (by rw [lbTo_none hno, lbTo_none hno])), rfl, (patch_eq _ 201 _ (by kernel_rfl) (by kernel_rfl) (by kernel_rfl)), h62.sel [0, 1, 2, 3, 4, 5, 6, 7, 8, 9, 10] [0, 1, 2, 3, 4, 5] (by kernel_rfl) rfl rfl⟩
      ·
       refine reg_lit ?_
       refine wq_p 2 [(85, (pt g2 2)), (84, (Value.int .i64 ((i : Int))))] ?_
       refine wq_v (some 86) (Value.slice C z.ls.length c) (e_load (h22.at_ 10 rfl) 84 (.tmp 85) (by kernel_rfl) 2 (Value.slice C z.ls.length c) (by kernel_rfl) (by kernel_rfl) (by kernel_rfl)) ?_
       refine wq_p 1 [(87, (Value.int .i64 ((z.ls.length : Int))))] ?_
       refine wq_v (some 88) (.bool false) (eq_is (v := (Value.bool (decide ((i : Int) < (z.ls.length : Int))))) (by kernel_rfl) (congrArg Value.bool (decide_eq_false (by omega)))) ?_
       refine wl_end rfl ?_
       refine seq_n hK55 ?_
       refine wp_cond_false (by kernel_rfl) ?_
       refine wp_skip ?_
       refine blk_n ?_
       refine seq_n hK26 ?_
       refine reg_lit ?_
       refine wq_v (some 107) (Value.int .i64 ((i : Int) + 1)) (exec_add _ _ _ _ rfl ((i : Int)) 1 (by kernel_rfl) (by kernel_rfl) ((i : Int) + 1) rfl (by omega) (by omega) _) ?_
       refine wq_p 1 [(49, (Value.int .i64 ((i : Int) + 1)))] ?_
       refine wl_end rfl ?_
       refine ⟨(max z.ls.length z.ss.length) - (i + 1), (by omega), (i + 1), F1, S1, f, g, (by omega), (WS.lists ((hW).moreN (Nat.le_succ _)) (lkTo_stay (by omega)).symm (by rw [lbTo_none hno, lbTo_none hno])), (hfk.eq (lkTo_stay (by omega))), (hfg.eq (by rw [lbTo_none hno, lbTo_none hno])), rfl, (patch_eq _ 201 _ (by kernel_rfl) (by kernel_rfl) (by kernel_rfl)), h22.sel [0, 1, 2, 3, 4, 5, 6, 7, 8, 9, 10] [0, 1, 2, 3, 4, 5] (by kernel_rfl) rfl rfl⟩
    ·
     refine wp_exit ?_
     refine seq_e ?_
     refine seq_e ?_
     refine blk_e ?_
     refine seq_n hK20 ?_
     refine wp_seq_k ?_
     intro K63 hK63
     refine reg_lit ?_
     refine wq_p 4 [(112, (Value.slice A19 z.bx.length z.bx.length)), (111, (Value.slice A18 z.of.length z.of.length)), (110, (Value.slice A3 z.bx.length c3)), (109, (Value.slice A2 z.of.length c2))] ?_
     have hbl : hb.length = z.bx.length := by have := congrArg List.length hht; rw [List.length_map, tri_len] at this; exact this
     refine wq_to (some 113) (x_rclose h22 (by kernel_rfl) (OV.rvn (h22.at_ 6 rfl)).2 (OV.rvn (h22.at_ 7 rfl)).2 (h22.at_ 8 rfl) (h22.at_ 9 rfl) (OV.rvn (h22.at_ 1 rfl)).2 (OV.rvn (h22.at_ 2 rfl)).2 hfk.1 hbl ofTo_len hfg.1 f2 f3 (fun k x hx => made_of hx) (made_six f6 hht)) ?_
     rintro _ w64 ⟨A641, c641, A642, c642, A643, X, rfl, hX, h64⟩
     have hC := knows_closes (X := X) hf hk2 hb2 (seen_of hfk hfg (lk_all (by omega)) lb_all) (by rw [hht] at hX; exact hX)
     have hXl : X.kn.length = z.of.length ∧ X.hd.length = z.bx.length ∧ X.op.length = z.bx.length := by
       have := closeS_len (of := ofTo z.of z.of.length) (bx := hb.map triOf) (X := ⟨f, g, List.replicate z.bx.length false⟩) (z.of.length + z.bx.length + 2)
       rw [← hX] at this
       exact ⟨this.1.trans hfk.1, this.2.1.trans hfg.1, this.2.2.trans (by simp)⟩
     obtain ⟨hC1, hC2, hC3⟩ := hC
     obtain ⟨hX1, hX2, hX3⟩ := hXl
     refine wq_p 7 [(15, (Value.slice A643 z.bx.length z.bx.length)), (14, (Value.slice A642 z.bx.length c642)), (13, (Value.slice A641 z.of.length c641)), (116, (Value.slice A643 z.bx.length z.bx.length)), (115, (Value.slice A642 z.bx.length c642)), (114, (Value.slice A641 z.of.length c641)), (108, (Value.tuple #[(Value.slice A641 z.of.length c641), (Value.slice A642 z.bx.length c642), (Value.slice A643 z.bx.length z.bx.length)]))] ?_
     refine wl_end rfl ?_
     refine seq_n hK63 ?_
     refine wp_seq_k ?_
     intro K65 hK65
     refine reg_lit ?_
     refine wq_p 1 [(16, (Value.int .i64 0))] ?_
     refine wl_end rfl ?_
     refine seq_n hK65 ?_
     refine wp_seq_k ?_
     intro K66 hK66
     refine wp_seq_k ?_
     intro K67 hK67
     refine reg_lit ?_
     refine wq_p 3 [(119, (Value.int .i64 0)), (118, (Value.int .i64 ((z.of.length : Int)))), (117, (Value.slice A641 z.of.length c641))] ?_
     refine wl_end rfl ?_
     refine seq_n hK67 ?_
     refine wp_block ?_
     obtain ⟨LK9, hLK9⟩ : ∃ a, a = (lkTo z.of.length z.ls (i)) := ⟨_, rfl⟩
     obtain ⟨LB9, hLB9⟩ : ∃ a, a = (lbTo z.bx.length z.ss (i)) := ⟨_, rfl⟩
     have hWx := hW.moreN (show i ≤ 12 by omega)
     rw [← hLK9, ← hLB9] at hWx hC1 hC2 hC3
     refine wp_loopm (fun mM xX aA wL => ∃ (j : Nat) (F2 : Nat → Prop) (S2 : KM) (cn : Nat), (j ≤ z.of.length) ∧ (WSl s LK9 LB9 12 S2) ∧ (cn = cntTo X.kn (j)) ∧ mM = z.of.length - (j) ∧ aA = patch xX 201 [(0, (Value.agg ([(Value.slice A z.of.length a), (Value.slice B z.bx.length b), (Value.slice C z.ls.length c), (Value.slice D z.ss.length d)]).toArray)), (1, (pt g2 0)), (3, (pt tb 0)), (4, (Value.slice A1 z.bx.length c1)), (5, (Value.slice A2 z.of.length c2)), (6, (Value.slice A3 z.bx.length c3)), (7, (pt m14 0)), (8, (Value.slice A18 z.of.length z.of.length)), (9, (Value.slice A19 z.bx.length z.bx.length)), (13, (Value.slice A641 z.of.length c641)), (14, (Value.slice A642 z.bx.length c642)), (15, (Value.slice A643 z.bx.length z.bx.length)), (16, (Value.int .i64 (((cn : Nat) : Int)))), (23, (Value.bool false)), (26, (Value.bool (!t))), (48, (Value.int .i64 (((max z.ls.length z.ss.length : Nat) : Int)))), (49, (Value.int .i64 ((i : Int)))), (50, (Value.bool (decide ((i : Int) < ((max z.ls.length z.ss.length : Nat) : Int))))), (117, (Value.slice A641 z.of.length c641)), (118, (Value.int .i64 ((z.of.length : Int)))), (119, (Value.int .i64 ((j : Int))))] ∧ Hp (fun _ => False) w wL [rRV 1 A a (ivs z.of), rRV 3 B b (z.bx.map kbCells), rISs (z.bx.map (·.kv)) (z.bx.map (·.ks)), rISs (z.bx.map (·.bv)) (z.bx.map (·.bs)), rRV 1 C c (ivs z.ls), rRV 1 D d (ivs z.ss)] [rMind F2 none m14 p14 S2, rOV 4 1 ((Value.slice A641 z.of.length c641)) (bvs X.kn), rOV 4 1 ((Value.slice A642 z.bx.length c642)) (bvs X.hd), rOV 4 1 ((Value.slice A643 z.bx.length z.bx.length)) (bvs X.op), rOV 4 1 ((Value.slice A18 z.of.length z.of.length)) (bvs f), rOV 4 1 ((Value.slice A19 z.bx.length z.bx.length)) (bvs g), rTab F0 tb s, rOV 28 1 ((Value.slice A1 z.bx.length c1)) (mv.map fun v => [v]), rSBs mv (mkTo z.bx.length), rOV 3 1 ((Value.slice A2 z.of.length c2)) (ivs (ofTo z.of z.of.length)), rOV 131 3 ((Value.slice A3 z.bx.length c3)) (hb.map kbCells), rISs (hb.map (·.kv)) (hb.map (·.ks)), rISs (hb.map (·.bv)) (hb.map (·.bs)), rBlk g2 87 ([(Value.slice A z.of.length a), (Value.slice B z.bx.length b), (Value.slice C z.ls.length c), (Value.slice D z.ss.length d)])]) ⟨_, 0, F1, S1, 0, (by omega), hWx, rfl, rfl, (patch_eq _ 201 _ (by kernel_rfl) (by kernel_rfl) (by kernel_rfl)), h64.sel [3, 0, 1, 2, 4, 5, 6, 7, 8, 9, 10, 11, 12, 13] [0, 1, 2, 3, 4, 5] (by kernel_rfl) rfl rfl⟩ ?_
     rintro _ x68 _ w68 ⟨j, F2, S2, cn, hj, hW2, hcn, rfl, rfl, h68⟩
     refine wp_seq_k ?_
     intro K69 hK69
     refine reg_lit ?_
     refine wq_p 1 [(120, (Value.bool (decide ((j : Int) < (z.of.length : Int)))))] ?_
     refine wl_end rfl ?_
     refine seq_n hK69 ?_
     refine wp_seq_k ?_
     intro K70 hK70
     refine wp_if ((j : Int) < (z.of.length : Int)) (by kernel_rfl) (fun b71 => ?_) (fun b71 => ?_)
     ·
      refine wp_skip ?_
      refine seq_n hK70 ?_
      refine wp_seq_k ?_
      intro K72 hK72
      refine wp_block ?_
      refine wp_seq_k ?_
      intro K73 hK73
      rcases bool_at (l := X.kn) (i := j) (by omega) with hbi | hbi
      ·
       refine reg_lit ?_
       refine wq_p 1 [(121, (Value.int .i64 ((j : Int))))] ?_
       refine wq_v (some 122) (eAt A641 (j * 1 + 0)) (e_idxN (OV.rvn (h68.at_ 1 rfl)).2 j z.of.length (OV.rvn (h68.at_ 1 rfl)).1 (by omega) 98 (.tmp 117) (.tmp 119) (by kernel_rfl) .i64 (by kernel_rfl) (by kernel_rfl) 4 (by kernel_rfl) (by kernel_rfl) _) ?_
       refine wq_v (some 123) (Value.bool true) (e_elemN (OV.rvn (h68.at_ 1 rfl)).2 j 0 ([(Value.bool true)]) (bvs_get hbi) 4 (.tmp 122) (by kernel_rfl) (Value.bool true) (by kernel_rfl) (by kernel_rfl) (by kernel_rfl)) ?_
       refine wq_p 2 [(18, (Value.bool true)), (17, (Value.int .i64 ((j : Int))))] ?_
       refine wl_end rfl ?_
       refine seq_n hK73 ?_
       refine wp_seq_k ?_
       intro K75 hK75
       refine reg_lit ?_
       refine wq_p 2 [(125, (Value.int .i64 ((j : Int)))), (124, (pt tb 0))] ?_
       refine wq_v (some 126) (Value.int .i64 (((j + 1 : Nat) : Int))) (exec_add _ _ _ _ rfl ((j : Int)) 1 (by kernel_rfl) (by kernel_rfl) ((j + 1 : Nat) : Int) (by omega) (by omega) (by omega) _) ?_
       refine wq_to (some 127) (x_nth (tb := tb) h68 ((j + 1 : Nat)) (by kernel_rfl) (by omega)) ?_
       rintro _ w76 ⟨K76, rfl, hK76, h76⟩
       have hKx := hK76
       refine wq_to (some 19) (x_new h76 42 (vb (List.replicate 16 0)) (fun r => pt r 0) (by kernel_rfl)) ?_
       rintro _ w77 ⟨g77, rfl, h77⟩
       refine wq_to none (x_stores h77 0 rfl 42 (.tmp 19) (.tmp 127) (by kernel_rfl) 0 (vb (kl K76)) (vb (kl K76)) (by kernel_rfl) (by kernel_rfl) (by kernel_rfl) (by kernel_rfl) (by kernel_rfl) (by kernel_rfl)) ?_
       rintro _ w78 h78
       refine wl_end rfl ?_
       refine seq_n hK75 ?_
       refine wp_seq_k ?_
       intro K79 hK79
       refine wp_seq_k ?_
       intro K80 hK80
       refine reg_lit ?_
       refine wq_p 1 [(128, (pt m14 0))] ?_
       refine wq_v (some 129) (Value.agg (vb (kl K76)).toArray) (e_loads (h78.at_ 0 rfl) 42 (.tmp 19) (by kernel_rfl) 0 (vb (kl K76)) (by kernel_rfl) (by kernel_rfl) (by kernel_rfl)) ?_
       refine wq_to (some 130) (mdec true (decK true (by rw [hKx]; exact knb (hC1 j (by omega)) hbi)) (x_kkey h78 1 7 rfl rfl (by kernel_rfl) hp14 K76 (by kernel_rfl) hW2 (by omega) hsm)) ?_
       rintro _ w81 ⟨F81, S81, rfl, hM81, h81⟩
       refine wq_p 5 [(135, (Value.slice (some ⟨g77, 0, none⟩) 16 16)), (134, (pt m14 0)), (133, (Value.bool false)), (132, (Value.bool false)), (131, (Value.bool true))] ?_
       refine wq_to (some 136) (mdec true (decFk true (n := j + 1) (by omega) hKx (by rw [hKx]; exact knb (hC1 j (by omega)) hbi)) (x_fits h81 1 7 rfl rfl (by kernel_rfl) hp14 (by kernel_rfl) (h81.apartB 1 7 0 rfl rfl rfl (by kernel_rfl) (by kernel_rfl)) hM81.toWS (by omega) hsm (by rw [kl_len]; decide))) ?_
       rintro _ w82 ⟨F82, S82, rfl, hM82, h82⟩
       refine wq_p 3 [(139, (Value.bool false)), (138, (Value.bool false)), (137, (Value.bool true))] ?_
       refine wl_end rfl ?_
       refine seq_n hK80 ?_
       refine wp_cond_false (by kernel_rfl) ?_
       refine wp_skip ?_
       refine seq_n hK79 ?_
       refine wp_seq_k ?_
       intro K83 hK83
       refine reg_lit ?_
       refine wq_p 1 [(140, (Value.bool true))] ?_
       refine wl_end rfl ?_
       refine seq_n hK83 ?_
       refine wp_cond_true (by kernel_rfl) ?_
       refine wp_reset 201 [(0, (Value.agg ([(Value.slice A z.of.length a), (Value.slice B z.bx.length b), (Value.slice C z.ls.length c), (Value.slice D z.ss.length d)]).toArray)), (1, (pt g2 0)), (3, (pt tb 0)), (4, (Value.slice A1 z.bx.length c1)), (5, (Value.slice A2 z.of.length c2)), (6, (Value.slice A3 z.bx.length c3)), (7, (pt m14 0)), (8, (Value.slice A18 z.of.length z.of.length)), (9, (Value.slice A19 z.bx.length z.bx.length)), (13, (Value.slice A641 z.of.length c641)), (14, (Value.slice A642 z.bx.length c642)), (15, (Value.slice A643 z.bx.length z.bx.length)), (16, (Value.int .i64 (((cn : Nat) : Int)))), (17, (Value.int .i64 ((j : Int)))), (18, (Value.bool true)), (19, (pt g77 0)), (23, (Value.bool false)), (26, (Value.bool (!t))), (48, (Value.int .i64 (((max z.ls.length z.ss.length : Nat) : Int)))), (49, (Value.int .i64 ((i : Int)))), (50, (Value.bool (decide ((i : Int) < ((max z.ls.length z.ss.length : Nat) : Int))))), (117, (Value.slice A641 z.of.length c641)), (118, (Value.int .i64 ((z.of.length : Int)))), (119, (Value.int .i64 ((j : Int)))), (120, (Value.bool (decide ((j : Int) < (z.of.length : Int))))), (139, (Value.bool false)), (140, (Value.bool true))] (fun x84 => ?_)
       refine reg_lit ?_
       refine wq_p 1 [(141, (Value.int .i64 (((cn : Nat) : Int))))] ?_
       refine wq_v (some 142) (Value.int .i64 (((cn + 1 : Nat) : Int))) (exec_add _ _ _ _ rfl (((cn : Nat) : Int)) 1 (by kernel_rfl) (by kernel_rfl) ((cn + 1 : Nat) : Int) (by omega) (by have := cntTo_le (f := X.kn) (i := j); omega) (by have := cntTo_le (f := X.kn) (i := j); omega) _) ?_
       refine wq_p 1 [(16, (Value.int .i64 (((cn + 1 : Nat) : Int))))] ?_
       refine wl_end rfl ?_
       refine blk_n ?_
       refine seq_n hK72 ?_
       refine reg_lit ?_
       refine wq_v (some 143) (Value.int .i64 ((j : Int) + 1)) (exec_add _ _ _ _ rfl ((j : Int)) 1 (by kernel_rfl) (by kernel_rfl) ((j : Int) + 1) rfl (by omega) (by omega) _) ?_
       refine wq_p 1 [(119, (Value.int .i64 ((j : Int) + 1)))] ?_
       refine wl_end rfl ?_
       refine ⟨z.of.length - (j + 1), (by omega), (j + 1), F82, S82, (cn + 1), (by omega), hM82.toWS, (by rw [cntTo_yes hbi, hcn]), rfl, (patch_eq _ 201 _ (by kernel_rfl) (by kernel_rfl) (by kernel_rfl)), h82.sel [1, 2, 3, 4, 5, 6, 7, 8, 9, 10, 11, 12, 13, 14] [0, 1, 2, 3, 4, 5] (by kernel_rfl) rfl rfl⟩
      ·
       refine reg_lit ?_
       refine wq_p 1 [(121, (Value.int .i64 ((j : Int))))] ?_
       refine wq_v (some 122) (eAt A641 (j * 1 + 0)) (e_idxN (OV.rvn (h68.at_ 1 rfl)).2 j z.of.length (OV.rvn (h68.at_ 1 rfl)).1 (by omega) 98 (.tmp 117) (.tmp 119) (by kernel_rfl) .i64 (by kernel_rfl) (by kernel_rfl) 4 (by kernel_rfl) (by kernel_rfl) _) ?_
       refine wq_v (some 123) (Value.bool false) (e_elemN (OV.rvn (h68.at_ 1 rfl)).2 j 0 ([(Value.bool false)]) (bvs_get hbi) 4 (.tmp 122) (by kernel_rfl) (Value.bool false) (by kernel_rfl) (by kernel_rfl) (by kernel_rfl)) ?_
       refine wq_p 2 [(18, (Value.bool false)), (17, (Value.int .i64 ((j : Int))))] ?_
       refine wl_end rfl ?_
       refine seq_n hK73 ?_
       refine wp_seq_k ?_
       intro K85 hK85
       refine reg_lit ?_
       refine wq_p 2 [(125, (Value.int .i64 ((j : Int)))), (124, (pt tb 0))] ?_
       refine wq_v (some 126) (Value.int .i64 (((j + 1 : Nat) : Int))) (exec_add _ _ _ _ rfl ((j : Int)) 1 (by kernel_rfl) (by kernel_rfl) ((j + 1 : Nat) : Int) (by omega) (by omega) (by omega) _) ?_
       refine wq_to (some 127) (x_nth (tb := tb) h68 ((j + 1 : Nat)) (by kernel_rfl) (by omega)) ?_
       rintro _ w86 ⟨K86, rfl, hK86, h86⟩
       have hKx := hK86
       refine wq_to (some 19) (x_new h86 42 (vb (List.replicate 16 0)) (fun r => pt r 0) (by kernel_rfl)) ?_
       rintro _ w87 ⟨g87, rfl, h87⟩
       refine wq_to none (x_stores h87 0 rfl 42 (.tmp 19) (.tmp 127) (by kernel_rfl) 0 (vb (kl K86)) (vb (kl K86)) (by kernel_rfl) (by kernel_rfl) (by kernel_rfl) (by kernel_rfl) (by kernel_rfl) (by kernel_rfl)) ?_
       rintro _ w88 h88
       refine wl_end rfl ?_
       refine seq_n hK85 ?_
       refine wp_seq_k ?_
       intro K89 hK89
       refine wp_seq_k ?_
       intro K90 hK90
       refine reg_lit ?_
       refine wq_p 1 [(128, (pt m14 0))] ?_
       refine wq_v (some 129) (Value.agg (vb (kl K86)).toArray) (e_loads (h88.at_ 0 rfl) 42 (.tmp 19) (by kernel_rfl) 0 (vb (kl K86)) (by kernel_rfl) (by kernel_rfl) (by kernel_rfl)) ?_
       refine wq_to (some 130) (mdec false (decK false (by rw [hKx]; exact knb (hC1 j (by omega)) hbi)) (x_kkey h88 1 7 rfl rfl (by kernel_rfl) hp14 K86 (by kernel_rfl) hW2 (by omega) hsm)) ?_
       rintro _ w91 ⟨F91, S91, rfl, hM91, h91⟩
       refine wq_p 5 [(135, (Value.slice (some ⟨g87, 0, none⟩) 16 16)), (134, (pt m14 0)), (133, (Value.bool false)), (132, (Value.bool false)), (131, (Value.bool false))] ?_
       refine wq_to (some 136) (mdec false (decFk false (n := j + 1) (by omega) hKx (by rw [hKx]; exact knb (hC1 j (by omega)) hbi)) (x_fits h91 1 7 rfl rfl (by kernel_rfl) hp14 (by kernel_rfl) (h91.apartB 1 7 0 rfl rfl rfl (by kernel_rfl) (by kernel_rfl)) hM91.toWS (by omega) hsm (by rw [kl_len]; decide))) ?_
       rintro _ w92 ⟨F92, S92, rfl, hM92, h92⟩
       refine wq_p 3 [(139, (Value.bool false)), (138, (Value.bool false)), (137, (Value.bool false))] ?_
       refine wl_end rfl ?_
       refine seq_n hK90 ?_
       refine wp_cond_false (by kernel_rfl) ?_
       refine wp_skip ?_
       refine seq_n hK89 ?_
       refine wp_seq_k ?_
       intro K93 hK93
       refine reg_lit ?_
       refine wq_p 1 [(140, (Value.bool false))] ?_
       refine wl_end rfl ?_
       refine seq_n hK93 ?_
       refine wp_cond_false (by kernel_rfl) ?_
       refine wp_skip ?_
       refine blk_n ?_
       refine seq_n hK72 ?_
       refine wp_reset 201 [(0, (Value.agg ([(Value.slice A z.of.length a), (Value.slice B z.bx.length b), (Value.slice C z.ls.length c), (Value.slice D z.ss.length d)]).toArray)), (1, (pt g2 0)), (3, (pt tb 0)), (4, (Value.slice A1 z.bx.length c1)), (5, (Value.slice A2 z.of.length c2)), (6, (Value.slice A3 z.bx.length c3)), (7, (pt m14 0)), (8, (Value.slice A18 z.of.length z.of.length)), (9, (Value.slice A19 z.bx.length z.bx.length)), (13, (Value.slice A641 z.of.length c641)), (14, (Value.slice A642 z.bx.length c642)), (15, (Value.slice A643 z.bx.length z.bx.length)), (16, (Value.int .i64 (((cn : Nat) : Int)))), (17, (Value.int .i64 ((j : Int)))), (18, (Value.bool false)), (19, (pt g87 0)), (23, (Value.bool false)), (26, (Value.bool (!t))), (48, (Value.int .i64 (((max z.ls.length z.ss.length : Nat) : Int)))), (49, (Value.int .i64 ((i : Int)))), (50, (Value.bool (decide ((i : Int) < ((max z.ls.length z.ss.length : Nat) : Int))))), (117, (Value.slice A641 z.of.length c641)), (118, (Value.int .i64 ((z.of.length : Int)))), (119, (Value.int .i64 ((j : Int)))), (120, (Value.bool (decide ((j : Int) < (z.of.length : Int))))), (139, (Value.bool false)), (140, (Value.bool false))] (fun x94 => ?_)
       refine reg_lit ?_
       refine wq_v (some 143) (Value.int .i64 ((j : Int) + 1)) (exec_add _ _ _ _ rfl ((j : Int)) 1 (by kernel_rfl) (by kernel_rfl) ((j : Int) + 1) rfl (by omega) (by omega) _) ?_
       refine wq_p 1 [(119, (Value.int .i64 ((j : Int) + 1)))] ?_
       refine wl_end rfl ?_
       refine ⟨z.of.length - (j + 1), (by omega), (j + 1), F92, S92, cn, (by omega), hM92.toWS, (by rw [cntTo_no hbi, hcn]), rfl, (patch_eq _ 201 _ (by kernel_rfl) (by kernel_rfl) (by kernel_rfl)), h92.sel [1, 2, 3, 4, 5, 6, 7, 8, 9, 10, 11, 12, 13, 14] [0, 1, 2, 3, 4, 5] (by kernel_rfl) rfl rfl⟩
     ·
      refine wp_exit ?_
      refine seq_e ?_
      refine seq_e ?_
      refine blk_e ?_
      refine seq_n hK66 ?_
      refine wp_seq_k ?_
      intro K95 hK95
      refine wp_seq_k ?_
      intro K96 hK96
      refine reg_lit ?_
      refine wq_p 3 [(146, (Value.int .i64 0)), (145, (Value.int .i64 ((z.bx.length : Int)))), (144, (Value.slice A1 z.bx.length c1))] ?_
      refine wl_end rfl ?_
      refine seq_n hK96 ?_
      refine wp_block ?_
      have hcn9 : cn = cntTo X.kn z.of.length := by rw [hcn, show j = z.of.length by omega]
      refine wp_loopm (fun mM xX aA wL => ∃ (q : Nat) (F3 : Nat → Prop) (S3 : KM), (q ≤ z.bx.length) ∧ (WSl s LK9 LB9 12 S3) ∧ mM = z.bx.length - (q) ∧ aA = patch xX 201 [(0, (Value.agg ([(Value.slice A z.of.length a), (Value.slice B z.bx.length b), (Value.slice C z.ls.length c), (Value.slice D z.ss.length d)]).toArray)), (1, (pt g2 0)), (3, (pt tb 0)), (4, (Value.slice A1 z.bx.length c1)), (5, (Value.slice A2 z.of.length c2)), (6, (Value.slice A3 z.bx.length c3)), (7, (pt m14 0)), (8, (Value.slice A18 z.of.length z.of.length)), (9, (Value.slice A19 z.bx.length z.bx.length)), (13, (Value.slice A641 z.of.length c641)), (14, (Value.slice A642 z.bx.length c642)), (15, (Value.slice A643 z.bx.length z.bx.length)), (16, (Value.int .i64 (((cn : Nat) : Int)))), (23, (Value.bool false)), (26, (Value.bool (!t))), (48, (Value.int .i64 (((max z.ls.length z.ss.length : Nat) : Int)))), (49, (Value.int .i64 ((i : Int)))), (50, (Value.bool (decide ((i : Int) < ((max z.ls.length z.ss.length : Nat) : Int))))), (117, (Value.slice A641 z.of.length c641)), (118, (Value.int .i64 ((z.of.length : Int)))), (119, (Value.int .i64 ((j : Int)))), (120, (Value.bool (decide ((j : Int) < (z.of.length : Int))))), (144, (Value.slice A1 z.bx.length c1)), (145, (Value.int .i64 ((z.bx.length : Int)))), (146, (Value.int .i64 ((q : Int))))] ∧ Hp (fun _ => False) w wL [rRV 1 A a (ivs z.of), rRV 3 B b (z.bx.map kbCells), rISs (z.bx.map (·.kv)) (z.bx.map (·.ks)), rISs (z.bx.map (·.bv)) (z.bx.map (·.bs)), rRV 1 C c (ivs z.ls), rRV 1 D d (ivs z.ss)] [rMind F3 none m14 p14 S3, rOV 4 1 ((Value.slice A641 z.of.length c641)) (bvs X.kn), rOV 4 1 ((Value.slice A642 z.bx.length c642)) (bvs X.hd), rOV 4 1 ((Value.slice A643 z.bx.length z.bx.length)) (bvs X.op), rOV 4 1 ((Value.slice A18 z.of.length z.of.length)) (bvs f), rOV 4 1 ((Value.slice A19 z.bx.length z.bx.length)) (bvs g), rTab F0 tb s, rOV 28 1 ((Value.slice A1 z.bx.length c1)) (mv.map fun v => [v]), rSBs mv (mkTo z.bx.length), rOV 3 1 ((Value.slice A2 z.of.length c2)) (ivs (ofTo z.of z.of.length)), rOV 131 3 ((Value.slice A3 z.bx.length c3)) (hb.map kbCells), rISs (hb.map (·.kv)) (hb.map (·.ks)), rISs (hb.map (·.bv)) (hb.map (·.bs)), rBlk g2 87 ([(Value.slice A z.of.length a), (Value.slice B z.bx.length b), (Value.slice C z.ls.length c), (Value.slice D z.ss.length d)])]) ⟨_, 0, F2, S2, (by omega), hW2, rfl, (patch_eq _ 201 _ (by kernel_rfl) (by kernel_rfl) (by kernel_rfl)), h68.sel [0, 1, 2, 3, 4, 5, 6, 7, 8, 9, 10, 11, 12, 13] [0, 1, 2, 3, 4, 5] (by kernel_rfl) rfl rfl⟩ ?_
      rintro _ x97 _ w97 ⟨q, F3, S3, hq, hW3, rfl, rfl, h97⟩
      refine wp_seq_k ?_
      intro K98 hK98
      refine reg_lit ?_
      refine wq_p 1 [(147, (Value.bool (decide ((q : Int) < (z.bx.length : Int)))))] ?_
      refine wl_end rfl ?_
      refine seq_n hK98 ?_
      refine wp_seq_k ?_
      intro K99 hK99
      refine wp_if ((q : Int) < (z.bx.length : Int)) (by kernel_rfl) (fun b100 => ?_) (fun b100 => ?_)
      ·
       refine wp_skip ?_
       refine seq_n hK99 ?_
       refine wp_seq_k ?_
       intro K101 hK101
       refine wp_block ?_
       refine wp_seq_k ?_
       intro K102 hK102
       rcases bool_at (l := X.hd) (i := q) (by omega) with hb1 | hb1 <;> rcases bool_at (l := X.op) (i := q) (by omega) with hb3 | hb3
       ·
        obtain ⟨MAE, mcE, myE, hvE, hlE⟩ := sbsget (h97.at_ 8 rfl) (by rw [mkTo_len]; exact hmv) (q) (by rw [mkTo_len]; omega)
        have hmE : myE = mkB 98 (q + 1) := by
          rw [mkTo_at (by omega)] at hlE
          injection hlE with hlE
          exact hlE.symm
        
        refine reg_lit ?_
        refine wq_p 1 [(148, (Value.int .i64 ((q : Int))))] ?_
        refine wq_v (some 149) (eAt A1 (q * 1 + 0)) (e_idxN (OV.rvn (h97.at_ 7 rfl)).2 q z.bx.length (OV.rvn (h97.at_ 7 rfl)).1 (by omega) 63 (.tmp 144) (.tmp 146) (by kernel_rfl) .i64 (by kernel_rfl) (by kernel_rfl) 28 (by kernel_rfl) (by kernel_rfl) _) ?_
        refine wq_v (some 150) (Value.slice MAE myE.length mcE) (e_elemN (OV.rvn (h97.at_ 7 rfl)).2 q 0 ([(Value.slice MAE myE.length mcE)]) (by rw [List.getElem?_map, hvE]; rfl) 28 (.tmp 149) (by kernel_rfl) (Value.slice MAE myE.length mcE) (by kernel_rfl) (by kernel_rfl) (by kernel_rfl)) ?_
        refine wq_p 2 [(21, (Value.slice MAE myE.length mcE)), (20, (Value.int .i64 ((q : Int))))] ?_
        refine wl_end rfl ?_
        refine seq_n hK102 ?_
        refine wp_seq_k ?_
        intro K104 hK104
        refine pR_go h97 31 (fun W => (rOV 4 1 ((Value.slice A642 z.bx.length c642)) (bvs X.hd)).Φ W ∧ (rOV 4 1 ((Value.slice A643 z.bx.length z.bx.length)) (bvs X.op)).Φ W ∧ True) [(152, [7], 0), (153, [21], 0), (154, [151, 152], 3), (155, [14], 0), (156, [20], 0), (157, [154, 155], 24), (158, [156], 32), (159, [153, 157], 68), (160, [158], 132), (161, [7, 159], 256), (162, [21, 159], 256), (163, [160, 161, 159], 1792), (164, [15, 159], 256), (165, [20, 159], 256), (166, [163, 164, 159], 12544), (167, [165, 159], 16640), (168, [162, 166, 159], 35072), (169, [159, 167], 65792), (170, [168], 133120), (171, [7, 169], 262144), (172, [21, 169], 262144), (173, [21, 169], 262144), (174, [171, 172, 169], 3407872), (175, [173, 169], 4456448), (176, [170, 174, 169], 9175040), (177, [14, 169], 262144), (178, [20, 169], 262144), (179, [176, 177, 169], 100925440), (180, [178, 169], 134479872), (181, [175, 179, 169], 285474816), (182, [169, 180], 537133056)] rfl (fun _ d _ _ _ h => by cases d <;> exact h) ?_
        intro hs105 w105 h105
        refine pR_p 27 [0, 1, 3, 4] [(155, (Value.int .i64 ((q : Int)))), (154, (Value.slice A642 z.bx.length c642)), (152, (Value.slice MAE myE.length mcE)), (151, (pt m14 0))] 27 hs105 ⟨h105.at_ 2 rfl, h105.at_ 3 rfl, trivial⟩ ?_
        refine pR_v 5 (some 156) (eAt A642 (q * 1 + 0)) 59 rfl hs105 ⟨h105.at_ 2 rfl, h105.at_ 3 rfl, trivial⟩ (fun W hW => e_idxN (OV.rvn (h105.at_ 2 rfl)).2 q z.bx.length (OV.rvn (h105.at_ 2 rfl)).1 (by omega) 98 (.tmp 154) (.tmp 155) (by kernel_rfl) .i64 (by kernel_rfl) (by kernel_rfl) 4 (by kernel_rfl) (by kernel_rfl) _) ?_
        refine pR_v 6 (some 157) (Value.bool true) 123 rfl hs105 ⟨h105.at_ 2 rfl, h105.at_ 3 rfl, trivial⟩ (fun W hW => e_elemN (OV.rvn hW.1).2 q 0 ([(Value.bool true)]) (bvs_get hb1) 4 (.tmp 156) (by kernel_rfl) (Value.bool true) (by kernel_rfl) (by kernel_rfl) (by kernel_rfl)) ?_
        refine pR_to 2 (some 153) 127 rfl hs105 (mdec true (decX true (by rw [hmE]; exact knb (hC2 q (by omega)) hb1)) (x_kbox h105 0 6 rfl rfl (by kernel_rfl) hp14 (by kernel_rfl) (h105.apartL 0 6 8 rfl rfl rfl (by kernel_rfl) (by kernel_rfl) hvE hlE) hW3 (by omega) hsm (by rw [hmE]; rfl))) ?_
        rintro _ w106 ⟨F106, S106, rfl, hM106, h106⟩
        refine ⟨fun _ => ⟨h106.at_ 2 rfl, h106.at_ 3 rfl, trivial⟩, ?_⟩
        refine pR_p 18 [7, 8, 9, 10, 12, 13] [(164, (Value.int .i64 ((q : Int)))), (163, (Value.slice A643 z.bx.length z.bx.length)), (161, (Value.slice MAE myE.length mcE)), (160, (pt m14 0)), (159, (Value.bool false)), (158, (Value.bool false))] 14335 hs105 ⟨h106.at_ 2 rfl, h106.at_ 3 rfl, trivial⟩ ?_
        refine pR_v 14 (some 165) (eAt A643 (q * 1 + 0)) 30719 rfl hs105 ⟨h106.at_ 2 rfl, h106.at_ 3 rfl, trivial⟩ (fun W hW => e_idxN (OV.rvn (h106.at_ 3 rfl)).2 q z.bx.length (OV.rvn (h106.at_ 3 rfl)).1 (by omega) 98 (.tmp 163) (.tmp 164) (by kernel_rfl) .i64 (by kernel_rfl) (by kernel_rfl) 4 (by kernel_rfl) (by kernel_rfl) _) ?_
        refine pR_v 15 (some 166) (Value.bool true) 63487 rfl hs105 ⟨h106.at_ 2 rfl, h106.at_ 3 rfl, trivial⟩ (fun W hW => e_elemN (OV.rvn hW.2.1).2 q 0 ([(Value.bool true)]) (bvs_get hb3) 4 (.tmp 165) (by kernel_rfl) (Value.bool true) (by kernel_rfl) (by kernel_rfl) (by kernel_rfl)) ?_
        refine pR_to 11 (some 162) 65535 rfl hs105 (mdec true (decO true (by rw [hmE]; exact knb (hC3 q (by omega)) hb3)) (x_kopens h106 0 6 rfl rfl (by kernel_rfl) hp14 (by kernel_rfl) (h106.apartL 0 6 8 rfl rfl rfl (by kernel_rfl) (by kernel_rfl) hvE hlE) hM106.toWS (by omega) hsm (by rw [hmE]; rfl))) ?_
        rintro _ w107 ⟨F107, S107, rfl, hM107, h107⟩
        refine ⟨fun _ => ⟨h107.at_ 2 rfl, h107.at_ 3 rfl, trivial⟩, ?_⟩
        refine pR_p 7 [16, 17, 18, 19, 20, 21, 25, 26] [(177, (Value.int .i64 ((q : Int)))), (176, (Value.slice A642 z.bx.length c642)), (172, (Value.slice MAE myE.length mcE)), (171, (Value.slice MAE myE.length mcE)), (170, (pt m14 0)), (169, (Value.bool false)), (168, (Value.bool false)), (167, (Value.bool false))] 104857599 hs105 ⟨h107.at_ 2 rfl, h107.at_ 3 rfl, trivial⟩ ?_
        refine pR_v 27 (some 178) (eAt A642 (q * 1 + 0)) 239075327 rfl hs105 ⟨h107.at_ 2 rfl, h107.at_ 3 rfl, trivial⟩ (fun W hW => e_idxN (OV.rvn (h107.at_ 2 rfl)).2 q z.bx.length (OV.rvn (h107.at_ 2 rfl)).1 (by omega) 98 (.tmp 176) (.tmp 177) (by kernel_rfl) .i64 (by kernel_rfl) (by kernel_rfl) 4 (by kernel_rfl) (by kernel_rfl) _) ?_
        refine pR_v 28 (some 179) (Value.bool true) 507510783 rfl hs105 ⟨h107.at_ 2 rfl, h107.at_ 3 rfl, trivial⟩ (fun W hW => e_elemN (OV.rvn hW.1).2 q 0 ([(Value.bool true)]) (bvs_get hb1) 4 (.tmp 178) (by kernel_rfl) (Value.bool true) (by kernel_rfl) (by kernel_rfl) (by kernel_rfl)) ?_
        refine pR_to 22 (some 173) 511705087 rfl hs105 (x_bs h107 28 ([(Value.slice MAE myE.length mcE), (Value.slice MAE myE.length mcE)]) 2 (by kernel_rfl)) ?_
        rintro _ w108 ⟨g108, rfl, h108⟩
        refine ⟨fun _ => ⟨h108.at_ 3 rfl, h108.at_ 4 rfl, trivial⟩, ?_⟩
        refine pR_to 23 (some 174) 520093695 rfl hs105 (x_joined h108 [myE, myE] (Value.slice (some ⟨g108, 0, none⟩) 2 2) (by kernel_rfl) (ss2 (h108.at_ 0 rfl) ((h108.at_ 9 rfl) _ _ _ hvE hlE) ((h108.at_ 9 rfl) _ _ _ hvE hlE)) (myE ++ myE) (by simp) (by rw [hmE]; show 32 ≤ 1000000; decide)) ?_
        rintro _ w109 ⟨A109, c109, rfl, h109⟩
        refine ⟨fun _ => ⟨h109.at_ 4 rfl, h109.at_ 5 rfl, trivial⟩, ?_⟩
        refine pR_to 24 (some 175) 536870911 rfl hs105 (mdec true (decFbb true hmE (by omega) (by rw [hmE]; exact knb (hC2 q (by omega)) hb1)) (x_fits h109 2 8 rfl rfl (by kernel_rfl) hp14 (by kernel_rfl) (h109.apartO 2 8 0 rfl rfl rfl (by kernel_rfl) (by kernel_rfl)) hM107.toWS (by omega) hsm (by rw [hmE]; show 32 ≤ 1000000; decide))) ?_
        rintro _ w110 ⟨F110, S110, rfl, hM110, h110⟩
        refine ⟨fun _ => ⟨h110.at_ 4 rfl, h110.at_ 5 rfl, trivial⟩, ?_⟩
        refine pR_p 0 [29, 30] [(181, (Value.bool false)), (180, (Value.bool false))] 2147483647 hs105 ⟨h110.at_ 4 rfl, h110.at_ 5 rfl, trivial⟩ ?_
        refine pR_done hs105 ?_ _
        refine seq_n hK104 ?_
        refine wp_cond_false (by kernel_rfl) ?_
        refine wp_skip ?_
        refine blk_n ?_
        refine seq_n hK101 ?_
        refine wp_reset 201 [(0, (Value.agg ([(Value.slice A z.of.length a), (Value.slice B z.bx.length b), (Value.slice C z.ls.length c), (Value.slice D z.ss.length d)]).toArray)), (1, (pt g2 0)), (3, (pt tb 0)), (4, (Value.slice A1 z.bx.length c1)), (5, (Value.slice A2 z.of.length c2)), (6, (Value.slice A3 z.bx.length c3)), (7, (pt m14 0)), (8, (Value.slice A18 z.of.length z.of.length)), (9, (Value.slice A19 z.bx.length z.bx.length)), (13, (Value.slice A641 z.of.length c641)), (14, (Value.slice A642 z.bx.length c642)), (15, (Value.slice A643 z.bx.length z.bx.length)), (16, (Value.int .i64 (((cn : Nat) : Int)))), (20, (Value.int .i64 ((q : Int)))), (21, (Value.slice MAE myE.length mcE)), (23, (Value.bool false)), (26, (Value.bool (!t))), (48, (Value.int .i64 (((max z.ls.length z.ss.length : Nat) : Int)))), (49, (Value.int .i64 ((i : Int)))), (50, (Value.bool (decide ((i : Int) < ((max z.ls.length z.ss.length : Nat) : Int))))), (117, (Value.slice A641 z.of.length c641)), (118, (Value.int .i64 ((z.of.length : Int)))), (119, (Value.int .i64 ((j : Int)))), (120, (Value.bool (decide ((j : Int) < (z.of.length : Int))))), (144, (Value.slice A1 z.bx.length c1)), (145, (Value.int .i64 ((z.bx.length : Int)))), (146, (Value.int .i64 ((q : Int)))), (147, (Value.bool (decide ((q : Int) < (z.bx.length : Int))))), (181, (Value.bool false))] (fun x111 => ?_)
        refine reg_lit ?_
        refine wq_v (some 182) (Value.int .i64 ((q : Int) + 1)) (exec_add _ _ _ _ rfl ((q : Int)) 1 (by kernel_rfl) (by kernel_rfl) ((q : Int) + 1) rfl (by omega) (by omega) _) ?_
        refine wq_p 1 [(146, (Value.int .i64 ((q : Int) + 1)))] ?_
        refine wl_end rfl ?_
        refine ⟨z.bx.length - (q + 1), (by omega), (q + 1), F110, S110, (by omega), hM110.toWS, rfl, (patch_eq _ 201 _ (by kernel_rfl) (by kernel_rfl) (by kernel_rfl)), h110.sel [2, 3, 4, 5, 6, 7, 8, 9, 10, 11, 12, 13, 14, 15] [0, 1, 2, 3, 4, 5] (by kernel_rfl) rfl rfl⟩
       ·
        obtain ⟨MAE, mcE, myE, hvE, hlE⟩ := sbsget (h97.at_ 8 rfl) (by rw [mkTo_len]; exact hmv) (q) (by rw [mkTo_len]; omega)
        have hmE : myE = mkB 98 (q + 1) := by
          rw [mkTo_at (by omega)] at hlE
          injection hlE with hlE
          exact hlE.symm
        
        refine reg_lit ?_
        refine wq_p 1 [(148, (Value.int .i64 ((q : Int))))] ?_
        refine wq_v (some 149) (eAt A1 (q * 1 + 0)) (e_idxN (OV.rvn (h97.at_ 7 rfl)).2 q z.bx.length (OV.rvn (h97.at_ 7 rfl)).1 (by omega) 63 (.tmp 144) (.tmp 146) (by kernel_rfl) .i64 (by kernel_rfl) (by kernel_rfl) 28 (by kernel_rfl) (by kernel_rfl) _) ?_
        refine wq_v (some 150) (Value.slice MAE myE.length mcE) (e_elemN (OV.rvn (h97.at_ 7 rfl)).2 q 0 ([(Value.slice MAE myE.length mcE)]) (by rw [List.getElem?_map, hvE]; rfl) 28 (.tmp 149) (by kernel_rfl) (Value.slice MAE myE.length mcE) (by kernel_rfl) (by kernel_rfl) (by kernel_rfl)) ?_
        refine wq_p 2 [(21, (Value.slice MAE myE.length mcE)), (20, (Value.int .i64 ((q : Int))))] ?_
        refine wl_end rfl ?_
        refine seq_n hK102 ?_
        refine wp_seq_k ?_
        intro K112 hK112
        refine pR_go h97 31 (fun W => (rOV 4 1 ((Value.slice A642 z.bx.length c642)) (bvs X.hd)).Φ W ∧ (rOV 4 1 ((Value.slice A643 z.bx.length z.bx.length)) (bvs X.op)).Φ W ∧ True) [(152, [7], 0), (153, [21], 0), (154, [151, 152], 3), (155, [14], 0), (156, [20], 0), (157, [154, 155], 24), (158, [156], 32), (159, [153, 157], 68), (160, [158], 132), (161, [7, 159], 256), (162, [21, 159], 256), (163, [160, 161, 159], 1792), (164, [15, 159], 256), (165, [20, 159], 256), (166, [163, 164, 159], 12544), (167, [165, 159], 16640), (168, [162, 166, 159], 35072), (169, [159, 167], 65792), (170, [168], 133120), (171, [7, 169], 262144), (172, [21, 169], 262144), (173, [21, 169], 262144), (174, [171, 172, 169], 3407872), (175, [173, 169], 4456448), (176, [170, 174, 169], 9175040), (177, [14, 169], 262144), (178, [20, 169], 262144), (179, [176, 177, 169], 100925440), (180, [178, 169], 134479872), (181, [175, 179, 169], 285474816), (182, [169, 180], 537133056)] rfl (fun _ d _ _ _ h => by cases d <;> exact h) ?_
        intro hs113 w113 h113
        refine pR_p 27 [0, 1, 3, 4] [(155, (Value.int .i64 ((q : Int)))), (154, (Value.slice A642 z.bx.length c642)), (152, (Value.slice MAE myE.length mcE)), (151, (pt m14 0))] 27 hs113 ⟨h113.at_ 2 rfl, h113.at_ 3 rfl, trivial⟩ ?_
        refine pR_v 5 (some 156) (eAt A642 (q * 1 + 0)) 59 rfl hs113 ⟨h113.at_ 2 rfl, h113.at_ 3 rfl, trivial⟩ (fun W hW => e_idxN (OV.rvn (h113.at_ 2 rfl)).2 q z.bx.length (OV.rvn (h113.at_ 2 rfl)).1 (by omega) 98 (.tmp 154) (.tmp 155) (by kernel_rfl) .i64 (by kernel_rfl) (by kernel_rfl) 4 (by kernel_rfl) (by kernel_rfl) _) ?_
        refine pR_v 6 (some 157) (Value.bool true) 123 rfl hs113 ⟨h113.at_ 2 rfl, h113.at_ 3 rfl, trivial⟩ (fun W hW => e_elemN (OV.rvn hW.1).2 q 0 ([(Value.bool true)]) (bvs_get hb1) 4 (.tmp 156) (by kernel_rfl) (Value.bool true) (by kernel_rfl) (by kernel_rfl) (by kernel_rfl)) ?_
        refine pR_to 2 (some 153) 127 rfl hs113 (mdec true (decX true (by rw [hmE]; exact knb (hC2 q (by omega)) hb1)) (x_kbox h113 0 6 rfl rfl (by kernel_rfl) hp14 (by kernel_rfl) (h113.apartL 0 6 8 rfl rfl rfl (by kernel_rfl) (by kernel_rfl) hvE hlE) hW3 (by omega) hsm (by rw [hmE]; rfl))) ?_
        rintro _ w114 ⟨F114, S114, rfl, hM114, h114⟩
        refine ⟨fun _ => ⟨h114.at_ 2 rfl, h114.at_ 3 rfl, trivial⟩, ?_⟩
        refine pR_p 18 [7, 8, 9, 10, 12, 13] [(164, (Value.int .i64 ((q : Int)))), (163, (Value.slice A643 z.bx.length z.bx.length)), (161, (Value.slice MAE myE.length mcE)), (160, (pt m14 0)), (159, (Value.bool false)), (158, (Value.bool false))] 14335 hs113 ⟨h114.at_ 2 rfl, h114.at_ 3 rfl, trivial⟩ ?_
        refine pR_v 14 (some 165) (eAt A643 (q * 1 + 0)) 30719 rfl hs113 ⟨h114.at_ 2 rfl, h114.at_ 3 rfl, trivial⟩ (fun W hW => e_idxN (OV.rvn (h114.at_ 3 rfl)).2 q z.bx.length (OV.rvn (h114.at_ 3 rfl)).1 (by omega) 98 (.tmp 163) (.tmp 164) (by kernel_rfl) .i64 (by kernel_rfl) (by kernel_rfl) 4 (by kernel_rfl) (by kernel_rfl) _) ?_
        refine pR_v 15 (some 166) (Value.bool false) 63487 rfl hs113 ⟨h114.at_ 2 rfl, h114.at_ 3 rfl, trivial⟩ (fun W hW => e_elemN (OV.rvn hW.2.1).2 q 0 ([(Value.bool false)]) (bvs_get hb3) 4 (.tmp 165) (by kernel_rfl) (Value.bool false) (by kernel_rfl) (by kernel_rfl) (by kernel_rfl)) ?_
        refine pR_to 11 (some 162) 65535 rfl hs113 (mdec false (decO false (by rw [hmE]; exact knb (hC3 q (by omega)) hb3)) (x_kopens h114 0 6 rfl rfl (by kernel_rfl) hp14 (by kernel_rfl) (h114.apartL 0 6 8 rfl rfl rfl (by kernel_rfl) (by kernel_rfl) hvE hlE) hM114.toWS (by omega) hsm (by rw [hmE]; rfl))) ?_
        rintro _ w115 ⟨F115, S115, rfl, hM115, h115⟩
        refine ⟨fun _ => ⟨h115.at_ 2 rfl, h115.at_ 3 rfl, trivial⟩, ?_⟩
        refine pR_p 7 [16, 17, 18, 19, 20, 21, 25, 26] [(177, (Value.int .i64 ((q : Int)))), (176, (Value.slice A642 z.bx.length c642)), (172, (Value.slice MAE myE.length mcE)), (171, (Value.slice MAE myE.length mcE)), (170, (pt m14 0)), (169, (Value.bool false)), (168, (Value.bool false)), (167, (Value.bool false))] 104857599 hs113 ⟨h115.at_ 2 rfl, h115.at_ 3 rfl, trivial⟩ ?_
        refine pR_v 27 (some 178) (eAt A642 (q * 1 + 0)) 239075327 rfl hs113 ⟨h115.at_ 2 rfl, h115.at_ 3 rfl, trivial⟩ (fun W hW => e_idxN (OV.rvn (h115.at_ 2 rfl)).2 q z.bx.length (OV.rvn (h115.at_ 2 rfl)).1 (by omega) 98 (.tmp 176) (.tmp 177) (by kernel_rfl) .i64 (by kernel_rfl) (by kernel_rfl) 4 (by kernel_rfl) (by kernel_rfl) _) ?_
        refine pR_v 28 (some 179) (Value.bool true) 507510783 rfl hs113 ⟨h115.at_ 2 rfl, h115.at_ 3 rfl, trivial⟩ (fun W hW => e_elemN (OV.rvn hW.1).2 q 0 ([(Value.bool true)]) (bvs_get hb1) 4 (.tmp 178) (by kernel_rfl) (Value.bool true) (by kernel_rfl) (by kernel_rfl) (by kernel_rfl)) ?_
        refine pR_to 22 (some 173) 511705087 rfl hs113 (x_bs h115 28 ([(Value.slice MAE myE.length mcE), (Value.slice MAE myE.length mcE)]) 2 (by kernel_rfl)) ?_
        rintro _ w116 ⟨g116, rfl, h116⟩
        refine ⟨fun _ => ⟨h116.at_ 3 rfl, h116.at_ 4 rfl, trivial⟩, ?_⟩
        refine pR_to 23 (some 174) 520093695 rfl hs113 (x_joined h116 [myE, myE] (Value.slice (some ⟨g116, 0, none⟩) 2 2) (by kernel_rfl) (ss2 (h116.at_ 0 rfl) ((h116.at_ 9 rfl) _ _ _ hvE hlE) ((h116.at_ 9 rfl) _ _ _ hvE hlE)) (myE ++ myE) (by simp) (by rw [hmE]; show 32 ≤ 1000000; decide)) ?_
        rintro _ w117 ⟨A117, c117, rfl, h117⟩
        refine ⟨fun _ => ⟨h117.at_ 4 rfl, h117.at_ 5 rfl, trivial⟩, ?_⟩
        refine pR_to 24 (some 175) 536870911 rfl hs113 (mdec true (decFbb true hmE (by omega) (by rw [hmE]; exact knb (hC2 q (by omega)) hb1)) (x_fits h117 2 8 rfl rfl (by kernel_rfl) hp14 (by kernel_rfl) (h117.apartO 2 8 0 rfl rfl rfl (by kernel_rfl) (by kernel_rfl)) hM115.toWS (by omega) hsm (by rw [hmE]; show 32 ≤ 1000000; decide))) ?_
        rintro _ w118 ⟨F118, S118, rfl, hM118, h118⟩
        refine ⟨fun _ => ⟨h118.at_ 4 rfl, h118.at_ 5 rfl, trivial⟩, ?_⟩
        refine pR_p 0 [29, 30] [(181, (Value.bool false)), (180, (Value.bool false))] 2147483647 hs113 ⟨h118.at_ 4 rfl, h118.at_ 5 rfl, trivial⟩ ?_
        refine pR_done hs113 ?_ _
        refine seq_n hK112 ?_
        refine wp_cond_false (by kernel_rfl) ?_
        refine wp_skip ?_
        refine blk_n ?_
        refine seq_n hK101 ?_
        refine wp_reset 201 [(0, (Value.agg ([(Value.slice A z.of.length a), (Value.slice B z.bx.length b), (Value.slice C z.ls.length c), (Value.slice D z.ss.length d)]).toArray)), (1, (pt g2 0)), (3, (pt tb 0)), (4, (Value.slice A1 z.bx.length c1)), (5, (Value.slice A2 z.of.length c2)), (6, (Value.slice A3 z.bx.length c3)), (7, (pt m14 0)), (8, (Value.slice A18 z.of.length z.of.length)), (9, (Value.slice A19 z.bx.length z.bx.length)), (13, (Value.slice A641 z.of.length c641)), (14, (Value.slice A642 z.bx.length c642)), (15, (Value.slice A643 z.bx.length z.bx.length)), (16, (Value.int .i64 (((cn : Nat) : Int)))), (20, (Value.int .i64 ((q : Int)))), (21, (Value.slice MAE myE.length mcE)), (23, (Value.bool false)), (26, (Value.bool (!t))), (48, (Value.int .i64 (((max z.ls.length z.ss.length : Nat) : Int)))), (49, (Value.int .i64 ((i : Int)))), (50, (Value.bool (decide ((i : Int) < ((max z.ls.length z.ss.length : Nat) : Int))))), (117, (Value.slice A641 z.of.length c641)), (118, (Value.int .i64 ((z.of.length : Int)))), (119, (Value.int .i64 ((j : Int)))), (120, (Value.bool (decide ((j : Int) < (z.of.length : Int))))), (144, (Value.slice A1 z.bx.length c1)), (145, (Value.int .i64 ((z.bx.length : Int)))), (146, (Value.int .i64 ((q : Int)))), (147, (Value.bool (decide ((q : Int) < (z.bx.length : Int))))), (181, (Value.bool false))] (fun x119 => ?_)
        refine reg_lit ?_
        refine wq_v (some 182) (Value.int .i64 ((q : Int) + 1)) (exec_add _ _ _ _ rfl ((q : Int)) 1 (by kernel_rfl) (by kernel_rfl) ((q : Int) + 1) rfl (by omega) (by omega) _) ?_
        refine wq_p 1 [(146, (Value.int .i64 ((q : Int) + 1)))] ?_
        refine wl_end rfl ?_
        refine ⟨z.bx.length - (q + 1), (by omega), (q + 1), F118, S118, (by omega), hM118.toWS, rfl, (patch_eq _ 201 _ (by kernel_rfl) (by kernel_rfl) (by kernel_rfl)), h118.sel [2, 3, 4, 5, 6, 7, 8, 9, 10, 11, 12, 13, 14, 15] [0, 1, 2, 3, 4, 5] (by kernel_rfl) rfl rfl⟩
       ·
        obtain ⟨MAE, mcE, myE, hvE, hlE⟩ := sbsget (h97.at_ 8 rfl) (by rw [mkTo_len]; exact hmv) (q) (by rw [mkTo_len]; omega)
        have hmE : myE = mkB 98 (q + 1) := by
          rw [mkTo_at (by omega)] at hlE
          injection hlE with hlE
          exact hlE.symm
        
        refine reg_lit ?_
        refine wq_p 1 [(148, (Value.int .i64 ((q : Int))))] ?_
        refine wq_v (some 149) (eAt A1 (q * 1 + 0)) (e_idxN (OV.rvn (h97.at_ 7 rfl)).2 q z.bx.length (OV.rvn (h97.at_ 7 rfl)).1 (by omega) 63 (.tmp 144) (.tmp 146) (by kernel_rfl) .i64 (by kernel_rfl) (by kernel_rfl) 28 (by kernel_rfl) (by kernel_rfl) _) ?_
        refine wq_v (some 150) (Value.slice MAE myE.length mcE) (e_elemN (OV.rvn (h97.at_ 7 rfl)).2 q 0 ([(Value.slice MAE myE.length mcE)]) (by rw [List.getElem?_map, hvE]; rfl) 28 (.tmp 149) (by kernel_rfl) (Value.slice MAE myE.length mcE) (by kernel_rfl) (by kernel_rfl) (by kernel_rfl)) ?_
        refine wq_p 2 [(21, (Value.slice MAE myE.length mcE)), (20, (Value.int .i64 ((q : Int))))] ?_
        refine wl_end rfl ?_
        refine seq_n hK102 ?_
        refine wp_seq_k ?_
        intro K120 hK120
        refine pR_go h97 31 (fun W => (rOV 4 1 ((Value.slice A642 z.bx.length c642)) (bvs X.hd)).Φ W ∧ (rOV 4 1 ((Value.slice A643 z.bx.length z.bx.length)) (bvs X.op)).Φ W ∧ True) [(152, [7], 0), (153, [21], 0), (154, [151, 152], 3), (155, [14], 0), (156, [20], 0), (157, [154, 155], 24), (158, [156], 32), (159, [153, 157], 68), (160, [158], 132), (161, [7, 159], 256), (162, [21, 159], 256), (163, [160, 161, 159], 1792), (164, [15, 159], 256), (165, [20, 159], 256), (166, [163, 164, 159], 12544), (167, [165, 159], 16640), (168, [162, 166, 159], 35072), (169, [159, 167], 65792), (170, [168], 133120), (171, [7, 169], 262144), (172, [21, 169], 262144), (173, [21, 169], 262144), (174, [171, 172, 169], 3407872), (175, [173, 169], 4456448), (176, [170, 174, 169], 9175040), (177, [14, 169], 262144), (178, [20, 169], 262144), (179, [176, 177, 169], 100925440), (180, [178, 169], 134479872), (181, [175, 179, 169], 285474816), (182, [169, 180], 537133056)] rfl (fun _ d _ _ _ h => by cases d <;> exact h) ?_
        intro hs121 w121 h121
        refine pR_p 27 [0, 1, 3, 4] [(155, (Value.int .i64 ((q : Int)))), (154, (Value.slice A642 z.bx.length c642)), (152, (Value.slice MAE myE.length mcE)), (151, (pt m14 0))] 27 hs121 ⟨h121.at_ 2 rfl, h121.at_ 3 rfl, trivial⟩ ?_
        refine pR_v 5 (some 156) (eAt A642 (q * 1 + 0)) 59 rfl hs121 ⟨h121.at_ 2 rfl, h121.at_ 3 rfl, trivial⟩ (fun W hW => e_idxN (OV.rvn (h121.at_ 2 rfl)).2 q z.bx.length (OV.rvn (h121.at_ 2 rfl)).1 (by omega) 98 (.tmp 154) (.tmp 155) (by kernel_rfl) .i64 (by kernel_rfl) (by kernel_rfl) 4 (by kernel_rfl) (by kernel_rfl) _) ?_
        refine pR_v 6 (some 157) (Value.bool false) 123 rfl hs121 ⟨h121.at_ 2 rfl, h121.at_ 3 rfl, trivial⟩ (fun W hW => e_elemN (OV.rvn hW.1).2 q 0 ([(Value.bool false)]) (bvs_get hb1) 4 (.tmp 156) (by kernel_rfl) (Value.bool false) (by kernel_rfl) (by kernel_rfl) (by kernel_rfl)) ?_
        refine pR_to 2 (some 153) 127 rfl hs121 (mdec false (decX false (by rw [hmE]; exact knb (hC2 q (by omega)) hb1)) (x_kbox h121 0 6 rfl rfl (by kernel_rfl) hp14 (by kernel_rfl) (h121.apartL 0 6 8 rfl rfl rfl (by kernel_rfl) (by kernel_rfl) hvE hlE) hW3 (by omega) hsm (by rw [hmE]; rfl))) ?_
        rintro _ w122 ⟨F122, S122, rfl, hM122, h122⟩
        refine ⟨fun _ => ⟨h122.at_ 2 rfl, h122.at_ 3 rfl, trivial⟩, ?_⟩
        refine pR_p 18 [7, 8, 9, 10, 12, 13] [(164, (Value.int .i64 ((q : Int)))), (163, (Value.slice A643 z.bx.length z.bx.length)), (161, (Value.slice MAE myE.length mcE)), (160, (pt m14 0)), (159, (Value.bool false)), (158, (Value.bool false))] 14335 hs121 ⟨h122.at_ 2 rfl, h122.at_ 3 rfl, trivial⟩ ?_
        refine pR_v 14 (some 165) (eAt A643 (q * 1 + 0)) 30719 rfl hs121 ⟨h122.at_ 2 rfl, h122.at_ 3 rfl, trivial⟩ (fun W hW => e_idxN (OV.rvn (h122.at_ 3 rfl)).2 q z.bx.length (OV.rvn (h122.at_ 3 rfl)).1 (by omega) 98 (.tmp 163) (.tmp 164) (by kernel_rfl) .i64 (by kernel_rfl) (by kernel_rfl) 4 (by kernel_rfl) (by kernel_rfl) _) ?_
        refine pR_v 15 (some 166) (Value.bool true) 63487 rfl hs121 ⟨h122.at_ 2 rfl, h122.at_ 3 rfl, trivial⟩ (fun W hW => e_elemN (OV.rvn hW.2.1).2 q 0 ([(Value.bool true)]) (bvs_get hb3) 4 (.tmp 165) (by kernel_rfl) (Value.bool true) (by kernel_rfl) (by kernel_rfl) (by kernel_rfl)) ?_
        refine pR_to 11 (some 162) 65535 rfl hs121 (mdec true (decO true (by rw [hmE]; exact knb (hC3 q (by omega)) hb3)) (x_kopens h122 0 6 rfl rfl (by kernel_rfl) hp14 (by kernel_rfl) (h122.apartL 0 6 8 rfl rfl rfl (by kernel_rfl) (by kernel_rfl) hvE hlE) hM122.toWS (by omega) hsm (by rw [hmE]; rfl))) ?_
        rintro _ w123 ⟨F123, S123, rfl, hM123, h123⟩
        refine ⟨fun _ => ⟨h123.at_ 2 rfl, h123.at_ 3 rfl, trivial⟩, ?_⟩
        refine pR_p 7 [16, 17, 18, 19, 20, 21, 25, 26] [(177, (Value.int .i64 ((q : Int)))), (176, (Value.slice A642 z.bx.length c642)), (172, (Value.slice MAE myE.length mcE)), (171, (Value.slice MAE myE.length mcE)), (170, (pt m14 0)), (169, (Value.bool false)), (168, (Value.bool false)), (167, (Value.bool false))] 104857599 hs121 ⟨h123.at_ 2 rfl, h123.at_ 3 rfl, trivial⟩ ?_
        refine pR_v 27 (some 178) (eAt A642 (q * 1 + 0)) 239075327 rfl hs121 ⟨h123.at_ 2 rfl, h123.at_ 3 rfl, trivial⟩ (fun W hW => e_idxN (OV.rvn (h123.at_ 2 rfl)).2 q z.bx.length (OV.rvn (h123.at_ 2 rfl)).1 (by omega) 98 (.tmp 176) (.tmp 177) (by kernel_rfl) .i64 (by kernel_rfl) (by kernel_rfl) 4 (by kernel_rfl) (by kernel_rfl) _) ?_
        refine pR_v 28 (some 179) (Value.bool false) 507510783 rfl hs121 ⟨h123.at_ 2 rfl, h123.at_ 3 rfl, trivial⟩ (fun W hW => e_elemN (OV.rvn hW.1).2 q 0 ([(Value.bool false)]) (bvs_get hb1) 4 (.tmp 178) (by kernel_rfl) (Value.bool false) (by kernel_rfl) (by kernel_rfl) (by kernel_rfl)) ?_
        refine pR_to 22 (some 173) 511705087 rfl hs121 (x_bs h123 28 ([(Value.slice MAE myE.length mcE), (Value.slice MAE myE.length mcE)]) 2 (by kernel_rfl)) ?_
        rintro _ w124 ⟨g124, rfl, h124⟩
        refine ⟨fun _ => ⟨h124.at_ 3 rfl, h124.at_ 4 rfl, trivial⟩, ?_⟩
        refine pR_to 23 (some 174) 520093695 rfl hs121 (x_joined h124 [myE, myE] (Value.slice (some ⟨g124, 0, none⟩) 2 2) (by kernel_rfl) (ss2 (h124.at_ 0 rfl) ((h124.at_ 9 rfl) _ _ _ hvE hlE) ((h124.at_ 9 rfl) _ _ _ hvE hlE)) (myE ++ myE) (by simp) (by rw [hmE]; show 32 ≤ 1000000; decide)) ?_
        rintro _ w125 ⟨A125, c125, rfl, h125⟩
        refine ⟨fun _ => ⟨h125.at_ 4 rfl, h125.at_ 5 rfl, trivial⟩, ?_⟩
        refine pR_to 24 (some 175) 536870911 rfl hs121 (mdec false (decFbb false hmE (by omega) (by rw [hmE]; exact knb (hC2 q (by omega)) hb1)) (x_fits h125 2 8 rfl rfl (by kernel_rfl) hp14 (by kernel_rfl) (h125.apartO 2 8 0 rfl rfl rfl (by kernel_rfl) (by kernel_rfl)) hM123.toWS (by omega) hsm (by rw [hmE]; show 32 ≤ 1000000; decide))) ?_
        rintro _ w126 ⟨F126, S126, rfl, hM126, h126⟩
        refine ⟨fun _ => ⟨h126.at_ 4 rfl, h126.at_ 5 rfl, trivial⟩, ?_⟩
        refine pR_p 0 [29, 30] [(181, (Value.bool false)), (180, (Value.bool false))] 2147483647 hs121 ⟨h126.at_ 4 rfl, h126.at_ 5 rfl, trivial⟩ ?_
        refine pR_done hs121 ?_ _
        refine seq_n hK120 ?_
        refine wp_cond_false (by kernel_rfl) ?_
        refine wp_skip ?_
        refine blk_n ?_
        refine seq_n hK101 ?_
        refine wp_reset 201 [(0, (Value.agg ([(Value.slice A z.of.length a), (Value.slice B z.bx.length b), (Value.slice C z.ls.length c), (Value.slice D z.ss.length d)]).toArray)), (1, (pt g2 0)), (3, (pt tb 0)), (4, (Value.slice A1 z.bx.length c1)), (5, (Value.slice A2 z.of.length c2)), (6, (Value.slice A3 z.bx.length c3)), (7, (pt m14 0)), (8, (Value.slice A18 z.of.length z.of.length)), (9, (Value.slice A19 z.bx.length z.bx.length)), (13, (Value.slice A641 z.of.length c641)), (14, (Value.slice A642 z.bx.length c642)), (15, (Value.slice A643 z.bx.length z.bx.length)), (16, (Value.int .i64 (((cn : Nat) : Int)))), (20, (Value.int .i64 ((q : Int)))), (21, (Value.slice MAE myE.length mcE)), (23, (Value.bool false)), (26, (Value.bool (!t))), (48, (Value.int .i64 (((max z.ls.length z.ss.length : Nat) : Int)))), (49, (Value.int .i64 ((i : Int)))), (50, (Value.bool (decide ((i : Int) < ((max z.ls.length z.ss.length : Nat) : Int))))), (117, (Value.slice A641 z.of.length c641)), (118, (Value.int .i64 ((z.of.length : Int)))), (119, (Value.int .i64 ((j : Int)))), (120, (Value.bool (decide ((j : Int) < (z.of.length : Int))))), (144, (Value.slice A1 z.bx.length c1)), (145, (Value.int .i64 ((z.bx.length : Int)))), (146, (Value.int .i64 ((q : Int)))), (147, (Value.bool (decide ((q : Int) < (z.bx.length : Int))))), (181, (Value.bool false))] (fun x127 => ?_)
        refine reg_lit ?_
        refine wq_v (some 182) (Value.int .i64 ((q : Int) + 1)) (exec_add _ _ _ _ rfl ((q : Int)) 1 (by kernel_rfl) (by kernel_rfl) ((q : Int) + 1) rfl (by omega) (by omega) _) ?_
        refine wq_p 1 [(146, (Value.int .i64 ((q : Int) + 1)))] ?_
        refine wl_end rfl ?_
        refine ⟨z.bx.length - (q + 1), (by omega), (q + 1), F126, S126, (by omega), hM126.toWS, rfl, (patch_eq _ 201 _ (by kernel_rfl) (by kernel_rfl) (by kernel_rfl)), h126.sel [2, 3, 4, 5, 6, 7, 8, 9, 10, 11, 12, 13, 14, 15] [0, 1, 2, 3, 4, 5] (by kernel_rfl) rfl rfl⟩
       ·
        obtain ⟨MAE, mcE, myE, hvE, hlE⟩ := sbsget (h97.at_ 8 rfl) (by rw [mkTo_len]; exact hmv) (q) (by rw [mkTo_len]; omega)
        have hmE : myE = mkB 98 (q + 1) := by
          rw [mkTo_at (by omega)] at hlE
          injection hlE with hlE
          exact hlE.symm
        
        refine reg_lit ?_
        refine wq_p 1 [(148, (Value.int .i64 ((q : Int))))] ?_
        refine wq_v (some 149) (eAt A1 (q * 1 + 0)) (e_idxN (OV.rvn (h97.at_ 7 rfl)).2 q z.bx.length (OV.rvn (h97.at_ 7 rfl)).1 (by omega) 63 (.tmp 144) (.tmp 146) (by kernel_rfl) .i64 (by kernel_rfl) (by kernel_rfl) 28 (by kernel_rfl) (by kernel_rfl) _) ?_
        refine wq_v (some 150) (Value.slice MAE myE.length mcE) (e_elemN (OV.rvn (h97.at_ 7 rfl)).2 q 0 ([(Value.slice MAE myE.length mcE)]) (by rw [List.getElem?_map, hvE]; rfl) 28 (.tmp 149) (by kernel_rfl) (Value.slice MAE myE.length mcE) (by kernel_rfl) (by kernel_rfl) (by kernel_rfl)) ?_
        refine wq_p 2 [(21, (Value.slice MAE myE.length mcE)), (20, (Value.int .i64 ((q : Int))))] ?_
        refine wl_end rfl ?_
        refine seq_n hK102 ?_
        refine wp_seq_k ?_
        intro K128 hK128
        refine pR_go h97 31 (fun W => (rOV 4 1 ((Value.slice A642 z.bx.length c642)) (bvs X.hd)).Φ W ∧ (rOV 4 1 ((Value.slice A643 z.bx.length z.bx.length)) (bvs X.op)).Φ W ∧ True) [(152, [7], 0), (153, [21], 0), (154, [151, 152], 3), (155, [14], 0), (156, [20], 0), (157, [154, 155], 24), (158, [156], 32), (159, [153, 157], 68), (160, [158], 132), (161, [7, 159], 256), (162, [21, 159], 256), (163, [160, 161, 159], 1792), (164, [15, 159], 256), (165, [20, 159], 256), (166, [163, 164, 159], 12544), (167, [165, 159], 16640), (168, [162, 166, 159], 35072), (169, [159, 167], 65792), (170, [168], 133120), (171, [7, 169], 262144), (172, [21, 169], 262144), (173, [21, 169], 262144), (174, [171, 172, 169], 3407872), (175, [173, 169], 4456448), (176, [170, 174, 169], 9175040), (177, [14, 169], 262144), (178, [20, 169], 262144), (179, [176, 177, 169], 100925440), (180, [178, 169], 134479872), (181, [175, 179, 169], 285474816), (182, [169, 180], 537133056)] rfl (fun _ d _ _ _ h => by cases d <;> exact h) ?_
        intro hs129 w129 h129
        refine pR_p 27 [0, 1, 3, 4] [(155, (Value.int .i64 ((q : Int)))), (154, (Value.slice A642 z.bx.length c642)), (152, (Value.slice MAE myE.length mcE)), (151, (pt m14 0))] 27 hs129 ⟨h129.at_ 2 rfl, h129.at_ 3 rfl, trivial⟩ ?_
        refine pR_v 5 (some 156) (eAt A642 (q * 1 + 0)) 59 rfl hs129 ⟨h129.at_ 2 rfl, h129.at_ 3 rfl, trivial⟩ (fun W hW => e_idxN (OV.rvn (h129.at_ 2 rfl)).2 q z.bx.length (OV.rvn (h129.at_ 2 rfl)).1 (by omega) 98 (.tmp 154) (.tmp 155) (by kernel_rfl) .i64 (by kernel_rfl) (by kernel_rfl) 4 (by kernel_rfl) (by kernel_rfl) _) ?_
        refine pR_v 6 (some 157) (Value.bool false) 123 rfl hs129 ⟨h129.at_ 2 rfl, h129.at_ 3 rfl, trivial⟩ (fun W hW => e_elemN (OV.rvn hW.1).2 q 0 ([(Value.bool false)]) (bvs_get hb1) 4 (.tmp 156) (by kernel_rfl) (Value.bool false) (by kernel_rfl) (by kernel_rfl) (by kernel_rfl)) ?_
        refine pR_to 2 (some 153) 127 rfl hs129 (mdec false (decX false (by rw [hmE]; exact knb (hC2 q (by omega)) hb1)) (x_kbox h129 0 6 rfl rfl (by kernel_rfl) hp14 (by kernel_rfl) (h129.apartL 0 6 8 rfl rfl rfl (by kernel_rfl) (by kernel_rfl) hvE hlE) hW3 (by omega) hsm (by rw [hmE]; rfl))) ?_
        rintro _ w130 ⟨F130, S130, rfl, hM130, h130⟩
        refine ⟨fun _ => ⟨h130.at_ 2 rfl, h130.at_ 3 rfl, trivial⟩, ?_⟩
        refine pR_p 18 [7, 8, 9, 10, 12, 13] [(164, (Value.int .i64 ((q : Int)))), (163, (Value.slice A643 z.bx.length z.bx.length)), (161, (Value.slice MAE myE.length mcE)), (160, (pt m14 0)), (159, (Value.bool false)), (158, (Value.bool false))] 14335 hs129 ⟨h130.at_ 2 rfl, h130.at_ 3 rfl, trivial⟩ ?_
        refine pR_v 14 (some 165) (eAt A643 (q * 1 + 0)) 30719 rfl hs129 ⟨h130.at_ 2 rfl, h130.at_ 3 rfl, trivial⟩ (fun W hW => e_idxN (OV.rvn (h130.at_ 3 rfl)).2 q z.bx.length (OV.rvn (h130.at_ 3 rfl)).1 (by omega) 98 (.tmp 163) (.tmp 164) (by kernel_rfl) .i64 (by kernel_rfl) (by kernel_rfl) 4 (by kernel_rfl) (by kernel_rfl) _) ?_
        refine pR_v 15 (some 166) (Value.bool false) 63487 rfl hs129 ⟨h130.at_ 2 rfl, h130.at_ 3 rfl, trivial⟩ (fun W hW => e_elemN (OV.rvn hW.2.1).2 q 0 ([(Value.bool false)]) (bvs_get hb3) 4 (.tmp 165) (by kernel_rfl) (Value.bool false) (by kernel_rfl) (by kernel_rfl) (by kernel_rfl)) ?_
        refine pR_to 11 (some 162) 65535 rfl hs129 (mdec false (decO false (by rw [hmE]; exact knb (hC3 q (by omega)) hb3)) (x_kopens h130 0 6 rfl rfl (by kernel_rfl) hp14 (by kernel_rfl) (h130.apartL 0 6 8 rfl rfl rfl (by kernel_rfl) (by kernel_rfl) hvE hlE) hM130.toWS (by omega) hsm (by rw [hmE]; rfl))) ?_
        rintro _ w131 ⟨F131, S131, rfl, hM131, h131⟩
        refine ⟨fun _ => ⟨h131.at_ 2 rfl, h131.at_ 3 rfl, trivial⟩, ?_⟩
        refine pR_p 7 [16, 17, 18, 19, 20, 21, 25, 26] [(177, (Value.int .i64 ((q : Int)))), (176, (Value.slice A642 z.bx.length c642)), (172, (Value.slice MAE myE.length mcE)), (171, (Value.slice MAE myE.length mcE)), (170, (pt m14 0)), (169, (Value.bool false)), (168, (Value.bool false)), (167, (Value.bool false))] 104857599 hs129 ⟨h131.at_ 2 rfl, h131.at_ 3 rfl, trivial⟩ ?_
        refine pR_v 27 (some 178) (eAt A642 (q * 1 + 0)) 239075327 rfl hs129 ⟨h131.at_ 2 rfl, h131.at_ 3 rfl, trivial⟩ (fun W hW => e_idxN (OV.rvn (h131.at_ 2 rfl)).2 q z.bx.length (OV.rvn (h131.at_ 2 rfl)).1 (by omega) 98 (.tmp 176) (.tmp 177) (by kernel_rfl) .i64 (by kernel_rfl) (by kernel_rfl) 4 (by kernel_rfl) (by kernel_rfl) _) ?_
        refine pR_v 28 (some 179) (Value.bool false) 507510783 rfl hs129 ⟨h131.at_ 2 rfl, h131.at_ 3 rfl, trivial⟩ (fun W hW => e_elemN (OV.rvn hW.1).2 q 0 ([(Value.bool false)]) (bvs_get hb1) 4 (.tmp 178) (by kernel_rfl) (Value.bool false) (by kernel_rfl) (by kernel_rfl) (by kernel_rfl)) ?_
        refine pR_to 22 (some 173) 511705087 rfl hs129 (x_bs h131 28 ([(Value.slice MAE myE.length mcE), (Value.slice MAE myE.length mcE)]) 2 (by kernel_rfl)) ?_
        rintro _ w132 ⟨g132, rfl, h132⟩
        refine ⟨fun _ => ⟨h132.at_ 3 rfl, h132.at_ 4 rfl, trivial⟩, ?_⟩
        refine pR_to 23 (some 174) 520093695 rfl hs129 (x_joined h132 [myE, myE] (Value.slice (some ⟨g132, 0, none⟩) 2 2) (by kernel_rfl) (ss2 (h132.at_ 0 rfl) ((h132.at_ 9 rfl) _ _ _ hvE hlE) ((h132.at_ 9 rfl) _ _ _ hvE hlE)) (myE ++ myE) (by simp) (by rw [hmE]; show 32 ≤ 1000000; decide)) ?_
        rintro _ w133 ⟨A133, c133, rfl, h133⟩
        refine ⟨fun _ => ⟨h133.at_ 4 rfl, h133.at_ 5 rfl, trivial⟩, ?_⟩
        refine pR_to 24 (some 175) 536870911 rfl hs129 (mdec false (decFbb false hmE (by omega) (by rw [hmE]; exact knb (hC2 q (by omega)) hb1)) (x_fits h133 2 8 rfl rfl (by kernel_rfl) hp14 (by kernel_rfl) (h133.apartO 2 8 0 rfl rfl rfl (by kernel_rfl) (by kernel_rfl)) hM131.toWS (by omega) hsm (by rw [hmE]; show 32 ≤ 1000000; decide))) ?_
        rintro _ w134 ⟨F134, S134, rfl, hM134, h134⟩
        refine ⟨fun _ => ⟨h134.at_ 4 rfl, h134.at_ 5 rfl, trivial⟩, ?_⟩
        refine pR_p 0 [29, 30] [(181, (Value.bool false)), (180, (Value.bool false))] 2147483647 hs129 ⟨h134.at_ 4 rfl, h134.at_ 5 rfl, trivial⟩ ?_
        refine pR_done hs129 ?_ _
        refine seq_n hK128 ?_
        refine wp_cond_false (by kernel_rfl) ?_
        refine wp_skip ?_
        refine blk_n ?_
        refine seq_n hK101 ?_
        refine wp_reset 201 [(0, (Value.agg ([(Value.slice A z.of.length a), (Value.slice B z.bx.length b), (Value.slice C z.ls.length c), (Value.slice D z.ss.length d)]).toArray)), (1, (pt g2 0)), (3, (pt tb 0)), (4, (Value.slice A1 z.bx.length c1)), (5, (Value.slice A2 z.of.length c2)), (6, (Value.slice A3 z.bx.length c3)), (7, (pt m14 0)), (8, (Value.slice A18 z.of.length z.of.length)), (9, (Value.slice A19 z.bx.length z.bx.length)), (13, (Value.slice A641 z.of.length c641)), (14, (Value.slice A642 z.bx.length c642)), (15, (Value.slice A643 z.bx.length z.bx.length)), (16, (Value.int .i64 (((cn : Nat) : Int)))), (20, (Value.int .i64 ((q : Int)))), (21, (Value.slice MAE myE.length mcE)), (23, (Value.bool false)), (26, (Value.bool (!t))), (48, (Value.int .i64 (((max z.ls.length z.ss.length : Nat) : Int)))), (49, (Value.int .i64 ((i : Int)))), (50, (Value.bool (decide ((i : Int) < ((max z.ls.length z.ss.length : Nat) : Int))))), (117, (Value.slice A641 z.of.length c641)), (118, (Value.int .i64 ((z.of.length : Int)))), (119, (Value.int .i64 ((j : Int)))), (120, (Value.bool (decide ((j : Int) < (z.of.length : Int))))), (144, (Value.slice A1 z.bx.length c1)), (145, (Value.int .i64 ((z.bx.length : Int)))), (146, (Value.int .i64 ((q : Int)))), (147, (Value.bool (decide ((q : Int) < (z.bx.length : Int))))), (181, (Value.bool false))] (fun x135 => ?_)
        refine reg_lit ?_
        refine wq_v (some 182) (Value.int .i64 ((q : Int) + 1)) (exec_add _ _ _ _ rfl ((q : Int)) 1 (by kernel_rfl) (by kernel_rfl) ((q : Int) + 1) rfl (by omega) (by omega) _) ?_
        refine wq_p 1 [(146, (Value.int .i64 ((q : Int) + 1)))] ?_
        refine wl_end rfl ?_
        refine ⟨z.bx.length - (q + 1), (by omega), (q + 1), F134, S134, (by omega), hM134.toWS, rfl, (patch_eq _ 201 _ (by kernel_rfl) (by kernel_rfl) (by kernel_rfl)), h134.sel [2, 3, 4, 5, 6, 7, 8, 9, 10, 11, 12, 13, 14, 15] [0, 1, 2, 3, 4, 5] (by kernel_rfl) rfl rfl⟩
      ·
       refine wp_exit ?_
       refine seq_e ?_
       refine seq_e ?_
       refine blk_e ?_
       refine seq_n hK95 ?_
       refine wp_seq_k ?_
       intro K136 hK136
       refine reg_lit ?_
       refine wq_p 1 [(183, (pt m14 0))] ?_
       refine wq_to (some 184) (x_kkeys h97 0 6 rfl rfl (by kernel_rfl) hp14 (by kernel_rfl) hW3 (by omega) hsm) ?_
       rintro _ w137 ⟨F137, S137, A137, c137, rfl, hM137, h137⟩
       refine wq_p 2 [(186, (Value.int .i64 (((cn : Nat) : Int)))), (185, (Value.int .i64 (((knownN S137 s.keys.length) : Int))))] ?_
       refine wq_v (some 187) (Value.bool true) (eq_is (v := (Value.bool ((((knownN S137 s.keys.length) : Int)) == (((cn : Nat) : Int))))) (by kernel_rfl) (congrArg Value.bool (by rw [hcn9, known_cnt hM137 (n := s.keys.length) (f := X.kn) (fun j hj => hC1 j (by omega)), hkl]; simp))) ?_
       refine wq_p 2 [(189, (pt m14 0)), (188, (Value.bool true))] ?_
       refine wq_to (some 190) (x_bsl h137 [116, 101, 120, 116] (by kernel_rfl)) ?_
       rintro _ w138 ⟨g138, rfl, hw138, hg138, hq138, h138⟩
       refine wq_to (some 191) (x_bcv hq138 [116, 101, 120, 116] hw138 g138 hg138 (.tmp 190) (by kernel_rfl) (by kernel_rfl) (by decide)) ?_
       rintro _ w139 ⟨rfl, h139⟩
       refine wq_to (some 192) (mdec true decFtext (x_fits h139 0 6 rfl rfl (by kernel_rfl) hp14 (by kernel_rfl) (h139.apartR 0 6 0 rfl rfl rfl) hM137.toWS (by omega) hsm (by decide))) ?_
       rintro _ w140 ⟨F140, S140, rfl, hM140, h140⟩
       refine wq_p 3 [(195, (pt tb 0)), (194, (Value.bool true)), (193, (Value.bool true))] ?_
       refine wq_to (some 196) (x_nkeys h140 6 rfl (by kernel_rfl)) ?_
       rintro _ w141 ⟨rfl, h141⟩
       refine wq_p 2 [(198, (Value.int .i64 ((z.of.length : Int)))), (197, (Value.slice A2 z.of.length c2))] ?_
       refine wq_v (some 199) (Value.bool true) (eq_is (v := (Value.bool (((s.keys.length : Int)) == ((z.of.length : Int))))) (by kernel_rfl) (congrArg Value.bool (by rw [hkl]; simp))) ?_
       refine wq_p 2 [(2, (Value.bool true)), (200, (Value.bool true))] ?_
       refine wl_end rfl ?_
       refine seq_n hK136 ?_
       refine wp_ret ?_
       refine post_1 rfl (by kernel_rfl) (rtmp (v := (Value.bool true)) (by kernel_rfl)) ?_
       exact ⟨rfl, h141.below0⟩
   ·
    refine pR_op 5 (some 41) 59 rfl (x_makeBools h17 z.bx.length (by omega) (.tmp 40) (.tmp 40) (by kernel_rfl) (by kernel_rfl) (by kernel_rfl)) ?_
    rintro _ w142 ⟨A142, rfl, h142⟩
    refine ⟨fun _ => trivial, ?_⟩
    refine pR_to 2 (some 38) 63 rfl hs17 (x_makeBools h142 z.of.length (by omega) (.tmp 37) (.tmp 37) (by kernel_rfl) (by kernel_rfl) (by kernel_rfl)) ?_
    rintro _ w143 ⟨A143, rfl, h143⟩
    refine ⟨fun _ => trivial, ?_⟩
    refine pR_p 1 [6] [(8, (Value.slice A143 z.of.length z.of.length))] 127 hs17 trivial ?_
    refine pR_to 7 (some 9) 255 rfl hs17 (OpTo.run (Value.slice A142 z.bx.length z.bx.length) (pureOp_run (by kernel_rfl) _) (R := fun v w => v = (Value.slice A142 z.bx.length z.bx.length) ∧ w143 = w) ⟨rfl, rfl⟩) ?_
    rintro _ _ ⟨rfl, rfl⟩
    refine ⟨fun h => absurd h (by decide), ?_⟩
    refine pR_done hs17 ?_ _
    refine seq_n hK15 ?_
    refine wp_seq_k ?_
    intro K144 hK144
    refine wp_seq_k ?_
    intro K145 hK145
    refine reg_lit ?_
    refine wq_p 1 [(42, (pt g2 2))] ?_
    refine wq_v (some 43) (Value.slice C z.ls.length c) (e_load (h143.at_ 10 rfl) 84 (.tmp 42) (by kernel_rfl) 2 (Value.slice C z.ls.length c) (by kernel_rfl) (by kernel_rfl) (by kernel_rfl)) ?_
    refine wq_p 2 [(45, (pt g2 3)), (44, (Value.int .i64 ((z.ls.length : Int))))] ?_
    refine wq_v (some 46) (Value.slice D z.ss.length d) (e_load (h143.at_ 10 rfl) 84 (.tmp 45) (by kernel_rfl) 3 (Value.slice D z.ss.length d) (by kernel_rfl) (by kernel_rfl) (by kernel_rfl)) ?_
    refine wq_p 1 [(47, (Value.int .i64 ((z.ss.length : Int))))] ?_
    refine wq_v (some 48) (Value.int .i64 (((max z.ls.length z.ss.length : Nat) : Int))) (e_maxN (.tmp 44) (.tmp 47) #[3, 3] (by kernel_rfl) .i64 .i64 (z.ls.length) (z.ss.length) (by kernel_rfl) (by kernel_rfl) _) ?_
    refine wq_p 1 [(49, (Value.int .i64 0))] ?_
    refine wl_end rfl ?_
    refine seq_n hK145 ?_
    refine wp_block ?_
    refine wp_loopm (fun mM xX aA wL => ∃ (i : Nat) (F1 : Nat → Prop) (S1 : KM) (f : List Bool) (g : List Bool), (i ≤ (max z.ls.length z.ss.length)) ∧ (WSl s (lkTo z.of.length z.ls (i)) (lbTo z.bx.length z.ss (i)) (i) S1) ∧ (Flags 107 z.of.length f (lkTo z.of.length z.ls (i))) ∧ (Flags 98 z.bx.length g (lbTo z.bx.length z.ss (i))) ∧ mM = (max z.ls.length z.ss.length) - (i) ∧ aA = patch xX 201 [(0, (Value.agg ([(Value.slice A z.of.length a), (Value.slice B z.bx.length b), (Value.slice C z.ls.length c), (Value.slice D z.ss.length d)]).toArray)), (1, (pt g2 0)), (2, (Value.bool false)), (3, (pt tb 0)), (4, (Value.slice A1 z.bx.length c1)), (5, (Value.slice A2 z.of.length c2)), (6, (Value.slice A3 z.bx.length c3)), (7, (pt m14 0)), (8, (Value.slice A143 z.of.length z.of.length)), (9, (Value.slice A142 z.bx.length z.bx.length)), (23, (Value.bool false)), (26, (Value.bool (!t))), (48, (Value.int .i64 (((max z.ls.length z.ss.length : Nat) : Int)))), (49, (Value.int .i64 ((i : Int))))] ∧ Hp (fun _ => False) w wL [rRV 1 A a (ivs z.of), rRV 3 B b (z.bx.map kbCells), rISs (z.bx.map (·.kv)) (z.bx.map (·.ks)), rISs (z.bx.map (·.bv)) (z.bx.map (·.bs)), rRV 1 C c (ivs z.ls), rRV 1 D d (ivs z.ss)] [rMind F1 none m14 p14 S1, rOV 4 1 ((Value.slice A143 z.of.length z.of.length)) (bvs f), rOV 4 1 ((Value.slice A142 z.bx.length z.bx.length)) (bvs g), rTab F0 tb s, rOV 28 1 ((Value.slice A1 z.bx.length c1)) (mv.map fun v => [v]), rSBs mv (mkTo z.bx.length), rOV 3 1 ((Value.slice A2 z.of.length c2)) (ivs (ofTo z.of z.of.length)), rOV 131 3 ((Value.slice A3 z.bx.length c3)) (hb.map kbCells), rISs (hb.map (·.kv)) (hb.map (·.ks)), rISs (hb.map (·.bv)) (hb.map (·.bs)), rBlk g2 87 ([(Value.slice A z.of.length a), (Value.slice B z.bx.length b), (Value.slice C z.ls.length c), (Value.slice D z.ss.length d)])]) ⟨_, 0, F14, (⟨[], [], [], []⟩), ((List.replicate z.of.length false)), ((List.replicate z.bx.length false)), (by omega), (WS.lists (s := s) WS.emptyl rfl (by simp [lbTo])), (Flags.zero 107 _), ((Flags.zero 98 _).eq (by simp [lbTo])), rfl, (patch_eq _ 201 _ (by kernel_rfl) (by kernel_rfl) (by kernel_rfl)), h143.sel [2, 0, 1, 3, 4, 5, 6, 7, 8, 9, 10] [0, 1, 2, 3, 4, 5] (by kernel_rfl) rfl rfl⟩ ?_
    rintro _ x146 _ w146 ⟨i, F1, S1, f, g, hi, hW, hfk, hfg, rfl, rfl, h146⟩
    have hfl := hfk.1
    have hgl := hfg.1
    refine wp_seq_k ?_
    intro K147 hK147
    refine reg_lit ?_
    refine wq_p 1 [(50, (Value.bool (decide ((i : Int) < ((max z.ls.length z.ss.length : Nat) : Int)))))] ?_
    refine wl_end rfl ?_
    refine seq_n hK147 ?_
    refine wp_seq_k ?_
    intro K148 hK148
    refine wp_if ((i : Int) < ((max z.ls.length z.ss.length : Nat) : Int)) (by kernel_rfl) (fun b149 => ?_) (fun b149 => ?_)
    ·
     refine wp_skip ?_
     refine seq_n hK148 ?_
     refine wp_seq_k ?_
     intro K150 hK150
     refine wp_block ?_
     refine wp_seq_k ?_
     intro K151 hK151
     refine reg_lit ?_
     refine wq_p 2 [(10, (Value.int .i64 ((i : Int)))), (51, (Value.int .i64 ((i : Int))))] ?_
     refine wl_end rfl ?_
     refine seq_n hK151 ?_
     refine wp_seq_k ?_
     intro K152 hK152
     refine wp_seq_k ?_
     intro K153 hK153
     rcases (show (i < z.ss.length ∧ 0 < z.bx.length) ∨ (¬ i < z.ss.length) ∨ (i < z.ss.length ∧ z.bx.length = 0) by omega) with ⟨his, hpos⟩ | his | ⟨his, hno⟩
     ·
      refine reg_lit ?_
      refine wq_p 2 [(53, (pt g2 3)), (52, (Value.int .i64 ((i : Int))))] ?_
      refine wq_v (some 54) (Value.slice D z.ss.length d) (e_load (h146.at_ 10 rfl) 84 (.tmp 53) (by kernel_rfl) 3 (Value.slice D z.ss.length d) (by kernel_rfl) (by kernel_rfl) (by kernel_rfl)) ?_
      refine wq_p 1 [(55, (Value.int .i64 ((z.ss.length : Int))))] ?_
      refine wq_v (some 56) (.bool true) (eq_is (v := (Value.bool (decide ((i : Int) < (z.ss.length : Int))))) (by kernel_rfl) (congrArg Value.bool (decide_eq_true (by omega)))) ?_
      refine wq_p 3 [(59, (Value.int .i64 ((z.bx.length : Int)))), (58, (Value.slice A1 z.bx.length c1)), (57, (Value.bool true))] ?_
      refine wq_v (some 60) (.bool true) (eq_is (v := (Value.bool (decide ((z.bx.length : Int) > 0)))) (by kernel_rfl) (congrArg Value.bool (decide_eq_true (by omega)))) ?_
      refine wq_p 1 [(61, (Value.bool true))] ?_
      refine wl_end rfl ?_
      refine seq_n hK153 ?_
      refine wp_cond_true (by kernel_rfl) ?_
      refine wp_seq_k ?_
      intro K155 hK155
      obtain ⟨x, hx⟩ : ∃ x, z.ss[i]? = some x := ⟨_, List.getElem?_eq_getElem (by omega)⟩
      have hkx := kN_lt x hpos
      refine reg_lit ?_
      refine wq_p 1 [(62, (pt g2 3))] ?_
      refine wq_v (some 63) (Value.slice D z.ss.length d) (e_load (h146.at_ 10 rfl) 84 (.tmp 62) (by kernel_rfl) 3 (Value.slice D z.ss.length d) (by kernel_rfl) (by kernel_rfl) (by kernel_rfl)) ?_
      refine wq_p 1 [(64, (Value.int .i64 ((i : Int))))] ?_
      refine wq_v (some 65) (eAt D (i * 1 + 0)) (e_idxN (RV.lenIs (n := z.ss.length) (h146.rd 5 rfl) (ivs_len _)).2 i z.ss.length (RV.lenIs (n := z.ss.length) (h146.rd 5 rfl) (ivs_len _)).1 (by omega) 84 (.tmp 63) (.tmp 64) (by kernel_rfl) .i64 (by kernel_rfl) (by kernel_rfl) 3 (by kernel_rfl) (by kernel_rfl) _) ?_
      refine wq_v (some 66) (Value.int .i64 x) (e_elemN (RV.lenIs (n := z.ss.length) (h146.rd 5 rfl) (ivs_len _)).2 i 0 ([(Value.int .i64 x)]) (ivs_get hx) 3 (.tmp 65) (by kernel_rfl) (Value.int .i64 x) (by kernel_rfl) (by kernel_rfl) (by kernel_rfl)) ?_
      refine wq_v (some 67) (Value.int .i64 ((m31 x : Int))) (eq_is (v := Value.int .i64 (bits .and .i64 x 31)) (by kernel_rfl) (congrArg (Value.int .i64) (m31_eq x).1)) ?_
      refine wq_p 2 [(69, (Value.int .i64 ((z.bx.length : Int)))), (68, (Value.slice A1 z.bx.length c1))] ?_
      refine wq_v (some 70) (Value.int .i64 ((kN z.bx.length x : Int))) (e_rem (.tmp 67) (.tmp 69) 3 3 (by kernel_rfl) (m31 x) (z.bx.length) (by kernel_rfl) (by kernel_rfl) (by omega) _) ?_
      refine wq_p 1 [(11, (Value.int .i64 ((kN z.bx.length x : Int))))] ?_
      refine wl_end rfl ?_
      refine seq_n hK155 ?_
      refine wp_seq_k ?_
      intro K156 hK156
      obtain ⟨MAA, mcA, myA, hvA, hlA⟩ := sbsget (h146.at_ 5 rfl) (by rw [mkTo_len]; exact hmv) (kN z.bx.length x) (by rw [mkTo_len]; omega)
      have hmA : myA = mkB 98 (kN z.bx.length x + 1) := by
        rw [mkTo_at (by omega)] at hlA
        injection hlA with hlA
        exact hlA.symm
      
      refine reg_lit ?_
      refine wq_p 1 [(71, (pt m14 0))] ?_
      refine wq_to (some 72) (x_bsl h146 [1, 2] (by kernel_rfl)) ?_
      rintro _ w157 ⟨g157, rfl, hw157, hg157, hq157, h157⟩
      refine wq_p 2 [(74, (Value.int .i64 ((kN z.bx.length x : Int)))), (73, (Value.slice A1 z.bx.length c1))] ?_
      refine wq_v (some 75) (eAt A1 (((kN z.bx.length x)) * 1 + 0)) (e_idxN (OV.rvn (h157.at_ 5 rfl)).2 ((kN z.bx.length x)) z.bx.length (OV.rvn (h157.at_ 5 rfl)).1 (by omega) 63 (.tmp 73) (.tmp 74) (by kernel_rfl) .i64 (by kernel_rfl) (by kernel_rfl) 28 (by kernel_rfl) (by kernel_rfl) _) ?_
      refine wq_v (some 76) (Value.slice MAA myA.length mcA) (e_elemN (OV.rvn (h157.at_ 5 rfl)).2 ((kN z.bx.length x)) 0 ([(Value.slice MAA myA.length mcA)]) (by rw [List.getElem?_map, hvA]; rfl) 28 (.tmp 75) (by kernel_rfl) (Value.slice MAA myA.length mcA) (by kernel_rfl) (by kernel_rfl) (by kernel_rfl)) ?_
      refine wq_to (some 77) (x_bsl h157 [3] (by kernel_rfl)) ?_
      rintro _ w158 ⟨g158, rfl, hw158, hg158, hq158, h158⟩
      refine wq_to (some 78) (x_bs h158 28 ([(Value.slice (some ⟨g157, 0, none⟩) 2 2), (Value.slice MAA myA.length mcA), (Value.slice (some ⟨g158, 0, none⟩) 1 1)]) 3 (by kernel_rfl)) ?_
      rintro _ w159 ⟨g159, rfl, h159⟩
      refine wq_to (some 79) (x_joined h159 [[1, 2], myA, [3]] (Value.slice (some ⟨g159, 0, none⟩) 3 3) (by kernel_rfl) (ss3 (h159.at_ 0 rfl) (SB.blk (h159.at_ 2 rfl) (by kernel_rfl) (by kernel_rfl) (by kernel_rfl)) ((h159.at_ 8 rfl) _ _ _ hvA hlA) (SB.blk (h159.at_ 1 rfl) (by kernel_rfl) (by kernel_rfl) (by kernel_rfl))) ([1, 2] ++ myA ++ [3]) (by simp) (by rw [hmA]; show 19 ≤ 1000000; decide)) ?_
      rintro _ w160 ⟨A160, c160, rfl, h160⟩
      refine wq_to (some 80) (x_see h160 4 7 rfl rfl (by kernel_rfl) hp14 (by kernel_rfl) (h160.apartO 4 7 0 rfl rfl rfl (by kernel_rfl) (by kernel_rfl)) hW (by omega) hsm (by rw [hmA]; show 19 ≤ 1000000; decide)) ?_
      rintro _ w161 ⟨F161, S161, rfl, hM161, h161⟩
      have hs9 := WS.saw123 (v := kN z.bx.length x + 1) hM161.toWS hmA (by omega)
      refine wl_end rfl ?_
      refine seq_n hK156 ?_
      refine wp_reset 201 [(0, (Value.agg ([(Value.slice A z.of.length a), (Value.slice B z.bx.length b), (Value.slice C z.ls.length c), (Value.slice D z.ss.length d)]).toArray)), (1, (pt g2 0)), (2, (Value.bool false)), (3, (pt tb 0)), (4, (Value.slice A1 z.bx.length c1)), (5, (Value.slice A2 z.of.length c2)), (6, (Value.slice A3 z.bx.length c3)), (7, (pt m14 0)), (8, (Value.slice A143 z.of.length z.of.length)), (9, (Value.slice A142 z.bx.length z.bx.length)), (10, (Value.int .i64 ((i : Int)))), (11, (Value.int .i64 ((kN z.bx.length x : Int)))), (23, (Value.bool false)), (26, (Value.bool (!t))), (48, (Value.int .i64 (((max z.ls.length z.ss.length : Nat) : Int)))), (49, (Value.int .i64 ((i : Int)))), (50, (Value.bool (decide ((i : Int) < ((max z.ls.length z.ss.length : Nat) : Int))))), (61, (Value.bool true))] (fun x162 => ?_)
      refine reg_lit ?_
      refine wq_p 2 [(82, (Value.int .i64 ((kN z.bx.length x : Int)))), (81, (Value.slice A142 z.bx.length z.bx.length))] ?_
      refine wq_v (some 83) (eAt A142 (((kN z.bx.length x)) * 1 + 0)) (e_idxN (OV.rvn (h161.at_ 6 rfl)).2 ((kN z.bx.length x)) z.bx.length (OV.rvn (h161.at_ 6 rfl)).1 (by omega) 98 (.tmp 81) (.tmp 82) (by kernel_rfl) .i64 (by kernel_rfl) (by kernel_rfl) 4 (by kernel_rfl) (by kernel_rfl) _) ?_
      refine wq_to none (x_setBool h161 6 rfl ((kN z.bx.length x)) (by rw [hgl]; omega) 4 (.tmp 83) (.const (Value.bool true)) (by kernel_rfl) true (by kernel_rfl) (by kernel_rfl) (by kernel_rfl) (g.set (kN z.bx.length x) true) rfl) ?_
      rintro _ w163 h163
      refine wl_end rfl ?_
      refine seq_n hK152 ?_
      refine wp_seq_k ?_
      intro K164 hK164
      rcases (show i < z.ls.length ∨ ¬ i < z.ls.length by omega) with hil | hil
      ·
       refine reg_lit ?_
       refine wq_p 2 [(85, (pt g2 2)), (84, (Value.int .i64 ((i : Int))))] ?_
       refine wq_v (some 86) (Value.slice C z.ls.length c) (e_load (h163.at_ 14 rfl) 84 (.tmp 85) (by kernel_rfl) 2 (Value.slice C z.ls.length c) (by kernel_rfl) (by kernel_rfl) (by kernel_rfl)) ?_
       refine wq_p 1 [(87, (Value.int .i64 ((z.ls.length : Int))))] ?_
       refine wq_v (some 88) (.bool true) (eq_is (v := (Value.bool (decide ((i : Int) < (z.ls.length : Int))))) (by kernel_rfl) (congrArg Value.bool (decide_eq_true (by omega)))) ?_
       refine wl_end rfl ?_
       refine seq_n hK164 ?_
       refine wp_cond_true (by kernel_rfl) ?_
       refine wp_seq_k ?_
       intro K166 hK166
       obtain ⟨y, hy⟩ : ∃ y, z.ls[i]? = some y := ⟨_, List.getElem?_eq_getElem (by omega)⟩
       have hky := kN_lt (n := z.of.length) y (by omega)
       refine reg_lit ?_
       refine wq_p 1 [(89, (pt g2 2))] ?_
       refine wq_v (some 90) (Value.slice C z.ls.length c) (e_load (h163.at_ 14 rfl) 84 (.tmp 89) (by kernel_rfl) 2 (Value.slice C z.ls.length c) (by kernel_rfl) (by kernel_rfl) (by kernel_rfl)) ?_
       refine wq_p 1 [(91, (Value.int .i64 ((i : Int))))] ?_
       refine wq_v (some 92) (eAt C (i * 1 + 0)) (e_idxN (RV.lenIs (n := z.ls.length) (h163.rd 4 rfl) (ivs_len _)).2 i z.ls.length (RV.lenIs (n := z.ls.length) (h163.rd 4 rfl) (ivs_len _)).1 (by omega) 84 (.tmp 90) (.tmp 91) (by kernel_rfl) .i64 (by kernel_rfl) (by kernel_rfl) 3 (by kernel_rfl) (by kernel_rfl) _) ?_
       refine wq_v (some 93) (Value.int .i64 y) (e_elemN (RV.lenIs (n := z.ls.length) (h163.rd 4 rfl) (ivs_len _)).2 i 0 ([(Value.int .i64 y)]) (ivs_get hy) 3 (.tmp 92) (by kernel_rfl) (Value.int .i64 y) (by kernel_rfl) (by kernel_rfl) (by kernel_rfl)) ?_
       refine wq_v (some 94) (Value.int .i64 ((m31 y : Int))) (eq_is (v := Value.int .i64 (bits .and .i64 y 31)) (by kernel_rfl) (congrArg (Value.int .i64) (m31_eq y).1)) ?_
       refine wq_p 2 [(96, (Value.int .i64 ((z.of.length : Int)))), (95, (Value.slice A2 z.of.length c2))] ?_
       refine wq_v (some 97) (Value.int .i64 ((kN z.of.length y : Int))) (e_rem (.tmp 94) (.tmp 96) 3 3 (by kernel_rfl) (m31 y) (z.of.length) (by kernel_rfl) (by kernel_rfl) (by omega) _) ?_
       refine wq_p 1 [(12, (Value.int .i64 ((kN z.of.length y : Int))))] ?_
       refine wl_end rfl ?_
       refine seq_n hK166 ?_
       refine wp_seq_k ?_
       intro K167 hK167
       refine reg_lit ?_
       refine wq_p 3 [(100, (Value.int .i64 ((kN z.of.length y : Int)))), (99, (pt tb 0)), (98, (pt m14 0))] ?_
       refine wq_v (some 101) (Value.int .i64 (((kN z.of.length y + 1 : Nat) : Int))) (exec_add _ _ _ _ rfl ((kN z.of.length y : Int)) 1 (by kernel_rfl) (by kernel_rfl) ((kN z.of.length y + 1 : Nat) : Int) (by omega) (by omega) (by omega) _) ?_
       refine wq_to (some 102) (x_nth (tb := tb) h163 ((kN z.of.length y + 1 : Nat)) (by kernel_rfl) (by have := kN_lt (n := z.of.length) y (by omega); omega)) ?_
       rintro _ w168 ⟨K168, rfl, hK168, h168⟩
       have hKx := hK168
       refine wq_to (some 103) (x_learn h168 4 7 rfl rfl (by kernel_rfl) hp14 K168 (by kernel_rfl) hs9 (by omega) hsm) ?_
       rintro _ w169 ⟨F169, S169, rfl, hM169, h169⟩
       refine wl_end rfl ?_
       refine seq_n hK167 ?_
       refine reg_lit ?_
       refine wq_p 2 [(105, (Value.int .i64 ((kN z.of.length y : Int)))), (104, (Value.slice A143 z.of.length z.of.length))] ?_
       refine wq_v (some 106) (eAt A143 (((kN z.of.length y)) * 1 + 0)) (e_idxN (OV.rvn (h169.at_ 5 rfl)).2 ((kN z.of.length y)) z.of.length (OV.rvn (h169.at_ 5 rfl)).1 (by omega) 98 (.tmp 104) (.tmp 105) (by kernel_rfl) .i64 (by kernel_rfl) (by kernel_rfl) 4 (by kernel_rfl) (by kernel_rfl) _) ?_
       refine wq_to none (x_setBool h169 5 rfl ((kN z.of.length y)) (by rw [hfl]; omega) 4 (.tmp 106) (.const (Value.bool true)) (by kernel_rfl) true (by kernel_rfl) (by kernel_rfl) (by kernel_rfl) (f.set (kN z.of.length y) true) rfl) ?_
       rintro _ w170 h170
       refine wl_end rfl ?_
       refine blk_n ?_
       refine seq_n hK150 ?_
       refine reg_lit ?_
       refine wq_v (some 107) (Value.int .i64 ((i : Int) + 1)) (exec_add _ _ _ _ rfl ((i : Int)) 1 (by kernel_rfl) (by kernel_rfl) ((i : Int) + 1) rfl (by omega) (by omega) _) ?_
       refine wq_p 1 [(49, (Value.int .i64 ((i : Int) + 1)))] ?_
       refine wl_end rfl ?_
       refine ⟨(max z.ls.length z.ss.length) - (i + 1), (by omega), (i + 1), F169, S169, ((f.set (kN z.of.length y) true)), ((g.set (kN z.bx.length x) true)), (by omega), (WS.lists (hM169.toWS) (by rw [lkTo_succ hy, hKx]) (by rw [lbTo_succ hpos hx, hmA])), (hfk.set (kN_lt y (by omega)) f2 (lkTo_succ hy)), (hfg.set (kN_lt x hpos) f3 (lbTo_succ hpos hx)), rfl, (patch_eq _ 201 _ (by kernel_rfl) (by kernel_rfl) (by kernel_rfl)), h170.sel [4, 5, 6, 7, 8, 9, 10, 11, 12, 13, 14] [0, 1, 2, 3, 4, 5] (by kernel_rfl) rfl rfl⟩
      ·
       refine reg_lit ?_
       refine wq_p 2 [(85, (pt g2 2)), (84, (Value.int .i64 ((i : Int))))] ?_
       refine wq_v (some 86) (Value.slice C z.ls.length c) (e_load (h163.at_ 14 rfl) 84 (.tmp 85) (by kernel_rfl) 2 (Value.slice C z.ls.length c) (by kernel_rfl) (by kernel_rfl) (by kernel_rfl)) ?_
       refine wq_p 1 [(87, (Value.int .i64 ((z.ls.length : Int))))] ?_
       refine wq_v (some 88) (.bool false) (eq_is (v := (Value.bool (decide ((i : Int) < (z.ls.length : Int))))) (by kernel_rfl) (congrArg Value.bool (decide_eq_false (by omega)))) ?_
       refine wl_end rfl ?_
       refine seq_n hK164 ?_
       refine wp_cond_false (by kernel_rfl) ?_
       refine wp_skip ?_
       refine blk_n ?_
       refine seq_n hK150 ?_
       refine reg_lit ?_
       refine wq_v (some 107) (Value.int .i64 ((i : Int) + 1)) (exec_add _ _ _ _ rfl ((i : Int)) 1 (by kernel_rfl) (by kernel_rfl) ((i : Int) + 1) rfl (by omega) (by omega) _) ?_
       refine wq_p 1 [(49, (Value.int .i64 ((i : Int) + 1)))] ?_
       refine wl_end rfl ?_
       refine ⟨(max z.ls.length z.ss.length) - (i + 1), (by omega), (i + 1), F161, S161, f, ((g.set (kN z.bx.length x) true)), (by omega), (WS.lists (hs9) (lkTo_stay (by omega)).symm (by rw [lbTo_succ hpos hx, hmA])), (hfk.eq (lkTo_stay (by omega))), (hfg.set (kN_lt x hpos) f3 (lbTo_succ hpos hx)), rfl, (patch_eq _ 201 _ (by kernel_rfl) (by kernel_rfl) (by kernel_rfl)), h163.sel [4, 5, 6, 7, 8, 9, 10, 11, 12, 13, 14] [0, 1, 2, 3, 4, 5] (by kernel_rfl) rfl rfl⟩
     ·
      refine reg_lit ?_
      refine wq_p 2 [(53, (pt g2 3)), (52, (Value.int .i64 ((i : Int))))] ?_
      refine wq_v (some 54) (Value.slice D z.ss.length d) (e_load (h146.at_ 10 rfl) 84 (.tmp 53) (by kernel_rfl) 3 (Value.slice D z.ss.length d) (by kernel_rfl) (by kernel_rfl) (by kernel_rfl)) ?_
      refine wq_p 1 [(55, (Value.int .i64 ((z.ss.length : Int))))] ?_
      refine wq_v (some 56) (.bool false) (eq_is (v := (Value.bool (decide ((i : Int) < (z.ss.length : Int))))) (by kernel_rfl) (congrArg Value.bool (decide_eq_false (by omega)))) ?_
      refine wq_p 3 [(59, undef), (58, undef), (57, (Value.bool false))] ?_
      refine wq_p 1 [(60, undef)] ?_
      refine wq_p 1 [(61, (Value.bool false))] ?_
      refine wl_end rfl ?_
      refine seq_n hK153 ?_
      refine wp_cond_false (by kernel_rfl) ?_
      refine wp_skip ?_
      refine seq_n hK152 ?_
      refine wp_seq_k ?_
      intro K171 hK171
      rcases (show i < z.ls.length ∨ ¬ i < z.ls.length by omega) with hil | hil
      ·
       refine reg_lit ?_
       refine wq_p 2 [(85, (pt g2 2)), (84, (Value.int .i64 ((i : Int))))] ?_
       refine wq_v (some 86) (Value.slice C z.ls.length c) (e_load (h146.at_ 10 rfl) 84 (.tmp 85) (by kernel_rfl) 2 (Value.slice C z.ls.length c) (by kernel_rfl) (by kernel_rfl) (by kernel_rfl)) ?_
       refine wq_p 1 [(87, (Value.int .i64 ((z.ls.length : Int))))] ?_
       refine wq_v (some 88) (.bool true) (eq_is (v := (Value.bool (decide ((i : Int) < (z.ls.length : Int))))) (by kernel_rfl) (congrArg Value.bool (decide_eq_true (by omega)))) ?_
       refine wl_end rfl ?_
       refine seq_n hK171 ?_
       refine wp_cond_true (by kernel_rfl) ?_
       refine wp_seq_k ?_
       intro K173 hK173
       obtain ⟨y, hy⟩ : ∃ y, z.ls[i]? = some y := ⟨_, List.getElem?_eq_getElem (by omega)⟩
       have hky := kN_lt (n := z.of.length) y (by omega)
       refine reg_lit ?_
       refine wq_p 1 [(89, (pt g2 2))] ?_
       refine wq_v (some 90) (Value.slice C z.ls.length c) (e_load (h146.at_ 10 rfl) 84 (.tmp 89) (by kernel_rfl) 2 (Value.slice C z.ls.length c) (by kernel_rfl) (by kernel_rfl) (by kernel_rfl)) ?_
       refine wq_p 1 [(91, (Value.int .i64 ((i : Int))))] ?_
       refine wq_v (some 92) (eAt C (i * 1 + 0)) (e_idxN (RV.lenIs (n := z.ls.length) (h146.rd 4 rfl) (ivs_len _)).2 i z.ls.length (RV.lenIs (n := z.ls.length) (h146.rd 4 rfl) (ivs_len _)).1 (by omega) 84 (.tmp 90) (.tmp 91) (by kernel_rfl) .i64 (by kernel_rfl) (by kernel_rfl) 3 (by kernel_rfl) (by kernel_rfl) _) ?_
       refine wq_v (some 93) (Value.int .i64 y) (e_elemN (RV.lenIs (n := z.ls.length) (h146.rd 4 rfl) (ivs_len _)).2 i 0 ([(Value.int .i64 y)]) (ivs_get hy) 3 (.tmp 92) (by kernel_rfl) (Value.int .i64 y) (by kernel_rfl) (by kernel_rfl) (by kernel_rfl)) ?_
       refine wq_v (some 94) (Value.int .i64 ((m31 y : Int))) (eq_is (v := Value.int .i64 (bits .and .i64 y 31)) (by kernel_rfl) (congrArg (Value.int .i64) (m31_eq y).1)) ?_
       refine wq_p 2 [(96, (Value.int .i64 ((z.of.length : Int)))), (95, (Value.slice A2 z.of.length c2))] ?_
       refine wq_v (some 97) (Value.int .i64 ((kN z.of.length y : Int))) (e_rem (.tmp 94) (.tmp 96) 3 3 (by kernel_rfl) (m31 y) (z.of.length) (by kernel_rfl) (by kernel_rfl) (by omega) _) ?_
       refine wq_p 1 [(12, (Value.int .i64 ((kN z.of.length y : Int))))] ?_
       refine wl_end rfl ?_
       refine seq_n hK173 ?_
       refine wp_seq_k ?_
       intro K174 hK174
       refine wp_reset 201 [(0, (Value.agg ([(Value.slice A z.of.length a), (Value.slice B z.bx.length b), (Value.slice C z.ls.length c), (Value.slice D z.ss.length d)]).toArray)), (1, (pt g2 0)), (2, (Value.bool false)), (3, (pt tb 0)), (4, (Value.slice A1 z.bx.length c1)), (5, (Value.slice A2 z.of.length c2)), (6, (Value.slice A3 z.bx.length c3)), (7, (pt m14 0)), (8, (Value.slice A143 z.of.length z.of.length)), (9, (Value.slice A142 z.bx.length z.bx.length)), (10, (Value.int .i64 ((i : Int)))), (12, (Value.int .i64 ((kN z.of.length y : Int)))), (23, (Value.bool false)), (26, (Value.bool (!t))), (48, (Value.int .i64 (((max z.ls.length z.ss.length : Nat) : Int)))), (49, (Value.int .i64 ((i : Int)))), (50, (Value.bool (decide ((i : Int) < ((max z.ls.length z.ss.length : Nat) : Int))))), (61, (Value.bool false)), (88, (Value.bool true))] (fun x175 => ?_)
       refine reg_lit ?_
       refine wq_p 3 [(100, (Value.int .i64 ((kN z.of.length y : Int)))), (99, (pt tb 0)), (98, (pt m14 0))] ?_
       refine wq_v (some 101) (Value.int .i64 (((kN z.of.length y + 1 : Nat) : Int))) (exec_add _ _ _ _ rfl ((kN z.of.length y : Int)) 1 (by kernel_rfl) (by kernel_rfl) ((kN z.of.length y + 1 : Nat) : Int) (by omega) (by omega) (by omega) _) ?_
       refine wq_to (some 102) (x_nth (tb := tb) h146 ((kN z.of.length y + 1 : Nat)) (by kernel_rfl) (by have := kN_lt (n := z.of.length) y (by omega); omega)) ?_
       rintro _ w176 ⟨K176, rfl, hK176, h176⟩
       have hKx := hK176
       refine wq_to (some 103) (x_learn h176 0 3 rfl rfl (by kernel_rfl) hp14 K176 (by kernel_rfl) hW (by omega) hsm) ?_
       rintro _ w177 ⟨F177, S177, rfl, hM177, h177⟩
       refine wl_end rfl ?_
       refine seq_n hK174 ?_
       refine reg_lit ?_
       refine wq_p 2 [(105, (Value.int .i64 ((kN z.of.length y : Int)))), (104, (Value.slice A143 z.of.length z.of.length))] ?_
       refine wq_v (some 106) (eAt A143 (((kN z.of.length y)) * 1 + 0)) (e_idxN (OV.rvn (h177.at_ 1 rfl)).2 ((kN z.of.length y)) z.of.length (OV.rvn (h177.at_ 1 rfl)).1 (by omega) 98 (.tmp 104) (.tmp 105) (by kernel_rfl) .i64 (by kernel_rfl) (by kernel_rfl) 4 (by kernel_rfl) (by kernel_rfl) _) ?_
       refine wq_to none (x_setBool h177 1 rfl ((kN z.of.length y)) (by rw [hfl]; omega) 4 (.tmp 106) (.const (Value.bool true)) (by kernel_rfl) true (by kernel_rfl) (by kernel_rfl) (by kernel_rfl) (f.set (kN z.of.length y) true) rfl) ?_
       rintro _ w178 h178
       refine wl_end rfl ?_
       refine blk_n ?_
       refine seq_n hK150 ?_
       refine reg_lit ?_
       refine wq_v (some 107) (Value.int .i64 ((i : Int) + 1)) (exec_add _ _ _ _ rfl ((i : Int)) 1 (by kernel_rfl) (by kernel_rfl) ((i : Int) + 1) rfl (by omega) (by omega) _) ?_
       refine wq_p 1 [(49, (Value.int .i64 ((i : Int) + 1)))] ?_
       refine wl_end rfl ?_
       refine ⟨(max z.ls.length z.ss.length) - (i + 1), (by omega), (i + 1), F177, S177, ((f.set (kN z.of.length y) true)), g, (by omega), (WS.lists ((hM177.toWS).moreN (Nat.le_succ _)) (by rw [lkTo_succ hy, hKx]) (lbTo_stay (by omega)).symm), (hfk.set (kN_lt y (by omega)) f2 (lkTo_succ hy)), (hfg.eq (lbTo_stay (by omega))), rfl, (patch_eq _ 201 _ (by kernel_rfl) (by kernel_rfl) (by kernel_rfl)), h178.sel [0, 1, 2, 3, 4, 5, 6, 7, 8, 9, 10] [0, 1, 2, 3, 4, 5] (by kernel_rfl) rfl rfl⟩
      ·
       refine reg_lit ?_
       refine wq_p 2 [(85, (pt g2 2)), (84, (Value.int .i64 ((i : Int))))] ?_
       refine wq_v (some 86) (Value.slice C z.ls.length c) (e_load (h146.at_ 10 rfl) 84 (.tmp 85) (by kernel_rfl) 2 (Value.slice C z.ls.length c) (by kernel_rfl) (by kernel_rfl) (by kernel_rfl)) ?_
       refine wq_p 1 [(87, (Value.int .i64 ((z.ls.length : Int))))] ?_
       refine wq_v (some 88) (.bool false) (eq_is (v := (Value.bool (decide ((i : Int) < (z.ls.length : Int))))) (by kernel_rfl) (congrArg Value.bool (decide_eq_false (by omega)))) ?_
       refine wl_end rfl ?_
       refine seq_n hK171 ?_
       refine wp_cond_false (by kernel_rfl) ?_
       refine wp_skip ?_
       refine blk_n ?_
       refine seq_n hK150 ?_
       refine reg_lit ?_
       refine wq_v (some 107) (Value.int .i64 ((i : Int) + 1)) (exec_add _ _ _ _ rfl ((i : Int)) 1 (by kernel_rfl) (by kernel_rfl) ((i : Int) + 1) rfl (by omega) (by omega) _) ?_
       refine wq_p 1 [(49, (Value.int .i64 ((i : Int) + 1)))] ?_
       refine wl_end rfl ?_
       refine ⟨(max z.ls.length z.ss.length) - (i + 1), (by omega), (i + 1), F1, S1, f, g, (by omega), (WS.lists ((hW).moreN (Nat.le_succ _)) (lkTo_stay (by omega)).symm (lbTo_stay (by omega)).symm), (hfk.eq (lkTo_stay (by omega))), (hfg.eq (lbTo_stay (by omega))), rfl, (patch_eq _ 201 _ (by kernel_rfl) (by kernel_rfl) (by kernel_rfl)), h146.sel [0, 1, 2, 3, 4, 5, 6, 7, 8, 9, 10] [0, 1, 2, 3, 4, 5] (by kernel_rfl) rfl rfl⟩
     ·
      refine reg_lit ?_
      refine wq_p 2 [(53, (pt g2 3)), (52, (Value.int .i64 ((i : Int))))] ?_
      refine wq_v (some 54) (Value.slice D z.ss.length d) (e_load (h146.at_ 10 rfl) 84 (.tmp 53) (by kernel_rfl) 3 (Value.slice D z.ss.length d) (by kernel_rfl) (by kernel_rfl) (by kernel_rfl)) ?_
      refine wq_p 1 [(55, (Value.int .i64 ((z.ss.length : Int))))] ?_
      refine wq_v (some 56) (.bool true) (eq_is (v := (Value.bool (decide ((i : Int) < (z.ss.length : Int))))) (by kernel_rfl) (congrArg Value.bool (decide_eq_true (by omega)))) ?_
      refine wq_p 3 [(59, (Value.int .i64 ((z.bx.length : Int)))), (58, (Value.slice A1 z.bx.length c1)), (57, (Value.bool true))] ?_
      refine wq_v (some 60) (.bool false) (eq_is (v := (Value.bool (decide ((z.bx.length : Int) > 0)))) (by kernel_rfl) (congrArg Value.bool (decide_eq_false (by omega)))) ?_
      refine wq_p 1 [(61, (Value.bool false))] ?_
      refine wl_end rfl ?_
      refine seq_n hK153 ?_
      refine wp_cond_false (by kernel_rfl) ?_
      refine wp_skip ?_
      refine seq_n hK152 ?_
      refine wp_seq_k ?_
      intro K179 hK179
      rcases (show i < z.ls.length ∨ ¬ i < z.ls.length by omega) with hil | hil
      ·
       refine reg_lit ?_
       refine wq_p 2 [(85, (pt g2 2)), (84, (Value.int .i64 ((i : Int))))] ?_
       refine wq_v (some 86) (Value.slice C z.ls.length c) (e_load (h146.at_ 10 rfl) 84 (.tmp 85) (by kernel_rfl) 2 (Value.slice C z.ls.length c) (by kernel_rfl) (by kernel_rfl) (by kernel_rfl)) ?_
       refine wq_p 1 [(87, (Value.int .i64 ((z.ls.length : Int))))] ?_
       refine wq_v (some 88) (.bool true) (eq_is (v := (Value.bool (decide ((i : Int) < (z.ls.length : Int))))) (by kernel_rfl) (congrArg Value.bool (decide_eq_true (by omega)))) ?_
       refine wl_end rfl ?_
       refine seq_n hK179 ?_
       refine wp_cond_true (by kernel_rfl) ?_
       refine wp_seq_k ?_
       intro K181 hK181
       obtain ⟨y, hy⟩ : ∃ y, z.ls[i]? = some y := ⟨_, List.getElem?_eq_getElem (by omega)⟩
       have hky := kN_lt (n := z.of.length) y (by omega)
       refine reg_lit ?_
       refine wq_p 1 [(89, (pt g2 2))] ?_
       refine wq_v (some 90) (Value.slice C z.ls.length c) (e_load (h146.at_ 10 rfl) 84 (.tmp 89) (by kernel_rfl) 2 (Value.slice C z.ls.length c) (by kernel_rfl) (by kernel_rfl) (by kernel_rfl)) ?_
       refine wq_p 1 [(91, (Value.int .i64 ((i : Int))))] ?_
       refine wq_v (some 92) (eAt C (i * 1 + 0)) (e_idxN (RV.lenIs (n := z.ls.length) (h146.rd 4 rfl) (ivs_len _)).2 i z.ls.length (RV.lenIs (n := z.ls.length) (h146.rd 4 rfl) (ivs_len _)).1 (by omega) 84 (.tmp 90) (.tmp 91) (by kernel_rfl) .i64 (by kernel_rfl) (by kernel_rfl) 3 (by kernel_rfl) (by kernel_rfl) _) ?_
       refine wq_v (some 93) (Value.int .i64 y) (e_elemN (RV.lenIs (n := z.ls.length) (h146.rd 4 rfl) (ivs_len _)).2 i 0 ([(Value.int .i64 y)]) (ivs_get hy) 3 (.tmp 92) (by kernel_rfl) (Value.int .i64 y) (by kernel_rfl) (by kernel_rfl) (by kernel_rfl)) ?_
       refine wq_v (some 94) (Value.int .i64 ((m31 y : Int))) (eq_is (v := Value.int .i64 (bits .and .i64 y 31)) (by kernel_rfl) (congrArg (Value.int .i64) (m31_eq y).1)) ?_
       refine wq_p 2 [(96, (Value.int .i64 ((z.of.length : Int)))), (95, (Value.slice A2 z.of.length c2))] ?_
       refine wq_v (some 97) (Value.int .i64 ((kN z.of.length y : Int))) (e_rem (.tmp 94) (.tmp 96) 3 3 (by kernel_rfl) (m31 y) (z.of.length) (by kernel_rfl) (by kernel_rfl) (by omega) _) ?_
       refine wq_p 1 [(12, (Value.int .i64 ((kN z.of.length y : Int))))] ?_
       refine wl_end rfl ?_
       refine seq_n hK181 ?_
       refine wp_seq_k ?_
       intro K182 hK182
       refine wp_reset 201 [(0, (Value.agg ([(Value.slice A z.of.length a), (Value.slice B z.bx.length b), (Value.slice C z.ls.length c), (Value.slice D z.ss.length d)]).toArray)), (1, (pt g2 0)), (2, (Value.bool false)), (3, (pt tb 0)), (4, (Value.slice A1 z.bx.length c1)), (5, (Value.slice A2 z.of.length c2)), (6, (Value.slice A3 z.bx.length c3)), (7, (pt m14 0)), (8, (Value.slice A143 z.of.length z.of.length)), (9, (Value.slice A142 z.bx.length z.bx.length)), (10, (Value.int .i64 ((i : Int)))), (12, (Value.int .i64 ((kN z.of.length y : Int)))), (23, (Value.bool false)), (26, (Value.bool (!t))), (48, (Value.int .i64 (((max z.ls.length z.ss.length : Nat) : Int)))), (49, (Value.int .i64 ((i : Int)))), (50, (Value.bool (decide ((i : Int) < ((max z.ls.length z.ss.length : Nat) : Int))))), (61, (Value.bool false)), (88, (Value.bool true))] (fun x183 => ?_)
       refine reg_lit ?_
       refine wq_p 3 [(100, (Value.int .i64 ((kN z.of.length y : Int)))), (99, (pt tb 0)), (98, (pt m14 0))] ?_
       refine wq_v (some 101) (Value.int .i64 (((kN z.of.length y + 1 : Nat) : Int))) (exec_add _ _ _ _ rfl ((kN z.of.length y : Int)) 1 (by kernel_rfl) (by kernel_rfl) ((kN z.of.length y + 1 : Nat) : Int) (by omega) (by omega) (by omega) _) ?_
       refine wq_to (some 102) (x_nth (tb := tb) h146 ((kN z.of.length y + 1 : Nat)) (by kernel_rfl) (by have := kN_lt (n := z.of.length) y (by omega); omega)) ?_
       rintro _ w184 ⟨K184, rfl, hK184, h184⟩
       have hKx := hK184
       refine wq_to (some 103) (x_learn h184 0 3 rfl rfl (by kernel_rfl) hp14 K184 (by kernel_rfl) hW (by omega) hsm) ?_
       rintro _ w185 ⟨F185, S185, rfl, hM185, h185⟩
       refine wl_end rfl ?_
       refine seq_n hK182 ?_
       refine reg_lit ?_
       refine wq_p 2 [(105, (Value.int .i64 ((kN z.of.length y : Int)))), (104, (Value.slice A143 z.of.length z.of.length))] ?_
       refine wq_v (some 106) (eAt A143 (((kN z.of.length y)) * 1 + 0)) (e_idxN (OV.rvn (h185.at_ 1 rfl)).2 ((kN z.of.length y)) z.of.length (OV.rvn (h185.at_ 1 rfl)).1 (by omega) 98 (.tmp 104) (.tmp 105) (by kernel_rfl) .i64 (by kernel_rfl) (by kernel_rfl) 4 (by kernel_rfl) (by kernel_rfl) _) ?_
       refine wq_to none (x_setBool h185 1 rfl ((kN z.of.length y)) (by rw [hfl]; omega) 4 (.tmp 106) (.const (Value.bool true)) (by kernel_rfl) true (by kernel_rfl) (by kernel_rfl) (by kernel_rfl) (f.set (kN z.of.length y) true) rfl) ?_
       rintro _ w186 h186
       refine wl_end rfl ?_
       refine blk_n ?_
       refine seq_n hK150 ?_
       refine reg_lit ?_
       refine wq_v (some 107) (Value.int .i64 ((i : Int) + 1)) (exec_add _ _ _ _ rfl ((i : Int)) 1 (by kernel_rfl) (by kernel_rfl) ((i : Int) + 1) rfl (by omega) (by omega) _) ?_
       refine wq_p 1 [(49, (Value.int .i64 ((i : Int) + 1)))] ?_
       refine wl_end rfl ?_
       refine ⟨(max z.ls.length z.ss.length) - (i + 1), (by omega), (i + 1), F185, S185, ((f.set (kN z.of.length y) true)), g, (by omega), (WS.lists ((hM185.toWS).moreN (Nat.le_succ _)) (by rw [lkTo_succ hy, hKx]) (by rw [lbTo_none hno, lbTo_none hno])), (hfk.set (kN_lt y (by omega)) f2 (lkTo_succ hy)), (hfg.eq (by rw [lbTo_none hno, lbTo_none hno])), rfl, (patch_eq _ 201 _ (by kernel_rfl) (by kernel_rfl) (by kernel_rfl)), h186.sel [0, 1, 2, 3, 4, 5, 6, 7, 8, 9, 10] [0, 1, 2, 3, 4, 5] (by kernel_rfl) rfl rfl⟩
      ·
       refine reg_lit ?_
       refine wq_p 2 [(85, (pt g2 2)), (84, (Value.int .i64 ((i : Int))))] ?_
       refine wq_v (some 86) (Value.slice C z.ls.length c) (e_load (h146.at_ 10 rfl) 84 (.tmp 85) (by kernel_rfl) 2 (Value.slice C z.ls.length c) (by kernel_rfl) (by kernel_rfl) (by kernel_rfl)) ?_
       refine wq_p 1 [(87, (Value.int .i64 ((z.ls.length : Int))))] ?_
       refine wq_v (some 88) (.bool false) (eq_is (v := (Value.bool (decide ((i : Int) < (z.ls.length : Int))))) (by kernel_rfl) (congrArg Value.bool (decide_eq_false (by omega)))) ?_
       refine wl_end rfl ?_
       refine seq_n hK179 ?_
       refine wp_cond_false (by kernel_rfl) ?_
       refine wp_skip ?_
       refine blk_n ?_
       refine seq_n hK150 ?_
       refine reg_lit ?_
       refine wq_v (some 107) (Value.int .i64 ((i : Int) + 1)) (exec_add _ _ _ _ rfl ((i : Int)) 1 (by kernel_rfl) (by kernel_rfl) ((i : Int) + 1) rfl (by omega) (by omega) _) ?_
       refine wq_p 1 [(49, (Value.int .i64 ((i : Int) + 1)))] ?_
       refine wl_end rfl ?_
       refine ⟨(max z.ls.length z.ss.length) - (i + 1), (by omega), (i + 1), F1, S1, f, g, (by omega), (WS.lists ((hW).moreN (Nat.le_succ _)) (lkTo_stay (by omega)).symm (by rw [lbTo_none hno, lbTo_none hno])), (hfk.eq (lkTo_stay (by omega))), (hfg.eq (by rw [lbTo_none hno, lbTo_none hno])), rfl, (patch_eq _ 201 _ (by kernel_rfl) (by kernel_rfl) (by kernel_rfl)), h146.sel [0, 1, 2, 3, 4, 5, 6, 7, 8, 9, 10] [0, 1, 2, 3, 4, 5] (by kernel_rfl) rfl rfl⟩
    ·
     refine wp_exit ?_
     refine seq_e ?_
     refine seq_e ?_
     refine blk_e ?_
     refine seq_n hK144 ?_
     refine wp_seq_k ?_
     intro K187 hK187
     refine reg_lit ?_
     refine wq_p 4 [(112, (Value.slice A142 z.bx.length z.bx.length)), (111, (Value.slice A143 z.of.length z.of.length)), (110, (Value.slice A3 z.bx.length c3)), (109, (Value.slice A2 z.of.length c2))] ?_
     have hbl : hb.length = z.bx.length := by have := congrArg List.length hht; rw [List.length_map, tri_len] at this; exact this
     refine wq_to (some 113) (x_rclose h146 (by kernel_rfl) (OV.rvn (h146.at_ 6 rfl)).2 (OV.rvn (h146.at_ 7 rfl)).2 (h146.at_ 8 rfl) (h146.at_ 9 rfl) (OV.rvn (h146.at_ 1 rfl)).2 (OV.rvn (h146.at_ 2 rfl)).2 hfk.1 hbl ofTo_len hfg.1 f2 f3 (fun k x hx => made_of hx) (made_six f6 hht)) ?_
     rintro _ w188 ⟨A1881, c1881, A1882, c1882, A1883, X, rfl, hX, h188⟩
     have hC := knows_closes (X := X) hf hk2 hb2 (seen_of hfk hfg (lk_all (by omega)) lb_all) (by rw [hht] at hX; exact hX)
     have hXl : X.kn.length = z.of.length ∧ X.hd.length = z.bx.length ∧ X.op.length = z.bx.length := by
       have := closeS_len (of := ofTo z.of z.of.length) (bx := hb.map triOf) (X := ⟨f, g, List.replicate z.bx.length false⟩) (z.of.length + z.bx.length + 2)
       rw [← hX] at this
       exact ⟨this.1.trans hfk.1, this.2.1.trans hfg.1, this.2.2.trans (by simp)⟩
     obtain ⟨hC1, hC2, hC3⟩ := hC
     obtain ⟨hX1, hX2, hX3⟩ := hXl
     refine wq_p 7 [(15, (Value.slice A1883 z.bx.length z.bx.length)), (14, (Value.slice A1882 z.bx.length c1882)), (13, (Value.slice A1881 z.of.length c1881)), (116, (Value.slice A1883 z.bx.length z.bx.length)), (115, (Value.slice A1882 z.bx.length c1882)), (114, (Value.slice A1881 z.of.length c1881)), (108, (Value.tuple #[(Value.slice A1881 z.of.length c1881), (Value.slice A1882 z.bx.length c1882), (Value.slice A1883 z.bx.length z.bx.length)]))] ?_
     refine wl_end rfl ?_
     refine seq_n hK187 ?_
     refine wp_seq_k ?_
     intro K189 hK189
     refine reg_lit ?_
     refine wq_p 1 [(16, (Value.int .i64 0))] ?_
     refine wl_end rfl ?_
     refine seq_n hK189 ?_
     refine wp_seq_k ?_
     intro K190 hK190
     refine wp_seq_k ?_
     intro K191 hK191
     refine reg_lit ?_
     refine wq_p 3 [(119, (Value.int .i64 0)), (118, (Value.int .i64 ((z.of.length : Int)))), (117, (Value.slice A1881 z.of.length c1881))] ?_
     refine wl_end rfl ?_
     refine seq_n hK191 ?_
     refine wp_block ?_
     obtain ⟨LK9, hLK9⟩ : ∃ a, a = (lkTo z.of.length z.ls (i)) := ⟨_, rfl⟩
     obtain ⟨LB9, hLB9⟩ : ∃ a, a = (lbTo z.bx.length z.ss (i)) := ⟨_, rfl⟩
     have hWx := hW.moreN (show i ≤ 12 by omega)
     rw [← hLK9, ← hLB9] at hWx hC1 hC2 hC3
     refine wp_loopm (fun mM xX aA wL => ∃ (j : Nat) (F2 : Nat → Prop) (S2 : KM) (cn : Nat), (j ≤ z.of.length) ∧ (WSl s LK9 LB9 12 S2) ∧ (cn = cntTo X.kn (j)) ∧ mM = z.of.length - (j) ∧ aA = patch xX 201 [(0, (Value.agg ([(Value.slice A z.of.length a), (Value.slice B z.bx.length b), (Value.slice C z.ls.length c), (Value.slice D z.ss.length d)]).toArray)), (1, (pt g2 0)), (3, (pt tb 0)), (4, (Value.slice A1 z.bx.length c1)), (5, (Value.slice A2 z.of.length c2)), (6, (Value.slice A3 z.bx.length c3)), (7, (pt m14 0)), (8, (Value.slice A143 z.of.length z.of.length)), (9, (Value.slice A142 z.bx.length z.bx.length)), (13, (Value.slice A1881 z.of.length c1881)), (14, (Value.slice A1882 z.bx.length c1882)), (15, (Value.slice A1883 z.bx.length z.bx.length)), (16, (Value.int .i64 (((cn : Nat) : Int)))), (23, (Value.bool false)), (26, (Value.bool (!t))), (48, (Value.int .i64 (((max z.ls.length z.ss.length : Nat) : Int)))), (49, (Value.int .i64 ((i : Int)))), (50, (Value.bool (decide ((i : Int) < ((max z.ls.length z.ss.length : Nat) : Int))))), (117, (Value.slice A1881 z.of.length c1881)), (118, (Value.int .i64 ((z.of.length : Int)))), (119, (Value.int .i64 ((j : Int))))] ∧ Hp (fun _ => False) w wL [rRV 1 A a (ivs z.of), rRV 3 B b (z.bx.map kbCells), rISs (z.bx.map (·.kv)) (z.bx.map (·.ks)), rISs (z.bx.map (·.bv)) (z.bx.map (·.bs)), rRV 1 C c (ivs z.ls), rRV 1 D d (ivs z.ss)] [rMind F2 none m14 p14 S2, rOV 4 1 ((Value.slice A1881 z.of.length c1881)) (bvs X.kn), rOV 4 1 ((Value.slice A1882 z.bx.length c1882)) (bvs X.hd), rOV 4 1 ((Value.slice A1883 z.bx.length z.bx.length)) (bvs X.op), rOV 4 1 ((Value.slice A143 z.of.length z.of.length)) (bvs f), rOV 4 1 ((Value.slice A142 z.bx.length z.bx.length)) (bvs g), rTab F0 tb s, rOV 28 1 ((Value.slice A1 z.bx.length c1)) (mv.map fun v => [v]), rSBs mv (mkTo z.bx.length), rOV 3 1 ((Value.slice A2 z.of.length c2)) (ivs (ofTo z.of z.of.length)), rOV 131 3 ((Value.slice A3 z.bx.length c3)) (hb.map kbCells), rISs (hb.map (·.kv)) (hb.map (·.ks)), rISs (hb.map (·.bv)) (hb.map (·.bs)), rBlk g2 87 ([(Value.slice A z.of.length a), (Value.slice B z.bx.length b), (Value.slice C z.ls.length c), (Value.slice D z.ss.length d)])]) ⟨_, 0, F1, S1, 0, (by omega), hWx, rfl, rfl, (patch_eq _ 201 _ (by kernel_rfl) (by kernel_rfl) (by kernel_rfl)), h188.sel [3, 0, 1, 2, 4, 5, 6, 7, 8, 9, 10, 11, 12, 13] [0, 1, 2, 3, 4, 5] (by kernel_rfl) rfl rfl⟩ ?_
     rintro _ x192 _ w192 ⟨j, F2, S2, cn, hj, hW2, hcn, rfl, rfl, h192⟩
     refine wp_seq_k ?_
     intro K193 hK193
     refine reg_lit ?_
     refine wq_p 1 [(120, (Value.bool (decide ((j : Int) < (z.of.length : Int)))))] ?_
     refine wl_end rfl ?_
     refine seq_n hK193 ?_
     refine wp_seq_k ?_
     intro K194 hK194
     refine wp_if ((j : Int) < (z.of.length : Int)) (by kernel_rfl) (fun b195 => ?_) (fun b195 => ?_)
     ·
      refine wp_skip ?_
      refine seq_n hK194 ?_
      refine wp_seq_k ?_
      intro K196 hK196
      refine wp_block ?_
      refine wp_seq_k ?_
      intro K197 hK197
      rcases bool_at (l := X.kn) (i := j) (by omega) with hbi | hbi
      ·
       refine reg_lit ?_
       refine wq_p 1 [(121, (Value.int .i64 ((j : Int))))] ?_
       refine wq_v (some 122) (eAt A1881 (j * 1 + 0)) (e_idxN (OV.rvn (h192.at_ 1 rfl)).2 j z.of.length (OV.rvn (h192.at_ 1 rfl)).1 (by omega) 98 (.tmp 117) (.tmp 119) (by kernel_rfl) .i64 (by kernel_rfl) (by kernel_rfl) 4 (by kernel_rfl) (by kernel_rfl) _) ?_
       refine wq_v (some 123) (Value.bool true) (e_elemN (OV.rvn (h192.at_ 1 rfl)).2 j 0 ([(Value.bool true)]) (bvs_get hbi) 4 (.tmp 122) (by kernel_rfl) (Value.bool true) (by kernel_rfl) (by kernel_rfl) (by kernel_rfl)) ?_
       refine wq_p 2 [(18, (Value.bool true)), (17, (Value.int .i64 ((j : Int))))] ?_
       refine wl_end rfl ?_
       refine seq_n hK197 ?_
       refine wp_seq_k ?_
       intro K199 hK199
       refine reg_lit ?_
       refine wq_p 2 [(125, (Value.int .i64 ((j : Int)))), (124, (pt tb 0))] ?_
       refine wq_v (some 126) (Value.int .i64 (((j + 1 : Nat) : Int))) (exec_add _ _ _ _ rfl ((j : Int)) 1 (by kernel_rfl) (by kernel_rfl) ((j + 1 : Nat) : Int) (by omega) (by omega) (by omega) _) ?_
       refine wq_to (some 127) (x_nth (tb := tb) h192 ((j + 1 : Nat)) (by kernel_rfl) (by omega)) ?_
       rintro _ w200 ⟨K200, rfl, hK200, h200⟩
       have hKx := hK200
       refine wq_to (some 19) (x_new h200 42 (vb (List.replicate 16 0)) (fun r => pt r 0) (by kernel_rfl)) ?_
       rintro _ w201 ⟨g201, rfl, h201⟩
       refine wq_to none (x_stores h201 0 rfl 42 (.tmp 19) (.tmp 127) (by kernel_rfl) 0 (vb (kl K200)) (vb (kl K200)) (by kernel_rfl) (by kernel_rfl) (by kernel_rfl) (by kernel_rfl) (by kernel_rfl) (by kernel_rfl)) ?_
       rintro _ w202 h202
       refine wl_end rfl ?_
       refine seq_n hK199 ?_
       refine wp_seq_k ?_
       intro K203 hK203
       refine wp_seq_k ?_
       intro K204 hK204
       refine reg_lit ?_
       refine wq_p 1 [(128, (pt m14 0))] ?_
       refine wq_v (some 129) (Value.agg (vb (kl K200)).toArray) (e_loads (h202.at_ 0 rfl) 42 (.tmp 19) (by kernel_rfl) 0 (vb (kl K200)) (by kernel_rfl) (by kernel_rfl) (by kernel_rfl)) ?_
       refine wq_to (some 130) (mdec true (decK true (by rw [hKx]; exact knb (hC1 j (by omega)) hbi)) (x_kkey h202 1 7 rfl rfl (by kernel_rfl) hp14 K200 (by kernel_rfl) hW2 (by omega) hsm)) ?_
       rintro _ w205 ⟨F205, S205, rfl, hM205, h205⟩
       refine wq_p 5 [(135, (Value.slice (some ⟨g201, 0, none⟩) 16 16)), (134, (pt m14 0)), (133, (Value.bool false)), (132, (Value.bool false)), (131, (Value.bool true))] ?_
       refine wq_to (some 136) (mdec true (decFk true (n := j + 1) (by omega) hKx (by rw [hKx]; exact knb (hC1 j (by omega)) hbi)) (x_fits h205 1 7 rfl rfl (by kernel_rfl) hp14 (by kernel_rfl) (h205.apartB 1 7 0 rfl rfl rfl (by kernel_rfl) (by kernel_rfl)) hM205.toWS (by omega) hsm (by rw [kl_len]; decide))) ?_
       rintro _ w206 ⟨F206, S206, rfl, hM206, h206⟩
       refine wq_p 3 [(139, (Value.bool false)), (138, (Value.bool false)), (137, (Value.bool true))] ?_
       refine wl_end rfl ?_
       refine seq_n hK204 ?_
       refine wp_cond_false (by kernel_rfl) ?_
       refine wp_skip ?_
       refine seq_n hK203 ?_
       refine wp_seq_k ?_
       intro K207 hK207
       refine reg_lit ?_
       refine wq_p 1 [(140, (Value.bool true))] ?_
       refine wl_end rfl ?_
       refine seq_n hK207 ?_
       refine wp_cond_true (by kernel_rfl) ?_
       refine wp_reset 201 [(0, (Value.agg ([(Value.slice A z.of.length a), (Value.slice B z.bx.length b), (Value.slice C z.ls.length c), (Value.slice D z.ss.length d)]).toArray)), (1, (pt g2 0)), (3, (pt tb 0)), (4, (Value.slice A1 z.bx.length c1)), (5, (Value.slice A2 z.of.length c2)), (6, (Value.slice A3 z.bx.length c3)), (7, (pt m14 0)), (8, (Value.slice A143 z.of.length z.of.length)), (9, (Value.slice A142 z.bx.length z.bx.length)), (13, (Value.slice A1881 z.of.length c1881)), (14, (Value.slice A1882 z.bx.length c1882)), (15, (Value.slice A1883 z.bx.length z.bx.length)), (16, (Value.int .i64 (((cn : Nat) : Int)))), (17, (Value.int .i64 ((j : Int)))), (18, (Value.bool true)), (19, (pt g201 0)), (23, (Value.bool false)), (26, (Value.bool (!t))), (48, (Value.int .i64 (((max z.ls.length z.ss.length : Nat) : Int)))), (49, (Value.int .i64 ((i : Int)))), (50, (Value.bool (decide ((i : Int) < ((max z.ls.length z.ss.length : Nat) : Int))))), (117, (Value.slice A1881 z.of.length c1881)), (118, (Value.int .i64 ((z.of.length : Int)))), (119, (Value.int .i64 ((j : Int)))), (120, (Value.bool (decide ((j : Int) < (z.of.length : Int))))), (139, (Value.bool false)), (140, (Value.bool true))] (fun x208 => ?_)
       refine reg_lit ?_
       refine wq_p 1 [(141, (Value.int .i64 (((cn : Nat) : Int))))] ?_
       refine wq_v (some 142) (Value.int .i64 (((cn + 1 : Nat) : Int))) (exec_add _ _ _ _ rfl (((cn : Nat) : Int)) 1 (by kernel_rfl) (by kernel_rfl) ((cn + 1 : Nat) : Int) (by omega) (by have := cntTo_le (f := X.kn) (i := j); omega) (by have := cntTo_le (f := X.kn) (i := j); omega) _) ?_
       refine wq_p 1 [(16, (Value.int .i64 (((cn + 1 : Nat) : Int))))] ?_
       refine wl_end rfl ?_
       refine blk_n ?_
       refine seq_n hK196 ?_
       refine reg_lit ?_
       refine wq_v (some 143) (Value.int .i64 ((j : Int) + 1)) (exec_add _ _ _ _ rfl ((j : Int)) 1 (by kernel_rfl) (by kernel_rfl) ((j : Int) + 1) rfl (by omega) (by omega) _) ?_
       refine wq_p 1 [(119, (Value.int .i64 ((j : Int) + 1)))] ?_
       refine wl_end rfl ?_
       refine ⟨z.of.length - (j + 1), (by omega), (j + 1), F206, S206, (cn + 1), (by omega), hM206.toWS, (by rw [cntTo_yes hbi, hcn]), rfl, (patch_eq _ 201 _ (by kernel_rfl) (by kernel_rfl) (by kernel_rfl)), h206.sel [1, 2, 3, 4, 5, 6, 7, 8, 9, 10, 11, 12, 13, 14] [0, 1, 2, 3, 4, 5] (by kernel_rfl) rfl rfl⟩
      ·
       refine reg_lit ?_
       refine wq_p 1 [(121, (Value.int .i64 ((j : Int))))] ?_
       refine wq_v (some 122) (eAt A1881 (j * 1 + 0)) (e_idxN (OV.rvn (h192.at_ 1 rfl)).2 j z.of.length (OV.rvn (h192.at_ 1 rfl)).1 (by omega) 98 (.tmp 117) (.tmp 119) (by kernel_rfl) .i64 (by kernel_rfl) (by kernel_rfl) 4 (by kernel_rfl) (by kernel_rfl) _) ?_
       refine wq_v (some 123) (Value.bool false) (e_elemN (OV.rvn (h192.at_ 1 rfl)).2 j 0 ([(Value.bool false)]) (bvs_get hbi) 4 (.tmp 122) (by kernel_rfl) (Value.bool false) (by kernel_rfl) (by kernel_rfl) (by kernel_rfl)) ?_
       refine wq_p 2 [(18, (Value.bool false)), (17, (Value.int .i64 ((j : Int))))] ?_
       refine wl_end rfl ?_
       refine seq_n hK197 ?_
       refine wp_seq_k ?_
       intro K209 hK209
       refine reg_lit ?_
       refine wq_p 2 [(125, (Value.int .i64 ((j : Int)))), (124, (pt tb 0))] ?_
       refine wq_v (some 126) (Value.int .i64 (((j + 1 : Nat) : Int))) (exec_add _ _ _ _ rfl ((j : Int)) 1 (by kernel_rfl) (by kernel_rfl) ((j + 1 : Nat) : Int) (by omega) (by omega) (by omega) _) ?_
       refine wq_to (some 127) (x_nth (tb := tb) h192 ((j + 1 : Nat)) (by kernel_rfl) (by omega)) ?_
       rintro _ w210 ⟨K210, rfl, hK210, h210⟩
       have hKx := hK210
       refine wq_to (some 19) (x_new h210 42 (vb (List.replicate 16 0)) (fun r => pt r 0) (by kernel_rfl)) ?_
       rintro _ w211 ⟨g211, rfl, h211⟩
       refine wq_to none (x_stores h211 0 rfl 42 (.tmp 19) (.tmp 127) (by kernel_rfl) 0 (vb (kl K210)) (vb (kl K210)) (by kernel_rfl) (by kernel_rfl) (by kernel_rfl) (by kernel_rfl) (by kernel_rfl) (by kernel_rfl)) ?_
       rintro _ w212 h212
       refine wl_end rfl ?_
       refine seq_n hK209 ?_
       refine wp_seq_k ?_
       intro K213 hK213
       refine wp_seq_k ?_
       intro K214 hK214
       refine reg_lit ?_
       refine wq_p 1 [(128, (pt m14 0))] ?_
       refine wq_v (some 129) (Value.agg (vb (kl K210)).toArray) (e_loads (h212.at_ 0 rfl) 42 (.tmp 19) (by kernel_rfl) 0 (vb (kl K210)) (by kernel_rfl) (by kernel_rfl) (by kernel_rfl)) ?_
       refine wq_to (some 130) (mdec false (decK false (by rw [hKx]; exact knb (hC1 j (by omega)) hbi)) (x_kkey h212 1 7 rfl rfl (by kernel_rfl) hp14 K210 (by kernel_rfl) hW2 (by omega) hsm)) ?_
       rintro _ w215 ⟨F215, S215, rfl, hM215, h215⟩
       refine wq_p 5 [(135, (Value.slice (some ⟨g211, 0, none⟩) 16 16)), (134, (pt m14 0)), (133, (Value.bool false)), (132, (Value.bool false)), (131, (Value.bool false))] ?_
       refine wq_to (some 136) (mdec false (decFk false (n := j + 1) (by omega) hKx (by rw [hKx]; exact knb (hC1 j (by omega)) hbi)) (x_fits h215 1 7 rfl rfl (by kernel_rfl) hp14 (by kernel_rfl) (h215.apartB 1 7 0 rfl rfl rfl (by kernel_rfl) (by kernel_rfl)) hM215.toWS (by omega) hsm (by rw [kl_len]; decide))) ?_
       rintro _ w216 ⟨F216, S216, rfl, hM216, h216⟩
       refine wq_p 3 [(139, (Value.bool false)), (138, (Value.bool false)), (137, (Value.bool false))] ?_
       refine wl_end rfl ?_
       refine seq_n hK214 ?_
       refine wp_cond_false (by kernel_rfl) ?_
       refine wp_skip ?_
       refine seq_n hK213 ?_
       refine wp_seq_k ?_
       intro K217 hK217
       refine reg_lit ?_
       refine wq_p 1 [(140, (Value.bool false))] ?_
       refine wl_end rfl ?_
       refine seq_n hK217 ?_
       refine wp_cond_false (by kernel_rfl) ?_
       refine wp_skip ?_
       refine blk_n ?_
       refine seq_n hK196 ?_
       refine wp_reset 201 [(0, (Value.agg ([(Value.slice A z.of.length a), (Value.slice B z.bx.length b), (Value.slice C z.ls.length c), (Value.slice D z.ss.length d)]).toArray)), (1, (pt g2 0)), (3, (pt tb 0)), (4, (Value.slice A1 z.bx.length c1)), (5, (Value.slice A2 z.of.length c2)), (6, (Value.slice A3 z.bx.length c3)), (7, (pt m14 0)), (8, (Value.slice A143 z.of.length z.of.length)), (9, (Value.slice A142 z.bx.length z.bx.length)), (13, (Value.slice A1881 z.of.length c1881)), (14, (Value.slice A1882 z.bx.length c1882)), (15, (Value.slice A1883 z.bx.length z.bx.length)), (16, (Value.int .i64 (((cn : Nat) : Int)))), (17, (Value.int .i64 ((j : Int)))), (18, (Value.bool false)), (19, (pt g211 0)), (23, (Value.bool false)), (26, (Value.bool (!t))), (48, (Value.int .i64 (((max z.ls.length z.ss.length : Nat) : Int)))), (49, (Value.int .i64 ((i : Int)))), (50, (Value.bool (decide ((i : Int) < ((max z.ls.length z.ss.length : Nat) : Int))))), (117, (Value.slice A1881 z.of.length c1881)), (118, (Value.int .i64 ((z.of.length : Int)))), (119, (Value.int .i64 ((j : Int)))), (120, (Value.bool (decide ((j : Int) < (z.of.length : Int))))), (139, (Value.bool false)), (140, (Value.bool false))] (fun x218 => ?_)
       refine reg_lit ?_
       refine wq_v (some 143) (Value.int .i64 ((j : Int) + 1)) (exec_add _ _ _ _ rfl ((j : Int)) 1 (by kernel_rfl) (by kernel_rfl) ((j : Int) + 1) rfl (by omega) (by omega) _) ?_
       refine wq_p 1 [(119, (Value.int .i64 ((j : Int) + 1)))] ?_
       refine wl_end rfl ?_
       refine ⟨z.of.length - (j + 1), (by omega), (j + 1), F216, S216, cn, (by omega), hM216.toWS, (by rw [cntTo_no hbi, hcn]), rfl, (patch_eq _ 201 _ (by kernel_rfl) (by kernel_rfl) (by kernel_rfl)), h216.sel [1, 2, 3, 4, 5, 6, 7, 8, 9, 10, 11, 12, 13, 14] [0, 1, 2, 3, 4, 5] (by kernel_rfl) rfl rfl⟩
     ·
      refine wp_exit ?_
      refine seq_e ?_
      refine seq_e ?_
      refine blk_e ?_
      refine seq_n hK190 ?_
      refine wp_seq_k ?_
      intro K219 hK219
      refine wp_seq_k ?_
      intro K220 hK220
      refine reg_lit ?_
      refine wq_p 3 [(146, (Value.int .i64 0)), (145, (Value.int .i64 ((z.bx.length : Int)))), (144, (Value.slice A1 z.bx.length c1))] ?_
      refine wl_end rfl ?_
      refine seq_n hK220 ?_
      refine wp_block ?_
      have hcn9 : cn = cntTo X.kn z.of.length := by rw [hcn, show j = z.of.length by omega]
      refine wp_loopm (fun mM xX aA wL => ∃ (q : Nat) (F3 : Nat → Prop) (S3 : KM), (q ≤ z.bx.length) ∧ (WSl s LK9 LB9 12 S3) ∧ mM = z.bx.length - (q) ∧ aA = patch xX 201 [(0, (Value.agg ([(Value.slice A z.of.length a), (Value.slice B z.bx.length b), (Value.slice C z.ls.length c), (Value.slice D z.ss.length d)]).toArray)), (1, (pt g2 0)), (3, (pt tb 0)), (4, (Value.slice A1 z.bx.length c1)), (5, (Value.slice A2 z.of.length c2)), (6, (Value.slice A3 z.bx.length c3)), (7, (pt m14 0)), (8, (Value.slice A143 z.of.length z.of.length)), (9, (Value.slice A142 z.bx.length z.bx.length)), (13, (Value.slice A1881 z.of.length c1881)), (14, (Value.slice A1882 z.bx.length c1882)), (15, (Value.slice A1883 z.bx.length z.bx.length)), (16, (Value.int .i64 (((cn : Nat) : Int)))), (23, (Value.bool false)), (26, (Value.bool (!t))), (48, (Value.int .i64 (((max z.ls.length z.ss.length : Nat) : Int)))), (49, (Value.int .i64 ((i : Int)))), (50, (Value.bool (decide ((i : Int) < ((max z.ls.length z.ss.length : Nat) : Int))))), (117, (Value.slice A1881 z.of.length c1881)), (118, (Value.int .i64 ((z.of.length : Int)))), (119, (Value.int .i64 ((j : Int)))), (120, (Value.bool (decide ((j : Int) < (z.of.length : Int))))), (144, (Value.slice A1 z.bx.length c1)), (145, (Value.int .i64 ((z.bx.length : Int)))), (146, (Value.int .i64 ((q : Int))))] ∧ Hp (fun _ => False) w wL [rRV 1 A a (ivs z.of), rRV 3 B b (z.bx.map kbCells), rISs (z.bx.map (·.kv)) (z.bx.map (·.ks)), rISs (z.bx.map (·.bv)) (z.bx.map (·.bs)), rRV 1 C c (ivs z.ls), rRV 1 D d (ivs z.ss)] [rMind F3 none m14 p14 S3, rOV 4 1 ((Value.slice A1881 z.of.length c1881)) (bvs X.kn), rOV 4 1 ((Value.slice A1882 z.bx.length c1882)) (bvs X.hd), rOV 4 1 ((Value.slice A1883 z.bx.length z.bx.length)) (bvs X.op), rOV 4 1 ((Value.slice A143 z.of.length z.of.length)) (bvs f), rOV 4 1 ((Value.slice A142 z.bx.length z.bx.length)) (bvs g), rTab F0 tb s, rOV 28 1 ((Value.slice A1 z.bx.length c1)) (mv.map fun v => [v]), rSBs mv (mkTo z.bx.length), rOV 3 1 ((Value.slice A2 z.of.length c2)) (ivs (ofTo z.of z.of.length)), rOV 131 3 ((Value.slice A3 z.bx.length c3)) (hb.map kbCells), rISs (hb.map (·.kv)) (hb.map (·.ks)), rISs (hb.map (·.bv)) (hb.map (·.bs)), rBlk g2 87 ([(Value.slice A z.of.length a), (Value.slice B z.bx.length b), (Value.slice C z.ls.length c), (Value.slice D z.ss.length d)])]) ⟨_, 0, F2, S2, (by omega), hW2, rfl, (patch_eq _ 201 _ (by kernel_rfl) (by kernel_rfl) (by kernel_rfl)), h192.sel [0, 1, 2, 3, 4, 5, 6, 7, 8, 9, 10, 11, 12, 13] [0, 1, 2, 3, 4, 5] (by kernel_rfl) rfl rfl⟩ ?_
      rintro _ x221 _ w221 ⟨q, F3, S3, hq, hW3, rfl, rfl, h221⟩
      refine wp_seq_k ?_
      intro K222 hK222
      refine reg_lit ?_
      refine wq_p 1 [(147, (Value.bool (decide ((q : Int) < (z.bx.length : Int)))))] ?_
      refine wl_end rfl ?_
      refine seq_n hK222 ?_
      refine wp_seq_k ?_
      intro K223 hK223
      refine wp_if ((q : Int) < (z.bx.length : Int)) (by kernel_rfl) (fun b224 => ?_) (fun b224 => ?_)
      ·
       refine wp_skip ?_
       refine seq_n hK223 ?_
       refine wp_seq_k ?_
       intro K225 hK225
       refine wp_block ?_
       refine wp_seq_k ?_
       intro K226 hK226
       rcases bool_at (l := X.hd) (i := q) (by omega) with hb1 | hb1 <;> rcases bool_at (l := X.op) (i := q) (by omega) with hb3 | hb3
       ·
        obtain ⟨MAE, mcE, myE, hvE, hlE⟩ := sbsget (h221.at_ 8 rfl) (by rw [mkTo_len]; exact hmv) (q) (by rw [mkTo_len]; omega)
        have hmE : myE = mkB 98 (q + 1) := by
          rw [mkTo_at (by omega)] at hlE
          injection hlE with hlE
          exact hlE.symm
        
        refine reg_lit ?_
        refine wq_p 1 [(148, (Value.int .i64 ((q : Int))))] ?_
        refine wq_v (some 149) (eAt A1 (q * 1 + 0)) (e_idxN (OV.rvn (h221.at_ 7 rfl)).2 q z.bx.length (OV.rvn (h221.at_ 7 rfl)).1 (by omega) 63 (.tmp 144) (.tmp 146) (by kernel_rfl) .i64 (by kernel_rfl) (by kernel_rfl) 28 (by kernel_rfl) (by kernel_rfl) _) ?_
        refine wq_v (some 150) (Value.slice MAE myE.length mcE) (e_elemN (OV.rvn (h221.at_ 7 rfl)).2 q 0 ([(Value.slice MAE myE.length mcE)]) (by rw [List.getElem?_map, hvE]; rfl) 28 (.tmp 149) (by kernel_rfl) (Value.slice MAE myE.length mcE) (by kernel_rfl) (by kernel_rfl) (by kernel_rfl)) ?_
        refine wq_p 2 [(21, (Value.slice MAE myE.length mcE)), (20, (Value.int .i64 ((q : Int))))] ?_
        refine wl_end rfl ?_
        refine seq_n hK226 ?_
        refine wp_seq_k ?_
        intro K228 hK228
        refine pR_go h221 31 (fun W => (rOV 4 1 ((Value.slice A1882 z.bx.length c1882)) (bvs X.hd)).Φ W ∧ (rOV 4 1 ((Value.slice A1883 z.bx.length z.bx.length)) (bvs X.op)).Φ W ∧ True) [(152, [7], 0), (153, [21], 0), (154, [151, 152], 3), (155, [14], 0), (156, [20], 0), (157, [154, 155], 24), (158, [156], 32), (159, [153, 157], 68), (160, [158], 132), (161, [7, 159], 256), (162, [21, 159], 256), (163, [160, 161, 159], 1792), (164, [15, 159], 256), (165, [20, 159], 256), (166, [163, 164, 159], 12544), (167, [165, 159], 16640), (168, [162, 166, 159], 35072), (169, [159, 167], 65792), (170, [168], 133120), (171, [7, 169], 262144), (172, [21, 169], 262144), (173, [21, 169], 262144), (174, [171, 172, 169], 3407872), (175, [173, 169], 4456448), (176, [170, 174, 169], 9175040), (177, [14, 169], 262144), (178, [20, 169], 262144), (179, [176, 177, 169], 100925440), (180, [178, 169], 134479872), (181, [175, 179, 169], 285474816), (182, [169, 180], 537133056)] rfl (fun _ d _ _ _ h => by cases d <;> exact h) ?_
        intro hs229 w229 h229
        refine pR_p 27 [0, 1, 3, 4] [(155, (Value.int .i64 ((q : Int)))), (154, (Value.slice A1882 z.bx.length c1882)), (152, (Value.slice MAE myE.length mcE)), (151, (pt m14 0))] 27 hs229 ⟨h229.at_ 2 rfl, h229.at_ 3 rfl, trivial⟩ ?_
        refine pR_v 5 (some 156) (eAt A1882 (q * 1 + 0)) 59 rfl hs229 ⟨h229.at_ 2 rfl, h229.at_ 3 rfl, trivial⟩ (fun W hW => e_idxN (OV.rvn (h229.at_ 2 rfl)).2 q z.bx.length (OV.rvn (h229.at_ 2 rfl)).1 (by omega) 98 (.tmp 154) (.tmp 155) (by kernel_rfl) .i64 (by kernel_rfl) (by kernel_rfl) 4 (by kernel_rfl) (by kernel_rfl) _) ?_
        refine pR_v 6 (some 157) (Value.bool true) 123 rfl hs229 ⟨h229.at_ 2 rfl, h229.at_ 3 rfl, trivial⟩ (fun W hW => e_elemN (OV.rvn hW.1).2 q 0 ([(Value.bool true)]) (bvs_get hb1) 4 (.tmp 156) (by kernel_rfl) (Value.bool true) (by kernel_rfl) (by kernel_rfl) (by kernel_rfl)) ?_
        refine pR_to 2 (some 153) 127 rfl hs229 (mdec true (decX true (by rw [hmE]; exact knb (hC2 q (by omega)) hb1)) (x_kbox h229 0 6 rfl rfl (by kernel_rfl) hp14 (by kernel_rfl) (h229.apartL 0 6 8 rfl rfl rfl (by kernel_rfl) (by kernel_rfl) hvE hlE) hW3 (by omega) hsm (by rw [hmE]; rfl))) ?_
        rintro _ w230 ⟨F230, S230, rfl, hM230, h230⟩
        refine ⟨fun _ => ⟨h230.at_ 2 rfl, h230.at_ 3 rfl, trivial⟩, ?_⟩
        refine pR_p 18 [7, 8, 9, 10, 12, 13] [(164, (Value.int .i64 ((q : Int)))), (163, (Value.slice A1883 z.bx.length z.bx.length)), (161, (Value.slice MAE myE.length mcE)), (160, (pt m14 0)), (159, (Value.bool false)), (158, (Value.bool false))] 14335 hs229 ⟨h230.at_ 2 rfl, h230.at_ 3 rfl, trivial⟩ ?_
        refine pR_v 14 (some 165) (eAt A1883 (q * 1 + 0)) 30719 rfl hs229 ⟨h230.at_ 2 rfl, h230.at_ 3 rfl, trivial⟩ (fun W hW => e_idxN (OV.rvn (h230.at_ 3 rfl)).2 q z.bx.length (OV.rvn (h230.at_ 3 rfl)).1 (by omega) 98 (.tmp 163) (.tmp 164) (by kernel_rfl) .i64 (by kernel_rfl) (by kernel_rfl) 4 (by kernel_rfl) (by kernel_rfl) _) ?_
        refine pR_v 15 (some 166) (Value.bool true) 63487 rfl hs229 ⟨h230.at_ 2 rfl, h230.at_ 3 rfl, trivial⟩ (fun W hW => e_elemN (OV.rvn hW.2.1).2 q 0 ([(Value.bool true)]) (bvs_get hb3) 4 (.tmp 165) (by kernel_rfl) (Value.bool true) (by kernel_rfl) (by kernel_rfl) (by kernel_rfl)) ?_
        refine pR_to 11 (some 162) 65535 rfl hs229 (mdec true (decO true (by rw [hmE]; exact knb (hC3 q (by omega)) hb3)) (x_kopens h230 0 6 rfl rfl (by kernel_rfl) hp14 (by kernel_rfl) (h230.apartL 0 6 8 rfl rfl rfl (by kernel_rfl) (by kernel_rfl) hvE hlE) hM230.toWS (by omega) hsm (by rw [hmE]; rfl))) ?_
        rintro _ w231 ⟨F231, S231, rfl, hM231, h231⟩
        refine ⟨fun _ => ⟨h231.at_ 2 rfl, h231.at_ 3 rfl, trivial⟩, ?_⟩
        refine pR_p 7 [16, 17, 18, 19, 20, 21, 25, 26] [(177, (Value.int .i64 ((q : Int)))), (176, (Value.slice A1882 z.bx.length c1882)), (172, (Value.slice MAE myE.length mcE)), (171, (Value.slice MAE myE.length mcE)), (170, (pt m14 0)), (169, (Value.bool false)), (168, (Value.bool false)), (167, (Value.bool false))] 104857599 hs229 ⟨h231.at_ 2 rfl, h231.at_ 3 rfl, trivial⟩ ?_
        refine pR_v 27 (some 178) (eAt A1882 (q * 1 + 0)) 239075327 rfl hs229 ⟨h231.at_ 2 rfl, h231.at_ 3 rfl, trivial⟩ (fun W hW => e_idxN (OV.rvn (h231.at_ 2 rfl)).2 q z.bx.length (OV.rvn (h231.at_ 2 rfl)).1 (by omega) 98 (.tmp 176) (.tmp 177) (by kernel_rfl) .i64 (by kernel_rfl) (by kernel_rfl) 4 (by kernel_rfl) (by kernel_rfl) _) ?_
        refine pR_v 28 (some 179) (Value.bool true) 507510783 rfl hs229 ⟨h231.at_ 2 rfl, h231.at_ 3 rfl, trivial⟩ (fun W hW => e_elemN (OV.rvn hW.1).2 q 0 ([(Value.bool true)]) (bvs_get hb1) 4 (.tmp 178) (by kernel_rfl) (Value.bool true) (by kernel_rfl) (by kernel_rfl) (by kernel_rfl)) ?_
        refine pR_to 22 (some 173) 511705087 rfl hs229 (x_bs h231 28 ([(Value.slice MAE myE.length mcE), (Value.slice MAE myE.length mcE)]) 2 (by kernel_rfl)) ?_
        rintro _ w232 ⟨g232, rfl, h232⟩
        refine ⟨fun _ => ⟨h232.at_ 3 rfl, h232.at_ 4 rfl, trivial⟩, ?_⟩
        refine pR_to 23 (some 174) 520093695 rfl hs229 (x_joined h232 [myE, myE] (Value.slice (some ⟨g232, 0, none⟩) 2 2) (by kernel_rfl) (ss2 (h232.at_ 0 rfl) ((h232.at_ 9 rfl) _ _ _ hvE hlE) ((h232.at_ 9 rfl) _ _ _ hvE hlE)) (myE ++ myE) (by simp) (by rw [hmE]; show 32 ≤ 1000000; decide)) ?_
        rintro _ w233 ⟨A233, c233, rfl, h233⟩
        refine ⟨fun _ => ⟨h233.at_ 4 rfl, h233.at_ 5 rfl, trivial⟩, ?_⟩
        refine pR_to 24 (some 175) 536870911 rfl hs229 (mdec true (decFbb true hmE (by omega) (by rw [hmE]; exact knb (hC2 q (by omega)) hb1)) (x_fits h233 2 8 rfl rfl (by kernel_rfl) hp14 (by kernel_rfl) (h233.apartO 2 8 0 rfl rfl rfl (by kernel_rfl) (by kernel_rfl)) hM231.toWS (by omega) hsm (by rw [hmE]; show 32 ≤ 1000000; decide))) ?_
        rintro _ w234 ⟨F234, S234, rfl, hM234, h234⟩
        refine ⟨fun _ => ⟨h234.at_ 4 rfl, h234.at_ 5 rfl, trivial⟩, ?_⟩
        refine pR_p 0 [29, 30] [(181, (Value.bool false)), (180, (Value.bool false))] 2147483647 hs229 ⟨h234.at_ 4 rfl, h234.at_ 5 rfl, trivial⟩ ?_
        refine pR_done hs229 ?_ _
        refine seq_n hK228 ?_
        refine wp_cond_false (by kernel_rfl) ?_
        refine wp_skip ?_
        refine blk_n ?_
        refine seq_n hK225 ?_
        refine wp_reset 201 [(0, (Value.agg ([(Value.slice A z.of.length a), (Value.slice B z.bx.length b), (Value.slice C z.ls.length c), (Value.slice D z.ss.length d)]).toArray)), (1, (pt g2 0)), (3, (pt tb 0)), (4, (Value.slice A1 z.bx.length c1)), (5, (Value.slice A2 z.of.length c2)), (6, (Value.slice A3 z.bx.length c3)), (7, (pt m14 0)), (8, (Value.slice A143 z.of.length z.of.length)), (9, (Value.slice A142 z.bx.length z.bx.length)), (13, (Value.slice A1881 z.of.length c1881)), (14, (Value.slice A1882 z.bx.length c1882)), (15, (Value.slice A1883 z.bx.length z.bx.length)), (16, (Value.int .i64 (((cn : Nat) : Int)))), (20, (Value.int .i64 ((q : Int)))), (21, (Value.slice MAE myE.length mcE)), (23, (Value.bool false)), (26, (Value.bool (!t))), (48, (Value.int .i64 (((max z.ls.length z.ss.length : Nat) : Int)))), (49, (Value.int .i64 ((i : Int)))), (50, (Value.bool (decide ((i : Int) < ((max z.ls.length z.ss.length : Nat) : Int))))), (117, (Value.slice A1881 z.of.length c1881)), (118, (Value.int .i64 ((z.of.length : Int)))), (119, (Value.int .i64 ((j : Int)))), (120, (Value.bool (decide ((j : Int) < (z.of.length : Int))))), (144, (Value.slice A1 z.bx.length c1)), (145, (Value.int .i64 ((z.bx.length : Int)))), (146, (Value.int .i64 ((q : Int)))), (147, (Value.bool (decide ((q : Int) < (z.bx.length : Int))))), (181, (Value.bool false))] (fun x235 => ?_)
        refine reg_lit ?_
        refine wq_v (some 182) (Value.int .i64 ((q : Int) + 1)) (exec_add _ _ _ _ rfl ((q : Int)) 1 (by kernel_rfl) (by kernel_rfl) ((q : Int) + 1) rfl (by omega) (by omega) _) ?_
        refine wq_p 1 [(146, (Value.int .i64 ((q : Int) + 1)))] ?_
        refine wl_end rfl ?_
        refine ⟨z.bx.length - (q + 1), (by omega), (q + 1), F234, S234, (by omega), hM234.toWS, rfl, (patch_eq _ 201 _ (by kernel_rfl) (by kernel_rfl) (by kernel_rfl)), h234.sel [2, 3, 4, 5, 6, 7, 8, 9, 10, 11, 12, 13, 14, 15] [0, 1, 2, 3, 4, 5] (by kernel_rfl) rfl rfl⟩
       ·
        obtain ⟨MAE, mcE, myE, hvE, hlE⟩ := sbsget (h221.at_ 8 rfl) (by rw [mkTo_len]; exact hmv) (q) (by rw [mkTo_len]; omega)
        have hmE : myE = mkB 98 (q + 1) := by
          rw [mkTo_at (by omega)] at hlE
          injection hlE with hlE
          exact hlE.symm
        
        refine reg_lit ?_
        refine wq_p 1 [(148, (Value.int .i64 ((q : Int))))] ?_
        refine wq_v (some 149) (eAt A1 (q * 1 + 0)) (e_idxN (OV.rvn (h221.at_ 7 rfl)).2 q z.bx.length (OV.rvn (h221.at_ 7 rfl)).1 (by omega) 63 (.tmp 144) (.tmp 146) (by kernel_rfl) .i64 (by kernel_rfl) (by kernel_rfl) 28 (by kernel_rfl) (by kernel_rfl) _) ?_
        refine wq_v (some 150) (Value.slice MAE myE.length mcE) (e_elemN (OV.rvn (h221.at_ 7 rfl)).2 q 0 ([(Value.slice MAE myE.length mcE)]) (by rw [List.getElem?_map, hvE]; rfl) 28 (.tmp 149) (by kernel_rfl) (Value.slice MAE myE.length mcE) (by kernel_rfl) (by kernel_rfl) (by kernel_rfl)) ?_
        refine wq_p 2 [(21, (Value.slice MAE myE.length mcE)), (20, (Value.int .i64 ((q : Int))))] ?_
        refine wl_end rfl ?_
        refine seq_n hK226 ?_
        refine wp_seq_k ?_
        intro K236 hK236
        refine pR_go h221 31 (fun W => (rOV 4 1 ((Value.slice A1882 z.bx.length c1882)) (bvs X.hd)).Φ W ∧ (rOV 4 1 ((Value.slice A1883 z.bx.length z.bx.length)) (bvs X.op)).Φ W ∧ True) [(152, [7], 0), (153, [21], 0), (154, [151, 152], 3), (155, [14], 0), (156, [20], 0), (157, [154, 155], 24), (158, [156], 32), (159, [153, 157], 68), (160, [158], 132), (161, [7, 159], 256), (162, [21, 159], 256), (163, [160, 161, 159], 1792), (164, [15, 159], 256), (165, [20, 159], 256), (166, [163, 164, 159], 12544), (167, [165, 159], 16640), (168, [162, 166, 159], 35072), (169, [159, 167], 65792), (170, [168], 133120), (171, [7, 169], 262144), (172, [21, 169], 262144), (173, [21, 169], 262144), (174, [171, 172, 169], 3407872), (175, [173, 169], 4456448), (176, [170, 174, 169], 9175040), (177, [14, 169], 262144), (178, [20, 169], 262144), (179, [176, 177, 169], 100925440), (180, [178, 169], 134479872), (181, [175, 179, 169], 285474816), (182, [169, 180], 537133056)] rfl (fun _ d _ _ _ h => by cases d <;> exact h) ?_
        intro hs237 w237 h237
        refine pR_p 27 [0, 1, 3, 4] [(155, (Value.int .i64 ((q : Int)))), (154, (Value.slice A1882 z.bx.length c1882)), (152, (Value.slice MAE myE.length mcE)), (151, (pt m14 0))] 27 hs237 ⟨h237.at_ 2 rfl, h237.at_ 3 rfl, trivial⟩ ?_
        refine pR_v 5 (some 156) (eAt A1882 (q * 1 + 0)) 59 rfl hs237 ⟨h237.at_ 2 rfl, h237.at_ 3 rfl, trivial⟩ (fun W hW => e_idxN (OV.rvn (h237.at_ 2 rfl)).2 q z.bx.length (OV.rvn (h237.at_ 2 rfl)).1 (by omega) 98 (.tmp 154) (.tmp 155) (by kernel_rfl) .i64 (by kernel_rfl) (by kernel_rfl) 4 (by kernel_rfl) (by kernel_rfl) _) ?_
        refine pR_v 6 (some 157) (Value.bool true) 123 rfl hs237 ⟨h237.at_ 2 rfl, h237.at_ 3 rfl, trivial⟩ (fun W hW => e_elemN (OV.rvn hW.1).2 q 0 ([(Value.bool true)]) (bvs_get hb1) 4 (.tmp 156) (by kernel_rfl) (Value.bool true) (by kernel_rfl) (by kernel_rfl) (by kernel_rfl)) ?_
        refine pR_to 2 (some 153) 127 rfl hs237 (mdec true (decX true (by rw [hmE]; exact knb (hC2 q (by omega)) hb1)) (x_kbox h237 0 6 rfl rfl (by kernel_rfl) hp14 (by kernel_rfl) (h237.apartL 0 6 8 rfl rfl rfl (by kernel_rfl) (by kernel_rfl) hvE hlE) hW3 (by omega) hsm (by rw [hmE]; rfl))) ?_
        rintro _ w238 ⟨F238, S238, rfl, hM238, h238⟩
        refine ⟨fun _ => ⟨h238.at_ 2 rfl, h238.at_ 3 rfl, trivial⟩, ?_⟩
        refine pR_p 18 [7, 8, 9, 10, 12, 13] [(164, (Value.int .i64 ((q : Int)))), (163, (Value.slice A1883 z.bx.length z.bx.length)), (161, (Value.slice MAE myE.length mcE)), (160, (pt m14 0)), (159, (Value.bool false)), (158, (Value.bool false))] 14335 hs237 ⟨h238.at_ 2 rfl, h238.at_ 3 rfl, trivial⟩ ?_
        refine pR_v 14 (some 165) (eAt A1883 (q * 1 + 0)) 30719 rfl hs237 ⟨h238.at_ 2 rfl, h238.at_ 3 rfl, trivial⟩ (fun W hW => e_idxN (OV.rvn (h238.at_ 3 rfl)).2 q z.bx.length (OV.rvn (h238.at_ 3 rfl)).1 (by omega) 98 (.tmp 163) (.tmp 164) (by kernel_rfl) .i64 (by kernel_rfl) (by kernel_rfl) 4 (by kernel_rfl) (by kernel_rfl) _) ?_
        refine pR_v 15 (some 166) (Value.bool false) 63487 rfl hs237 ⟨h238.at_ 2 rfl, h238.at_ 3 rfl, trivial⟩ (fun W hW => e_elemN (OV.rvn hW.2.1).2 q 0 ([(Value.bool false)]) (bvs_get hb3) 4 (.tmp 165) (by kernel_rfl) (Value.bool false) (by kernel_rfl) (by kernel_rfl) (by kernel_rfl)) ?_
        refine pR_to 11 (some 162) 65535 rfl hs237 (mdec false (decO false (by rw [hmE]; exact knb (hC3 q (by omega)) hb3)) (x_kopens h238 0 6 rfl rfl (by kernel_rfl) hp14 (by kernel_rfl) (h238.apartL 0 6 8 rfl rfl rfl (by kernel_rfl) (by kernel_rfl) hvE hlE) hM238.toWS (by omega) hsm (by rw [hmE]; rfl))) ?_
        rintro _ w239 ⟨F239, S239, rfl, hM239, h239⟩
        refine ⟨fun _ => ⟨h239.at_ 2 rfl, h239.at_ 3 rfl, trivial⟩, ?_⟩
        refine pR_p 7 [16, 17, 18, 19, 20, 21, 25, 26] [(177, (Value.int .i64 ((q : Int)))), (176, (Value.slice A1882 z.bx.length c1882)), (172, (Value.slice MAE myE.length mcE)), (171, (Value.slice MAE myE.length mcE)), (170, (pt m14 0)), (169, (Value.bool false)), (168, (Value.bool false)), (167, (Value.bool false))] 104857599 hs237 ⟨h239.at_ 2 rfl, h239.at_ 3 rfl, trivial⟩ ?_
        refine pR_v 27 (some 178) (eAt A1882 (q * 1 + 0)) 239075327 rfl hs237 ⟨h239.at_ 2 rfl, h239.at_ 3 rfl, trivial⟩ (fun W hW => e_idxN (OV.rvn (h239.at_ 2 rfl)).2 q z.bx.length (OV.rvn (h239.at_ 2 rfl)).1 (by omega) 98 (.tmp 176) (.tmp 177) (by kernel_rfl) .i64 (by kernel_rfl) (by kernel_rfl) 4 (by kernel_rfl) (by kernel_rfl) _) ?_
        refine pR_v 28 (some 179) (Value.bool true) 507510783 rfl hs237 ⟨h239.at_ 2 rfl, h239.at_ 3 rfl, trivial⟩ (fun W hW => e_elemN (OV.rvn hW.1).2 q 0 ([(Value.bool true)]) (bvs_get hb1) 4 (.tmp 178) (by kernel_rfl) (Value.bool true) (by kernel_rfl) (by kernel_rfl) (by kernel_rfl)) ?_
        refine pR_to 22 (some 173) 511705087 rfl hs237 (x_bs h239 28 ([(Value.slice MAE myE.length mcE), (Value.slice MAE myE.length mcE)]) 2 (by kernel_rfl)) ?_
        rintro _ w240 ⟨g240, rfl, h240⟩
        refine ⟨fun _ => ⟨h240.at_ 3 rfl, h240.at_ 4 rfl, trivial⟩, ?_⟩
        refine pR_to 23 (some 174) 520093695 rfl hs237 (x_joined h240 [myE, myE] (Value.slice (some ⟨g240, 0, none⟩) 2 2) (by kernel_rfl) (ss2 (h240.at_ 0 rfl) ((h240.at_ 9 rfl) _ _ _ hvE hlE) ((h240.at_ 9 rfl) _ _ _ hvE hlE)) (myE ++ myE) (by simp) (by rw [hmE]; show 32 ≤ 1000000; decide)) ?_
        rintro _ w241 ⟨A241, c241, rfl, h241⟩
        refine ⟨fun _ => ⟨h241.at_ 4 rfl, h241.at_ 5 rfl, trivial⟩, ?_⟩
        refine pR_to 24 (some 175) 536870911 rfl hs237 (mdec true (decFbb true hmE (by omega) (by rw [hmE]; exact knb (hC2 q (by omega)) hb1)) (x_fits h241 2 8 rfl rfl (by kernel_rfl) hp14 (by kernel_rfl) (h241.apartO 2 8 0 rfl rfl rfl (by kernel_rfl) (by kernel_rfl)) hM239.toWS (by omega) hsm (by rw [hmE]; show 32 ≤ 1000000; decide))) ?_
        rintro _ w242 ⟨F242, S242, rfl, hM242, h242⟩
        refine ⟨fun _ => ⟨h242.at_ 4 rfl, h242.at_ 5 rfl, trivial⟩, ?_⟩
        refine pR_p 0 [29, 30] [(181, (Value.bool false)), (180, (Value.bool false))] 2147483647 hs237 ⟨h242.at_ 4 rfl, h242.at_ 5 rfl, trivial⟩ ?_
        refine pR_done hs237 ?_ _
        refine seq_n hK236 ?_
        refine wp_cond_false (by kernel_rfl) ?_
        refine wp_skip ?_
        refine blk_n ?_
        refine seq_n hK225 ?_
        refine wp_reset 201 [(0, (Value.agg ([(Value.slice A z.of.length a), (Value.slice B z.bx.length b), (Value.slice C z.ls.length c), (Value.slice D z.ss.length d)]).toArray)), (1, (pt g2 0)), (3, (pt tb 0)), (4, (Value.slice A1 z.bx.length c1)), (5, (Value.slice A2 z.of.length c2)), (6, (Value.slice A3 z.bx.length c3)), (7, (pt m14 0)), (8, (Value.slice A143 z.of.length z.of.length)), (9, (Value.slice A142 z.bx.length z.bx.length)), (13, (Value.slice A1881 z.of.length c1881)), (14, (Value.slice A1882 z.bx.length c1882)), (15, (Value.slice A1883 z.bx.length z.bx.length)), (16, (Value.int .i64 (((cn : Nat) : Int)))), (20, (Value.int .i64 ((q : Int)))), (21, (Value.slice MAE myE.length mcE)), (23, (Value.bool false)), (26, (Value.bool (!t))), (48, (Value.int .i64 (((max z.ls.length z.ss.length : Nat) : Int)))), (49, (Value.int .i64 ((i : Int)))), (50, (Value.bool (decide ((i : Int) < ((max z.ls.length z.ss.length : Nat) : Int))))), (117, (Value.slice A1881 z.of.length c1881)), (118, (Value.int .i64 ((z.of.length : Int)))), (119, (Value.int .i64 ((j : Int)))), (120, (Value.bool (decide ((j : Int) < (z.of.length : Int))))), (144, (Value.slice A1 z.bx.length c1)), (145, (Value.int .i64 ((z.bx.length : Int)))), (146, (Value.int .i64 ((q : Int)))), (147, (Value.bool (decide ((q : Int) < (z.bx.length : Int))))), (181, (Value.bool false))] (fun x243 => ?_)
        refine reg_lit ?_
        refine wq_v (some 182) (Value.int .i64 ((q : Int) + 1)) (exec_add _ _ _ _ rfl ((q : Int)) 1 (by kernel_rfl) (by kernel_rfl) ((q : Int) + 1) rfl (by omega) (by omega) _) ?_
        refine wq_p 1 [(146, (Value.int .i64 ((q : Int) + 1)))] ?_
        refine wl_end rfl ?_
        refine ⟨z.bx.length - (q + 1), (by omega), (q + 1), F242, S242, (by omega), hM242.toWS, rfl, (patch_eq _ 201 _ (by kernel_rfl) (by kernel_rfl) (by kernel_rfl)), h242.sel [2, 3, 4, 5, 6, 7, 8, 9, 10, 11, 12, 13, 14, 15] [0, 1, 2, 3, 4, 5] (by kernel_rfl) rfl rfl⟩
       ·
        obtain ⟨MAE, mcE, myE, hvE, hlE⟩ := sbsget (h221.at_ 8 rfl) (by rw [mkTo_len]; exact hmv) (q) (by rw [mkTo_len]; omega)
        have hmE : myE = mkB 98 (q + 1) := by
          rw [mkTo_at (by omega)] at hlE
          injection hlE with hlE
          exact hlE.symm
        
        refine reg_lit ?_
        refine wq_p 1 [(148, (Value.int .i64 ((q : Int))))] ?_
        refine wq_v (some 149) (eAt A1 (q * 1 + 0)) (e_idxN (OV.rvn (h221.at_ 7 rfl)).2 q z.bx.length (OV.rvn (h221.at_ 7 rfl)).1 (by omega) 63 (.tmp 144) (.tmp 146) (by kernel_rfl) .i64 (by kernel_rfl) (by kernel_rfl) 28 (by kernel_rfl) (by kernel_rfl) _) ?_
        refine wq_v (some 150) (Value.slice MAE myE.length mcE) (e_elemN (OV.rvn (h221.at_ 7 rfl)).2 q 0 ([(Value.slice MAE myE.length mcE)]) (by rw [List.getElem?_map, hvE]; rfl) 28 (.tmp 149) (by kernel_rfl) (Value.slice MAE myE.length mcE) (by kernel_rfl) (by kernel_rfl) (by kernel_rfl)) ?_
        refine wq_p 2 [(21, (Value.slice MAE myE.length mcE)), (20, (Value.int .i64 ((q : Int))))] ?_
        refine wl_end rfl ?_
        refine seq_n hK226 ?_
        refine wp_seq_k ?_
        intro K244 hK244
        refine pR_go h221 31 (fun W => (rOV 4 1 ((Value.slice A1882 z.bx.length c1882)) (bvs X.hd)).Φ W ∧ (rOV 4 1 ((Value.slice A1883 z.bx.length z.bx.length)) (bvs X.op)).Φ W ∧ True) [(152, [7], 0), (153, [21], 0), (154, [151, 152], 3), (155, [14], 0), (156, [20], 0), (157, [154, 155], 24), (158, [156], 32), (159, [153, 157], 68), (160, [158], 132), (161, [7, 159], 256), (162, [21, 159], 256), (163, [160, 161, 159], 1792), (164, [15, 159], 256), (165, [20, 159], 256), (166, [163, 164, 159], 12544), (167, [165, 159], 16640), (168, [162, 166, 159], 35072), (169, [159, 167], 65792), (170, [168], 133120), (171, [7, 169], 262144), (172, [21, 169], 262144), (173, [21, 169], 262144), (174, [171, 172, 169], 3407872), (175, [173, 169], 4456448), (176, [170, 174, 169], 9175040), (177, [14, 169], 262144), (178, [20, 169], 262144), (179, [176, 177, 169], 100925440), (180, [178, 169], 134479872), (181, [175, 179, 169], 285474816), (182, [169, 180], 537133056)] rfl (fun _ d _ _ _ h => by cases d <;> exact h) ?_
        intro hs245 w245 h245
        refine pR_p 27 [0, 1, 3, 4] [(155, (Value.int .i64 ((q : Int)))), (154, (Value.slice A1882 z.bx.length c1882)), (152, (Value.slice MAE myE.length mcE)), (151, (pt m14 0))] 27 hs245 ⟨h245.at_ 2 rfl, h245.at_ 3 rfl, trivial⟩ ?_
        refine pR_v 5 (some 156) (eAt A1882 (q * 1 + 0)) 59 rfl hs245 ⟨h245.at_ 2 rfl, h245.at_ 3 rfl, trivial⟩ (fun W hW => e_idxN (OV.rvn (h245.at_ 2 rfl)).2 q z.bx.length (OV.rvn (h245.at_ 2 rfl)).1 (by omega) 98 (.tmp 154) (.tmp 155) (by kernel_rfl) .i64 (by kernel_rfl) (by kernel_rfl) 4 (by kernel_rfl) (by kernel_rfl) _) ?_
        refine pR_v 6 (some 157) (Value.bool false) 123 rfl hs245 ⟨h245.at_ 2 rfl, h245.at_ 3 rfl, trivial⟩ (fun W hW => e_elemN (OV.rvn hW.1).2 q 0 ([(Value.bool false)]) (bvs_get hb1) 4 (.tmp 156) (by kernel_rfl) (Value.bool false) (by kernel_rfl) (by kernel_rfl) (by kernel_rfl)) ?_
        refine pR_to 2 (some 153) 127 rfl hs245 (mdec false (decX false (by rw [hmE]; exact knb (hC2 q (by omega)) hb1)) (x_kbox h245 0 6 rfl rfl (by kernel_rfl) hp14 (by kernel_rfl) (h245.apartL 0 6 8 rfl rfl rfl (by kernel_rfl) (by kernel_rfl) hvE hlE) hW3 (by omega) hsm (by rw [hmE]; rfl))) ?_
        rintro _ w246 ⟨F246, S246, rfl, hM246, h246⟩
        refine ⟨fun _ => ⟨h246.at_ 2 rfl, h246.at_ 3 rfl, trivial⟩, ?_⟩
        refine pR_p 18 [7, 8, 9, 10, 12, 13] [(164, (Value.int .i64 ((q : Int)))), (163, (Value.slice A1883 z.bx.length z.bx.length)), (161, (Value.slice MAE myE.length mcE)), (160, (pt m14 0)), (159, (Value.bool false)), (158, (Value.bool false))] 14335 hs245 ⟨h246.at_ 2 rfl, h246.at_ 3 rfl, trivial⟩ ?_
        refine pR_v 14 (some 165) (eAt A1883 (q * 1 + 0)) 30719 rfl hs245 ⟨h246.at_ 2 rfl, h246.at_ 3 rfl, trivial⟩ (fun W hW => e_idxN (OV.rvn (h246.at_ 3 rfl)).2 q z.bx.length (OV.rvn (h246.at_ 3 rfl)).1 (by omega) 98 (.tmp 163) (.tmp 164) (by kernel_rfl) .i64 (by kernel_rfl) (by kernel_rfl) 4 (by kernel_rfl) (by kernel_rfl) _) ?_
        refine pR_v 15 (some 166) (Value.bool true) 63487 rfl hs245 ⟨h246.at_ 2 rfl, h246.at_ 3 rfl, trivial⟩ (fun W hW => e_elemN (OV.rvn hW.2.1).2 q 0 ([(Value.bool true)]) (bvs_get hb3) 4 (.tmp 165) (by kernel_rfl) (Value.bool true) (by kernel_rfl) (by kernel_rfl) (by kernel_rfl)) ?_
        refine pR_to 11 (some 162) 65535 rfl hs245 (mdec true (decO true (by rw [hmE]; exact knb (hC3 q (by omega)) hb3)) (x_kopens h246 0 6 rfl rfl (by kernel_rfl) hp14 (by kernel_rfl) (h246.apartL 0 6 8 rfl rfl rfl (by kernel_rfl) (by kernel_rfl) hvE hlE) hM246.toWS (by omega) hsm (by rw [hmE]; rfl))) ?_
        rintro _ w247 ⟨F247, S247, rfl, hM247, h247⟩
        refine ⟨fun _ => ⟨h247.at_ 2 rfl, h247.at_ 3 rfl, trivial⟩, ?_⟩
        refine pR_p 7 [16, 17, 18, 19, 20, 21, 25, 26] [(177, (Value.int .i64 ((q : Int)))), (176, (Value.slice A1882 z.bx.length c1882)), (172, (Value.slice MAE myE.length mcE)), (171, (Value.slice MAE myE.length mcE)), (170, (pt m14 0)), (169, (Value.bool false)), (168, (Value.bool false)), (167, (Value.bool false))] 104857599 hs245 ⟨h247.at_ 2 rfl, h247.at_ 3 rfl, trivial⟩ ?_
        refine pR_v 27 (some 178) (eAt A1882 (q * 1 + 0)) 239075327 rfl hs245 ⟨h247.at_ 2 rfl, h247.at_ 3 rfl, trivial⟩ (fun W hW => e_idxN (OV.rvn (h247.at_ 2 rfl)).2 q z.bx.length (OV.rvn (h247.at_ 2 rfl)).1 (by omega) 98 (.tmp 176) (.tmp 177) (by kernel_rfl) .i64 (by kernel_rfl) (by kernel_rfl) 4 (by kernel_rfl) (by kernel_rfl) _) ?_
        refine pR_v 28 (some 179) (Value.bool false) 507510783 rfl hs245 ⟨h247.at_ 2 rfl, h247.at_ 3 rfl, trivial⟩ (fun W hW => e_elemN (OV.rvn hW.1).2 q 0 ([(Value.bool false)]) (bvs_get hb1) 4 (.tmp 178) (by kernel_rfl) (Value.bool false) (by kernel_rfl) (by kernel_rfl) (by kernel_rfl)) ?_
        refine pR_to 22 (some 173) 511705087 rfl hs245 (x_bs h247 28 ([(Value.slice MAE myE.length mcE), (Value.slice MAE myE.length mcE)]) 2 (by kernel_rfl)) ?_
        rintro _ w248 ⟨g248, rfl, h248⟩
        refine ⟨fun _ => ⟨h248.at_ 3 rfl, h248.at_ 4 rfl, trivial⟩, ?_⟩
        refine pR_to 23 (some 174) 520093695 rfl hs245 (x_joined h248 [myE, myE] (Value.slice (some ⟨g248, 0, none⟩) 2 2) (by kernel_rfl) (ss2 (h248.at_ 0 rfl) ((h248.at_ 9 rfl) _ _ _ hvE hlE) ((h248.at_ 9 rfl) _ _ _ hvE hlE)) (myE ++ myE) (by simp) (by rw [hmE]; show 32 ≤ 1000000; decide)) ?_
        rintro _ w249 ⟨A249, c249, rfl, h249⟩
        refine ⟨fun _ => ⟨h249.at_ 4 rfl, h249.at_ 5 rfl, trivial⟩, ?_⟩
        refine pR_to 24 (some 175) 536870911 rfl hs245 (mdec false (decFbb false hmE (by omega) (by rw [hmE]; exact knb (hC2 q (by omega)) hb1)) (x_fits h249 2 8 rfl rfl (by kernel_rfl) hp14 (by kernel_rfl) (h249.apartO 2 8 0 rfl rfl rfl (by kernel_rfl) (by kernel_rfl)) hM247.toWS (by omega) hsm (by rw [hmE]; show 32 ≤ 1000000; decide))) ?_
        rintro _ w250 ⟨F250, S250, rfl, hM250, h250⟩
        refine ⟨fun _ => ⟨h250.at_ 4 rfl, h250.at_ 5 rfl, trivial⟩, ?_⟩
        refine pR_p 0 [29, 30] [(181, (Value.bool false)), (180, (Value.bool false))] 2147483647 hs245 ⟨h250.at_ 4 rfl, h250.at_ 5 rfl, trivial⟩ ?_
        refine pR_done hs245 ?_ _
        refine seq_n hK244 ?_
        refine wp_cond_false (by kernel_rfl) ?_
        refine wp_skip ?_
        refine blk_n ?_
        refine seq_n hK225 ?_
        refine wp_reset 201 [(0, (Value.agg ([(Value.slice A z.of.length a), (Value.slice B z.bx.length b), (Value.slice C z.ls.length c), (Value.slice D z.ss.length d)]).toArray)), (1, (pt g2 0)), (3, (pt tb 0)), (4, (Value.slice A1 z.bx.length c1)), (5, (Value.slice A2 z.of.length c2)), (6, (Value.slice A3 z.bx.length c3)), (7, (pt m14 0)), (8, (Value.slice A143 z.of.length z.of.length)), (9, (Value.slice A142 z.bx.length z.bx.length)), (13, (Value.slice A1881 z.of.length c1881)), (14, (Value.slice A1882 z.bx.length c1882)), (15, (Value.slice A1883 z.bx.length z.bx.length)), (16, (Value.int .i64 (((cn : Nat) : Int)))), (20, (Value.int .i64 ((q : Int)))), (21, (Value.slice MAE myE.length mcE)), (23, (Value.bool false)), (26, (Value.bool (!t))), (48, (Value.int .i64 (((max z.ls.length z.ss.length : Nat) : Int)))), (49, (Value.int .i64 ((i : Int)))), (50, (Value.bool (decide ((i : Int) < ((max z.ls.length z.ss.length : Nat) : Int))))), (117, (Value.slice A1881 z.of.length c1881)), (118, (Value.int .i64 ((z.of.length : Int)))), (119, (Value.int .i64 ((j : Int)))), (120, (Value.bool (decide ((j : Int) < (z.of.length : Int))))), (144, (Value.slice A1 z.bx.length c1)), (145, (Value.int .i64 ((z.bx.length : Int)))), (146, (Value.int .i64 ((q : Int)))), (147, (Value.bool (decide ((q : Int) < (z.bx.length : Int))))), (181, (Value.bool false))] (fun x251 => ?_)
        refine reg_lit ?_
        refine wq_v (some 182) (Value.int .i64 ((q : Int) + 1)) (exec_add _ _ _ _ rfl ((q : Int)) 1 (by kernel_rfl) (by kernel_rfl) ((q : Int) + 1) rfl (by omega) (by omega) _) ?_
        refine wq_p 1 [(146, (Value.int .i64 ((q : Int) + 1)))] ?_
        refine wl_end rfl ?_
        refine ⟨z.bx.length - (q + 1), (by omega), (q + 1), F250, S250, (by omega), hM250.toWS, rfl, (patch_eq _ 201 _ (by kernel_rfl) (by kernel_rfl) (by kernel_rfl)), h250.sel [2, 3, 4, 5, 6, 7, 8, 9, 10, 11, 12, 13, 14, 15] [0, 1, 2, 3, 4, 5] (by kernel_rfl) rfl rfl⟩
       ·
        obtain ⟨MAE, mcE, myE, hvE, hlE⟩ := sbsget (h221.at_ 8 rfl) (by rw [mkTo_len]; exact hmv) (q) (by rw [mkTo_len]; omega)
        have hmE : myE = mkB 98 (q + 1) := by
          rw [mkTo_at (by omega)] at hlE
          injection hlE with hlE
          exact hlE.symm
        
        refine reg_lit ?_
        refine wq_p 1 [(148, (Value.int .i64 ((q : Int))))] ?_
        refine wq_v (some 149) (eAt A1 (q * 1 + 0)) (e_idxN (OV.rvn (h221.at_ 7 rfl)).2 q z.bx.length (OV.rvn (h221.at_ 7 rfl)).1 (by omega) 63 (.tmp 144) (.tmp 146) (by kernel_rfl) .i64 (by kernel_rfl) (by kernel_rfl) 28 (by kernel_rfl) (by kernel_rfl) _) ?_
        refine wq_v (some 150) (Value.slice MAE myE.length mcE) (e_elemN (OV.rvn (h221.at_ 7 rfl)).2 q 0 ([(Value.slice MAE myE.length mcE)]) (by rw [List.getElem?_map, hvE]; rfl) 28 (.tmp 149) (by kernel_rfl) (Value.slice MAE myE.length mcE) (by kernel_rfl) (by kernel_rfl) (by kernel_rfl)) ?_
        refine wq_p 2 [(21, (Value.slice MAE myE.length mcE)), (20, (Value.int .i64 ((q : Int))))] ?_
        refine wl_end rfl ?_
        refine seq_n hK226 ?_
        refine wp_seq_k ?_
        intro K252 hK252
        refine pR_go h221 31 (fun W => (rOV 4 1 ((Value.slice A1882 z.bx.length c1882)) (bvs X.hd)).Φ W ∧ (rOV 4 1 ((Value.slice A1883 z.bx.length z.bx.length)) (bvs X.op)).Φ W ∧ True) [(152, [7], 0), (153, [21], 0), (154, [151, 152], 3), (155, [14], 0), (156, [20], 0), (157, [154, 155], 24), (158, [156], 32), (159, [153, 157], 68), (160, [158], 132), (161, [7, 159], 256), (162, [21, 159], 256), (163, [160, 161, 159], 1792), (164, [15, 159], 256), (165, [20, 159], 256), (166, [163, 164, 159], 12544), (167, [165, 159], 16640), (168, [162, 166, 159], 35072), (169, [159, 167], 65792), (170, [168], 133120), (171, [7, 169], 262144), (172, [21, 169], 262144), (173, [21, 169], 262144), (174, [171, 172, 169], 3407872), (175, [173, 169], 4456448), (176, [170, 174, 169], 9175040), (177, [14, 169], 262144), (178, [20, 169], 262144), (179, [176, 177, 169], 100925440), (180, [178, 169], 134479872), (181, [175, 179, 169], 285474816), (182, [169, 180], 537133056)] rfl (fun _ d _ _ _ h => by cases d <;> exact h) ?_
        intro hs253 w253 h253
        refine pR_p 27 [0, 1, 3, 4] [(155, (Value.int .i64 ((q : Int)))), (154, (Value.slice A1882 z.bx.length c1882)), (152, (Value.slice MAE myE.length mcE)), (151, (pt m14 0))] 27 hs253 ⟨h253.at_ 2 rfl, h253.at_ 3 rfl, trivial⟩ ?_
        refine pR_v 5 (some 156) (eAt A1882 (q * 1 + 0)) 59 rfl hs253 ⟨h253.at_ 2 rfl, h253.at_ 3 rfl, trivial⟩ (fun W hW => e_idxN (OV.rvn (h253.at_ 2 rfl)).2 q z.bx.length (OV.rvn (h253.at_ 2 rfl)).1 (by omega) 98 (.tmp 154) (.tmp 155) (by kernel_rfl) .i64 (by kernel_rfl) (by kernel_rfl) 4 (by kernel_rfl) (by kernel_rfl) _) ?_
        refine pR_v 6 (some 157) (Value.bool false) 123 rfl hs253 ⟨h253.at_ 2 rfl, h253.at_ 3 rfl, trivial⟩ (fun W hW => e_elemN (OV.rvn hW.1).2 q 0 ([(Value.bool false)]) (bvs_get hb1) 4 (.tmp 156) (by kernel_rfl) (Value.bool false) (by kernel_rfl) (by kernel_rfl) (by kernel_rfl)) ?_
        refine pR_to 2 (some 153) 127 rfl hs253 (mdec false (decX false (by rw [hmE]; exact knb (hC2 q (by omega)) hb1)) (x_kbox h253 0 6 rfl rfl (by kernel_rfl) hp14 (by kernel_rfl) (h253.apartL 0 6 8 rfl rfl rfl (by kernel_rfl) (by kernel_rfl) hvE hlE) hW3 (by omega) hsm (by rw [hmE]; rfl))) ?_
        rintro _ w254 ⟨F254, S254, rfl, hM254, h254⟩
        refine ⟨fun _ => ⟨h254.at_ 2 rfl, h254.at_ 3 rfl, trivial⟩, ?_⟩
        refine pR_p 18 [7, 8, 9, 10, 12, 13] [(164, (Value.int .i64 ((q : Int)))), (163, (Value.slice A1883 z.bx.length z.bx.length)), (161, (Value.slice MAE myE.length mcE)), (160, (pt m14 0)), (159, (Value.bool false)), (158, (Value.bool false))] 14335 hs253 ⟨h254.at_ 2 rfl, h254.at_ 3 rfl, trivial⟩ ?_
        refine pR_v 14 (some 165) (eAt A1883 (q * 1 + 0)) 30719 rfl hs253 ⟨h254.at_ 2 rfl, h254.at_ 3 rfl, trivial⟩ (fun W hW => e_idxN (OV.rvn (h254.at_ 3 rfl)).2 q z.bx.length (OV.rvn (h254.at_ 3 rfl)).1 (by omega) 98 (.tmp 163) (.tmp 164) (by kernel_rfl) .i64 (by kernel_rfl) (by kernel_rfl) 4 (by kernel_rfl) (by kernel_rfl) _) ?_
        refine pR_v 15 (some 166) (Value.bool false) 63487 rfl hs253 ⟨h254.at_ 2 rfl, h254.at_ 3 rfl, trivial⟩ (fun W hW => e_elemN (OV.rvn hW.2.1).2 q 0 ([(Value.bool false)]) (bvs_get hb3) 4 (.tmp 165) (by kernel_rfl) (Value.bool false) (by kernel_rfl) (by kernel_rfl) (by kernel_rfl)) ?_
        refine pR_to 11 (some 162) 65535 rfl hs253 (mdec false (decO false (by rw [hmE]; exact knb (hC3 q (by omega)) hb3)) (x_kopens h254 0 6 rfl rfl (by kernel_rfl) hp14 (by kernel_rfl) (h254.apartL 0 6 8 rfl rfl rfl (by kernel_rfl) (by kernel_rfl) hvE hlE) hM254.toWS (by omega) hsm (by rw [hmE]; rfl))) ?_
        rintro _ w255 ⟨F255, S255, rfl, hM255, h255⟩
        refine ⟨fun _ => ⟨h255.at_ 2 rfl, h255.at_ 3 rfl, trivial⟩, ?_⟩
        refine pR_p 7 [16, 17, 18, 19, 20, 21, 25, 26] [(177, (Value.int .i64 ((q : Int)))), (176, (Value.slice A1882 z.bx.length c1882)), (172, (Value.slice MAE myE.length mcE)), (171, (Value.slice MAE myE.length mcE)), (170, (pt m14 0)), (169, (Value.bool false)), (168, (Value.bool false)), (167, (Value.bool false))] 104857599 hs253 ⟨h255.at_ 2 rfl, h255.at_ 3 rfl, trivial⟩ ?_
        refine pR_v 27 (some 178) (eAt A1882 (q * 1 + 0)) 239075327 rfl hs253 ⟨h255.at_ 2 rfl, h255.at_ 3 rfl, trivial⟩ (fun W hW => e_idxN (OV.rvn (h255.at_ 2 rfl)).2 q z.bx.length (OV.rvn (h255.at_ 2 rfl)).1 (by omega) 98 (.tmp 176) (.tmp 177) (by kernel_rfl) .i64 (by kernel_rfl) (by kernel_rfl) 4 (by kernel_rfl) (by kernel_rfl) _) ?_
        refine pR_v 28 (some 179) (Value.bool false) 507510783 rfl hs253 ⟨h255.at_ 2 rfl, h255.at_ 3 rfl, trivial⟩ (fun W hW => e_elemN (OV.rvn hW.1).2 q 0 ([(Value.bool false)]) (bvs_get hb1) 4 (.tmp 178) (by kernel_rfl) (Value.bool false) (by kernel_rfl) (by kernel_rfl) (by kernel_rfl)) ?_
        refine pR_to 22 (some 173) 511705087 rfl hs253 (x_bs h255 28 ([(Value.slice MAE myE.length mcE), (Value.slice MAE myE.length mcE)]) 2 (by kernel_rfl)) ?_
        rintro _ w256 ⟨g256, rfl, h256⟩
        refine ⟨fun _ => ⟨h256.at_ 3 rfl, h256.at_ 4 rfl, trivial⟩, ?_⟩
        refine pR_to 23 (some 174) 520093695 rfl hs253 (x_joined h256 [myE, myE] (Value.slice (some ⟨g256, 0, none⟩) 2 2) (by kernel_rfl) (ss2 (h256.at_ 0 rfl) ((h256.at_ 9 rfl) _ _ _ hvE hlE) ((h256.at_ 9 rfl) _ _ _ hvE hlE)) (myE ++ myE) (by simp) (by rw [hmE]; show 32 ≤ 1000000; decide)) ?_
        rintro _ w257 ⟨A257, c257, rfl, h257⟩
        refine ⟨fun _ => ⟨h257.at_ 4 rfl, h257.at_ 5 rfl, trivial⟩, ?_⟩
        refine pR_to 24 (some 175) 536870911 rfl hs253 (mdec false (decFbb false hmE (by omega) (by rw [hmE]; exact knb (hC2 q (by omega)) hb1)) (x_fits h257 2 8 rfl rfl (by kernel_rfl) hp14 (by kernel_rfl) (h257.apartO 2 8 0 rfl rfl rfl (by kernel_rfl) (by kernel_rfl)) hM255.toWS (by omega) hsm (by rw [hmE]; show 32 ≤ 1000000; decide))) ?_
        rintro _ w258 ⟨F258, S258, rfl, hM258, h258⟩
        refine ⟨fun _ => ⟨h258.at_ 4 rfl, h258.at_ 5 rfl, trivial⟩, ?_⟩
        refine pR_p 0 [29, 30] [(181, (Value.bool false)), (180, (Value.bool false))] 2147483647 hs253 ⟨h258.at_ 4 rfl, h258.at_ 5 rfl, trivial⟩ ?_
        refine pR_done hs253 ?_ _
        refine seq_n hK252 ?_
        refine wp_cond_false (by kernel_rfl) ?_
        refine wp_skip ?_
        refine blk_n ?_
        refine seq_n hK225 ?_
        refine wp_reset 201 [(0, (Value.agg ([(Value.slice A z.of.length a), (Value.slice B z.bx.length b), (Value.slice C z.ls.length c), (Value.slice D z.ss.length d)]).toArray)), (1, (pt g2 0)), (3, (pt tb 0)), (4, (Value.slice A1 z.bx.length c1)), (5, (Value.slice A2 z.of.length c2)), (6, (Value.slice A3 z.bx.length c3)), (7, (pt m14 0)), (8, (Value.slice A143 z.of.length z.of.length)), (9, (Value.slice A142 z.bx.length z.bx.length)), (13, (Value.slice A1881 z.of.length c1881)), (14, (Value.slice A1882 z.bx.length c1882)), (15, (Value.slice A1883 z.bx.length z.bx.length)), (16, (Value.int .i64 (((cn : Nat) : Int)))), (20, (Value.int .i64 ((q : Int)))), (21, (Value.slice MAE myE.length mcE)), (23, (Value.bool false)), (26, (Value.bool (!t))), (48, (Value.int .i64 (((max z.ls.length z.ss.length : Nat) : Int)))), (49, (Value.int .i64 ((i : Int)))), (50, (Value.bool (decide ((i : Int) < ((max z.ls.length z.ss.length : Nat) : Int))))), (117, (Value.slice A1881 z.of.length c1881)), (118, (Value.int .i64 ((z.of.length : Int)))), (119, (Value.int .i64 ((j : Int)))), (120, (Value.bool (decide ((j : Int) < (z.of.length : Int))))), (144, (Value.slice A1 z.bx.length c1)), (145, (Value.int .i64 ((z.bx.length : Int)))), (146, (Value.int .i64 ((q : Int)))), (147, (Value.bool (decide ((q : Int) < (z.bx.length : Int))))), (181, (Value.bool false))] (fun x259 => ?_)
        refine reg_lit ?_
        refine wq_v (some 182) (Value.int .i64 ((q : Int) + 1)) (exec_add _ _ _ _ rfl ((q : Int)) 1 (by kernel_rfl) (by kernel_rfl) ((q : Int) + 1) rfl (by omega) (by omega) _) ?_
        refine wq_p 1 [(146, (Value.int .i64 ((q : Int) + 1)))] ?_
        refine wl_end rfl ?_
        refine ⟨z.bx.length - (q + 1), (by omega), (q + 1), F258, S258, (by omega), hM258.toWS, rfl, (patch_eq _ 201 _ (by kernel_rfl) (by kernel_rfl) (by kernel_rfl)), h258.sel [2, 3, 4, 5, 6, 7, 8, 9, 10, 11, 12, 13, 14, 15] [0, 1, 2, 3, 4, 5] (by kernel_rfl) rfl rfl⟩
      ·
       refine wp_exit ?_
       refine seq_e ?_
       refine seq_e ?_
       refine blk_e ?_
       refine seq_n hK219 ?_
       refine wp_seq_k ?_
       intro K260 hK260
       refine reg_lit ?_
       refine wq_p 1 [(183, (pt m14 0))] ?_
       refine wq_to (some 184) (x_kkeys h221 0 6 rfl rfl (by kernel_rfl) hp14 (by kernel_rfl) hW3 (by omega) hsm) ?_
       rintro _ w261 ⟨F261, S261, A261, c261, rfl, hM261, h261⟩
       refine wq_p 2 [(186, (Value.int .i64 (((cn : Nat) : Int)))), (185, (Value.int .i64 (((knownN S261 s.keys.length) : Int))))] ?_
       refine wq_v (some 187) (Value.bool true) (eq_is (v := (Value.bool ((((knownN S261 s.keys.length) : Int)) == (((cn : Nat) : Int))))) (by kernel_rfl) (congrArg Value.bool (by rw [hcn9, known_cnt hM261 (n := s.keys.length) (f := X.kn) (fun j hj => hC1 j (by omega)), hkl]; simp))) ?_
       refine wq_p 2 [(189, (pt m14 0)), (188, (Value.bool true))] ?_
       refine wq_to (some 190) (x_bsl h261 [116, 101, 120, 116] (by kernel_rfl)) ?_
       rintro _ w262 ⟨g262, rfl, hw262, hg262, hq262, h262⟩
       refine wq_to (some 191) (x_bcv hq262 [116, 101, 120, 116] hw262 g262 hg262 (.tmp 190) (by kernel_rfl) (by kernel_rfl) (by decide)) ?_
       rintro _ w263 ⟨rfl, h263⟩
       refine wq_to (some 192) (mdec true decFtext (x_fits h263 0 6 rfl rfl (by kernel_rfl) hp14 (by kernel_rfl) (h263.apartR 0 6 0 rfl rfl rfl) hM261.toWS (by omega) hsm (by decide))) ?_
       rintro _ w264 ⟨F264, S264, rfl, hM264, h264⟩
       refine wq_p 3 [(195, (pt tb 0)), (194, (Value.bool true)), (193, (Value.bool true))] ?_
       refine wq_to (some 196) (x_nkeys h264 6 rfl (by kernel_rfl)) ?_
       rintro _ w265 ⟨rfl, h265⟩
       refine wq_p 2 [(198, (Value.int .i64 ((z.of.length : Int)))), (197, (Value.slice A2 z.of.length c2))] ?_
       refine wq_v (some 199) (Value.bool true) (eq_is (v := (Value.bool (((s.keys.length : Int)) == ((z.of.length : Int))))) (by kernel_rfl) (congrArg Value.bool (by rw [hkl]; simp))) ?_
       refine wq_p 2 [(2, (Value.bool true)), (200, (Value.bool true))] ?_
       refine wl_end rfl ?_
       refine seq_n hK260 ?_
       refine wp_ret ?_
       refine post_1 rfl (by kernel_rfl) (rtmp (v := (Value.bool true)) (by kernel_rfl)) ?_
       exact ⟨rfl, h265.below0⟩
end Go.Proofs.Ytjjcnijdjhhdoaa
end
/-! The row of KnowsCloses: for every input the law returns true and what came in reads as it did. -/
section
namespace Go.Proofs.Ytjjcnijdjhhdoaa
open Go.ChangeShapes Go.WideShapes Go.ChangeAt Go.RowKit
set_option maxRecDepth 100000 in
theorem knowsCloses_lifted (os : Os) (started : os.Started) (H : Type) (enc : TypeId × Value → H) :
    ReturnsInHanded {} Try.checked os 14 .any (Rows.knowsClosesSpec.pre6 enc Try.prog Try.f14 Rows.knowsClosesRow.domain false) (Rows.knowsClosesSpec.post enc Try.prog Try.f14 false true false false) := by
  refine returnsInHanded_of_change (C := Try.checked) Try.own started (by kernel_rfl) Try.func14
    (ChangeSpec.witness6 (enc := enc) (C := Try.checked) false ⟨#[], #[.agg #[.slice none 0 0, .slice none 0 0, .slice none 0 0, .slice none 0 0]], []⟩ 8 (by kernel_rfl) (by kernel_rfl) (by kernel_rfl) (by kernel_rfl)) ?_
  intro W base args ds gs before hval0 hW hcnd _
  have hval : ∀ (j : Nat) t v, Try.f14.params[j]? = some t → args[j]? = some v → Value.okWide Try.prog W .any base t v := hval0
  have hpost : ∀ W', Below W.heap.size W W' → Rows.knowsClosesSpec.post enc Try.prog Try.f14 false true false false W args (.bool true) W' := fun W' hb =>
    law_post Try.laidOut (by kernel_rfl) Try.underlying4 rfl rfl (fun ds hds => by
      have hn : ds.length = 1 := hds
      match ds, hn with
      | [_], _ => rfl) hW hb
  obtain ⟨p, q, hA0, hV, rfl, hfz, hnd⟩ := hW
  have hA : DataW.TrodAll enc Try.prog W 0 (fun _ => true) true Try.f14.params.toList args.toList ds p := hA0
  rw [Try.params14] at hA hval
  clear hA0 hval0
  obtain ⟨v0, d0, rfl, rfl, h0⟩ := trodAll_one hA
  obtain ⟨A0, B0, C0, D0, a0, b0, c0, d0, z0, rfl, hz0⟩ := open_in (hval 0 87 v0 rfl rfl) h0
  refine (knowsCloses_any A0 B0 C0 D0 a0 b0 c0 d0 z0 W hz0).mono fun e W' ⟨he, hw⟩ => ?_
  subst he
  exact ⟨_, rfl, hpost W' hw⟩
theorem knowsCloses_holds : Rows.KnowsClosesSaid :=
  OpenClaim.holds_of_wide 14 Try.f14 rfl rfl rfl rfl rfl rfl rfl ⟨rfl, rfl, rfl, rfl, rfl⟩ rfl rfl rfl rfl rfl (by kernel_rfl) Try.func14 (by kernel_rfl)
    (of_decide_eq_true (by kernel_rfl)) (by unfold Func.isWrapper; first | (rw [if_pos (by decide +kernel)]; kernel_rfl) | (rw [if_neg (by decide +kernel)]; exact ⟨rfl, rfl⟩))
    (fun os started H enc _ => knowsCloses_lifted os started H enc)
end Go.Proofs.Ytjjcnijdjhhdoaa
end
