/- The row of RecordPrefix: for every input the law returns true and what came in reads as it did. (Texts laid one behind the other: RcPrefix, RecordPrefix.) -/
import Derived.ChangeMaps5
import Derived.Test.YtjalodhdjollhaaCA18
section
open Go.Value renaming int -> iV, slice -> lV, string -> sV, bool -> bV, agg -> aV
namespace Go.Proofs.Ytjalodhdjollhaa
open Go.RowKit Go.QT
set_option maxRecDepth 100000 in
set_option maxHeartbeats 4000000 in
theorem recordPrefix_any {L : List (Value × Bytes)} {w : World} (hL : (rF L).Φ w) (hnil : (lV none 0 0, ([] : Bytes)) ∈ L) {A : Option Addr} {c : Nat} {xs : List (List Value)} {st : List Stp} (hx : RowOk (StAt L) xs st) (hrx : RV w 4 A c xs) :
   Calls Try.prog 4 #[.slice A st.length c] w fun e w' => e = .returned (.bool true) /\ Below w.heap.size w w' := by
 have hcap : st.length <= 9223372036854775807 := by have h1 := hrx.le; have h2 := hrx.cap; have h3 := hx.1; unfold maxLen at h2; omega
 have h0 := (Hp.ro1 (rF L) hL).addR (rRV 4 A c xs) hrx (by simp)
 refine enter 108 Try.func4 rfl rfl ?_
 refine wp_reset 109 [(0, (lV A st.length c))] (fun x0 => ?_)
 refine wp_seq_k fun K1 hK1 => reg_lit ?_
 refine wq_p 1 [(2, (bV false))] ?_
 refine wl_end rfl (seq_n hK1 (wp_seq_k fun K2 hK2 => wp_seq_k fun K3 hK3 => reg_lit ?_))
 refine wq_to (some 10) (OpTo.enter 7 [] (by kernel_rfl) (alive20_any _) (R := fun u w' => u = bV true /\ Below w.heap.size w w') (fun e w' hq => ⟨_, hq.1, rfl, hq.2⟩)) ?_
 rintro _ w4 ⟨rfl, hb4⟩
 have h4 := h0.below hb4
 refine wq_p 1 [(11, (bV false))] ?_
 refine wl_end rfl (seq_n hK3 (cF (wp_skip (seq_n hK2 (wp_seq_k fun K5 hK5 => wp_seq_k fun K6 hK6 => ?_)))))
 by_cases b7 : briefR st = true
 ·
  refine reg_lit ?_
  refine wq_p 1 [(12, (lV A st.length c))] ?_
  have hbr8 : briefR st = true := b7
  refine wq_to (some 13) (x_dp h4 14 [(lV A st.length c)] (by kernel_rfl) (v := bV true) (by have := tBrief_any hx (h4.rd 0 rfl); rwa [hbr8] at this)) ?_
  rintro _ w8 ⟨rfl, h8⟩
  obtain ⟨hlen, hall⟩ := of_decide_eq_true (show decide _ = true from hbr8)
  refine wq_p 1 [(14, (bV false))] ?_
  refine wl_end rfl (seq_n hK6 (cF (wp_skip (seq_n hK5 (wp_seq_k fun K9 hK9 => reg_lit ?_)))))
  refine wq_to (some 15) (x_topen h8 8 (by kernel_rfl) (tOpen_any hnil _)) ?_
  rintro _ w10 ⟨p, G0, rfl, h10⟩
  refine wq_p 1 [(3, (pt p 0))] ?_
  refine wl_end rfl (seq_n hK9 (wp_seq_k fun K11 hK11 => wp_seq_k fun K12 hK12 => reg_lit ?_))
  refine wq_p 3 [(18, (iV .i64 0)), (17, (iV .i64 ((st.length : Int)))), (16, (lV A st.length c))] ?_
  refine wl_end rfl (seq_n hK12 (wp_block ?_))
  refine wp_loopm (fun mM xX aA wL => ∃ (n : Nat) (G : Nat -> Prop) (LL : List (Value × Bytes)) (T : Tk) (Wa : Way) (Wb : Way), (n <= st.length) /\ (TI sAnn sBob n T Wa Wb) /\ (Cnt n T Wa Wb) /\ (∀ p, p ∈ L -> p ∈ LL) /\ mM = st.length - (n) /\ aA = patch xX 109 [(0, (lV A st.length c)), (3, (pt p 0)), (11, (bV false)), (14, (bV false)), (16, (lV A st.length c)), (17, (iV .i64 ((st.length : Int)))), (18, (iV .i64 ((n : Int))))] /\ Hp (fun _ => False) w wL [rF LL, rRV 4 A c xs] [rT G p LL T]) ⟨_, 0, G0, L, tk0, (⟨[], [sA0.ko]⟩), (⟨[], [sA0.ki]⟩), (by omega), ti0, (cnt0 rfl rfl), (fun p hp => hp), rfl, (pEq 109), h10.sel [0] [1, 0] (by kernel_rfl) rfl rfl⟩ ?_
  rintro _ x13 _ w13 ⟨n, G, LL, T, Wa, Wb, hn, hTI, hCn, hsub, rfl, rfl, h13⟩
  refine wp_seq_k fun K14 hK14 => reg_lit ?_
  refine wq_p 1 [(19, (bV (decide ((n : Int) < (st.length : Int)))))] ?_
  refine wl_end rfl (seq_n hK14 (wp_seq_k fun K15 hK15 => ?_))
  refine wp_if ((n : Int) < (st.length : Int)) (by kernel_rfl) (fun b16 => ?_) (fun b16 => ?_)
  ·
   refine wp_skip (seq_n hK15 (wp_seq_k fun K17 hK17 => wp_block (wp_seq_k fun K18 hK18 => ?_)))
   obtain ⟨z, hz0⟩ : ∃ z, st[n]? = some z := ⟨_, List.getElem?_eq_getElem (by omega)⟩
   obtain ⟨x1, hx1, A1, c1, rfl, hm1⟩ := hx.get hz0
   have hzl := hall z (List.mem_of_getElem? hz0)
   refine reg_lit ?_
   refine wq_v (some 20) (eAt A (n * 4 + 0)) (e_idxN (RV.lenIs (n := st.length) (h13.rd 1 rfl) hx.1).2 n st.length (RV.lenIs (n := st.length) (h13.rd 1 rfl) hx.1).1 (by omega) 47 (.tmp 16) (.tmp 18) (by kernel_rfl) .i64 (by kernel_rfl) (by kernel_rfl) 50 (by kernel_rfl) (by kernel_rfl) _) ?_
   refine wq_v (some 21) (aV ([(iV .i64 z.kind), (iV .i64 z.at_), (iV .i64 z.turn), (lV A1 z.body.length c1)]).toArray) (e_elemsN (RV.lenIs (n := st.length) (h13.rd 1 rfl) hx.1).2 n 0 ([(iV .i64 z.kind), (iV .i64 z.at_), (iV .i64 z.turn), (lV A1 z.body.length c1)]) hx1 50 (.tmp 20) (by kernel_rfl) ([(iV .i64 z.kind), (iV .i64 z.at_), (iV .i64 z.turn), (lV A1 z.body.length c1)]) (by kernel_rfl) (by kernel_rfl) (by kernel_rfl)) ?_
   refine wq_to (some 5) (xN h13 50 ([(iV .i64 0), (iV .i64 0), (iV .i64 0), (lV none 0 0)])) ?_
   rintro _ w19 ⟨g19, rfl, h19⟩
   refine wq_to none (xSs h19 0 50 (.tmp 5) (.tmp 21) 0 ([(iV .i64 z.kind), (iV .i64 z.at_), (iV .i64 z.turn), (lV A1 z.body.length c1)]) ([(iV .i64 z.kind), (iV .i64 z.at_), (iV .i64 z.turn), (lV A1 z.body.length c1)])) ?_
   rintro _ w20 h20
   refine wl_end rfl (seq_n hK18 (wp_seq_k fun K21 hK21 => ?_))
   refine pR_go h20 32 (fun W => (rBlk g19 50 ([(iV .i64 z.kind), (iV .i64 z.at_), (iV .i64 z.turn), (lV A1 z.body.length c1)])).Φ W /\ True) [(23, [3], 0), (24, [5], 0), (25, [22, 23], 3), (26, [24], 4), (27, [25], 12), (28, [3, 26], 16), (29, [27, 26], 48), (30, [28, 26], 80), (31, [29, 26], 144), (32, [30, 26], 272), (33, [3, 26], 16), (34, [32, 26], 1040), (35, [33, 26], 2064), (36, [34, 26], 4112), (37, [35, 26], 8208), (38, [31, 36, 26], 16912), (39, [37, 26], 32784), (40, [26, 38], 65552), (41, [39], 163840), (42, [3, 40], 262144), (43, [41, 40], 786432), (44, [42, 40], 1310720), (45, [43, 40], 2359296), (46, [44, 40], 4456448), (47, [3, 40], 262144), (48, [46, 40], 17039360), (49, [47, 40], 33816576), (50, [48, 40], 67371008), (51, [49, 40], 134479872), (52, [45, 50, 40], 277086208), (53, [51, 40], 537133056), (54, [40, 52], 1074003968)] rfl (fun _ d _ _ _ h => by cases d <;> exact h) ?_
   intro hs22 w22 h22
   refine pR_p 31 [0] [(22, (pt p 0))] 1 hs22 ⟨h22.at_ 0 rfl, trivial⟩ ?_
   refine pR_v 1 (some 23) (aV ([(iV .i64 z.kind), (iV .i64 z.at_), (iV .i64 z.turn), (lV A1 z.body.length c1)]).toArray) 3 rfl hs22 ⟨h22.at_ 0 rfl, trivial⟩ (fun W hW => eLs hW.1 50 (.tmp 5) 0 ([(iV .i64 z.kind), (iV .i64 z.at_), (iV .i64 z.turn), (lV A1 z.body.length c1)])) ?_
   refine pR_to 2 (some 24) 7 rfl hs22 (x_tstep h22 1 rfl 0 rfl 15 [(pt p 0), (aV ([(iV .i64 z.kind), (iV .i64 z.at_), (iV .i64 z.turn), (lV A1 z.body.length c1)]).toArray)] (by kernel_rfl) (tStep_any hTI hCn (by omega) (h22.at_ 1 rfl) (h22.rd 0 rfl) (h22.rdis 0 1 _ _ rfl rfl) z hzl A1 c1 (hsub _ hm1))) ?_
   rintro _ w23 ⟨rfl, G23, L23, T, Wa, Wb, hTI, hCn, hsS23, h23⟩
   obtain ⟨e, hT, h24⟩ := h23.openT 1 rfl
   refine ⟨fun _ => ⟨h24.at_ 9 rfl, trivial⟩, ?_⟩
   refine pR_p 21 [3, 4, 5, 6, 7, 10, 11, 12] [(34, (pt p 4)), (33, (pt p 0)), (32, (pt p 0)), (29, (pt p 6)), (28, (pt p 0)), (27, (pt p 0)), (26, (bV false)), (25, (bV false))] 7423 hs22 ⟨h24.at_ 9 rfl, trivial⟩ ?_
   refine pR_v 8 (some 30) (pt p 7) 7679 rfl hs22 ⟨h24.at_ 9 rfl, trivial⟩ (fun W hW => e_idxA 31 (.tmp 29) (.const (iV .i64 1)) (by kernel_rfl) .i64 p 6 1 2 (by kernel_rfl) (by kernel_rfl) (by omega) 22 (by kernel_rfl) (by kernel_rfl) 7 (by omega) _) ?_
   refine pR_v 13 (some 35) (pt p 4) 15871 rfl hs22 ⟨h24.at_ 9 rfl, trivial⟩ (fun W hW => e_idxA 31 (.tmp 34) (.const (iV .i64 0)) (by kernel_rfl) .i64 p 4 0 2 (by kernel_rfl) (by kernel_rfl) (by omega) 22 (by kernel_rfl) (by kernel_rfl) 4 (by omega) _) ?_
   refine pR_or 9 14 hs22 ?_ ?_
   ·
    refine pR_op 9 (some 31) 16383 rfl (OpTo.run (lV e.A3 T.cm1.length e.c3) (eL (h24.at_ 0 rfl) 22 (.tmp 30) 7 (lV e.A3 T.cm1.length e.c3)) (R := fun v w => v = (lV e.A3 T.cm1.length e.c3) /\ w23 = w) ⟨rfl, rfl⟩) ?_
    rintro _ _ ⟨rfl, rfl⟩
    refine ⟨fun _ => ⟨h24.at_ 9 rfl, trivial⟩, ?_⟩
    refine pR_to 14 (some 36) 32767 rfl hs22 (OpTo.run (lV e.A0 T.sd0.length e.c0) (eL (h24.at_ 0 rfl) 22 (.tmp 35) 4 (lV e.A0 T.sd0.length e.c0)) (R := fun v w => v = (lV e.A0 T.sd0.length e.c0) /\ w23 = w) ⟨rfl, rfl⟩) ?_
    rintro _ _ ⟨rfl, rfl⟩
    refine ⟨fun _ => ⟨h24.at_ 9 rfl, trivial⟩, ?_⟩
    refine pR_to 15 (some 37) 65535 rfl hs22 (x_dp h24 16 [(lV e.A3 T.cm1.length e.c3), (lV e.A0 T.sd0.length e.c0)] (by kernel_rfl) (tPrefix_any (h24.rd 0 rfl) hT.x3 hT.x0 (OV.rvn (h24.at_ 8 rfl)).2 (OV.rvn (h24.at_ 5 rfl)).2 hTI.pre1 (by have := hTI.rows.d0; omega))) ?_
    rintro _ w25 ⟨rfl, h25⟩
    refine ⟨fun _ => ⟨h25.at_ 9 rfl, trivial⟩, ?_⟩
    refine pR_p 7 [16, 17, 18, 19, 20, 21, 24, 25, 26] [(48, (pt p 4)), (47, (pt p 0)), (46, (pt p 0)), (43, (pt p 6)), (42, (pt p 0)), (41, (pt p 0)), (40, (bV false)), (39, (bV false)), (38, (bV false))] 121634815 hs22 ⟨h25.at_ 9 rfl, trivial⟩ ?_
    refine pR_v 22 (some 44) (pt p 6) 125829119 rfl hs22 ⟨h25.at_ 9 rfl, trivial⟩ (fun W hW => e_idxA 31 (.tmp 43) (.const (iV .i64 0)) (by kernel_rfl) .i64 p 6 0 2 (by kernel_rfl) (by kernel_rfl) (by omega) 22 (by kernel_rfl) (by kernel_rfl) 6 (by omega) _) ?_
    refine pR_v 27 (some 49) (pt p 5) 260046847 rfl hs22 ⟨h25.at_ 9 rfl, trivial⟩ (fun W hW => e_idxA 31 (.tmp 48) (.const (iV .i64 1)) (by kernel_rfl) .i64 p 4 1 2 (by kernel_rfl) (by kernel_rfl) (by omega) 22 (by kernel_rfl) (by kernel_rfl) 5 (by omega) _) ?_
    refine pR_or 23 28 hs22 ?_ ?_
    ·
     refine pR_op 23 (some 45) 268435455 rfl (OpTo.run (lV e.A2 T.cm0.length e.c2) (eL (h25.at_ 0 rfl) 22 (.tmp 44) 6 (lV e.A2 T.cm0.length e.c2)) (R := fun v w => v = (lV e.A2 T.cm0.length e.c2) /\ w25 = w) ⟨rfl, rfl⟩) ?_
     rintro _ _ ⟨rfl, rfl⟩
     refine ⟨fun _ => ⟨h25.at_ 9 rfl, trivial⟩, ?_⟩
     refine pR_to 28 (some 50) 536870911 rfl hs22 (OpTo.run (lV e.A1 T.sd1.length e.c1) (eL (h25.at_ 0 rfl) 22 (.tmp 49) 5 (lV e.A1 T.sd1.length e.c1)) (R := fun v w => v = (lV e.A1 T.sd1.length e.c1) /\ w25 = w) ⟨rfl, rfl⟩) ?_
     rintro _ _ ⟨rfl, rfl⟩
     refine ⟨fun _ => ⟨h25.at_ 9 rfl, trivial⟩, ?_⟩
     refine pR_to 29 (some 51) 1073741823 rfl hs22 (x_dp h25 16 [(lV e.A2 T.cm0.length e.c2), (lV e.A1 T.sd1.length e.c1)] (by kernel_rfl) (tPrefix_any (h25.rd 0 rfl) hT.x2 hT.x1 (OV.rvn (h25.at_ 7 rfl)).2 (OV.rvn (h25.at_ 6 rfl)).2 hTI.swap.pre1 (by have := hTI.rows.d1; omega))) ?_
     rintro _ w26 ⟨rfl, h26⟩
     refine ⟨fun _ => ⟨h26.at_ 9 rfl, trivial⟩, ?_⟩
     refine pR_p 0 [30, 31] [(53, (bV false)), (52, (bV false))] 4294967295 hs22 ⟨h26.at_ 9 rfl, trivial⟩ ?_
     refine pR_done hs22 ?_ _
     refine seq_n hK21 (cF (wp_skip (blk_n (seq_n hK17 (reg_lit ?_)))))
     refine wq_v (some 54) (iV .i64 ((n : Int) + 1)) (exec_add _ _ _ _ rfl ((n : Int)) 1 (by kernel_rfl) (by kernel_rfl) ((n : Int) + 1) rfl (by omega) (by omega) _) ?_
     refine wq_p 1 [(18, (iV .i64 ((n : Int) + 1)))] ?_
     refine wl_end rfl ?_
     have h27 := (show Hp _ _ _ _ (lT p L23 e T ++ [rBlk g19 50 ([(iV .i64 z.kind), (iV .i64 z.at_), (iV .i64 z.turn), (lV A1 z.body.length c1)])]) from h26.sel [0, 1, 2, 3, 4, 5, 6, 7, 8, 9] [0, 1, 2] rfl rfl rfl).closeT hT
     refine ⟨st.length - (n + 1), (by omega), (n + 1), ((rStar (lT p L23 e T)).F), L23, T, Wa, Wb, (by omega), hTI, hCn, (fun p hp => hsS23 p (hsub p hp)), rfl, (pEq 109), h27.sel [0] [0, 2] (by kernel_rfl) rfl rfl⟩
    ·
     refine pR_op 28 (some 50) 528482303 rfl (OpTo.run (lV e.A1 T.sd1.length e.c1) (eL (h25.at_ 0 rfl) 22 (.tmp 49) 5 (lV e.A1 T.sd1.length e.c1)) (R := fun v w => v = (lV e.A1 T.sd1.length e.c1) /\ w25 = w) ⟨rfl, rfl⟩) ?_
     rintro _ _ ⟨rfl, rfl⟩
     refine ⟨fun _ => ⟨h25.at_ 9 rfl, trivial⟩, ?_⟩
     refine pR_to 23 (some 45) 536870911 rfl hs22 (OpTo.run (lV e.A2 T.cm0.length e.c2) (eL (h25.at_ 0 rfl) 22 (.tmp 44) 6 (lV e.A2 T.cm0.length e.c2)) (R := fun v w => v = (lV e.A2 T.cm0.length e.c2) /\ w25 = w) ⟨rfl, rfl⟩) ?_
     rintro _ _ ⟨rfl, rfl⟩
     refine ⟨fun _ => ⟨h25.at_ 9 rfl, trivial⟩, ?_⟩
     refine pR_to 29 (some 51) 1073741823 rfl hs22 (x_dp h25 16 [(lV e.A2 T.cm0.length e.c2), (lV e.A1 T.sd1.length e.c1)] (by kernel_rfl) (tPrefix_any (h25.rd 0 rfl) hT.x2 hT.x1 (OV.rvn (h25.at_ 7 rfl)).2 (OV.rvn (h25.at_ 6 rfl)).2 hTI.swap.pre1 (by have := hTI.rows.d1; omega))) ?_
     rintro _ w28 ⟨rfl, h28⟩
     refine ⟨fun _ => ⟨h28.at_ 9 rfl, trivial⟩, ?_⟩
     refine pR_p 0 [30, 31] [(53, (bV false)), (52, (bV false))] 4294967295 hs22 ⟨h28.at_ 9 rfl, trivial⟩ ?_
     refine pR_done hs22 ?_ _
     refine seq_n hK21 (cF (wp_skip (blk_n (seq_n hK17 (reg_lit ?_)))))
     refine wq_v (some 54) (iV .i64 ((n : Int) + 1)) (exec_add _ _ _ _ rfl ((n : Int)) 1 (by kernel_rfl) (by kernel_rfl) ((n : Int) + 1) rfl (by omega) (by omega) _) ?_
     refine wq_p 1 [(18, (iV .i64 ((n : Int) + 1)))] ?_
     refine wl_end rfl ?_
     have h29 := (show Hp _ _ _ _ (lT p L23 e T ++ [rBlk g19 50 ([(iV .i64 z.kind), (iV .i64 z.at_), (iV .i64 z.turn), (lV A1 z.body.length c1)])]) from h28.sel [0, 1, 2, 3, 4, 5, 6, 7, 8, 9] [0, 1, 2] rfl rfl rfl).closeT hT
     refine ⟨st.length - (n + 1), (by omega), (n + 1), ((rStar (lT p L23 e T)).F), L23, T, Wa, Wb, (by omega), hTI, hCn, (fun p hp => hsS23 p (hsub p hp)), rfl, (pEq 109), h29.sel [0] [0, 2] (by kernel_rfl) rfl rfl⟩
   ·
    refine pR_op 14 (some 36) 32255 rfl (OpTo.run (lV e.A0 T.sd0.length e.c0) (eL (h24.at_ 0 rfl) 22 (.tmp 35) 4 (lV e.A0 T.sd0.length e.c0)) (R := fun v w => v = (lV e.A0 T.sd0.length e.c0) /\ w23 = w) ⟨rfl, rfl⟩) ?_
    rintro _ _ ⟨rfl, rfl⟩
    refine ⟨fun _ => ⟨h24.at_ 9 rfl, trivial⟩, ?_⟩
    refine pR_to 9 (some 31) 32767 rfl hs22 (OpTo.run (lV e.A3 T.cm1.length e.c3) (eL (h24.at_ 0 rfl) 22 (.tmp 30) 7 (lV e.A3 T.cm1.length e.c3)) (R := fun v w => v = (lV e.A3 T.cm1.length e.c3) /\ w23 = w) ⟨rfl, rfl⟩) ?_
    rintro _ _ ⟨rfl, rfl⟩
    refine ⟨fun _ => ⟨h24.at_ 9 rfl, trivial⟩, ?_⟩
    refine pR_to 15 (some 37) 65535 rfl hs22 (x_dp h24 16 [(lV e.A3 T.cm1.length e.c3), (lV e.A0 T.sd0.length e.c0)] (by kernel_rfl) (tPrefix_any (h24.rd 0 rfl) hT.x3 hT.x0 (OV.rvn (h24.at_ 8 rfl)).2 (OV.rvn (h24.at_ 5 rfl)).2 hTI.pre1 (by have := hTI.rows.d0; omega))) ?_
    rintro _ w30 ⟨rfl, h30⟩
    refine ⟨fun _ => ⟨h30.at_ 9 rfl, trivial⟩, ?_⟩
    refine pR_p 7 [16, 17, 18, 19, 20, 21, 24, 25, 26] [(48, (pt p 4)), (47, (pt p 0)), (46, (pt p 0)), (43, (pt p 6)), (42, (pt p 0)), (41, (pt p 0)), (40, (bV false)), (39, (bV false)), (38, (bV false))] 121634815 hs22 ⟨h30.at_ 9 rfl, trivial⟩ ?_
    refine pR_v 22 (some 44) (pt p 6) 125829119 rfl hs22 ⟨h30.at_ 9 rfl, trivial⟩ (fun W hW => e_idxA 31 (.tmp 43) (.const (iV .i64 0)) (by kernel_rfl) .i64 p 6 0 2 (by kernel_rfl) (by kernel_rfl) (by omega) 22 (by kernel_rfl) (by kernel_rfl) 6 (by omega) _) ?_
    refine pR_v 27 (some 49) (pt p 5) 260046847 rfl hs22 ⟨h30.at_ 9 rfl, trivial⟩ (fun W hW => e_idxA 31 (.tmp 48) (.const (iV .i64 1)) (by kernel_rfl) .i64 p 4 1 2 (by kernel_rfl) (by kernel_rfl) (by omega) 22 (by kernel_rfl) (by kernel_rfl) 5 (by omega) _) ?_
    refine pR_or 23 28 hs22 ?_ ?_
    ·
     refine pR_op 23 (some 45) 268435455 rfl (OpTo.run (lV e.A2 T.cm0.length e.c2) (eL (h30.at_ 0 rfl) 22 (.tmp 44) 6 (lV e.A2 T.cm0.length e.c2)) (R := fun v w => v = (lV e.A2 T.cm0.length e.c2) /\ w30 = w) ⟨rfl, rfl⟩) ?_
     rintro _ _ ⟨rfl, rfl⟩
     refine ⟨fun _ => ⟨h30.at_ 9 rfl, trivial⟩, ?_⟩
     refine pR_to 28 (some 50) 536870911 rfl hs22 (OpTo.run (lV e.A1 T.sd1.length e.c1) (eL (h30.at_ 0 rfl) 22 (.tmp 49) 5 (lV e.A1 T.sd1.length e.c1)) (R := fun v w => v = (lV e.A1 T.sd1.length e.c1) /\ w30 = w) ⟨rfl, rfl⟩) ?_
     rintro _ _ ⟨rfl, rfl⟩
     refine ⟨fun _ => ⟨h30.at_ 9 rfl, trivial⟩, ?_⟩
     refine pR_to 29 (some 51) 1073741823 rfl hs22 (x_dp h30 16 [(lV e.A2 T.cm0.length e.c2), (lV e.A1 T.sd1.length e.c1)] (by kernel_rfl) (tPrefix_any (h30.rd 0 rfl) hT.x2 hT.x1 (OV.rvn (h30.at_ 7 rfl)).2 (OV.rvn (h30.at_ 6 rfl)).2 hTI.swap.pre1 (by have := hTI.rows.d1; omega))) ?_
     rintro _ w31 ⟨rfl, h31⟩
     refine ⟨fun _ => ⟨h31.at_ 9 rfl, trivial⟩, ?_⟩
     refine pR_p 0 [30, 31] [(53, (bV false)), (52, (bV false))] 4294967295 hs22 ⟨h31.at_ 9 rfl, trivial⟩ ?_
     refine pR_done hs22 ?_ _
     refine seq_n hK21 (cF (wp_skip (blk_n (seq_n hK17 (reg_lit ?_)))))
     refine wq_v (some 54) (iV .i64 ((n : Int) + 1)) (exec_add _ _ _ _ rfl ((n : Int)) 1 (by kernel_rfl) (by kernel_rfl) ((n : Int) + 1) rfl (by omega) (by omega) _) ?_
     refine wq_p 1 [(18, (iV .i64 ((n : Int) + 1)))] ?_
     refine wl_end rfl ?_
     have h32 := (show Hp _ _ _ _ (lT p L23 e T ++ [rBlk g19 50 ([(iV .i64 z.kind), (iV .i64 z.at_), (iV .i64 z.turn), (lV A1 z.body.length c1)])]) from h31.sel [0, 1, 2, 3, 4, 5, 6, 7, 8, 9] [0, 1, 2] rfl rfl rfl).closeT hT
     refine ⟨st.length - (n + 1), (by omega), (n + 1), ((rStar (lT p L23 e T)).F), L23, T, Wa, Wb, (by omega), hTI, hCn, (fun p hp => hsS23 p (hsub p hp)), rfl, (pEq 109), h32.sel [0] [0, 2] (by kernel_rfl) rfl rfl⟩
    ·
     refine pR_op 28 (some 50) 528482303 rfl (OpTo.run (lV e.A1 T.sd1.length e.c1) (eL (h30.at_ 0 rfl) 22 (.tmp 49) 5 (lV e.A1 T.sd1.length e.c1)) (R := fun v w => v = (lV e.A1 T.sd1.length e.c1) /\ w30 = w) ⟨rfl, rfl⟩) ?_
     rintro _ _ ⟨rfl, rfl⟩
     refine ⟨fun _ => ⟨h30.at_ 9 rfl, trivial⟩, ?_⟩
     refine pR_to 23 (some 45) 536870911 rfl hs22 (OpTo.run (lV e.A2 T.cm0.length e.c2) (eL (h30.at_ 0 rfl) 22 (.tmp 44) 6 (lV e.A2 T.cm0.length e.c2)) (R := fun v w => v = (lV e.A2 T.cm0.length e.c2) /\ w30 = w) ⟨rfl, rfl⟩) ?_
     rintro _ _ ⟨rfl, rfl⟩
     refine ⟨fun _ => ⟨h30.at_ 9 rfl, trivial⟩, ?_⟩
     refine pR_to 29 (some 51) 1073741823 rfl hs22 (x_dp h30 16 [(lV e.A2 T.cm0.length e.c2), (lV e.A1 T.sd1.length e.c1)] (by kernel_rfl) (tPrefix_any (h30.rd 0 rfl) hT.x2 hT.x1 (OV.rvn (h30.at_ 7 rfl)).2 (OV.rvn (h30.at_ 6 rfl)).2 hTI.swap.pre1 (by have := hTI.rows.d1; omega))) ?_
     rintro _ w33 ⟨rfl, h33⟩
     refine ⟨fun _ => ⟨h33.at_ 9 rfl, trivial⟩, ?_⟩
     refine pR_p 0 [30, 31] [(53, (bV false)), (52, (bV false))] 4294967295 hs22 ⟨h33.at_ 9 rfl, trivial⟩ ?_
     refine pR_done hs22 ?_ _
     refine seq_n hK21 (cF (wp_skip (blk_n (seq_n hK17 (reg_lit ?_)))))
     refine wq_v (some 54) (iV .i64 ((n : Int) + 1)) (exec_add _ _ _ _ rfl ((n : Int)) 1 (by kernel_rfl) (by kernel_rfl) ((n : Int) + 1) rfl (by omega) (by omega) _) ?_
     refine wq_p 1 [(18, (iV .i64 ((n : Int) + 1)))] ?_
     refine wl_end rfl ?_
     have h34 := (show Hp _ _ _ _ (lT p L23 e T ++ [rBlk g19 50 ([(iV .i64 z.kind), (iV .i64 z.at_), (iV .i64 z.turn), (lV A1 z.body.length c1)])]) from h33.sel [0, 1, 2, 3, 4, 5, 6, 7, 8, 9] [0, 1, 2] rfl rfl rfl).closeT hT
     refine ⟨st.length - (n + 1), (by omega), (n + 1), ((rStar (lT p L23 e T)).F), L23, T, Wa, Wb, (by omega), hTI, hCn, (fun p hp => hsS23 p (hsub p hp)), rfl, (pEq 109), h34.sel [0] [0, 2] (by kernel_rfl) rfl rfl⟩
  ·
   refine wp_exit (seq_e (seq_e (blk_e (seq_n hK11 (wp_seq_k fun K35 hK35 => ?_)))))
   obtain ⟨e, hT, h36⟩ := h13.openT 0 rfl
   obtain ⟨hep1, hep2, hep3⟩ := hTI.ep
   obtain ⟨heq1, heq2, heq3⟩ := hTI.swap.ep
   have heq1 : T.a.ei <= T.b.eo := heq1
   have heq2 : T.b.eo <= T.a.ei + 1 := heq2
   have heq3 : T.b.eo <= T.k1 := heq3
   have hk60 : T.b.ei <= 60 := hTI.swap.small.ei
   have hk61 : T.a.ei <= 60 := hTI.small.ei
   refine reg_lit ?_
   refine wq_p 3 [(58, (pt p 1)), (57, (pt p 0)), (56, (pt p 0))] ?_
   refine wq_v (some 59) (pt e.sa 0) (eL (h36.at_ 0 rfl) 29 (.tmp 58) 1 _) ?_
   refine wq_to (some 60) (x_dp h36 17 [(pt e.sa 0)] (by kernel_rfl) (epochs_any (h36.at_ 2 rfl))) ?_
   rintro _ w37 ⟨rfl, h37⟩
   refine wq_p 5 [(7, (iV .i64 ((T.a.ei : Int)))), (6, (iV .i64 ((T.a.eo : Int)))), (62, (iV .i64 ((T.a.ei : Int)))), (61, (iV .i64 ((T.a.eo : Int)))), (55, (Value.tuple #[(iV .i64 ((T.a.eo : Int))), (iV .i64 ((T.a.ei : Int)))]))] ?_
   refine wl_end rfl (seq_n hK35 (wp_seq_k fun K38 hK38 => reg_lit ?_))
   refine wq_p 3 [(66, (pt p 2)), (65, (pt p 0)), (64, (pt p 0))] ?_
   refine wq_v (some 67) (pt e.sb 0) (eL (h37.at_ 0 rfl) 29 (.tmp 66) 2 _) ?_
   refine wq_to (some 68) (x_dp h37 17 [(pt e.sb 0)] (by kernel_rfl) (epochs_any (h37.at_ 3 rfl))) ?_
   rintro _ w39 ⟨rfl, h39⟩
   refine wq_p 5 [(9, (iV .i64 ((T.b.ei : Int)))), (8, (iV .i64 ((T.b.eo : Int)))), (70, (iV .i64 ((T.b.ei : Int)))), (69, (iV .i64 ((T.b.eo : Int)))), (63, (Value.tuple #[(iV .i64 ((T.b.eo : Int))), (iV .i64 ((T.b.ei : Int)))]))] ?_
   refine wl_end rfl (seq_n hK38 (wp_seq_k fun K40 hK40 => reg_lit ?_))
   refine wq_p 2 [(72, (iV .i64 ((T.a.eo : Int)))), (71, (iV .i64 ((T.b.ei : Int))))] ?_
   refine wq_v (some 73) (bV true) (eqI (bV (decide ((T.b.ei : Int) <= (T.a.eo : Int)))) (congrArg bV (by simp; omega))) ?_
   refine wq_p 3 [(76, (iV .i64 ((T.b.ei : Int)))), (75, (iV .i64 ((T.a.eo : Int)))), (74, (bV true))] ?_
   refine wq_v (some 77) (iV .i64 ((T.b.ei : Int) + 1)) (exec_add _ _ _ _ rfl ((T.b.ei : Int)) 1 (by kernel_rfl) (by kernel_rfl) ((T.b.ei : Int) + 1) rfl (by omega) (by omega) _) ?_
   refine wq_v (some 78) (bV true) (eqI (bV (decide ((T.a.eo : Int) <= (T.b.ei : Int) + 1))) (congrArg bV (by simp; omega))) ?_
   refine wq_p 4 [(82, (iV .i64 ((T.b.eo : Int)))), (81, (iV .i64 ((T.a.ei : Int)))), (80, (bV true)), (79, (bV true))] ?_
   refine wq_v (some 83) (bV true) (eqI (bV (decide ((T.a.ei : Int) <= (T.b.eo : Int)))) (congrArg bV (by simp; omega))) ?_
   refine wq_p 4 [(87, (iV .i64 ((T.a.ei : Int)))), (86, (iV .i64 ((T.b.eo : Int)))), (85, (bV true)), (84, (bV true))] ?_
   refine wq_v (some 88) (iV .i64 ((T.a.ei : Int) + 1)) (exec_add _ _ _ _ rfl ((T.a.ei : Int)) 1 (by kernel_rfl) (by kernel_rfl) ((T.a.ei : Int) + 1) rfl (by omega) (by omega) _) ?_
   refine wq_v (some 89) (bV true) (eqI (bV (decide ((T.b.eo : Int) <= (T.a.ei : Int) + 1))) (congrArg bV (by simp; omega))) ?_
   refine wq_p 6 [(95, (pt p 8)), (94, (pt p 0)), (93, (pt p 0)), (92, (iV .i64 ((T.a.eo : Int)))), (91, (bV true)), (90, (bV true))] ?_
   refine wq_v (some 96) (pt p 8) (e_idxA 32 (.tmp 95) (.const (iV .i64 0)) (by kernel_rfl) .i64 p 8 0 2 (by kernel_rfl) (by kernel_rfl) (by omega) 3 (by kernel_rfl) (by kernel_rfl) 8 (by omega) _) ?_
   refine wq_v (some 97) (iV .i64 ((T.k0 : Int))) (eL (h39.at_ 0 rfl) 3 (.tmp 96) 8 _) ?_
   refine wq_v (some 98) (bV true) (eqI (bV (decide ((T.a.eo : Int) <= (T.k0 : Int)))) (congrArg bV (by simp; omega))) ?_
   refine wq_p 6 [(104, (pt p 8)), (103, (pt p 0)), (102, (pt p 0)), (101, (iV .i64 ((T.b.eo : Int)))), (100, (bV true)), (99, (bV true))] ?_
   refine wq_v (some 105) (pt p 9) (e_idxA 32 (.tmp 104) (.const (iV .i64 1)) (by kernel_rfl) .i64 p 8 1 2 (by kernel_rfl) (by kernel_rfl) (by omega) 3 (by kernel_rfl) (by kernel_rfl) 9 (by omega) _) ?_
   refine wq_v (some 106) (iV .i64 ((T.k1 : Int))) (eL (h39.at_ 0 rfl) 3 (.tmp 105) 9 _) ?_
   refine wq_v (some 107) (bV true) (eqI (bV (decide ((T.b.eo : Int) <= (T.k1 : Int)))) (congrArg bV (by simp; omega))) ?_
   refine wq_p 2 [(2, (bV true)), (108, (bV true))] ?_
   refine wl_end rfl (seq_n hK40 (wp_ret ?_))
   refine post_1 rfl (by kernel_rfl) (rtm (bV true)) ?_
   exact ⟨rfl, h39.below0⟩
 ·
  refine reg_lit ?_
  refine wq_p 1 [(12, (lV A st.length c))] ?_
  have hbr41 : briefR st = false := by simpa using b7
  refine wq_to (some 13) (x_dp h4 14 [(lV A st.length c)] (by kernel_rfl) (v := bV false) (by have := tBrief_any hx (h4.rd 0 rfl); rwa [hbr41] at this)) ?_
  rintro _ w41 ⟨rfl, h41⟩
  refine wq_p 1 [(14, (bV true))] ?_
  refine wl_end rfl (seq_n hK6 (cT (wp_seq_k fun K42 hK42 => reg_lit ?_)))
  refine wq_p 1 [(2, (bV true))] ?_
  refine wl_end rfl (seq_n hK42 (wp_ret (seq_r ?_)))
  refine post_1 rfl (by kernel_rfl) (rtm (bV true)) ?_
  exact ⟨rfl, h41.below0⟩
end Go.Proofs.Ytjalodhdjollhaa
end
section
namespace Go.Proofs.Ytjalodhdjollhaa
open Go.ChangeShapes Go.WideShapes Go.ChangeAt Go.RowKit
set_option maxRecDepth 100000 in
theorem recordPrefix_lifted (os : Os) (started : os.Started) (H : Type) (enc : TypeId × Value -> H) :
   ReturnsInHanded {} Try.checked os 4 .any (Rows.recordPrefixSpec.pre6 enc Try.prog Try.f4 Rows.recordPrefixRow.domain false) (Rows.recordPrefixSpec.post enc Try.prog Try.f4 false true false false) := by
 refine returnsInHanded_of_change (C := Try.checked) Try.own started (by kernel_rfl) Try.func4
   (ChangeSpec.witness6 (enc := enc) (C := Try.checked) false ⟨#[], #[.slice none 0 0], []⟩ 8 (by kernel_rfl) (by kernel_rfl) (by kernel_rfl) (by kernel_rfl)) ?_
 intro W base args ds gs before hval0 hW hcnd _
 have hval : ∀ (j : Nat) t v, Try.f4.params[j]? = some t -> args[j]? = some v -> Value.okWide Try.prog W .any base t v := hval0
 have hpost : ∀ W', Below W.heap.size W W' -> Rows.recordPrefixSpec.post enc Try.prog Try.f4 false true false false W args (.bool true) W' := fun W' hb =>
   law_post Try.laidOut (by kernel_rfl) Try.underlying4 rfl rfl (fun ds hds => by
     have hn : ds.length = 1 := hds
     match ds, hn with
     | [_], _ => rfl) hW hb
 obtain ⟨p, q, hA0, hV, rfl, hfz, hnd⟩ := hW
 have hA : DataW.TrodAll enc Try.prog W 0 (fun _ => true) true Try.f4.params.toList args.toList ds p := hA0
 rw [Try.params4] at hA hval
 clear hA0 hval0
 obtain ⟨v0, d0, rfl, rfl, h0⟩ := trodAll_one hA
 obtain ⟨A0, c0, xs0, st0, L0, rfl, hr0, hx0, hL0, hn0⟩ := open_stps (hval 0 47 v0 rfl rfl) h0
 refine (recordPrefix_any hL0 hn0 hx0 hr0).mono fun e W' ⟨he, hw⟩ => ?_
 subst he
 exact ⟨_, rfl, hpost W' hw⟩
theorem recordPrefix_holds : Rows.RecordPrefixSaid :=
 OpenClaim.holds_of_wide 4 Try.f4 rfl rfl rfl rfl rfl rfl rfl ⟨rfl, rfl, rfl, rfl, rfl⟩ rfl rfl rfl rfl rfl (by kernel_rfl) Try.func4 (by kernel_rfl)
   (of_decide_eq_true (by kernel_rfl)) (by unfold Func.isWrapper; first | (rw [if_pos (by decide +kernel)]; kernel_rfl) | (rw [if_neg (by decide +kernel)]; exact ⟨rfl, rfl⟩))
   (fun os started H enc _ => recordPrefix_lifted os started H enc)
end Go.Proofs.Ytjalodhdjollhaa
end
