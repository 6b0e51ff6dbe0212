/- The walks of the talk: a step that lets wait. -/
import Derived.Test.YtjalodhdjollhaaCA14
set_option maxRecDepth 100000
set_option maxHeartbeats 4000000
namespace Go.Proofs.Ytjalodhdjollhaa
section
open Go.Value renaming int -> iV, slice -> lV, string -> sV, bool -> bV, agg -> aV
open Go.RowKit Go.QT
theorem datas_len (l : List (Nat × Bytes)) : (datas l).length <= l.length := by
 unfold datas; rw [List.length_map]; exact List.length_filter_le _ _
structure RowsL (T : Tk) : Prop where
 d0 : T.sd0.length <= 60
 d1 : T.sd1.length <= 60
 d2 : T.cm0.length <= 60
 d3 : T.cm1.length <= 60
theorem TI.rows {p q : ByteArray} {n : Nat} {T : Tk} {Wa Wb : Way} (h : TI p q n T Wa Wb) : RowsL T := by
 have h1 := datas_len Wa.P
 have h2 := datas_len Wb.P
 have h3 := datas_len (Wa.P.take T.b.got)
 have h4 := datas_len (Wb.P.take T.a.got)
 have h5 := List.length_take_le T.b.got Wa.P
 have h6 := List.length_take_le T.a.got Wb.P
 have h7 := List.length_take_le' T.b.got Wa.P
 have h8 := List.length_take_le' T.a.got Wb.P
 have := h.pa; have := h.pb
 exact ⟨by rw [h.sd0]; omega, by rw [h.sd1]; omega, by rw [h.cm0]; omega, by rw [h.cm1]; omega⟩
theorem Hp.oneT {G : Nat -> Prop} {p : Nat} {L : List (Value × Bytes)} {T : Tk} {w : World} (hv : (rT G p L T).Φ w) (hL : (rF L).Φ w) (hd : (rF L).dj (rT G p L T)) : Hp G w w [rF L] [rT G p L T] :=
 (Hp.one (rT G p L T) hv).addR (rF L) hL (fun j s hj => by cases j with | zero => injection hj with hj; subst hj; exact hd | succ j => cases hj)
theorem tStep_push0 {G : Nat -> Prop} {p : Nat} {L : List (Value × Bytes)} {T : Tk} {n : Nat} {Wa Wb : Way} {w : World} (hI : TI sAnn sBob n T Wa Wb) (hC : Cnt n T Wa Wb) (hn : n < 200) (hv : (rT G p L T).Φ w) (hL : (rF L).Φ w) (hd : (rF L).dj (rT G p L T)) (z : Stp) (hz : z.body.length <= 40) (A : Option Addr) (c : Nat) (hm : (lV A z.body.length c, z.body) ∈ L) (hk : z.kind = 0) (hq : T.a.queue.length < 8) : Calls Try.prog 15 #[pt p 0, .agg #[.int .i64 z.kind, .int .i64 z.at_, .int .i64 z.turn, .slice A z.body.length c]] w (StepPost n G p w L) := by
 have h00 := Hp.oneT hv hL hd
 obtain ⟨e, hT, h01⟩ := h00.openT 0 rfl
 have h02 := h01.roF 0 rfl hm
 have hsa := hI.small
 have hsb := hI.swap.small
 have hxw := hT.w.1
 have hx0 := hT.x0.1
 have hx1 := hT.x1.1
 have hx2 := hT.x2.1
 have hx3 := hT.x3.1
 have hwl := hI.wl
 have hdl := hI.rows
 have hks := hI.ks
 have hbs := hI.bs
 have hqa := hsa.q8
 have hqb := hsb.q8
 obtain ⟨hd0, hd1, hd2, hd3⟩ := hdl
 rw [hk]
 have h0 := h02
 refine enter 182 Try.func15 rfl rfl ?_
 refine wp_reset 184 [(0, (pt p 0)), (1, (aV ([(iV .i64 0), (iV .i64 z.at_), (iV .i64 z.turn), (lV A z.body.length c)]).toArray))] (fun x0 => ?_)
 refine wp_seq_k fun K1 hK1 => reg_lit ?_
 refine wq_to (some 3) (xN h0 50 ([(iV .i64 0), (iV .i64 z.at_), (iV .i64 z.turn), (lV A z.body.length c)])) ?_
 rintro _ w2 ⟨g2, rfl, h2⟩
 refine wq_p 1 [(4, (bV false))] ?_
 refine wl_end rfl (seq_n hK1 (wp_seq_k fun K3 hK3 => reg_lit ?_))
 refine wq_p 1 [(14, (pt g2 0))] (wq_v (some 15) (iV .i64 0) (eL (h2.at_ 0 rfl) 3 (.tmp 14) 0 _) (wq_v (some 16) (iV .i64 0) (eqI (iV .i64 (bits .and .i64 0 1)) (congrArg (iV .i64) (by kernel_rfl))) (wq_p 1 [(5, (iV .i64 0))] ?_)))
 refine wl_end rfl (seq_n hK3 (wp_seq_k fun K4 hK4 => wp_seq_k fun K5 hK5 => reg_lit ?_))
 refine wq_p 1 [(17, (pt g2 0))] (wq_v (some 18) (iV .i64 0) (eL (h2.at_ 0 rfl) 3 (.tmp 17) 0 _) ?_)
 refine wl_end rfl (seq_n hK5 (wp_block (wp_seq_k fun K6 hK6 => wp_seq_k fun K7 hK7 => reg_lit ?_)))
 refine wq_p 2 [(19, (bV true)), (20, (bV true))] ?_
 refine wl_end rfl (seq_n hK7 (cT (wp_skip (seq_n hK6 (cT (wp_seq_k fun K8 hK8 => reg_lit ?_))))))
 refine wq_p 2 [(23, (iV .i64 0)), (22, (pt p 0))] ?_
 refine wq_to (some 24) (x_dp h2 18 [(pt p 0), (iV .i64 0)] (by kernel_rfl) (tEnd_0 (h2.at_ 1 rfl))) ?_
 rintro _ w9 ⟨rfl, h9⟩
 refine wq_to (some 25) (x_dp h9 10 [(pt e.sa 0)] (by kernel_rfl) (waits_any (h9.at_ 3 rfl))) ?_
 rintro _ w10 ⟨rfl, h10⟩
 refine wq_p 1 [(6, (iV .i64 ((T.a.queue.length : Int))))] ?_
 refine wl_end rfl (seq_n hK8 (wp_seq_k fun K11 hK11 => ?_))
 refine pR_go h10 6 (fun W => (rBlk g2 50 ([(iV .i64 0), (iV .i64 z.at_), (iV .i64 z.turn), (lV A z.body.length c)])).Φ W /\ True) [(27, [0], 0), (28, [5], 0), (29, [26, 27], 3), (30, [3], 0), (31, [29], 8), (32, [28, 30], 20), (8, [31], 63)] rfl (fun _ d _ _ _ h => by cases d <;> exact h) ?_
 intro hs12 w12 h12
 refine pR_p 4 [0, 1, 3] [(29, (pt g2 3)), (27, (iV .i64 0)), (26, (pt p 0))] 11 hs12 ⟨h12.at_ 0 rfl, trivial⟩ ?_
 refine pR_v 4 (some 30) (lV A z.body.length c) 27 rfl hs12 ⟨h12.at_ 0 rfl, trivial⟩ (fun W hW => eL hW.1 26 (.tmp 29) 3 _) ?_
 refine pR_to 2 (some 28) 31 rfl hs12 (x_dp h12 18 [(pt p 0), (iV .i64 0)] (by kernel_rfl) (tEnd_0 (h12.at_ 1 rfl))) ?_
 rintro _ w13 ⟨rfl, h13⟩
 refine ⟨fun _ => ⟨h13.at_ 0 rfl, trivial⟩, ?_⟩
 refine pR_to 5 (some 31) 63 rfl hs12 (x_ses h13 3 rfl 1 rfl 9 [(pt e.sa 0), (lV A z.body.length c)] (by kernel_rfl) (sPush_ok (h13.at_ 3 rfl) (h13.rd 1 rfl) (h13.rdis 1 3 _ _ rfl rfl) z.body A c (h13.rd 0 rfl) (h13.rdis 0 3 _ _ rfl rfl) (by omega) hI.inv.ab.ov hq)) ?_
 rintro _ w14 ⟨G14, L14, rfl, hs14, hx14, h14⟩
 refine ⟨fun _ => ⟨h14.at_ 0 rfl, trivial⟩, ?_⟩
 refine pR_to 6 (some 7) 127 rfl hs12 (OpTo.run (iV .i64 0) (pureOp_run (by kernel_rfl) _) (R := fun v w => v = (iV .i64 0) /\ w14 = w) ⟨rfl, rfl⟩) ?_
 rintro _ _ ⟨rfl, rfl⟩
 refine ⟨fun h => absurd h (by decide), ?_⟩
 refine pR_done hs12 ?_ _
 refine seq_n hK11 (wp_seq_k fun K15 hK15 => wp_seq_k fun K16 hK16 => ?_)
 refine wp_reset 184 [(0, (pt p 0)), (1, (aV ([(iV .i64 0), (iV .i64 z.at_), (iV .i64 z.turn), (lV A z.body.length c)]).toArray)), (3, (pt g2 0)), (4, (bV false)), (5, (iV .i64 0)), (6, (iV .i64 ((T.a.queue.length : Int)))), (7, (iV .i64 0)), (18, (iV .i64 0)), (19, (bV true))] (fun x17 => ?_)
 refine reg_lit ?_
 refine wq_p 2 [(33, (bV true)), (32, (iV .i64 0))] ?_
 refine wl_end rfl (seq_n hK16 (cT ?_))
 refine pR_go h14 18 (fun W => (rBlk g2 50 ([(iV .i64 0), (iV .i64 z.at_), (iV .i64 z.turn), (lV A z.body.length c)])).Φ W /\ True) [(35, [0], 0), (36, [5], 0), (37, [0], 0), (38, [5], 0), (39, [36], 4), (40, [38], 16), (41, [39, 37], 40), (42, [40], 64), (43, [], 0), (44, [3], 0), (45, [43], 512), (46, [42, 44], 1280), (47, [45], 2048), (48, [41, 46], 6272), (49, [34], 1), (50, [48], 16384), (51, [49, 35], 49151), (0, [50, 47], 81919)] rfl (fun _ d _ _ _ h => by cases d <;> exact h) ?_
 intro hs18 w18 h18
 refine pR_p 9 [0, 1, 2, 3, 4, 5, 9, 14, 15] [(49, (pt p 4)), (48, (pt p 0)), (43, (pt g2 3)), (39, (pt p 4)), (38, (pt p 0)), (37, (iV .i64 0)), (36, (pt p 0)), (35, (iV .i64 0)), (34, (pt p 0))] 49727 hs18 ⟨h18.at_ 0 rfl, trivial⟩ ?_
 refine pR_v 6 (some 40) (pt p 4) 49791 rfl hs18 ⟨h18.at_ 0 rfl, trivial⟩ (fun W hW => eIa 31 (.tmp 39) (.tmp 37) .i64 p 4 0 2 22 4) ?_
 refine pR_v 10 (some 44) (lV A z.body.length c) 50815 rfl hs18 ⟨h18.at_ 0 rfl, trivial⟩ (fun W hW => eL hW.1 26 (.tmp 43) 3 _) ?_
 refine pR_or 7 8 hs18 ?_ ?_
 ·
  refine pR_op 7 (some 41) 50943 rfl (OpTo.run (lV e.A0 T.sd0.length e.c0) (eL (h18.at_ 1 rfl) 22 (.tmp 40) 4 (lV e.A0 T.sd0.length e.c0)) (R := fun v w => v = (lV e.A0 T.sd0.length e.c0) /\ w18 = w) ⟨rfl, rfl⟩) ?_
  rintro _ _ ⟨rfl, rfl⟩
  refine ⟨fun _ => ⟨h18.at_ 0 rfl, trivial⟩, ?_⟩
  refine pR_to 8 (some 42) 51199 rfl hs18 (x_bs0B h18 (by kernel_rfl)) ?_
  rintro _ w19 ⟨A19, rfl, h19⟩
  refine ⟨fun _ => ⟨h19.at_ 1 rfl, trivial⟩, ?_⟩
  refine pR_to 11 (some 45) 53247 rfl hs18 (x_appG h19 0 rfl (.tmp 42) (.tmp 44) (by kernel_rfl) (lV A z.body.length c) (by kernel_rfl) (by kernel_rfl) (h19.rd 1 rfl) (by simp; omega) (z.body) (z.body.length) rfl rfl) ?_
  rintro _ w20 ⟨A20, c20, rfl, h20⟩
  refine ⟨fun _ => ⟨h20.at_ 1 rfl, trivial⟩, ?_⟩
  refine pR_to 12 (some 46) 57343 rfl hs18 (x_bs h20 26 ([(lV A20 z.body.length c20)]) 1 (by kernel_rfl)) ?_
  rintro _ w21 ⟨g21, rfl, h21⟩
  refine ⟨fun _ => ⟨h21.at_ 2 rfl, trivial⟩, ?_⟩
  refine pR_to 13 (some 47) 65535 rfl hs18 (xPu h21 8 0 rfl rfl (.tmp 41) (.tmp 46) 22 24 (lV none 0 0) (by omega) (by unfold maxLen; omega) (e.x0 ++ [[(lV A20 z.body.length c20)]]) ((T.sd0 ++ [z.body]).length) (hyn := (by rw [List.length_append, List.length_append, hT.x0.1]; rfl))) ?_
  rintro _ w22 ⟨A22, c22, rfl, h22⟩
  refine ⟨fun _ => ⟨h22.at_ 2 rfl, trivial⟩, ?_⟩
  refine pR_v 16 (some 50) (pt p 4) 131071 rfl hs18 ⟨h22.at_ 2 rfl, trivial⟩ (fun W hW => eIa 31 (.tmp 49) (.tmp 35) .i64 p 4 0 2 22 4) ?_
  refine pR_to 17 none 262143 rfl hs18 (xSt h22 3 22 (.tmp 50) (.tmp 47) 4 (lV A22 ((T.sd0 ++ [z.body]).length) c22) ([(pt e.tb 0), (pt e.sa 0), (pt e.sb 0), (lV e.wA T.wire.length e.wc), (lV A22 ((T.sd0 ++ [z.body]).length) c22), (lV e.A1 T.sd1.length e.c1), (lV e.A2 T.cm0.length e.c2), (lV e.A3 T.cm1.length e.c3), (iV .i64 ((T.k0 : Int))), (iV .i64 ((T.k1 : Int)))])) ?_
  rintro _ w23 h23
  refine ⟨fun _ => ⟨h23.at_ 2 rfl, trivial⟩, ?_⟩
  refine pR_done hs18 ?_ _
  refine seq_n hK15 (wp_seq_k fun K24 hK24 => reg_lit ?_)
  refine wq_p 3 [(53, (iV .i64 ((T.a.queue.length : Int)))), (52, (bV true)), (51, (iV .i64 0))] (wq_v (some 54) (.bool true) (eqI (bV (decide ((T.a.queue.length : Int) < 8))) (congrArg bV (by simp; omega))) (wq_p 10 [(4, (bV true)), (63, (bV true)), (62, (bV true)), (61, undef), (60, undef), (59, (bV true)), (58, (bV true)), (57, (iV .i64 0)), (56, (bV true)), (55, (bV true))] ?_))
  refine wl_end rfl (seq_n hK24 (wp_ret (blk_r (seq_r ?_))))
  refine post_1 rfl (by kernel_rfl) (rtm (bV true)) ?_
  have hx25 := h23.lext (hx14 _ (LExt.refl G w L)) 1 (v := (lV A20 z.body.length c20)) (b := z.body) rfl (fun _ hq => hq.2)
  have h25 := h23.freeze 0 rfl 1 (v := (lV A20 z.body.length c20)) (b := z.body) rfl (fun hb => OB.sb hb) (fun _ hq => hq.2)
  have hm25 : ((lV A20 z.body.length c20), z.body) ∈ (((lV A20 z.body.length c20), z.body) :: L14) := List.mem_cons_self
  have hs25 : ∀ p, p ∈ L14 -> p ∈ (((lV A20 z.body.length c20), z.body) :: L14) := fun p hp => List.mem_cons_of_mem _ hp
  generalize hL25 : ((lV A20 z.body.length c20), z.body) :: L14 = L25 at *
  have hq26 := h25.monoS 4 rfl (fun p hp => (hs25 _ hp))
  have hq27 := hq26.monoS 5 rfl (fun p hp => (hs25 _ (hs14 _ hp)))
  have h28 := (show Hp _ _ _ _ (lT p L25 (TEnv.mk e.tb e.sa e.sb e.F G14 e.Gb e.wA e.wc e.wx A22 c22 (e.x0 ++ [[(lV A20 z.body.length c20)]]) e.A1 e.c1 e.x1 e.A2 e.c2 e.x2 e.A3 e.c3 e.x3) { T with a := { T.a with queue := T.a.queue ++ [(1, z.body)] }, sd0 := T.sd0 ++ [z.body] } ++ []) from hq27.sel [2, 3, 4, 5, 6, 7, 8, 9, 10] [0] rfl rfl rfl).closeT ⟨(hT.w.mono (fun _ _ h => h.mono (fun p hp => (hs25 _ (hs14 _ hp))))), ((hT.x0.mono (fun _ _ h => h.mono (fun p hp => (hs25 _ (hs14 _ hp))))).push ⟨A20, c20, rfl, hm25⟩), (hT.x1.mono (fun _ _ h => h.mono (fun p hp => (hs25 _ (hs14 _ hp))))), (hT.x2.mono (fun _ _ h => h.mono (fun p hp => (hs25 _ (hs14 _ hp))))), (hT.x3.mono (fun _ _ h => h.mono (fun p hp => (hs25 _ (hs14 _ hp))))), (hs25 _ (hs14 _ hT.nil))⟩
  obtain ⟨W1, hT1, _, hC1⟩ := hI.push (c := z.body) hq (by have := hC.room hI (by omega); omega) (by omega)
  exact ⟨rfl, _, _, _, W1, Wb, hT1, hC1 hC, hx25, h28⟩
 ·
  refine pR_op 8 (some 42) 51071 rfl (x_bs0B h18 (by kernel_rfl)) ?_
  rintro _ w29 ⟨A29, rfl, h29⟩
  refine ⟨fun _ => ⟨h29.at_ 1 rfl, trivial⟩, ?_⟩
  refine pR_or 7 11 hs18 ?_ ?_
  ·
   refine pR_op 7 (some 41) 51199 rfl (OpTo.run (lV e.A0 T.sd0.length e.c0) (eL (h29.at_ 2 rfl) 22 (.tmp 40) 4 (lV e.A0 T.sd0.length e.c0)) (R := fun v w => v = (lV e.A0 T.sd0.length e.c0) /\ w29 = w) ⟨rfl, rfl⟩) ?_
   rintro _ _ ⟨rfl, rfl⟩
   refine ⟨fun _ => ⟨h29.at_ 1 rfl, trivial⟩, ?_⟩
   refine pR_to 11 (some 45) 53247 rfl hs18 (x_appG h29 0 rfl (.tmp 42) (.tmp 44) (by kernel_rfl) (lV A z.body.length c) (by kernel_rfl) (by kernel_rfl) (h29.rd 1 rfl) (by simp; omega) (z.body) (z.body.length) rfl rfl) ?_
   rintro _ w30 ⟨A30, c30, rfl, h30⟩
   refine ⟨fun _ => ⟨h30.at_ 1 rfl, trivial⟩, ?_⟩
   refine pR_to 12 (some 46) 57343 rfl hs18 (x_bs h30 26 ([(lV A30 z.body.length c30)]) 1 (by kernel_rfl)) ?_
   rintro _ w31 ⟨g31, rfl, h31⟩
   refine ⟨fun _ => ⟨h31.at_ 2 rfl, trivial⟩, ?_⟩
   refine pR_to 13 (some 47) 65535 rfl hs18 (xPu h31 8 0 rfl rfl (.tmp 41) (.tmp 46) 22 24 (lV none 0 0) (by omega) (by unfold maxLen; omega) (e.x0 ++ [[(lV A30 z.body.length c30)]]) ((T.sd0 ++ [z.body]).length) (hyn := (by rw [List.length_append, List.length_append, hT.x0.1]; rfl))) ?_
   rintro _ w32 ⟨A32, c32, rfl, h32⟩
   refine ⟨fun _ => ⟨h32.at_ 2 rfl, trivial⟩, ?_⟩
   refine pR_v 16 (some 50) (pt p 4) 131071 rfl hs18 ⟨h32.at_ 2 rfl, trivial⟩ (fun W hW => eIa 31 (.tmp 49) (.tmp 35) .i64 p 4 0 2 22 4) ?_
   refine pR_to 17 none 262143 rfl hs18 (xSt h32 3 22 (.tmp 50) (.tmp 47) 4 (lV A32 ((T.sd0 ++ [z.body]).length) c32) ([(pt e.tb 0), (pt e.sa 0), (pt e.sb 0), (lV e.wA T.wire.length e.wc), (lV A32 ((T.sd0 ++ [z.body]).length) c32), (lV e.A1 T.sd1.length e.c1), (lV e.A2 T.cm0.length e.c2), (lV e.A3 T.cm1.length e.c3), (iV .i64 ((T.k0 : Int))), (iV .i64 ((T.k1 : Int)))])) ?_
   rintro _ w33 h33
   refine ⟨fun _ => ⟨h33.at_ 2 rfl, trivial⟩, ?_⟩
   refine pR_done hs18 ?_ _
   refine seq_n hK15 (wp_seq_k fun K34 hK34 => reg_lit ?_)
   refine wq_p 3 [(53, (iV .i64 ((T.a.queue.length : Int)))), (52, (bV true)), (51, (iV .i64 0))] (wq_v (some 54) (.bool true) (eqI (bV (decide ((T.a.queue.length : Int) < 8))) (congrArg bV (by simp; omega))) (wq_p 10 [(4, (bV true)), (63, (bV true)), (62, (bV true)), (61, undef), (60, undef), (59, (bV true)), (58, (bV true)), (57, (iV .i64 0)), (56, (bV true)), (55, (bV true))] ?_))
   refine wl_end rfl (seq_n hK34 (wp_ret (blk_r (seq_r ?_))))
   refine post_1 rfl (by kernel_rfl) (rtm (bV true)) ?_
   have hx35 := h33.lext (hx14 _ (LExt.refl G w L)) 1 (v := (lV A30 z.body.length c30)) (b := z.body) rfl (fun _ hq => hq.2)
   have h35 := h33.freeze 0 rfl 1 (v := (lV A30 z.body.length c30)) (b := z.body) rfl (fun hb => OB.sb hb) (fun _ hq => hq.2)
   have hm35 : ((lV A30 z.body.length c30), z.body) ∈ (((lV A30 z.body.length c30), z.body) :: L14) := List.mem_cons_self
   have hs35 : ∀ p, p ∈ L14 -> p ∈ (((lV A30 z.body.length c30), z.body) :: L14) := fun p hp => List.mem_cons_of_mem _ hp
   generalize hL35 : ((lV A30 z.body.length c30), z.body) :: L14 = L35 at *
   have hq36 := h35.monoS 4 rfl (fun p hp => (hs35 _ hp))
   have hq37 := hq36.monoS 5 rfl (fun p hp => (hs35 _ (hs14 _ hp)))
   have h38 := (show Hp _ _ _ _ (lT p L35 (TEnv.mk e.tb e.sa e.sb e.F G14 e.Gb e.wA e.wc e.wx A32 c32 (e.x0 ++ [[(lV A30 z.body.length c30)]]) e.A1 e.c1 e.x1 e.A2 e.c2 e.x2 e.A3 e.c3 e.x3) { T with a := { T.a with queue := T.a.queue ++ [(1, z.body)] }, sd0 := T.sd0 ++ [z.body] } ++ []) from hq37.sel [2, 3, 4, 5, 6, 7, 8, 9, 10] [0] rfl rfl rfl).closeT ⟨(hT.w.mono (fun _ _ h => h.mono (fun p hp => (hs35 _ (hs14 _ hp))))), ((hT.x0.mono (fun _ _ h => h.mono (fun p hp => (hs35 _ (hs14 _ hp))))).push ⟨A30, c30, rfl, hm35⟩), (hT.x1.mono (fun _ _ h => h.mono (fun p hp => (hs35 _ (hs14 _ hp))))), (hT.x2.mono (fun _ _ h => h.mono (fun p hp => (hs35 _ (hs14 _ hp))))), (hT.x3.mono (fun _ _ h => h.mono (fun p hp => (hs35 _ (hs14 _ hp))))), (hs35 _ (hs14 _ hT.nil))⟩
   obtain ⟨W1, hT1, _, hC1⟩ := hI.push (c := z.body) hq (by have := hC.room hI (by omega); omega) (by omega)
   exact ⟨rfl, _, _, _, W1, Wb, hT1, hC1 hC, hx35, h38⟩
  ·
   refine pR_op 11 (some 45) 53119 rfl (x_appG h29 0 rfl (.tmp 42) (.tmp 44) (by kernel_rfl) (lV A z.body.length c) (by kernel_rfl) (by kernel_rfl) (h29.rd 1 rfl) (by simp; omega) (z.body) (z.body.length) rfl rfl) ?_
   rintro _ w39 ⟨A39, c39, rfl, h39⟩
   refine ⟨fun _ => ⟨h39.at_ 1 rfl, trivial⟩, ?_⟩
   refine pR_or 7 12 hs18 ?_ ?_
   ·
    refine pR_op 7 (some 41) 53247 rfl (OpTo.run (lV e.A0 T.sd0.length e.c0) (eL (h39.at_ 2 rfl) 22 (.tmp 40) 4 (lV e.A0 T.sd0.length e.c0)) (R := fun v w => v = (lV e.A0 T.sd0.length e.c0) /\ w39 = w) ⟨rfl, rfl⟩) ?_
    rintro _ _ ⟨rfl, rfl⟩
    refine ⟨fun _ => ⟨h39.at_ 1 rfl, trivial⟩, ?_⟩
    refine pR_to 12 (some 46) 57343 rfl hs18 (x_bs h39 26 ([(lV A39 z.body.length c39)]) 1 (by kernel_rfl)) ?_
    rintro _ w40 ⟨g40, rfl, h40⟩
    refine ⟨fun _ => ⟨h40.at_ 2 rfl, trivial⟩, ?_⟩
    refine pR_to 13 (some 47) 65535 rfl hs18 (xPu h40 8 0 rfl rfl (.tmp 41) (.tmp 46) 22 24 (lV none 0 0) (by omega) (by unfold maxLen; omega) (e.x0 ++ [[(lV A39 z.body.length c39)]]) ((T.sd0 ++ [z.body]).length) (hyn := (by rw [List.length_append, List.length_append, hT.x0.1]; rfl))) ?_
    rintro _ w41 ⟨A41, c41, rfl, h41⟩
    refine ⟨fun _ => ⟨h41.at_ 2 rfl, trivial⟩, ?_⟩
    refine pR_v 16 (some 50) (pt p 4) 131071 rfl hs18 ⟨h41.at_ 2 rfl, trivial⟩ (fun W hW => eIa 31 (.tmp 49) (.tmp 35) .i64 p 4 0 2 22 4) ?_
    refine pR_to 17 none 262143 rfl hs18 (xSt h41 3 22 (.tmp 50) (.tmp 47) 4 (lV A41 ((T.sd0 ++ [z.body]).length) c41) ([(pt e.tb 0), (pt e.sa 0), (pt e.sb 0), (lV e.wA T.wire.length e.wc), (lV A41 ((T.sd0 ++ [z.body]).length) c41), (lV e.A1 T.sd1.length e.c1), (lV e.A2 T.cm0.length e.c2), (lV e.A3 T.cm1.length e.c3), (iV .i64 ((T.k0 : Int))), (iV .i64 ((T.k1 : Int)))])) ?_
    rintro _ w42 h42
    refine ⟨fun _ => ⟨h42.at_ 2 rfl, trivial⟩, ?_⟩
    refine pR_done hs18 ?_ _
    refine seq_n hK15 (wp_seq_k fun K43 hK43 => reg_lit ?_)
    refine wq_p 3 [(53, (iV .i64 ((T.a.queue.length : Int)))), (52, (bV true)), (51, (iV .i64 0))] (wq_v (some 54) (.bool true) (eqI (bV (decide ((T.a.queue.length : Int) < 8))) (congrArg bV (by simp; omega))) (wq_p 10 [(4, (bV true)), (63, (bV true)), (62, (bV true)), (61, undef), (60, undef), (59, (bV true)), (58, (bV true)), (57, (iV .i64 0)), (56, (bV true)), (55, (bV true))] ?_))
    refine wl_end rfl (seq_n hK43 (wp_ret (blk_r (seq_r ?_))))
    refine post_1 rfl (by kernel_rfl) (rtm (bV true)) ?_
    have hx44 := h42.lext (hx14 _ (LExt.refl G w L)) 1 (v := (lV A39 z.body.length c39)) (b := z.body) rfl (fun _ hq => hq.2)
    have h44 := h42.freeze 0 rfl 1 (v := (lV A39 z.body.length c39)) (b := z.body) rfl (fun hb => OB.sb hb) (fun _ hq => hq.2)
    have hm44 : ((lV A39 z.body.length c39), z.body) ∈ (((lV A39 z.body.length c39), z.body) :: L14) := List.mem_cons_self
    have hs44 : ∀ p, p ∈ L14 -> p ∈ (((lV A39 z.body.length c39), z.body) :: L14) := fun p hp => List.mem_cons_of_mem _ hp
    generalize hL44 : ((lV A39 z.body.length c39), z.body) :: L14 = L44 at *
    have hq45 := h44.monoS 4 rfl (fun p hp => (hs44 _ hp))
    have hq46 := hq45.monoS 5 rfl (fun p hp => (hs44 _ (hs14 _ hp)))
    have h47 := (show Hp _ _ _ _ (lT p L44 (TEnv.mk e.tb e.sa e.sb e.F G14 e.Gb e.wA e.wc e.wx A41 c41 (e.x0 ++ [[(lV A39 z.body.length c39)]]) e.A1 e.c1 e.x1 e.A2 e.c2 e.x2 e.A3 e.c3 e.x3) { T with a := { T.a with queue := T.a.queue ++ [(1, z.body)] }, sd0 := T.sd0 ++ [z.body] } ++ []) from hq46.sel [2, 3, 4, 5, 6, 7, 8, 9, 10] [0] rfl rfl rfl).closeT ⟨(hT.w.mono (fun _ _ h => h.mono (fun p hp => (hs44 _ (hs14 _ hp))))), ((hT.x0.mono (fun _ _ h => h.mono (fun p hp => (hs44 _ (hs14 _ hp))))).push ⟨A39, c39, rfl, hm44⟩), (hT.x1.mono (fun _ _ h => h.mono (fun p hp => (hs44 _ (hs14 _ hp))))), (hT.x2.mono (fun _ _ h => h.mono (fun p hp => (hs44 _ (hs14 _ hp))))), (hT.x3.mono (fun _ _ h => h.mono (fun p hp => (hs44 _ (hs14 _ hp))))), (hs44 _ (hs14 _ hT.nil))⟩
    obtain ⟨W1, hT1, _, hC1⟩ := hI.push (c := z.body) hq (by have := hC.room hI (by omega); omega) (by omega)
    exact ⟨rfl, _, _, _, W1, Wb, hT1, hC1 hC, hx44, h47⟩
   ·
    refine pR_op 12 (some 46) 57215 rfl (x_bs h39 26 ([(lV A39 z.body.length c39)]) 1 (by kernel_rfl)) ?_
    rintro _ w48 ⟨g48, rfl, h48⟩
    refine ⟨fun _ => ⟨h48.at_ 2 rfl, trivial⟩, ?_⟩
    refine pR_to 7 (some 41) 57343 rfl hs18 (OpTo.run (lV e.A0 T.sd0.length e.c0) (eL (h48.at_ 3 rfl) 22 (.tmp 40) 4 (lV e.A0 T.sd0.length e.c0)) (R := fun v w => v = (lV e.A0 T.sd0.length e.c0) /\ w48 = w) ⟨rfl, rfl⟩) ?_
    rintro _ _ ⟨rfl, rfl⟩
    refine ⟨fun _ => ⟨h48.at_ 2 rfl, trivial⟩, ?_⟩
    refine pR_to 13 (some 47) 65535 rfl hs18 (xPu h48 8 0 rfl rfl (.tmp 41) (.tmp 46) 22 24 (lV none 0 0) (by omega) (by unfold maxLen; omega) (e.x0 ++ [[(lV A39 z.body.length c39)]]) ((T.sd0 ++ [z.body]).length) (hyn := (by rw [List.length_append, List.length_append, hT.x0.1]; rfl))) ?_
    rintro _ w49 ⟨A49, c49, rfl, h49⟩
    refine ⟨fun _ => ⟨h49.at_ 2 rfl, trivial⟩, ?_⟩
    refine pR_v 16 (some 50) (pt p 4) 131071 rfl hs18 ⟨h49.at_ 2 rfl, trivial⟩ (fun W hW => eIa 31 (.tmp 49) (.tmp 35) .i64 p 4 0 2 22 4) ?_
    refine pR_to 17 none 262143 rfl hs18 (xSt h49 3 22 (.tmp 50) (.tmp 47) 4 (lV A49 ((T.sd0 ++ [z.body]).length) c49) ([(pt e.tb 0), (pt e.sa 0), (pt e.sb 0), (lV e.wA T.wire.length e.wc), (lV A49 ((T.sd0 ++ [z.body]).length) c49), (lV e.A1 T.sd1.length e.c1), (lV e.A2 T.cm0.length e.c2), (lV e.A3 T.cm1.length e.c3), (iV .i64 ((T.k0 : Int))), (iV .i64 ((T.k1 : Int)))])) ?_
    rintro _ w50 h50
    refine ⟨fun _ => ⟨h50.at_ 2 rfl, trivial⟩, ?_⟩
    refine pR_done hs18 ?_ _
    refine seq_n hK15 (wp_seq_k fun K51 hK51 => reg_lit ?_)
    refine wq_p 3 [(53, (iV .i64 ((T.a.queue.length : Int)))), (52, (bV true)), (51, (iV .i64 0))] (wq_v (some 54) (.bool true) (eqI (bV (decide ((T.a.queue.length : Int) < 8))) (congrArg bV (by simp; omega))) (wq_p 10 [(4, (bV true)), (63, (bV true)), (62, (bV true)), (61, undef), (60, undef), (59, (bV true)), (58, (bV true)), (57, (iV .i64 0)), (56, (bV true)), (55, (bV true))] ?_))
    refine wl_end rfl (seq_n hK51 (wp_ret (blk_r (seq_r ?_))))
    refine post_1 rfl (by kernel_rfl) (rtm (bV true)) ?_
    have hx52 := h50.lext (hx14 _ (LExt.refl G w L)) 1 (v := (lV A39 z.body.length c39)) (b := z.body) rfl (fun _ hq => hq.2)
    have h52 := h50.freeze 0 rfl 1 (v := (lV A39 z.body.length c39)) (b := z.body) rfl (fun hb => OB.sb hb) (fun _ hq => hq.2)
    have hm52 : ((lV A39 z.body.length c39), z.body) ∈ (((lV A39 z.body.length c39), z.body) :: L14) := List.mem_cons_self
    have hs52 : ∀ p, p ∈ L14 -> p ∈ (((lV A39 z.body.length c39), z.body) :: L14) := fun p hp => List.mem_cons_of_mem _ hp
    generalize hL52 : ((lV A39 z.body.length c39), z.body) :: L14 = L52 at *
    have hq53 := h52.monoS 4 rfl (fun p hp => (hs52 _ hp))
    have hq54 := hq53.monoS 5 rfl (fun p hp => (hs52 _ (hs14 _ hp)))
    have h55 := (show Hp _ _ _ _ (lT p L52 (TEnv.mk e.tb e.sa e.sb e.F G14 e.Gb e.wA e.wc e.wx A49 c49 (e.x0 ++ [[(lV A39 z.body.length c39)]]) e.A1 e.c1 e.x1 e.A2 e.c2 e.x2 e.A3 e.c3 e.x3) { T with a := { T.a with queue := T.a.queue ++ [(1, z.body)] }, sd0 := T.sd0 ++ [z.body] } ++ []) from hq54.sel [2, 3, 4, 5, 6, 7, 8, 9, 10] [0] rfl rfl rfl).closeT ⟨(hT.w.mono (fun _ _ h => h.mono (fun p hp => (hs52 _ (hs14 _ hp))))), ((hT.x0.mono (fun _ _ h => h.mono (fun p hp => (hs52 _ (hs14 _ hp))))).push ⟨A39, c39, rfl, hm52⟩), (hT.x1.mono (fun _ _ h => h.mono (fun p hp => (hs52 _ (hs14 _ hp))))), (hT.x2.mono (fun _ _ h => h.mono (fun p hp => (hs52 _ (hs14 _ hp))))), (hT.x3.mono (fun _ _ h => h.mono (fun p hp => (hs52 _ (hs14 _ hp))))), (hs52 _ (hs14 _ hT.nil))⟩
    obtain ⟨W1, hT1, _, hC1⟩ := hI.push (c := z.body) hq (by have := hC.room hI (by omega); omega) (by omega)
    exact ⟨rfl, _, _, _, W1, Wb, hT1, hC1 hC, hx52, h55⟩
theorem tStep_push0f {G : Nat -> Prop} {p : Nat} {L : List (Value × Bytes)} {T : Tk} {n : Nat} {Wa Wb : Way} {w : World} (hI : TI sAnn sBob n T Wa Wb) (hC : Cnt n T Wa Wb) (_hn : n < 200) (hv : (rT G p L T).Φ w) (hL : (rF L).Φ w) (hd : (rF L).dj (rT G p L T)) (z : Stp) (hz : z.body.length <= 40) (A : Option Addr) (c : Nat) (hm : (lV A z.body.length c, z.body) ∈ L) (hk : z.kind = 0) (hq : T.a.queue.length = 8) : Calls Try.prog 15 #[pt p 0, .agg #[.int .i64 z.kind, .int .i64 z.at_, .int .i64 z.turn, .slice A z.body.length c]] w (StepPost n G p w L) := by
 have h00 := Hp.oneT hv hL hd
 obtain ⟨e, hT, h01⟩ := h00.openT 0 rfl
 have h02 := h01.roF 0 rfl hm
 have hsa := hI.small
 have hsb := hI.swap.small
 have hxw := hT.w.1
 have hx0 := hT.x0.1
 have hx1 := hT.x1.1
 have hx2 := hT.x2.1
 have hx3 := hT.x3.1
 have hwl := hI.wl
 have hdl := hI.rows
 have hks := hI.ks
 have hbs := hI.bs
 have hqa := hsa.q8
 have hqb := hsb.q8
 obtain ⟨hd0, hd1, hd2, hd3⟩ := hdl
 rw [hk]
 have h0 := h02
 refine enter 182 Try.func15 rfl rfl ?_
 refine wp_reset 184 [(0, (pt p 0)), (1, (aV ([(iV .i64 0), (iV .i64 z.at_), (iV .i64 z.turn), (lV A z.body.length c)]).toArray))] (fun x0 => ?_)
 refine wp_seq_k fun K1 hK1 => reg_lit ?_
 refine wq_to (some 3) (xN h0 50 ([(iV .i64 0), (iV .i64 z.at_), (iV .i64 z.turn), (lV A z.body.length c)])) ?_
 rintro _ w2 ⟨g2, rfl, h2⟩
 refine wq_p 1 [(4, (bV false))] ?_
 refine wl_end rfl (seq_n hK1 (wp_seq_k fun K3 hK3 => reg_lit ?_))
 refine wq_p 1 [(14, (pt g2 0))] (wq_v (some 15) (iV .i64 0) (eL (h2.at_ 0 rfl) 3 (.tmp 14) 0 _) (wq_v (some 16) (iV .i64 0) (eqI (iV .i64 (bits .and .i64 0 1)) (congrArg (iV .i64) (by kernel_rfl))) (wq_p 1 [(5, (iV .i64 0))] ?_)))
 refine wl_end rfl (seq_n hK3 (wp_seq_k fun K4 hK4 => wp_seq_k fun K5 hK5 => reg_lit ?_))
 refine wq_p 1 [(17, (pt g2 0))] (wq_v (some 18) (iV .i64 0) (eL (h2.at_ 0 rfl) 3 (.tmp 17) 0 _) ?_)
 refine wl_end rfl (seq_n hK5 (wp_block (wp_seq_k fun K6 hK6 => wp_seq_k fun K7 hK7 => reg_lit ?_)))
 refine wq_p 2 [(19, (bV true)), (20, (bV true))] ?_
 refine wl_end rfl (seq_n hK7 (cT (wp_skip (seq_n hK6 (cT (wp_seq_k fun K8 hK8 => reg_lit ?_))))))
 refine wq_p 2 [(23, (iV .i64 0)), (22, (pt p 0))] ?_
 refine wq_to (some 24) (x_dp h2 18 [(pt p 0), (iV .i64 0)] (by kernel_rfl) (tEnd_0 (h2.at_ 1 rfl))) ?_
 rintro _ w9 ⟨rfl, h9⟩
 refine wq_to (some 25) (x_dp h9 10 [(pt e.sa 0)] (by kernel_rfl) (waits_any (h9.at_ 3 rfl))) ?_
 rintro _ w10 ⟨rfl, h10⟩
 refine wq_p 1 [(6, (iV .i64 ((T.a.queue.length : Int))))] ?_
 refine wl_end rfl (seq_n hK8 (wp_seq_k fun K11 hK11 => ?_))
 refine pR_go h10 6 (fun W => (rBlk g2 50 ([(iV .i64 0), (iV .i64 z.at_), (iV .i64 z.turn), (lV A z.body.length c)])).Φ W /\ True) [(27, [0], 0), (28, [5], 0), (29, [26, 27], 3), (30, [3], 0), (31, [29], 8), (32, [28, 30], 20), (8, [31], 63)] rfl (fun _ d _ _ _ h => by cases d <;> exact h) ?_
 intro hs12 w12 h12
 refine pR_p 4 [0, 1, 3] [(29, (pt g2 3)), (27, (iV .i64 0)), (26, (pt p 0))] 11 hs12 ⟨h12.at_ 0 rfl, trivial⟩ ?_
 refine pR_v 4 (some 30) (lV A z.body.length c) 27 rfl hs12 ⟨h12.at_ 0 rfl, trivial⟩ (fun W hW => eL hW.1 26 (.tmp 29) 3 _) ?_
 refine pR_to 2 (some 28) 31 rfl hs12 (x_dp h12 18 [(pt p 0), (iV .i64 0)] (by kernel_rfl) (tEnd_0 (h12.at_ 1 rfl))) ?_
 rintro _ w13 ⟨rfl, h13⟩
 refine ⟨fun _ => ⟨h13.at_ 0 rfl, trivial⟩, ?_⟩
 refine pR_to 5 (some 31) 63 rfl hs12 (x_ses h13 3 rfl 1 rfl 9 [(pt e.sa 0), (lV A z.body.length c)] (by kernel_rfl) (sPush_full (h13.at_ 3 rfl) (h13.rd 1 rfl) (h13.rdis 1 3 _ _ rfl rfl) z.body A c (h13.rd 0 rfl) (h13.rdis 0 3 _ _ rfl rfl) (by omega) hI.inv.ab.ov hq)) ?_
 rintro _ w14 ⟨G14, L14, rfl, hs14, hx14, h14⟩
 refine ⟨fun _ => ⟨h14.at_ 0 rfl, trivial⟩, ?_⟩
 refine pR_to 6 (some 7) 127 rfl hs12 (OpTo.run (iV .i64 8) (pureOp_run (by kernel_rfl) _) (R := fun v w => v = (iV .i64 8) /\ w14 = w) ⟨rfl, rfl⟩) ?_
 rintro _ _ ⟨rfl, rfl⟩
 refine ⟨fun h => absurd h (by decide), ?_⟩
 refine pR_done hs12 ?_ _
 refine seq_n hK11 (wp_seq_k fun K15 hK15 => wp_seq_k fun K16 hK16 => ?_)
 refine wp_reset 184 [(0, (pt p 0)), (1, (aV ([(iV .i64 0), (iV .i64 z.at_), (iV .i64 z.turn), (lV A z.body.length c)]).toArray)), (3, (pt g2 0)), (4, (bV false)), (5, (iV .i64 0)), (6, (iV .i64 ((T.a.queue.length : Int)))), (7, (iV .i64 8)), (18, (iV .i64 0)), (19, (bV true))] (fun x17 => ?_)
 refine reg_lit ?_
 refine wq_p 2 [(33, (bV false)), (32, (iV .i64 8))] ?_
 refine wl_end rfl (seq_n hK16 (cF (wp_skip (seq_n hK15 (wp_seq_k fun K18 hK18 => reg_lit ?_)))))
 refine wq_p 3 [(53, (iV .i64 ((T.a.queue.length : Int)))), (52, (bV false)), (51, (iV .i64 8))] (wq_v (some 54) (.bool false) (eqI (bV (decide ((T.a.queue.length : Int) < 8))) (congrArg bV (by simp; omega))) (wq_p 10 [(4, (bV true)), (63, (bV true)), (62, (bV true)), (61, (bV true)), (60, (iV .i64 8)), (59, (bV false)), (58, (bV false)), (57, (iV .i64 8)), (56, (bV true)), (55, (bV true))] ?_))
 refine wl_end rfl (seq_n hK18 (wp_ret (blk_r (seq_r ?_))))
 refine post_1 rfl (by kernel_rfl) (rtm (bV true)) ?_
 have hq19 := h14.monoS 4 rfl (fun p hp => (hs14 _ hp))
 have h20 := (show Hp _ _ _ _ (lT p L14 (TEnv.mk e.tb e.sa e.sb e.F G14 e.Gb e.wA e.wc e.wx e.A0 e.c0 e.x0 e.A1 e.c1 e.x1 e.A2 e.c2 e.x2 e.A3 e.c3 e.x3) T ++ []) from hq19.sel [1, 2, 3, 4, 5, 6, 7, 8, 9] [0] rfl rfl rfl).closeT ⟨(hT.w.mono (fun _ _ h => h.mono (fun p hp => (hs14 _ hp)))), (hT.x0.mono (fun _ _ h => h.mono (fun p hp => (hs14 _ hp)))), (hT.x1.mono (fun _ _ h => h.mono (fun p hp => (hs14 _ hp)))), (hT.x2.mono (fun _ _ h => h.mono (fun p hp => (hs14 _ hp)))), (hT.x3.mono (fun _ _ h => h.mono (fun p hp => (hs14 _ hp)))), (hs14 _ hT.nil)⟩
 exact ⟨rfl, _, _, T, Wa, Wb, hI.idle, hC.idle, (hx14 _ (LExt.refl G w L)), h20⟩
theorem tStep_push1 {G : Nat -> Prop} {p : Nat} {L : List (Value × Bytes)} {T : Tk} {n : Nat} {Wa Wb : Way} {w : World} (hI : TI sAnn sBob n T Wa Wb) (hC : Cnt n T Wa Wb) (hn : n < 200) (hv : (rT G p L T).Φ w) (hL : (rF L).Φ w) (hd : (rF L).dj (rT G p L T)) (z : Stp) (hz : z.body.length <= 40) (A : Option Addr) (c : Nat) (hm : (lV A z.body.length c, z.body) ∈ L) (hk : z.kind = 1) (hq : T.b.queue.length < 8) : Calls Try.prog 15 #[pt p 0, .agg #[.int .i64 z.kind, .int .i64 z.at_, .int .i64 z.turn, .slice A z.body.length c]] w (StepPost n G p w L) := by
 have h00 := Hp.oneT hv hL hd
 obtain ⟨e, hT, h01⟩ := h00.openT 0 rfl
 have h02 := h01.roF 0 rfl hm
 have hsa := hI.small
 have hsb := hI.swap.small
 have hxw := hT.w.1
 have hx0 := hT.x0.1
 have hx1 := hT.x1.1
 have hx2 := hT.x2.1
 have hx3 := hT.x3.1
 have hwl := hI.wl
 have hdl := hI.rows
 have hks := hI.ks
 have hbs := hI.bs
 have hqa := hsa.q8
 have hqb := hsb.q8
 obtain ⟨hd0, hd1, hd2, hd3⟩ := hdl
 rw [hk]
 have h0 := h02
 refine enter 182 Try.func15 rfl rfl ?_
 refine wp_reset 184 [(0, (pt p 0)), (1, (aV ([(iV .i64 1), (iV .i64 z.at_), (iV .i64 z.turn), (lV A z.body.length c)]).toArray))] (fun x0 => ?_)
 refine wp_seq_k fun K1 hK1 => reg_lit ?_
 refine wq_to (some 3) (xN h0 50 ([(iV .i64 1), (iV .i64 z.at_), (iV .i64 z.turn), (lV A z.body.length c)])) ?_
 rintro _ w2 ⟨g2, rfl, h2⟩
 refine wq_p 1 [(4, (bV false))] ?_
 refine wl_end rfl (seq_n hK1 (wp_seq_k fun K3 hK3 => reg_lit ?_))
 refine wq_p 1 [(14, (pt g2 0))] (wq_v (some 15) (iV .i64 1) (eL (h2.at_ 0 rfl) 3 (.tmp 14) 0 _) (wq_v (some 16) (iV .i64 1) (eqI (iV .i64 (bits .and .i64 1 1)) (congrArg (iV .i64) (by kernel_rfl))) (wq_p 1 [(5, (iV .i64 1))] ?_)))
 refine wl_end rfl (seq_n hK3 (wp_seq_k fun K4 hK4 => wp_seq_k fun K5 hK5 => reg_lit ?_))
 refine wq_p 1 [(17, (pt g2 0))] (wq_v (some 18) (iV .i64 1) (eL (h2.at_ 0 rfl) 3 (.tmp 17) 0 _) ?_)
 refine wl_end rfl (seq_n hK5 (wp_block (wp_seq_k fun K6 hK6 => wp_seq_k fun K7 hK7 => reg_lit ?_)))
 refine wq_p 2 [(19, (bV false)), (20, (bV false))] ?_
 refine wl_end rfl (seq_n hK7 (cF (reg_lit ?_)))
 refine wq_p 2 [(19, (bV true)), (21, (bV true))] ?_
 refine wl_end rfl (seq_n hK6 (cT (wp_seq_k fun K8 hK8 => reg_lit ?_)))
 refine wq_p 2 [(23, (iV .i64 1)), (22, (pt p 0))] ?_
 refine wq_to (some 24) (x_dp h2 18 [(pt p 0), (iV .i64 1)] (by kernel_rfl) (tEnd_1 (h2.at_ 1 rfl))) ?_
 rintro _ w9 ⟨rfl, h9⟩
 refine wq_to (some 25) (x_dp h9 10 [(pt e.sb 0)] (by kernel_rfl) (waits_any (h9.at_ 4 rfl))) ?_
 rintro _ w10 ⟨rfl, h10⟩
 refine wq_p 1 [(6, (iV .i64 ((T.b.queue.length : Int))))] ?_
 refine wl_end rfl (seq_n hK8 (wp_seq_k fun K11 hK11 => ?_))
 refine pR_go h10 6 (fun W => (rBlk g2 50 ([(iV .i64 1), (iV .i64 z.at_), (iV .i64 z.turn), (lV A z.body.length c)])).Φ W /\ True) [(27, [0], 0), (28, [5], 0), (29, [26, 27], 3), (30, [3], 0), (31, [29], 8), (32, [28, 30], 20), (8, [31], 63)] rfl (fun _ d _ _ _ h => by cases d <;> exact h) ?_
 intro hs12 w12 h12
 refine pR_p 4 [0, 1, 3] [(29, (pt g2 3)), (27, (iV .i64 1)), (26, (pt p 0))] 11 hs12 ⟨h12.at_ 0 rfl, trivial⟩ ?_
 refine pR_v 4 (some 30) (lV A z.body.length c) 27 rfl hs12 ⟨h12.at_ 0 rfl, trivial⟩ (fun W hW => eL hW.1 26 (.tmp 29) 3 _) ?_
 refine pR_to 2 (some 28) 31 rfl hs12 (x_dp h12 18 [(pt p 0), (iV .i64 1)] (by kernel_rfl) (tEnd_1 (h12.at_ 1 rfl))) ?_
 rintro _ w13 ⟨rfl, h13⟩
 refine ⟨fun _ => ⟨h13.at_ 0 rfl, trivial⟩, ?_⟩
 refine pR_to 5 (some 31) 63 rfl hs12 (x_ses h13 4 rfl 1 rfl 9 [(pt e.sb 0), (lV A z.body.length c)] (by kernel_rfl) (sPush_ok (h13.at_ 4 rfl) (h13.rd 1 rfl) (h13.rdis 1 4 _ _ rfl rfl) z.body A c (h13.rd 0 rfl) (h13.rdis 0 4 _ _ rfl rfl) (by omega) hI.inv.ba.ov hq)) ?_
 rintro _ w14 ⟨G14, L14, rfl, hs14, hx14, h14⟩
 refine ⟨fun _ => ⟨h14.at_ 0 rfl, trivial⟩, ?_⟩
 refine pR_to 6 (some 7) 127 rfl hs12 (OpTo.run (iV .i64 0) (pureOp_run (by kernel_rfl) _) (R := fun v w => v = (iV .i64 0) /\ w14 = w) ⟨rfl, rfl⟩) ?_
 rintro _ _ ⟨rfl, rfl⟩
 refine ⟨fun h => absurd h (by decide), ?_⟩
 refine pR_done hs12 ?_ _
 refine seq_n hK11 (wp_seq_k fun K15 hK15 => wp_seq_k fun K16 hK16 => ?_)
 refine wp_reset 184 [(0, (pt p 0)), (1, (aV ([(iV .i64 1), (iV .i64 z.at_), (iV .i64 z.turn), (lV A z.body.length c)]).toArray)), (3, (pt g2 0)), (4, (bV false)), (5, (iV .i64 1)), (6, (iV .i64 ((T.b.queue.length : Int)))), (7, (iV .i64 0)), (18, (iV .i64 1)), (19, (bV true))] (fun x17 => ?_)
 refine reg_lit ?_
 refine wq_p 2 [(33, (bV true)), (32, (iV .i64 0))] ?_
 refine wl_end rfl (seq_n hK16 (cT ?_))
 refine pR_go h14 18 (fun W => (rBlk g2 50 ([(iV .i64 1), (iV .i64 z.at_), (iV .i64 z.turn), (lV A z.body.length c)])).Φ W /\ True) [(35, [0], 0), (36, [5], 0), (37, [0], 0), (38, [5], 0), (39, [36], 4), (40, [38], 16), (41, [39, 37], 40), (42, [40], 64), (43, [], 0), (44, [3], 0), (45, [43], 512), (46, [42, 44], 1280), (47, [45], 2048), (48, [41, 46], 6272), (49, [34], 1), (50, [48], 16384), (51, [49, 35], 49151), (0, [50, 47], 81919)] rfl (fun _ d _ _ _ h => by cases d <;> exact h) ?_
 intro hs18 w18 h18
 refine pR_p 9 [0, 1, 2, 3, 4, 5, 9, 14, 15] [(49, (pt p 4)), (48, (pt p 0)), (43, (pt g2 3)), (39, (pt p 4)), (38, (pt p 0)), (37, (iV .i64 1)), (36, (pt p 0)), (35, (iV .i64 1)), (34, (pt p 0))] 49727 hs18 ⟨h18.at_ 0 rfl, trivial⟩ ?_
 refine pR_v 6 (some 40) (pt p 5) 49791 rfl hs18 ⟨h18.at_ 0 rfl, trivial⟩ (fun W hW => eIa 31 (.tmp 39) (.tmp 37) .i64 p 4 1 2 22 5) ?_
 refine pR_v 10 (some 44) (lV A z.body.length c) 50815 rfl hs18 ⟨h18.at_ 0 rfl, trivial⟩ (fun W hW => eL hW.1 26 (.tmp 43) 3 _) ?_
 refine pR_or 7 8 hs18 ?_ ?_
 ·
  refine pR_op 7 (some 41) 50943 rfl (OpTo.run (lV e.A1 T.sd1.length e.c1) (eL (h18.at_ 1 rfl) 22 (.tmp 40) 5 (lV e.A1 T.sd1.length e.c1)) (R := fun v w => v = (lV e.A1 T.sd1.length e.c1) /\ w18 = w) ⟨rfl, rfl⟩) ?_
  rintro _ _ ⟨rfl, rfl⟩
  refine ⟨fun _ => ⟨h18.at_ 0 rfl, trivial⟩, ?_⟩
  refine pR_to 8 (some 42) 51199 rfl hs18 (x_bs0B h18 (by kernel_rfl)) ?_
  rintro _ w19 ⟨A19, rfl, h19⟩
  refine ⟨fun _ => ⟨h19.at_ 1 rfl, trivial⟩, ?_⟩
  refine pR_to 11 (some 45) 53247 rfl hs18 (x_appG h19 0 rfl (.tmp 42) (.tmp 44) (by kernel_rfl) (lV A z.body.length c) (by kernel_rfl) (by kernel_rfl) (h19.rd 1 rfl) (by simp; omega) (z.body) (z.body.length) rfl rfl) ?_
  rintro _ w20 ⟨A20, c20, rfl, h20⟩
  refine ⟨fun _ => ⟨h20.at_ 1 rfl, trivial⟩, ?_⟩
  refine pR_to 12 (some 46) 57343 rfl hs18 (x_bs h20 26 ([(lV A20 z.body.length c20)]) 1 (by kernel_rfl)) ?_
  rintro _ w21 ⟨g21, rfl, h21⟩
  refine ⟨fun _ => ⟨h21.at_ 2 rfl, trivial⟩, ?_⟩
  refine pR_to 13 (some 47) 65535 rfl hs18 (xPu h21 9 0 rfl rfl (.tmp 41) (.tmp 46) 22 24 (lV none 0 0) (by omega) (by unfold maxLen; omega) (e.x1 ++ [[(lV A20 z.body.length c20)]]) ((T.sd1 ++ [z.body]).length) (hyn := (by rw [List.length_append, List.length_append, hT.x1.1]; rfl))) ?_
  rintro _ w22 ⟨A22, c22, rfl, h22⟩
  refine ⟨fun _ => ⟨h22.at_ 2 rfl, trivial⟩, ?_⟩
  refine pR_v 16 (some 50) (pt p 5) 131071 rfl hs18 ⟨h22.at_ 2 rfl, trivial⟩ (fun W hW => eIa 31 (.tmp 49) (.tmp 35) .i64 p 4 1 2 22 5) ?_
  refine pR_to 17 none 262143 rfl hs18 (xSt h22 3 22 (.tmp 50) (.tmp 47) 5 (lV A22 ((T.sd1 ++ [z.body]).length) c22) ([(pt e.tb 0), (pt e.sa 0), (pt e.sb 0), (lV e.wA T.wire.length e.wc), (lV e.A0 T.sd0.length e.c0), (lV A22 ((T.sd1 ++ [z.body]).length) c22), (lV e.A2 T.cm0.length e.c2), (lV e.A3 T.cm1.length e.c3), (iV .i64 ((T.k0 : Int))), (iV .i64 ((T.k1 : Int)))])) ?_
  rintro _ w23 h23
  refine ⟨fun _ => ⟨h23.at_ 2 rfl, trivial⟩, ?_⟩
  refine pR_done hs18 ?_ _
  refine seq_n hK15 (wp_seq_k fun K24 hK24 => reg_lit ?_)
  refine wq_p 3 [(53, (iV .i64 ((T.b.queue.length : Int)))), (52, (bV true)), (51, (iV .i64 0))] (wq_v (some 54) (.bool true) (eqI (bV (decide ((T.b.queue.length : Int) < 8))) (congrArg bV (by simp; omega))) (wq_p 10 [(4, (bV true)), (63, (bV true)), (62, (bV true)), (61, undef), (60, undef), (59, (bV true)), (58, (bV true)), (57, (iV .i64 0)), (56, (bV true)), (55, (bV true))] ?_))
  refine wl_end rfl (seq_n hK24 (wp_ret (blk_r (seq_r ?_))))
  refine post_1 rfl (by kernel_rfl) (rtm (bV true)) ?_
  have hx25 := h23.lext (hx14 _ (LExt.refl G w L)) 1 (v := (lV A20 z.body.length c20)) (b := z.body) rfl (fun _ hq => hq.2)
  have h25 := h23.freeze 0 rfl 1 (v := (lV A20 z.body.length c20)) (b := z.body) rfl (fun hb => OB.sb hb) (fun _ hq => hq.2)
  have hm25 : ((lV A20 z.body.length c20), z.body) ∈ (((lV A20 z.body.length c20), z.body) :: L14) := List.mem_cons_self
  have hs25 : ∀ p, p ∈ L14 -> p ∈ (((lV A20 z.body.length c20), z.body) :: L14) := fun p hp => List.mem_cons_of_mem _ hp
  generalize hL25 : ((lV A20 z.body.length c20), z.body) :: L14 = L25 at *
  have hq26 := h25.monoS 4 rfl (fun p hp => (hs25 _ (hs14 _ hp)))
  have hq27 := hq26.monoS 5 rfl (fun p hp => (hs25 _ hp))
  have h28 := (show Hp _ _ _ _ (lT p L25 (TEnv.mk e.tb e.sa e.sb e.F e.Ga G14 e.wA e.wc e.wx e.A0 e.c0 e.x0 A22 c22 (e.x1 ++ [[(lV A20 z.body.length c20)]]) e.A2 e.c2 e.x2 e.A3 e.c3 e.x3) { T with b := { T.b with queue := T.b.queue ++ [(1, z.body)] }, sd1 := T.sd1 ++ [z.body] } ++ []) from hq27.sel [2, 3, 4, 5, 6, 7, 8, 9, 10] [0] rfl rfl rfl).closeT ⟨(hT.w.mono (fun _ _ h => h.mono (fun p hp => (hs25 _ (hs14 _ hp))))), (hT.x0.mono (fun _ _ h => h.mono (fun p hp => (hs25 _ (hs14 _ hp))))), ((hT.x1.mono (fun _ _ h => h.mono (fun p hp => (hs25 _ (hs14 _ hp))))).push ⟨A20, c20, rfl, hm25⟩), (hT.x2.mono (fun _ _ h => h.mono (fun p hp => (hs25 _ (hs14 _ hp))))), (hT.x3.mono (fun _ _ h => h.mono (fun p hp => (hs25 _ (hs14 _ hp))))), (hs25 _ (hs14 _ hT.nil))⟩
  obtain ⟨W1, hT1, _, hC1⟩ := hI.swap.push (c := z.body) hq (by have := hC.swap.room hI.swap (by omega); omega) (by omega)
  exact ⟨rfl, _, _, _, Wa, W1, (hT1).swap, (hC1 hC.swap).swap, hx25, h28⟩
 ·
  refine pR_op 8 (some 42) 51071 rfl (x_bs0B h18 (by kernel_rfl)) ?_
  rintro _ w29 ⟨A29, rfl, h29⟩
  refine ⟨fun _ => ⟨h29.at_ 1 rfl, trivial⟩, ?_⟩
  refine pR_or 7 11 hs18 ?_ ?_
  ·
   refine pR_op 7 (some 41) 51199 rfl (OpTo.run (lV e.A1 T.sd1.length e.c1) (eL (h29.at_ 2 rfl) 22 (.tmp 40) 5 (lV e.A1 T.sd1.length e.c1)) (R := fun v w => v = (lV e.A1 T.sd1.length e.c1) /\ w29 = w) ⟨rfl, rfl⟩) ?_
   rintro _ _ ⟨rfl, rfl⟩
   refine ⟨fun _ => ⟨h29.at_ 1 rfl, trivial⟩, ?_⟩
   refine pR_to 11 (some 45) 53247 rfl hs18 (x_appG h29 0 rfl (.tmp 42) (.tmp 44) (by kernel_rfl) (lV A z.body.length c) (by kernel_rfl) (by kernel_rfl) (h29.rd 1 rfl) (by simp; omega) (z.body) (z.body.length) rfl rfl) ?_
   rintro _ w30 ⟨A30, c30, rfl, h30⟩
   refine ⟨fun _ => ⟨h30.at_ 1 rfl, trivial⟩, ?_⟩
   refine pR_to 12 (some 46) 57343 rfl hs18 (x_bs h30 26 ([(lV A30 z.body.length c30)]) 1 (by kernel_rfl)) ?_
   rintro _ w31 ⟨g31, rfl, h31⟩
   refine ⟨fun _ => ⟨h31.at_ 2 rfl, trivial⟩, ?_⟩
   refine pR_to 13 (some 47) 65535 rfl hs18 (xPu h31 9 0 rfl rfl (.tmp 41) (.tmp 46) 22 24 (lV none 0 0) (by omega) (by unfold maxLen; omega) (e.x1 ++ [[(lV A30 z.body.length c30)]]) ((T.sd1 ++ [z.body]).length) (hyn := (by rw [List.length_append, List.length_append, hT.x1.1]; rfl))) ?_
   rintro _ w32 ⟨A32, c32, rfl, h32⟩
   refine ⟨fun _ => ⟨h32.at_ 2 rfl, trivial⟩, ?_⟩
   refine pR_v 16 (some 50) (pt p 5) 131071 rfl hs18 ⟨h32.at_ 2 rfl, trivial⟩ (fun W hW => eIa 31 (.tmp 49) (.tmp 35) .i64 p 4 1 2 22 5) ?_
   refine pR_to 17 none 262143 rfl hs18 (xSt h32 3 22 (.tmp 50) (.tmp 47) 5 (lV A32 ((T.sd1 ++ [z.body]).length) c32) ([(pt e.tb 0), (pt e.sa 0), (pt e.sb 0), (lV e.wA T.wire.length e.wc), (lV e.A0 T.sd0.length e.c0), (lV A32 ((T.sd1 ++ [z.body]).length) c32), (lV e.A2 T.cm0.length e.c2), (lV e.A3 T.cm1.length e.c3), (iV .i64 ((T.k0 : Int))), (iV .i64 ((T.k1 : Int)))])) ?_
   rintro _ w33 h33
   refine ⟨fun _ => ⟨h33.at_ 2 rfl, trivial⟩, ?_⟩
   refine pR_done hs18 ?_ _
   refine seq_n hK15 (wp_seq_k fun K34 hK34 => reg_lit ?_)
   refine wq_p 3 [(53, (iV .i64 ((T.b.queue.length : Int)))), (52, (bV true)), (51, (iV .i64 0))] (wq_v (some 54) (.bool true) (eqI (bV (decide ((T.b.queue.length : Int) < 8))) (congrArg bV (by simp; omega))) (wq_p 10 [(4, (bV true)), (63, (bV true)), (62, (bV true)), (61, undef), (60, undef), (59, (bV true)), (58, (bV true)), (57, (iV .i64 0)), (56, (bV true)), (55, (bV true))] ?_))
   refine wl_end rfl (seq_n hK34 (wp_ret (blk_r (seq_r ?_))))
   refine post_1 rfl (by kernel_rfl) (rtm (bV true)) ?_
   have hx35 := h33.lext (hx14 _ (LExt.refl G w L)) 1 (v := (lV A30 z.body.length c30)) (b := z.body) rfl (fun _ hq => hq.2)
   have h35 := h33.freeze 0 rfl 1 (v := (lV A30 z.body.length c30)) (b := z.body) rfl (fun hb => OB.sb hb) (fun _ hq => hq.2)
   have hm35 : ((lV A30 z.body.length c30), z.body) ∈ (((lV A30 z.body.length c30), z.body) :: L14) := List.mem_cons_self
   have hs35 : ∀ p, p ∈ L14 -> p ∈ (((lV A30 z.body.length c30), z.body) :: L14) := fun p hp => List.mem_cons_of_mem _ hp
   generalize hL35 : ((lV A30 z.body.length c30), z.body) :: L14 = L35 at *
   have hq36 := h35.monoS 4 rfl (fun p hp => (hs35 _ (hs14 _ hp)))
   have hq37 := hq36.monoS 5 rfl (fun p hp => (hs35 _ hp))
   have h38 := (show Hp _ _ _ _ (lT p L35 (TEnv.mk e.tb e.sa e.sb e.F e.Ga G14 e.wA e.wc e.wx e.A0 e.c0 e.x0 A32 c32 (e.x1 ++ [[(lV A30 z.body.length c30)]]) e.A2 e.c2 e.x2 e.A3 e.c3 e.x3) { T with b := { T.b with queue := T.b.queue ++ [(1, z.body)] }, sd1 := T.sd1 ++ [z.body] } ++ []) from hq37.sel [2, 3, 4, 5, 6, 7, 8, 9, 10] [0] rfl rfl rfl).closeT ⟨(hT.w.mono (fun _ _ h => h.mono (fun p hp => (hs35 _ (hs14 _ hp))))), (hT.x0.mono (fun _ _ h => h.mono (fun p hp => (hs35 _ (hs14 _ hp))))), ((hT.x1.mono (fun _ _ h => h.mono (fun p hp => (hs35 _ (hs14 _ hp))))).push ⟨A30, c30, rfl, hm35⟩), (hT.x2.mono (fun _ _ h => h.mono (fun p hp => (hs35 _ (hs14 _ hp))))), (hT.x3.mono (fun _ _ h => h.mono (fun p hp => (hs35 _ (hs14 _ hp))))), (hs35 _ (hs14 _ hT.nil))⟩
   obtain ⟨W1, hT1, _, hC1⟩ := hI.swap.push (c := z.body) hq (by have := hC.swap.room hI.swap (by omega); omega) (by omega)
   exact ⟨rfl, _, _, _, Wa, W1, (hT1).swap, (hC1 hC.swap).swap, hx35, h38⟩
  ·
   refine pR_op 11 (some 45) 53119 rfl (x_appG h29 0 rfl (.tmp 42) (.tmp 44) (by kernel_rfl) (lV A z.body.length c) (by kernel_rfl) (by kernel_rfl) (h29.rd 1 rfl) (by simp; omega) (z.body) (z.body.length) rfl rfl) ?_
   rintro _ w39 ⟨A39, c39, rfl, h39⟩
   refine ⟨fun _ => ⟨h39.at_ 1 rfl, trivial⟩, ?_⟩
   refine pR_or 7 12 hs18 ?_ ?_
   ·
    refine pR_op 7 (some 41) 53247 rfl (OpTo.run (lV e.A1 T.sd1.length e.c1) (eL (h39.at_ 2 rfl) 22 (.tmp 40) 5 (lV e.A1 T.sd1.length e.c1)) (R := fun v w => v = (lV e.A1 T.sd1.length e.c1) /\ w39 = w) ⟨rfl, rfl⟩) ?_
    rintro _ _ ⟨rfl, rfl⟩
    refine ⟨fun _ => ⟨h39.at_ 1 rfl, trivial⟩, ?_⟩
    refine pR_to 12 (some 46) 57343 rfl hs18 (x_bs h39 26 ([(lV A39 z.body.length c39)]) 1 (by kernel_rfl)) ?_
    rintro _ w40 ⟨g40, rfl, h40⟩
    refine ⟨fun _ => ⟨h40.at_ 2 rfl, trivial⟩, ?_⟩
    refine pR_to 13 (some 47) 65535 rfl hs18 (xPu h40 9 0 rfl rfl (.tmp 41) (.tmp 46) 22 24 (lV none 0 0) (by omega) (by unfold maxLen; omega) (e.x1 ++ [[(lV A39 z.body.length c39)]]) ((T.sd1 ++ [z.body]).length) (hyn := (by rw [List.length_append, List.length_append, hT.x1.1]; rfl))) ?_
    rintro _ w41 ⟨A41, c41, rfl, h41⟩
    refine ⟨fun _ => ⟨h41.at_ 2 rfl, trivial⟩, ?_⟩
    refine pR_v 16 (some 50) (pt p 5) 131071 rfl hs18 ⟨h41.at_ 2 rfl, trivial⟩ (fun W hW => eIa 31 (.tmp 49) (.tmp 35) .i64 p 4 1 2 22 5) ?_
    refine pR_to 17 none 262143 rfl hs18 (xSt h41 3 22 (.tmp 50) (.tmp 47) 5 (lV A41 ((T.sd1 ++ [z.body]).length) c41) ([(pt e.tb 0), (pt e.sa 0), (pt e.sb 0), (lV e.wA T.wire.length e.wc), (lV e.A0 T.sd0.length e.c0), (lV A41 ((T.sd1 ++ [z.body]).length) c41), (lV e.A2 T.cm0.length e.c2), (lV e.A3 T.cm1.length e.c3), (iV .i64 ((T.k0 : Int))), (iV .i64 ((T.k1 : Int)))])) ?_
    rintro _ w42 h42
    refine ⟨fun _ => ⟨h42.at_ 2 rfl, trivial⟩, ?_⟩
    refine pR_done hs18 ?_ _
    refine seq_n hK15 (wp_seq_k fun K43 hK43 => reg_lit ?_)
    refine wq_p 3 [(53, (iV .i64 ((T.b.queue.length : Int)))), (52, (bV true)), (51, (iV .i64 0))] (wq_v (some 54) (.bool true) (eqI (bV (decide ((T.b.queue.length : Int) < 8))) (congrArg bV (by simp; omega))) (wq_p 10 [(4, (bV true)), (63, (bV true)), (62, (bV true)), (61, undef), (60, undef), (59, (bV true)), (58, (bV true)), (57, (iV .i64 0)), (56, (bV true)), (55, (bV true))] ?_))
    refine wl_end rfl (seq_n hK43 (wp_ret (blk_r (seq_r ?_))))
    refine post_1 rfl (by kernel_rfl) (rtm (bV true)) ?_
    have hx44 := h42.lext (hx14 _ (LExt.refl G w L)) 1 (v := (lV A39 z.body.length c39)) (b := z.body) rfl (fun _ hq => hq.2)
    have h44 := h42.freeze 0 rfl 1 (v := (lV A39 z.body.length c39)) (b := z.body) rfl (fun hb => OB.sb hb) (fun _ hq => hq.2)
    have hm44 : ((lV A39 z.body.length c39), z.body) ∈ (((lV A39 z.body.length c39), z.body) :: L14) := List.mem_cons_self
    have hs44 : ∀ p, p ∈ L14 -> p ∈ (((lV A39 z.body.length c39), z.body) :: L14) := fun p hp => List.mem_cons_of_mem _ hp
    generalize hL44 : ((lV A39 z.body.length c39), z.body) :: L14 = L44 at *
    have hq45 := h44.monoS 4 rfl (fun p hp => (hs44 _ (hs14 _ hp)))
    have hq46 := hq45.monoS 5 rfl (fun p hp => (hs44 _ hp))
    have h47 := (show Hp _ _ _ _ (lT p L44 (TEnv.mk e.tb e.sa e.sb e.F e.Ga G14 e.wA e.wc e.wx e.A0 e.c0 e.x0 A41 c41 (e.x1 ++ [[(lV A39 z.body.length c39)]]) e.A2 e.c2 e.x2 e.A3 e.c3 e.x3) { T with b := { T.b with queue := T.b.queue ++ [(1, z.body)] }, sd1 := T.sd1 ++ [z.body] } ++ []) from hq46.sel [2, 3, 4, 5, 6, 7, 8, 9, 10] [0] rfl rfl rfl).closeT ⟨(hT.w.mono (fun _ _ h => h.mono (fun p hp => (hs44 _ (hs14 _ hp))))), (hT.x0.mono (fun _ _ h => h.mono (fun p hp => (hs44 _ (hs14 _ hp))))), ((hT.x1.mono (fun _ _ h => h.mono (fun p hp => (hs44 _ (hs14 _ hp))))).push ⟨A39, c39, rfl, hm44⟩), (hT.x2.mono (fun _ _ h => h.mono (fun p hp => (hs44 _ (hs14 _ hp))))), (hT.x3.mono (fun _ _ h => h.mono (fun p hp => (hs44 _ (hs14 _ hp))))), (hs44 _ (hs14 _ hT.nil))⟩
    obtain ⟨W1, hT1, _, hC1⟩ := hI.swap.push (c := z.body) hq (by have := hC.swap.room hI.swap (by omega); omega) (by omega)
    exact ⟨rfl, _, _, _, Wa, W1, (hT1).swap, (hC1 hC.swap).swap, hx44, h47⟩
   ·
    refine pR_op 12 (some 46) 57215 rfl (x_bs h39 26 ([(lV A39 z.body.length c39)]) 1 (by kernel_rfl)) ?_
    rintro _ w48 ⟨g48, rfl, h48⟩
    refine ⟨fun _ => ⟨h48.at_ 2 rfl, trivial⟩, ?_⟩
    refine pR_to 7 (some 41) 57343 rfl hs18 (OpTo.run (lV e.A1 T.sd1.length e.c1) (eL (h48.at_ 3 rfl) 22 (.tmp 40) 5 (lV e.A1 T.sd1.length e.c1)) (R := fun v w => v = (lV e.A1 T.sd1.length e.c1) /\ w48 = w) ⟨rfl, rfl⟩) ?_
    rintro _ _ ⟨rfl, rfl⟩
    refine ⟨fun _ => ⟨h48.at_ 2 rfl, trivial⟩, ?_⟩
    refine pR_to 13 (some 47) 65535 rfl hs18 (xPu h48 9 0 rfl rfl (.tmp 41) (.tmp 46) 22 24 (lV none 0 0) (by omega) (by unfold maxLen; omega) (e.x1 ++ [[(lV A39 z.body.length c39)]]) ((T.sd1 ++ [z.body]).length) (hyn := (by rw [List.length_append, List.length_append, hT.x1.1]; rfl))) ?_
    rintro _ w49 ⟨A49, c49, rfl, h49⟩
    refine ⟨fun _ => ⟨h49.at_ 2 rfl, trivial⟩, ?_⟩
    refine pR_v 16 (some 50) (pt p 5) 131071 rfl hs18 ⟨h49.at_ 2 rfl, trivial⟩ (fun W hW => eIa 31 (.tmp 49) (.tmp 35) .i64 p 4 1 2 22 5) ?_
    refine pR_to 17 none 262143 rfl hs18 (xSt h49 3 22 (.tmp 50) (.tmp 47) 5 (lV A49 ((T.sd1 ++ [z.body]).length) c49) ([(pt e.tb 0), (pt e.sa 0), (pt e.sb 0), (lV e.wA T.wire.length e.wc), (lV e.A0 T.sd0.length e.c0), (lV A49 ((T.sd1 ++ [z.body]).length) c49), (lV e.A2 T.cm0.length e.c2), (lV e.A3 T.cm1.length e.c3), (iV .i64 ((T.k0 : Int))), (iV .i64 ((T.k1 : Int)))])) ?_
    rintro _ w50 h50
    refine ⟨fun _ => ⟨h50.at_ 2 rfl, trivial⟩, ?_⟩
    refine pR_done hs18 ?_ _
    refine seq_n hK15 (wp_seq_k fun K51 hK51 => reg_lit ?_)
    refine wq_p 3 [(53, (iV .i64 ((T.b.queue.length : Int)))), (52, (bV true)), (51, (iV .i64 0))] (wq_v (some 54) (.bool true) (eqI (bV (decide ((T.b.queue.length : Int) < 8))) (congrArg bV (by simp; omega))) (wq_p 10 [(4, (bV true)), (63, (bV true)), (62, (bV true)), (61, undef), (60, undef), (59, (bV true)), (58, (bV true)), (57, (iV .i64 0)), (56, (bV true)), (55, (bV true))] ?_))
    refine wl_end rfl (seq_n hK51 (wp_ret (blk_r (seq_r ?_))))
    refine post_1 rfl (by kernel_rfl) (rtm (bV true)) ?_
    have hx52 := h50.lext (hx14 _ (LExt.refl G w L)) 1 (v := (lV A39 z.body.length c39)) (b := z.body) rfl (fun _ hq => hq.2)
    have h52 := h50.freeze 0 rfl 1 (v := (lV A39 z.body.length c39)) (b := z.body) rfl (fun hb => OB.sb hb) (fun _ hq => hq.2)
    have hm52 : ((lV A39 z.body.length c39), z.body) ∈ (((lV A39 z.body.length c39), z.body) :: L14) := List.mem_cons_self
    have hs52 : ∀ p, p ∈ L14 -> p ∈ (((lV A39 z.body.length c39), z.body) :: L14) := fun p hp => List.mem_cons_of_mem _ hp
    generalize hL52 : ((lV A39 z.body.length c39), z.body) :: L14 = L52 at *
    have hq53 := h52.monoS 4 rfl (fun p hp => (hs52 _ (hs14 _ hp)))
    have hq54 := hq53.monoS 5 rfl (fun p hp => (hs52 _ hp))
    have h55 := (show Hp _ _ _ _ (lT p L52 (TEnv.mk e.tb e.sa e.sb e.F e.Ga G14 e.wA e.wc e.wx e.A0 e.c0 e.x0 A49 c49 (e.x1 ++ [[(lV A39 z.body.length c39)]]) e.A2 e.c2 e.x2 e.A3 e.c3 e.x3) { T with b := { T.b with queue := T.b.queue ++ [(1, z.body)] }, sd1 := T.sd1 ++ [z.body] } ++ []) from hq54.sel [2, 3, 4, 5, 6, 7, 8, 9, 10] [0] rfl rfl rfl).closeT ⟨(hT.w.mono (fun _ _ h => h.mono (fun p hp => (hs52 _ (hs14 _ hp))))), (hT.x0.mono (fun _ _ h => h.mono (fun p hp => (hs52 _ (hs14 _ hp))))), ((hT.x1.mono (fun _ _ h => h.mono (fun p hp => (hs52 _ (hs14 _ hp))))).push ⟨A39, c39, rfl, hm52⟩), (hT.x2.mono (fun _ _ h => h.mono (fun p hp => (hs52 _ (hs14 _ hp))))), (hT.x3.mono (fun _ _ h => h.mono (fun p hp => (hs52 _ (hs14 _ hp))))), (hs52 _ (hs14 _ hT.nil))⟩
    obtain ⟨W1, hT1, _, hC1⟩ := hI.swap.push (c := z.body) hq (by have := hC.swap.room hI.swap (by omega); omega) (by omega)
    exact ⟨rfl, _, _, _, Wa, W1, (hT1).swap, (hC1 hC.swap).swap, hx52, h55⟩
theorem tStep_push1f {G : Nat -> Prop} {p : Nat} {L : List (Value × Bytes)} {T : Tk} {n : Nat} {Wa Wb : Way} {w : World} (hI : TI sAnn sBob n T Wa Wb) (hC : Cnt n T Wa Wb) (_hn : n < 200) (hv : (rT G p L T).Φ w) (hL : (rF L).Φ w) (hd : (rF L).dj (rT G p L T)) (z : Stp) (hz : z.body.length <= 40) (A : Option Addr) (c : Nat) (hm : (lV A z.body.length c, z.body) ∈ L) (hk : z.kind = 1) (hq : T.b.queue.length = 8) : Calls Try.prog 15 #[pt p 0, .agg #[.int .i64 z.kind, .int .i64 z.at_, .int .i64 z.turn, .slice A z.body.length c]] w (StepPost n G p w L) := by
 have h00 := Hp.oneT hv hL hd
 obtain ⟨e, hT, h01⟩ := h00.openT 0 rfl
 have h02 := h01.roF 0 rfl hm
 have hsa := hI.small
 have hsb := hI.swap.small
 have hxw := hT.w.1
 have hx0 := hT.x0.1
 have hx1 := hT.x1.1
 have hx2 := hT.x2.1
 have hx3 := hT.x3.1
 have hwl := hI.wl
 have hdl := hI.rows
 have hks := hI.ks
 have hbs := hI.bs
 have hqa := hsa.q8
 have hqb := hsb.q8
 obtain ⟨hd0, hd1, hd2, hd3⟩ := hdl
 rw [hk]
 have h0 := h02
 refine enter 182 Try.func15 rfl rfl ?_
 refine wp_reset 184 [(0, (pt p 0)), (1, (aV ([(iV .i64 1), (iV .i64 z.at_), (iV .i64 z.turn), (lV A z.body.length c)]).toArray))] (fun x0 => ?_)
 refine wp_seq_k fun K1 hK1 => reg_lit ?_
 refine wq_to (some 3) (xN h0 50 ([(iV .i64 1), (iV .i64 z.at_), (iV .i64 z.turn), (lV A z.body.length c)])) ?_
 rintro _ w2 ⟨g2, rfl, h2⟩
 refine wq_p 1 [(4, (bV false))] ?_
 refine wl_end rfl (seq_n hK1 (wp_seq_k fun K3 hK3 => reg_lit ?_))
 refine wq_p 1 [(14, (pt g2 0))] (wq_v (some 15) (iV .i64 1) (eL (h2.at_ 0 rfl) 3 (.tmp 14) 0 _) (wq_v (some 16) (iV .i64 1) (eqI (iV .i64 (bits .and .i64 1 1)) (congrArg (iV .i64) (by kernel_rfl))) (wq_p 1 [(5, (iV .i64 1))] ?_)))
 refine wl_end rfl (seq_n hK3 (wp_seq_k fun K4 hK4 => wp_seq_k fun K5 hK5 => reg_lit ?_))
 refine wq_p 1 [(17, (pt g2 0))] (wq_v (some 18) (iV .i64 1) (eL (h2.at_ 0 rfl) 3 (.tmp 17) 0 _) ?_)
 refine wl_end rfl (seq_n hK5 (wp_block (wp_seq_k fun K6 hK6 => wp_seq_k fun K7 hK7 => reg_lit ?_)))
 refine wq_p 2 [(19, (bV false)), (20, (bV false))] ?_
 refine wl_end rfl (seq_n hK7 (cF (reg_lit ?_)))
 refine wq_p 2 [(19, (bV true)), (21, (bV true))] ?_
 refine wl_end rfl (seq_n hK6 (cT (wp_seq_k fun K8 hK8 => reg_lit ?_)))
 refine wq_p 2 [(23, (iV .i64 1)), (22, (pt p 0))] ?_
 refine wq_to (some 24) (x_dp h2 18 [(pt p 0), (iV .i64 1)] (by kernel_rfl) (tEnd_1 (h2.at_ 1 rfl))) ?_
 rintro _ w9 ⟨rfl, h9⟩
 refine wq_to (some 25) (x_dp h9 10 [(pt e.sb 0)] (by kernel_rfl) (waits_any (h9.at_ 4 rfl))) ?_
 rintro _ w10 ⟨rfl, h10⟩
 refine wq_p 1 [(6, (iV .i64 ((T.b.queue.length : Int))))] ?_
 refine wl_end rfl (seq_n hK8 (wp_seq_k fun K11 hK11 => ?_))
 refine pR_go h10 6 (fun W => (rBlk g2 50 ([(iV .i64 1), (iV .i64 z.at_), (iV .i64 z.turn), (lV A z.body.length c)])).Φ W /\ True) [(27, [0], 0), (28, [5], 0), (29, [26, 27], 3), (30, [3], 0), (31, [29], 8), (32, [28, 30], 20), (8, [31], 63)] rfl (fun _ d _ _ _ h => by cases d <;> exact h) ?_
 intro hs12 w12 h12
 refine pR_p 4 [0, 1, 3] [(29, (pt g2 3)), (27, (iV .i64 1)), (26, (pt p 0))] 11 hs12 ⟨h12.at_ 0 rfl, trivial⟩ ?_
 refine pR_v 4 (some 30) (lV A z.body.length c) 27 rfl hs12 ⟨h12.at_ 0 rfl, trivial⟩ (fun W hW => eL hW.1 26 (.tmp 29) 3 _) ?_
 refine pR_to 2 (some 28) 31 rfl hs12 (x_dp h12 18 [(pt p 0), (iV .i64 1)] (by kernel_rfl) (tEnd_1 (h12.at_ 1 rfl))) ?_
 rintro _ w13 ⟨rfl, h13⟩
 refine ⟨fun _ => ⟨h13.at_ 0 rfl, trivial⟩, ?_⟩
 refine pR_to 5 (some 31) 63 rfl hs12 (x_ses h13 4 rfl 1 rfl 9 [(pt e.sb 0), (lV A z.body.length c)] (by kernel_rfl) (sPush_full (h13.at_ 4 rfl) (h13.rd 1 rfl) (h13.rdis 1 4 _ _ rfl rfl) z.body A c (h13.rd 0 rfl) (h13.rdis 0 4 _ _ rfl rfl) (by omega) hI.inv.ba.ov hq)) ?_
 rintro _ w14 ⟨G14, L14, rfl, hs14, hx14, h14⟩
 refine ⟨fun _ => ⟨h14.at_ 0 rfl, trivial⟩, ?_⟩
 refine pR_to 6 (some 7) 127 rfl hs12 (OpTo.run (iV .i64 8) (pureOp_run (by kernel_rfl) _) (R := fun v w => v = (iV .i64 8) /\ w14 = w) ⟨rfl, rfl⟩) ?_
 rintro _ _ ⟨rfl, rfl⟩
 refine ⟨fun h => absurd h (by decide), ?_⟩
 refine pR_done hs12 ?_ _
 refine seq_n hK11 (wp_seq_k fun K15 hK15 => wp_seq_k fun K16 hK16 => ?_)
 refine wp_reset 184 [(0, (pt p 0)), (1, (aV ([(iV .i64 1), (iV .i64 z.at_), (iV .i64 z.turn), (lV A z.body.length c)]).toArray)), (3, (pt g2 0)), (4, (bV false)), (5, (iV .i64 1)), (6, (iV .i64 ((T.b.queue.length : Int)))), (7, (iV .i64 8)), (18, (iV .i64 1)), (19, (bV true))] (fun x17 => ?_)
 refine reg_lit ?_
 refine wq_p 2 [(33, (bV false)), (32, (iV .i64 8))] ?_
 refine wl_end rfl (seq_n hK16 (cF (wp_skip (seq_n hK15 (wp_seq_k fun K18 hK18 => reg_lit ?_)))))
 refine wq_p 3 [(53, (iV .i64 ((T.b.queue.length : Int)))), (52, (bV false)), (51, (iV .i64 8))] (wq_v (some 54) (.bool false) (eqI (bV (decide ((T.b.queue.length : Int) < 8))) (congrArg bV (by simp; omega))) (wq_p 10 [(4, (bV true)), (63, (bV true)), (62, (bV true)), (61, (bV true)), (60, (iV .i64 8)), (59, (bV false)), (58, (bV false)), (57, (iV .i64 8)), (56, (bV true)), (55, (bV true))] ?_))
 refine wl_end rfl (seq_n hK18 (wp_ret (blk_r (seq_r ?_))))
 refine post_1 rfl (by kernel_rfl) (rtm (bV true)) ?_
 have hq19 := h14.monoS 3 rfl (fun p hp => (hs14 _ hp))
 have h20 := (show Hp _ _ _ _ (lT p L14 (TEnv.mk e.tb e.sa e.sb e.F e.Ga G14 e.wA e.wc e.wx e.A0 e.c0 e.x0 e.A1 e.c1 e.x1 e.A2 e.c2 e.x2 e.A3 e.c3 e.x3) T ++ []) from hq19.sel [1, 2, 3, 4, 5, 6, 7, 8, 9] [0] rfl rfl rfl).closeT ⟨(hT.w.mono (fun _ _ h => h.mono (fun p hp => (hs14 _ hp)))), (hT.x0.mono (fun _ _ h => h.mono (fun p hp => (hs14 _ hp)))), (hT.x1.mono (fun _ _ h => h.mono (fun p hp => (hs14 _ hp)))), (hT.x2.mono (fun _ _ h => h.mono (fun p hp => (hs14 _ hp)))), (hT.x3.mono (fun _ _ h => h.mono (fun p hp => (hs14 _ hp)))), (hs14 _ hT.nil)⟩
 exact ⟨rfl, _, _, T, Wa, Wb, hI.idle, hC.idle, (hx14 _ (LExt.refl G w L)), h20⟩
theorem TI.k0le {p q : ByteArray} {n : Nat} {T : Tk} {Wa Wb : Way} (h : TI p q n T Wa Wb) : T.k0 <= 60 := by
 have := rks_len Wa.P; have := h.pa; rw [h.k0]; omega
theorem tStep_rekey0 {G : Nat -> Prop} {p : Nat} {L : List (Value × Bytes)} {T : Tk} {n : Nat} {Wa Wb : Way} {w : World} (hI : TI sAnn sBob n T Wa Wb) (hC : Cnt n T Wa Wb) (hn : n < 200) (hv : (rT G p L T).Φ w) (hL : (rF L).Φ w) (hd : (rF L).dj (rT G p L T)) (z : Stp) (_hz : z.body.length <= 40) (A : Option Addr) (c : Nat) (hm : (lV A z.body.length c, z.body) ∈ L) (hk : z.kind = 2) (hq : T.a.queue.length < 8) : Calls Try.prog 15 #[pt p 0, .agg #[.int .i64 z.kind, .int .i64 z.at_, .int .i64 z.turn, .slice A z.body.length c]] w (StepPost n G p w L) := by
 have h00 := Hp.oneT hv hL hd
 obtain ⟨e, hT, h01⟩ := h00.openT 0 rfl
 have h02 := h01.roF 0 rfl hm
 have hsa := hI.small
 have hsb := hI.swap.small
 have hxw := hT.w.1
 have hx0 := hT.x0.1
 have hx1 := hT.x1.1
 have hx2 := hT.x2.1
 have hx3 := hT.x3.1
 have hwl := hI.wl
 have hdl := hI.rows
 have hks := hI.ks
 have hbs := hI.bs
 have hqa := hsa.q8
 have hqb := hsb.q8
 obtain ⟨hd0, hd1, hd2, hd3⟩ := hdl
 have hk0 : T.k0 <= 60 := hI.k0le
 have hk1 : T.k1 <= 60 := hI.swap.k0le
 rw [hk]
 have h0 := h02
 refine enter 182 Try.func15 rfl rfl ?_
 refine wp_reset 184 [(0, (pt p 0)), (1, (aV ([(iV .i64 2), (iV .i64 z.at_), (iV .i64 z.turn), (lV A z.body.length c)]).toArray))] (fun x0 => ?_)
 refine wp_seq_k fun K1 hK1 => reg_lit ?_
 refine wq_to (some 3) (xN h0 50 ([(iV .i64 2), (iV .i64 z.at_), (iV .i64 z.turn), (lV A z.body.length c)])) ?_
 rintro _ w2 ⟨g2, rfl, h2⟩
 refine wq_p 1 [(4, (bV false))] ?_
 refine wl_end rfl (seq_n hK1 (wp_seq_k fun K3 hK3 => reg_lit ?_))
 refine wq_p 1 [(14, (pt g2 0))] (wq_v (some 15) (iV .i64 2) (eL (h2.at_ 0 rfl) 3 (.tmp 14) 0 _) (wq_v (some 16) (iV .i64 0) (eqI (iV .i64 (bits .and .i64 2 1)) (congrArg (iV .i64) (by kernel_rfl))) (wq_p 1 [(5, (iV .i64 0))] ?_)))
 refine wl_end rfl (seq_n hK3 (wp_seq_k fun K4 hK4 => wp_seq_k fun K5 hK5 => reg_lit ?_))
 refine wq_p 1 [(17, (pt g2 0))] (wq_v (some 18) (iV .i64 2) (eL (h2.at_ 0 rfl) 3 (.tmp 17) 0 _) ?_)
 refine wl_end rfl (seq_n hK5 (wp_block (wp_seq_k fun K6 hK6 => wp_seq_k fun K7 hK7 => reg_lit ?_)))
 refine wq_p 2 [(19, (bV false)), (20, (bV false))] ?_
 refine wl_end rfl (seq_n hK7 (cF (reg_lit ?_)))
 refine wq_p 2 [(19, (bV false)), (21, (bV false))] ?_
 refine wl_end rfl (seq_n hK6 (cF (wp_seq_k fun K8 hK8 => wp_seq_k fun K9 hK9 => reg_lit ?_)))
 refine wq_p 2 [(64, (bV true)), (65, (bV true))] ?_
 refine wl_end rfl (seq_n hK9 (cT (wp_skip (seq_n hK8 (cT (wp_seq_k fun K10 hK10 => reg_lit ?_))))))
 refine wq_p 2 [(68, (iV .i64 0)), (67, (pt p 0))] ?_
 refine wq_to (some 69) (x_dp h2 18 [(pt p 0), (iV .i64 0)] (by kernel_rfl) (tEnd_0 (h2.at_ 1 rfl))) ?_
 rintro _ w11 ⟨rfl, h11⟩
 refine wq_to (some 70) (x_ses h11 3 rfl 1 rfl 22 [(pt e.sa 0)] (by kernel_rfl) (sRekey_ok (h11.at_ 3 rfl) (h11.rd 1 rfl) (h11.rdis 1 3 _ _ rfl rfl) hT.nil hI.inv.ab.ov hq)) ?_
 rintro _ w12 ⟨G12, L12, rfl, hs12, hx12, h12⟩
 refine wq_p 1 [(71, (bV true))] ?_
 refine wl_end rfl (seq_n hK10 (cT ?_))
 refine wp_reset 184 [(0, (pt p 0)), (1, (aV ([(iV .i64 2), (iV .i64 z.at_), (iV .i64 z.turn), (lV A z.body.length c)]).toArray)), (3, (pt g2 0)), (4, (bV false)), (5, (iV .i64 0)), (18, (iV .i64 2)), (19, (bV false)), (64, (bV true)), (71, (bV true))] (fun x13 => ?_)
 refine pR_go h12 11 (fun W => True) [(73, [0], 0), (74, [5], 0), (75, [72], 1), (76, [74], 4), (77, [75, 73], 10), (78, [76], 16), (79, [77], 32), (80, [72], 1), (81, [79], 128), (82, [80, 73], 383), (0, [81, 78], 639)] rfl (fun _ d _ _ _ h => by cases d <;> exact h) ?_
 intro hs14 w14 h14
 refine pR_p 5 [0, 1, 2, 3, 7, 8] [(80, (pt p 8)), (79, (pt p 0)), (75, (pt p 8)), (74, (pt p 0)), (73, (iV .i64 0)), (72, (pt p 0))] 399 hs14 trivial ?_
 refine pR_v 4 (some 76) (pt p 8) 415 rfl hs14 trivial (fun W hW => eIa 32 (.tmp 75) (.tmp 73) .i64 p 8 0 2 3 8) ?_
 refine pR_to 5 (some 77) 447 rfl hs14 (OpTo.run (iV .i64 ((T.k0 : Int))) (eL (h14.at_ 1 rfl) 3 (.tmp 76) 8 (iV .i64 ((T.k0 : Int)))) (R := fun v w => v = (iV .i64 ((T.k0 : Int))) /\ w14 = w) ⟨rfl, rfl⟩) ?_
 rintro _ _ ⟨rfl, rfl⟩
 refine ⟨fun _ => trivial, ?_⟩
 refine pR_v 6 (some 78) (iV .i64 (((T.k0 + 1 : Nat) : Int))) 511 rfl hs14 trivial (fun W hW => exec_add _ _ _ _ rfl (T.k0 : Int) 1 (by kernel_rfl) (by kernel_rfl) (((T.k0 + 1 : Nat) : Int)) (by omega) (by omega) (by have := hI.k0le; have := hI.pa; omega) _) ?_
 refine pR_v 9 (some 81) (pt p 8) 1023 rfl hs14 trivial (fun W hW => eIa 32 (.tmp 80) (.tmp 73) .i64 p 8 0 2 3 8) ?_
 refine pR_to 10 none 2047 rfl hs14 (xSt h14 1 3 (.tmp 81) (.tmp 78) 8 (iV .i64 (((T.k0 + 1 : Nat) : Int))) ([(pt e.tb 0), (pt e.sa 0), (pt e.sb 0), (lV e.wA T.wire.length e.wc), (lV e.A0 T.sd0.length e.c0), (lV e.A1 T.sd1.length e.c1), (lV e.A2 T.cm0.length e.c2), (lV e.A3 T.cm1.length e.c3), (iV .i64 (((T.k0 + 1 : Nat) : Int))), (iV .i64 ((T.k1 : Int)))])) ?_
 rintro _ w15 h15
 refine ⟨fun _ => trivial, ?_⟩
 refine pR_done hs14 ?_ _
 refine blk_n (seq_n hK4 (wp_seq_k fun K16 hK16 => reg_lit ?_))
 refine wq_p 1 [(4, (bV true))] ?_
 refine wl_end rfl (seq_n hK16 (wp_ret ?_))
 refine post_1 rfl (by kernel_rfl) (rtm (bV true)) ?_
 have hq17 := h15.monoS 4 rfl (fun p hp => (hs12 _ hp))
 have h18 := (show Hp _ _ _ _ (lT p L12 (TEnv.mk e.tb e.sa e.sb e.F G12 e.Gb e.wA e.wc e.wx e.A0 e.c0 e.x0 e.A1 e.c1 e.x1 e.A2 e.c2 e.x2 e.A3 e.c3 e.x3) { T with a := { T.a with queue := T.a.queue ++ [(3, [])] }, k0 := T.k0 + 1 } ++ []) from hq17.sel [1, 2, 3, 4, 5, 6, 7, 8, 9] [0] rfl rfl rfl).closeT ⟨(hT.w.mono (fun _ _ h => h.mono (fun p hp => (hs12 _ hp)))), (hT.x0.mono (fun _ _ h => h.mono (fun p hp => (hs12 _ hp)))), (hT.x1.mono (fun _ _ h => h.mono (fun p hp => (hs12 _ hp)))), (hT.x2.mono (fun _ _ h => h.mono (fun p hp => (hs12 _ hp)))), (hT.x3.mono (fun _ _ h => h.mono (fun p hp => (hs12 _ hp)))), (hs12 _ hT.nil)⟩
 obtain ⟨W1, hT1, hC1⟩ := hI.rekey hq (by have := hC.room hI (by omega); omega)
 exact ⟨rfl, _, _, _, W1, Wb, hT1, hC1 hC, (hx12 _ (LExt.refl G w L)), h18⟩
theorem tStep_rekey0f {G : Nat -> Prop} {p : Nat} {L : List (Value × Bytes)} {T : Tk} {n : Nat} {Wa Wb : Way} {w : World} (hI : TI sAnn sBob n T Wa Wb) (hC : Cnt n T Wa Wb) (_hn : n < 200) (hv : (rT G p L T).Φ w) (hL : (rF L).Φ w) (hd : (rF L).dj (rT G p L T)) (z : Stp) (_hz : z.body.length <= 40) (A : Option Addr) (c : Nat) (hm : (lV A z.body.length c, z.body) ∈ L) (hk : z.kind = 2) (hq : T.a.queue.length = 8) : Calls Try.prog 15 #[pt p 0, .agg #[.int .i64 z.kind, .int .i64 z.at_, .int .i64 z.turn, .slice A z.body.length c]] w (StepPost n G p w L) := by
 have h00 := Hp.oneT hv hL hd
 obtain ⟨e, hT, h01⟩ := h00.openT 0 rfl
 have h02 := h01.roF 0 rfl hm
 have hsa := hI.small
 have hsb := hI.swap.small
 have hxw := hT.w.1
 have hx0 := hT.x0.1
 have hx1 := hT.x1.1
 have hx2 := hT.x2.1
 have hx3 := hT.x3.1
 have hwl := hI.wl
 have hdl := hI.rows
 have hks := hI.ks
 have hbs := hI.bs
 have hqa := hsa.q8
 have hqb := hsb.q8
 obtain ⟨hd0, hd1, hd2, hd3⟩ := hdl
 have hk0 : T.k0 <= 60 := hI.k0le
 have hk1 : T.k1 <= 60 := hI.swap.k0le
 rw [hk]
 have h0 := h02
 refine enter 182 Try.func15 rfl rfl ?_
 refine wp_reset 184 [(0, (pt p 0)), (1, (aV ([(iV .i64 2), (iV .i64 z.at_), (iV .i64 z.turn), (lV A z.body.length c)]).toArray))] (fun x0 => ?_)
 refine wp_seq_k fun K1 hK1 => reg_lit ?_
 refine wq_to (some 3) (xN h0 50 ([(iV .i64 2), (iV .i64 z.at_), (iV .i64 z.turn), (lV A z.body.length c)])) ?_
 rintro _ w2 ⟨g2, rfl, h2⟩
 refine wq_p 1 [(4, (bV false))] ?_
 refine wl_end rfl (seq_n hK1 (wp_seq_k fun K3 hK3 => reg_lit ?_))
 refine wq_p 1 [(14, (pt g2 0))] (wq_v (some 15) (iV .i64 2) (eL (h2.at_ 0 rfl) 3 (.tmp 14) 0 _) (wq_v (some 16) (iV .i64 0) (eqI (iV .i64 (bits .and .i64 2 1)) (congrArg (iV .i64) (by kernel_rfl))) (wq_p 1 [(5, (iV .i64 0))] ?_)))
 refine wl_end rfl (seq_n hK3 (wp_seq_k fun K4 hK4 => wp_seq_k fun K5 hK5 => reg_lit ?_))
 refine wq_p 1 [(17, (pt g2 0))] (wq_v (some 18) (iV .i64 2) (eL (h2.at_ 0 rfl) 3 (.tmp 17) 0 _) ?_)
 refine wl_end rfl (seq_n hK5 (wp_block (wp_seq_k fun K6 hK6 => wp_seq_k fun K7 hK7 => reg_lit ?_)))
 refine wq_p 2 [(19, (bV false)), (20, (bV false))] ?_
 refine wl_end rfl (seq_n hK7 (cF (reg_lit ?_)))
 refine wq_p 2 [(19, (bV false)), (21, (bV false))] ?_
 refine wl_end rfl (seq_n hK6 (cF (wp_seq_k fun K8 hK8 => wp_seq_k fun K9 hK9 => reg_lit ?_)))
 refine wq_p 2 [(64, (bV true)), (65, (bV true))] ?_
 refine wl_end rfl (seq_n hK9 (cT (wp_skip (seq_n hK8 (cT (wp_seq_k fun K10 hK10 => reg_lit ?_))))))
 refine wq_p 2 [(68, (iV .i64 0)), (67, (pt p 0))] ?_
 refine wq_to (some 69) (x_dp h2 18 [(pt p 0), (iV .i64 0)] (by kernel_rfl) (tEnd_0 (h2.at_ 1 rfl))) ?_
 rintro _ w11 ⟨rfl, h11⟩
 refine wq_to (some 70) (x_ses h11 3 rfl 1 rfl 22 [(pt e.sa 0)] (by kernel_rfl) (sRekey_full (h11.at_ 3 rfl) (h11.rd 1 rfl) (h11.rdis 1 3 _ _ rfl rfl) hT.nil hI.inv.ab.ov hq)) ?_
 rintro _ w12 ⟨G12, L12, rfl, hs12, hx12, h12⟩
 refine wq_p 1 [(71, (bV false))] ?_
 refine wl_end rfl (seq_n hK10 (cF (wp_skip (blk_n (seq_n hK4 (wp_seq_k fun K13 hK13 => ?_))))))
 refine wp_reset 184 [(0, (pt p 0)), (1, (aV ([(iV .i64 2), (iV .i64 z.at_), (iV .i64 z.turn), (lV A z.body.length c)]).toArray)), (3, (pt g2 0)), (4, (bV false)), (5, (iV .i64 0)), (18, (iV .i64 2)), (19, (bV false)), (64, (bV true)), (71, (bV false))] (fun x14 => ?_)
 refine reg_lit ?_
 refine wq_p 1 [(4, (bV true))] ?_
 refine wl_end rfl (seq_n hK13 (wp_ret ?_))
 refine post_1 rfl (by kernel_rfl) (rtm (bV true)) ?_
 have hq15 := h12.monoS 4 rfl (fun p hp => (hs12 _ hp))
 have h16 := (show Hp _ _ _ _ (lT p L12 (TEnv.mk e.tb e.sa e.sb e.F G12 e.Gb e.wA e.wc e.wx e.A0 e.c0 e.x0 e.A1 e.c1 e.x1 e.A2 e.c2 e.x2 e.A3 e.c3 e.x3) T ++ []) from hq15.sel [1, 2, 3, 4, 5, 6, 7, 8, 9] [0] rfl rfl rfl).closeT ⟨(hT.w.mono (fun _ _ h => h.mono (fun p hp => (hs12 _ hp)))), (hT.x0.mono (fun _ _ h => h.mono (fun p hp => (hs12 _ hp)))), (hT.x1.mono (fun _ _ h => h.mono (fun p hp => (hs12 _ hp)))), (hT.x2.mono (fun _ _ h => h.mono (fun p hp => (hs12 _ hp)))), (hT.x3.mono (fun _ _ h => h.mono (fun p hp => (hs12 _ hp)))), (hs12 _ hT.nil)⟩
 exact ⟨rfl, _, _, T, Wa, Wb, hI.idle, hC.idle, (hx12 _ (LExt.refl G w L)), h16⟩
theorem tStep_rekey1 {G : Nat -> Prop} {p : Nat} {L : List (Value × Bytes)} {T : Tk} {n : Nat} {Wa Wb : Way} {w : World} (hI : TI sAnn sBob n T Wa Wb) (hC : Cnt n T Wa Wb) (hn : n < 200) (hv : (rT G p L T).Φ w) (hL : (rF L).Φ w) (hd : (rF L).dj (rT G p L T)) (z : Stp) (_hz : z.body.length <= 40) (A : Option Addr) (c : Nat) (hm : (lV A z.body.length c, z.body) ∈ L) (hk : z.kind = 3) (hq : T.b.queue.length < 8) : Calls Try.prog 15 #[pt p 0, .agg #[.int .i64 z.kind, .int .i64 z.at_, .int .i64 z.turn, .slice A z.body.length c]] w (StepPost n G p w L) := by
 have h00 := Hp.oneT hv hL hd
 obtain ⟨e, hT, h01⟩ := h00.openT 0 rfl
 have h02 := h01.roF 0 rfl hm
 have hsa := hI.small
 have hsb := hI.swap.small
 have hxw := hT.w.1
 have hx0 := hT.x0.1
 have hx1 := hT.x1.1
 have hx2 := hT.x2.1
 have hx3 := hT.x3.1
 have hwl := hI.wl
 have hdl := hI.rows
 have hks := hI.ks
 have hbs := hI.bs
 have hqa := hsa.q8
 have hqb := hsb.q8
 obtain ⟨hd0, hd1, hd2, hd3⟩ := hdl
 have hk0 : T.k0 <= 60 := hI.k0le
 have hk1 : T.k1 <= 60 := hI.swap.k0le
 rw [hk]
 have h0 := h02
 refine enter 182 Try.func15 rfl rfl ?_
 refine wp_reset 184 [(0, (pt p 0)), (1, (aV ([(iV .i64 3), (iV .i64 z.at_), (iV .i64 z.turn), (lV A z.body.length c)]).toArray))] (fun x0 => ?_)
 refine wp_seq_k fun K1 hK1 => reg_lit ?_
 refine wq_to (some 3) (xN h0 50 ([(iV .i64 3), (iV .i64 z.at_), (iV .i64 z.turn), (lV A z.body.length c)])) ?_
 rintro _ w2 ⟨g2, rfl, h2⟩
 refine wq_p 1 [(4, (bV false))] ?_
 refine wl_end rfl (seq_n hK1 (wp_seq_k fun K3 hK3 => reg_lit ?_))
 refine wq_p 1 [(14, (pt g2 0))] (wq_v (some 15) (iV .i64 3) (eL (h2.at_ 0 rfl) 3 (.tmp 14) 0 _) (wq_v (some 16) (iV .i64 1) (eqI (iV .i64 (bits .and .i64 3 1)) (congrArg (iV .i64) (by kernel_rfl))) (wq_p 1 [(5, (iV .i64 1))] ?_)))
 refine wl_end rfl (seq_n hK3 (wp_seq_k fun K4 hK4 => wp_seq_k fun K5 hK5 => reg_lit ?_))
 refine wq_p 1 [(17, (pt g2 0))] (wq_v (some 18) (iV .i64 3) (eL (h2.at_ 0 rfl) 3 (.tmp 17) 0 _) ?_)
 refine wl_end rfl (seq_n hK5 (wp_block (wp_seq_k fun K6 hK6 => wp_seq_k fun K7 hK7 => reg_lit ?_)))
 refine wq_p 2 [(19, (bV false)), (20, (bV false))] ?_
 refine wl_end rfl (seq_n hK7 (cF (reg_lit ?_)))
 refine wq_p 2 [(19, (bV false)), (21, (bV false))] ?_
 refine wl_end rfl (seq_n hK6 (cF (wp_seq_k fun K8 hK8 => wp_seq_k fun K9 hK9 => reg_lit ?_)))
 refine wq_p 2 [(64, (bV false)), (65, (bV false))] ?_
 refine wl_end rfl (seq_n hK9 (cF (reg_lit ?_)))
 refine wq_p 2 [(64, (bV true)), (66, (bV true))] ?_
 refine wl_end rfl (seq_n hK8 (cT (wp_seq_k fun K10 hK10 => reg_lit ?_)))
 refine wq_p 2 [(68, (iV .i64 1)), (67, (pt p 0))] ?_
 refine wq_to (some 69) (x_dp h2 18 [(pt p 0), (iV .i64 1)] (by kernel_rfl) (tEnd_1 (h2.at_ 1 rfl))) ?_
 rintro _ w11 ⟨rfl, h11⟩
 refine wq_to (some 70) (x_ses h11 4 rfl 1 rfl 22 [(pt e.sb 0)] (by kernel_rfl) (sRekey_ok (h11.at_ 4 rfl) (h11.rd 1 rfl) (h11.rdis 1 4 _ _ rfl rfl) hT.nil hI.inv.ba.ov hq)) ?_
 rintro _ w12 ⟨G12, L12, rfl, hs12, hx12, h12⟩
 refine wq_p 1 [(71, (bV true))] ?_
 refine wl_end rfl (seq_n hK10 (cT ?_))
 refine wp_reset 184 [(0, (pt p 0)), (1, (aV ([(iV .i64 3), (iV .i64 z.at_), (iV .i64 z.turn), (lV A z.body.length c)]).toArray)), (3, (pt g2 0)), (4, (bV false)), (5, (iV .i64 1)), (18, (iV .i64 3)), (19, (bV false)), (64, (bV true)), (71, (bV true))] (fun x13 => ?_)
 refine pR_go h12 11 (fun W => True) [(73, [0], 0), (74, [5], 0), (75, [72], 1), (76, [74], 4), (77, [75, 73], 10), (78, [76], 16), (79, [77], 32), (80, [72], 1), (81, [79], 128), (82, [80, 73], 383), (0, [81, 78], 639)] rfl (fun _ d _ _ _ h => by cases d <;> exact h) ?_
 intro hs14 w14 h14
 refine pR_p 5 [0, 1, 2, 3, 7, 8] [(80, (pt p 8)), (79, (pt p 0)), (75, (pt p 8)), (74, (pt p 0)), (73, (iV .i64 1)), (72, (pt p 0))] 399 hs14 trivial ?_
 refine pR_v 4 (some 76) (pt p 9) 415 rfl hs14 trivial (fun W hW => eIa 32 (.tmp 75) (.tmp 73) .i64 p 8 1 2 3 9) ?_
 refine pR_to 5 (some 77) 447 rfl hs14 (OpTo.run (iV .i64 ((T.k1 : Int))) (eL (h14.at_ 1 rfl) 3 (.tmp 76) 9 (iV .i64 ((T.k1 : Int)))) (R := fun v w => v = (iV .i64 ((T.k1 : Int))) /\ w14 = w) ⟨rfl, rfl⟩) ?_
 rintro _ _ ⟨rfl, rfl⟩
 refine ⟨fun _ => trivial, ?_⟩
 refine pR_v 6 (some 78) (iV .i64 (((T.k1 + 1 : Nat) : Int))) 511 rfl hs14 trivial (fun W hW => exec_add _ _ _ _ rfl (T.k1 : Int) 1 (by kernel_rfl) (by kernel_rfl) (((T.k1 + 1 : Nat) : Int)) (by omega) (by omega) (by have := hI.swap.k0le; have := hI.swap.pa; omega) _) ?_
 refine pR_v 9 (some 81) (pt p 9) 1023 rfl hs14 trivial (fun W hW => eIa 32 (.tmp 80) (.tmp 73) .i64 p 8 1 2 3 9) ?_
 refine pR_to 10 none 2047 rfl hs14 (xSt h14 1 3 (.tmp 81) (.tmp 78) 9 (iV .i64 (((T.k1 + 1 : Nat) : Int))) ([(pt e.tb 0), (pt e.sa 0), (pt e.sb 0), (lV e.wA T.wire.length e.wc), (lV e.A0 T.sd0.length e.c0), (lV e.A1 T.sd1.length e.c1), (lV e.A2 T.cm0.length e.c2), (lV e.A3 T.cm1.length e.c3), (iV .i64 ((T.k0 : Int))), (iV .i64 (((T.k1 + 1 : Nat) : Int)))])) ?_
 rintro _ w15 h15
 refine ⟨fun _ => trivial, ?_⟩
 refine pR_done hs14 ?_ _
 refine blk_n (seq_n hK4 (wp_seq_k fun K16 hK16 => reg_lit ?_))
 refine wq_p 1 [(4, (bV true))] ?_
 refine wl_end rfl (seq_n hK16 (wp_ret ?_))
 refine post_1 rfl (by kernel_rfl) (rtm (bV true)) ?_
 have hq17 := h15.monoS 3 rfl (fun p hp => (hs12 _ hp))
 have h18 := (show Hp _ _ _ _ (lT p L12 (TEnv.mk e.tb e.sa e.sb e.F e.Ga G12 e.wA e.wc e.wx e.A0 e.c0 e.x0 e.A1 e.c1 e.x1 e.A2 e.c2 e.x2 e.A3 e.c3 e.x3) { T with b := { T.b with queue := T.b.queue ++ [(3, [])] }, k1 := T.k1 + 1 } ++ []) from hq17.sel [1, 2, 3, 4, 5, 6, 7, 8, 9] [0] rfl rfl rfl).closeT ⟨(hT.w.mono (fun _ _ h => h.mono (fun p hp => (hs12 _ hp)))), (hT.x0.mono (fun _ _ h => h.mono (fun p hp => (hs12 _ hp)))), (hT.x1.mono (fun _ _ h => h.mono (fun p hp => (hs12 _ hp)))), (hT.x2.mono (fun _ _ h => h.mono (fun p hp => (hs12 _ hp)))), (hT.x3.mono (fun _ _ h => h.mono (fun p hp => (hs12 _ hp)))), (hs12 _ hT.nil)⟩
 obtain ⟨W1, hT1, hC1⟩ := hI.swap.rekey hq (by have := hC.swap.room hI.swap (by omega); omega)
 exact ⟨rfl, _, _, _, Wa, W1, (hT1).swap, (hC1 hC.swap).swap, (hx12 _ (LExt.refl G w L)), h18⟩
theorem tStep_rekey1f {G : Nat -> Prop} {p : Nat} {L : List (Value × Bytes)} {T : Tk} {n : Nat} {Wa Wb : Way} {w : World} (hI : TI sAnn sBob n T Wa Wb) (hC : Cnt n T Wa Wb) (_hn : n < 200) (hv : (rT G p L T).Φ w) (hL : (rF L).Φ w) (hd : (rF L).dj (rT G p L T)) (z : Stp) (_hz : z.body.length <= 40) (A : Option Addr) (c : Nat) (hm : (lV A z.body.length c, z.body) ∈ L) (hk : z.kind = 3) (hq : T.b.queue.length = 8) : Calls Try.prog 15 #[pt p 0, .agg #[.int .i64 z.kind, .int .i64 z.at_, .int .i64 z.turn, .slice A z.body.length c]] w (StepPost n G p w L) := by
 have h00 := Hp.oneT hv hL hd
 obtain ⟨e, hT, h01⟩ := h00.openT 0 rfl
 have h02 := h01.roF 0 rfl hm
 have hsa := hI.small
 have hsb := hI.swap.small
 have hxw := hT.w.1
 have hx0 := hT.x0.1
 have hx1 := hT.x1.1
 have hx2 := hT.x2.1
 have hx3 := hT.x3.1
 have hwl := hI.wl
 have hdl := hI.rows
 have hks := hI.ks
 have hbs := hI.bs
 have hqa := hsa.q8
 have hqb := hsb.q8
 obtain ⟨hd0, hd1, hd2, hd3⟩ := hdl
 have hk0 : T.k0 <= 60 := hI.k0le
 have hk1 : T.k1 <= 60 := hI.swap.k0le
 rw [hk]
 have h0 := h02
 refine enter 182 Try.func15 rfl rfl ?_
 refine wp_reset 184 [(0, (pt p 0)), (1, (aV ([(iV .i64 3), (iV .i64 z.at_), (iV .i64 z.turn), (lV A z.body.length c)]).toArray))] (fun x0 => ?_)
 refine wp_seq_k fun K1 hK1 => reg_lit ?_
 refine wq_to (some 3) (xN h0 50 ([(iV .i64 3), (iV .i64 z.at_), (iV .i64 z.turn), (lV A z.body.length c)])) ?_
 rintro _ w2 ⟨g2, rfl, h2⟩
 refine wq_p 1 [(4, (bV false))] ?_
 refine wl_end rfl (seq_n hK1 (wp_seq_k fun K3 hK3 => reg_lit ?_))
 refine wq_p 1 [(14, (pt g2 0))] (wq_v (some 15) (iV .i64 3) (eL (h2.at_ 0 rfl) 3 (.tmp 14) 0 _) (wq_v (some 16) (iV .i64 1) (eqI (iV .i64 (bits .and .i64 3 1)) (congrArg (iV .i64) (by kernel_rfl))) (wq_p 1 [(5, (iV .i64 1))] ?_)))
 refine wl_end rfl (seq_n hK3 (wp_seq_k fun K4 hK4 => wp_seq_k fun K5 hK5 => reg_lit ?_))
 refine wq_p 1 [(17, (pt g2 0))] (wq_v (some 18) (iV .i64 3) (eL (h2.at_ 0 rfl) 3 (.tmp 17) 0 _) ?_)
 refine wl_end rfl (seq_n hK5 (wp_block (wp_seq_k fun K6 hK6 => wp_seq_k fun K7 hK7 => reg_lit ?_)))
 refine wq_p 2 [(19, (bV false)), (20, (bV false))] ?_
 refine wl_end rfl (seq_n hK7 (cF (reg_lit ?_)))
 refine wq_p 2 [(19, (bV false)), (21, (bV false))] ?_
 refine wl_end rfl (seq_n hK6 (cF (wp_seq_k fun K8 hK8 => wp_seq_k fun K9 hK9 => reg_lit ?_)))
 refine wq_p 2 [(64, (bV false)), (65, (bV false))] ?_
 refine wl_end rfl (seq_n hK9 (cF (reg_lit ?_)))
 refine wq_p 2 [(64, (bV true)), (66, (bV true))] ?_
 refine wl_end rfl (seq_n hK8 (cT (wp_seq_k fun K10 hK10 => reg_lit ?_)))
 refine wq_p 2 [(68, (iV .i64 1)), (67, (pt p 0))] ?_
 refine wq_to (some 69) (x_dp h2 18 [(pt p 0), (iV .i64 1)] (by kernel_rfl) (tEnd_1 (h2.at_ 1 rfl))) ?_
 rintro _ w11 ⟨rfl, h11⟩
 refine wq_to (some 70) (x_ses h11 4 rfl 1 rfl 22 [(pt e.sb 0)] (by kernel_rfl) (sRekey_full (h11.at_ 4 rfl) (h11.rd 1 rfl) (h11.rdis 1 4 _ _ rfl rfl) hT.nil hI.inv.ba.ov hq)) ?_
 rintro _ w12 ⟨G12, L12, rfl, hs12, hx12, h12⟩
 refine wq_p 1 [(71, (bV false))] ?_
 refine wl_end rfl (seq_n hK10 (cF (wp_skip (blk_n (seq_n hK4 (wp_seq_k fun K13 hK13 => ?_))))))
 refine wp_reset 184 [(0, (pt p 0)), (1, (aV ([(iV .i64 3), (iV .i64 z.at_), (iV .i64 z.turn), (lV A z.body.length c)]).toArray)), (3, (pt g2 0)), (4, (bV false)), (5, (iV .i64 1)), (18, (iV .i64 3)), (19, (bV false)), (64, (bV true)), (71, (bV false))] (fun x14 => ?_)
 refine reg_lit ?_
 refine wq_p 1 [(4, (bV true))] ?_
 refine wl_end rfl (seq_n hK13 (wp_ret ?_))
 refine post_1 rfl (by kernel_rfl) (rtm (bV true)) ?_
 have hq15 := h12.monoS 3 rfl (fun p hp => (hs12 _ hp))
 have h16 := (show Hp _ _ _ _ (lT p L12 (TEnv.mk e.tb e.sa e.sb e.F e.Ga G12 e.wA e.wc e.wx e.A0 e.c0 e.x0 e.A1 e.c1 e.x1 e.A2 e.c2 e.x2 e.A3 e.c3 e.x3) T ++ []) from hq15.sel [1, 2, 3, 4, 5, 6, 7, 8, 9] [0] rfl rfl rfl).closeT ⟨(hT.w.mono (fun _ _ h => h.mono (fun p hp => (hs12 _ hp)))), (hT.x0.mono (fun _ _ h => h.mono (fun p hp => (hs12 _ hp)))), (hT.x1.mono (fun _ _ h => h.mono (fun p hp => (hs12 _ hp)))), (hT.x2.mono (fun _ _ h => h.mono (fun p hp => (hs12 _ hp)))), (hT.x3.mono (fun _ _ h => h.mono (fun p hp => (hs12 _ hp)))), (hs12 _ hT.nil)⟩
 exact ⟨rfl, _, _, T, Wa, Wb, hI.idle, hC.idle, (hx12 _ (LExt.refl G w L)), h16⟩
end
end Go.Proofs.Ytjalodhdjollhaa
