/- Steps: a frame that is turned; remainders. -/
import Derived.Test.YtjalodhdjollhaaCA15
set_option maxRecDepth 100000
set_option maxHeartbeats 4000000
namespace Go.Proofs.Ytjalodhdjollhaa
section
open Go.Value renaming int -> iV, slice -> lV, string -> sV, bool -> bV, agg -> aV
open Go.RowKit Go.QT
theorem tStep_send0s {G : Nat -> Prop} {p : Nat} {L : List (Value × Bytes)} {T : Tk} {n : Nat} {Wa Wb : Way} {w : World} (hI : TI sAnn sBob n T Wa Wb) (hC : Cnt n T Wa Wb) (hn : n < 200) (hv : (rT G p L T).Φ w) (hL : (rF L).Φ w) (hd : (rF L).dj (rT G p L T)) (z : Stp) (_hz : z.body.length <= 40) (A : Option Addr) (c : Nat) (hm : (lV A z.body.length c, z.body) ∈ L) (hk : z.kind = 4) (f : Frm) (s' : STab) (S' : Ses) (hr : SendR T.s T.a s' S' (some f)) : Calls Try.prog 15 #[pt p 0, .agg #[.int .i64 z.kind, .int .i64 z.at_, .int .i64 z.turn, .slice A z.body.length c]] w (StepPost n G p w L) := by
 have h00 := Hp.oneT hv hL hd
 obtain ⟨e, hT, h01⟩ := h00.openT 0 rfl
 have h02 := h01.roF 0 rfl hm
 have hsa := hI.small
 have hsb := hI.swap.small
 have hxw := hT.w.1
 have hx0 := hT.x0.1
 have hx1 := hT.x1.1
 have hx2 := hT.x2.1
 have hx3 := hT.x3.1
 have hwl := hI.wl
 have hdl := hI.rows
 have hks := hI.ks
 have hbs := hI.bs
 have hqa := hsa.q8
 have hqb := hsb.q8
 obtain ⟨hd0, hd1, hd2, hd3⟩ := hdl
 obtain ⟨W1, hT1, hSI, hC1⟩ := hI.send hr (by omega)
 have hsq : S'.queue = T.a.queue := hSI.q
 have hql : S'.queue.length > 0 := by
   have := hSI.is
   rw [hsq]
   exact List.length_pos_iff.2 (of_decide_eq_true (show decide _ = true from this.symm))
 rw [hk]
 have h0 := h02
 refine enter 182 Try.func15 rfl rfl ?_
 refine wp_reset 184 [(0, (pt p 0)), (1, (aV ([(iV .i64 4), (iV .i64 z.at_), (iV .i64 z.turn), (lV A z.body.length c)]).toArray))] (fun x0 => ?_)
 refine wp_seq_k fun K1 hK1 => reg_lit ?_
 refine wq_to (some 3) (xN h0 50 ([(iV .i64 4), (iV .i64 z.at_), (iV .i64 z.turn), (lV A z.body.length c)])) ?_
 rintro _ w2 ⟨g2, rfl, h2⟩
 refine wq_p 1 [(4, (bV false))] ?_
 refine wl_end rfl (seq_n hK1 (wp_seq_k fun K3 hK3 => reg_lit ?_))
 refine wq_p 1 [(14, (pt g2 0))] (wq_v (some 15) (iV .i64 4) (eL (h2.at_ 0 rfl) 3 (.tmp 14) 0 _) (wq_v (some 16) (iV .i64 0) (eqI (iV .i64 (bits .and .i64 4 1)) (congrArg (iV .i64) (by kernel_rfl))) (wq_p 1 [(5, (iV .i64 0))] ?_)))
 refine wl_end rfl (seq_n hK3 (wp_seq_k fun K4 hK4 => wp_seq_k fun K5 hK5 => reg_lit ?_))
 refine wq_p 1 [(17, (pt g2 0))] (wq_v (some 18) (iV .i64 4) (eL (h2.at_ 0 rfl) 3 (.tmp 17) 0 _) ?_)
 refine wl_end rfl (seq_n hK5 (wp_block (wp_seq_k fun K6 hK6 => wp_seq_k fun K7 hK7 => reg_lit ?_)))
 refine wq_p 2 [(19, (bV false)), (20, (bV false))] ?_
 refine wl_end rfl (seq_n hK7 (cF (reg_lit ?_)))
 refine wq_p 2 [(19, (bV false)), (21, (bV false))] ?_
 refine wl_end rfl (seq_n hK6 (cF (wp_seq_k fun K8 hK8 => wp_seq_k fun K9 hK9 => reg_lit ?_)))
 refine wq_p 2 [(64, (bV false)), (65, (bV false))] ?_
 refine wl_end rfl (seq_n hK9 (cF (reg_lit ?_)))
 refine wq_p 2 [(64, (bV false)), (66, (bV false))] ?_
 refine wl_end rfl (seq_n hK8 (cF (wp_seq_k fun K10 hK10 => wp_seq_k fun K11 hK11 => ?_)))
 refine wp_reset 184 [(0, (pt p 0)), (1, (aV ([(iV .i64 4), (iV .i64 z.at_), (iV .i64 z.turn), (lV A z.body.length c)]).toArray)), (3, (pt g2 0)), (4, (bV false)), (5, (iV .i64 0)), (18, (iV .i64 4)), (19, (bV false)), (64, (bV false))] (fun x12 => ?_)
 refine reg_lit ?_
 refine wq_p 2 [(82, (bV true)), (83, (bV true))] ?_
 refine wl_end rfl (seq_n hK11 (cT (wp_skip (seq_n hK10 (cT (wp_seq_k fun K13 hK13 => reg_lit ?_))))))
 refine wq_p 2 [(87, (iV .i64 0)), (86, (pt p 0))] ?_
 refine wq_to (some 88) (x_dp h2 18 [(pt p 0), (iV .i64 0)] (by kernel_rfl) (tEnd_0 (h2.at_ 1 rfl))) ?_
 rintro _ w14 ⟨rfl, h14⟩
 refine wq_to (some 89) (x_two h14 2 3 rfl rfl (by kernel_rfl) 1 rfl 11 [(pt e.sa 0)] (by kernel_rfl) (send_of (h14.at_ 2 rfl) (h14.at_ 3 rfl) (h14.rd 1 rfl) (h14.dis 2 3 _ _ rfl rfl (by decide)) (h14.rdis 1 2 _ _ rfl rfl) (h14.rdis 1 3 _ _ rfl rfl) hr hsa.q (by have h1 : T.a.sent <= 60 := hsa.sent; omega) (by have h1 : T.a.eo <= 60 := hsa.eo; omega) (by omega) (by omega))) ?_
 rintro _ w15 ⟨F15, G15, L15, ⟨_, rfl, Af15, cf15, rfl, hmf15⟩, hs15, hx15, h15⟩
 refine wq_p 3 [(91, (bV true)), (90, (aV ([(sV f.src), (sV f.dst), (iV .i64 f.sid), (iV .i64 f.epoch), (iV .i64 f.seq), (lV Af15 f.box.length cf15)]).toArray)), (85, (Value.tuple #[(aV ([(sV f.src), (sV f.dst), (iV .i64 f.sid), (iV .i64 f.epoch), (iV .i64 f.seq), (lV Af15 f.box.length cf15)]).toArray), (bV true)]))] ?_
 refine wq_to (some 8) (xN h15 38 ([(sV ByteArray.empty), (sV ByteArray.empty), (iV .i64 0), (iV .i64 0), (iV .i64 0), (lV none 0 0)])) ?_
 rintro _ w16 ⟨g16, rfl, h16⟩
 refine wq_to none (xSs h16 0 38 (.tmp 8) (.tmp 90) 0 ([(sV f.src), (sV f.dst), (iV .i64 f.sid), (iV .i64 f.epoch), (iV .i64 f.seq), (lV Af15 f.box.length cf15)]) ([(sV f.src), (sV f.dst), (iV .i64 f.sid), (iV .i64 f.epoch), (iV .i64 f.seq), (lV Af15 f.box.length cf15)])) ?_
 rintro _ w17 h17
 refine wq_p 1 [(9, (bV true))] ?_
 refine wl_end rfl (seq_n hK13 (wp_seq_k fun K18 hK18 => wp_seq_k fun K19 hK19 => reg_lit ?_))
 refine wq_p 3 [(94, (iV .i64 0)), (93, (pt p 0)), (92, (bV true))] ?_
 refine wq_to (some 95) (x_dp h17 18 [(pt p 0), (iV .i64 0)] (by kernel_rfl) (tEnd_0 (h17.at_ 2 rfl))) ?_
 rintro _ w20 ⟨rfl, h20⟩
 refine wq_to (some 96) (x_dp h20 10 [(pt e.sa 0)] (by kernel_rfl) (waits_any (h20.at_ 4 rfl))) ?_
 rintro _ w21 ⟨rfl, h21⟩
 refine wq_v (some 97) (.bool true) (eqI (bV (decide ((S'.queue.length : Int) > 0))) (congrArg bV (by simp only [decide_eq_true_eq]; omega))) (wq_p 1 [(98, (bV false))] ?_)
 refine wl_end rfl (seq_n hK19 (cF (wp_skip (seq_n hK18 (wp_seq_k fun K22 hK22 => reg_lit ?_)))))
 refine wq_p 1 [(99, (bV true))] ?_
 refine wl_end rfl (seq_n hK22 (cT ?_))
 refine pR_go h21 8 (fun W => (rBlk g16 38 ([(sV f.src), (sV f.dst), (iV .i64 f.sid), (iV .i64 f.epoch), (iV .i64 f.seq), (lV Af15 f.box.length cf15)])).Φ W /\ True) [(101, [0], 0), (102, [0], 0), (103, [101], 2), (104, [102], 4), (105, [103], 8), (106, [8], 0), (107, [105], 32), (108, [104, 106], 80), (109, [100], 255), (110, [108], 511), (0, [109, 107], 767)] rfl (fun _ d _ _ _ h => by cases d <;> exact h) ?_
 intro hs23 w23 h23
 refine pR_p 7 [0, 1, 2, 3] [(103, (pt p 3)), (102, (pt p 0)), (101, (pt p 0)), (100, (pt p 0))] 15 hs23 ⟨h23.at_ 0 rfl, trivial⟩ ?_
 refine pR_v 5 (some 105) (aV ([(sV f.src), (sV f.dst), (iV .i64 f.sid), (iV .i64 f.epoch), (iV .i64 f.seq), (lV Af15 f.box.length cf15)]).toArray) 47 rfl hs23 ⟨h23.at_ 0 rfl, trivial⟩ (fun W hW => eLs hW.1 38 (.tmp 8) 0 ([(sV f.src), (sV f.dst), (iV .i64 f.sid), (iV .i64 f.epoch), (iV .i64 f.seq), (lV Af15 f.box.length cf15)])) ?_
 refine pR_or 4 6 hs23 ?_ ?_
 ·
  refine pR_op 4 (some 104) 63 rfl (OpTo.run (lV e.wA T.wire.length e.wc) (eL (h23.at_ 2 rfl) 30 (.tmp 103) 3 (lV e.wA T.wire.length e.wc)) (R := fun v w => v = (lV e.wA T.wire.length e.wc) /\ w23 = w) ⟨rfl, rfl⟩) ?_
  rintro _ _ ⟨rfl, rfl⟩
  refine ⟨fun _ => ⟨h23.at_ 0 rfl, trivial⟩, ?_⟩
  refine pR_to 6 (some 106) 127 rfl hs23 (x_bs h23 38 ([(sV f.src), (sV f.dst), (iV .i64 f.sid), (iV .i64 f.epoch), (iV .i64 f.seq), (lV Af15 f.box.length cf15)]) 1 (by kernel_rfl)) ?_
  rintro _ w24 ⟨g24, rfl, h24⟩
  refine ⟨fun _ => ⟨h24.at_ 1 rfl, trivial⟩, ?_⟩
  refine pR_to 7 (some 107) 255 rfl hs23 (xPu h24 7 0 rfl rfl (.tmp 104) (.tmp 106) 30 80 (aV ([(sV ByteArray.empty), (sV ByteArray.empty), (iV .i64 0), (iV .i64 0), (iV .i64 0), (lV none 0 0)]).toArray) (by omega) (by unfold maxLen; omega) (e.wx ++ [[(sV f.src), (sV f.dst), (iV .i64 f.sid), (iV .i64 f.epoch), (iV .i64 f.seq), (lV Af15 f.box.length cf15)]]) ((T.wire ++ [f]).length) (hyn := (by rw [List.length_append, List.length_append, hT.w.1]; rfl))) ?_
  rintro _ w25 ⟨A25, c25, rfl, h25⟩
  refine ⟨fun _ => ⟨h25.at_ 1 rfl, trivial⟩, ?_⟩
  refine pR_to 8 (some 108) 511 rfl hs23 (OpTo.run (pt p 0) (pureOp_run (by kernel_rfl) _) (R := fun v w => v = (pt p 0) /\ w25 = w) ⟨rfl, rfl⟩) ?_
  rintro _ _ ⟨rfl, rfl⟩
  refine ⟨fun h => absurd h (by decide), ?_⟩
  refine pR_to 9 (some 109) 1023 rfl hs23 (OpTo.run (pt p 3) (pureOp_run (by kernel_rfl) _) (R := fun v w => v = (pt p 3) /\ w25 = w) ⟨rfl, rfl⟩) ?_
  rintro _ _ ⟨rfl, rfl⟩
  refine ⟨fun h => absurd h (by decide), ?_⟩
  refine pR_to 10 none 2047 rfl hs23 (xSt h25 3 30 (.tmp 109) (.tmp 107) 3 (lV A25 ((T.wire ++ [f]).length) c25) ([(pt e.tb 0), (pt e.sa 0), (pt e.sb 0), (lV A25 ((T.wire ++ [f]).length) c25), (lV e.A0 T.sd0.length e.c0), (lV e.A1 T.sd1.length e.c1), (lV e.A2 T.cm0.length e.c2), (lV e.A3 T.cm1.length e.c3), (iV .i64 ((T.k0 : Int))), (iV .i64 ((T.k1 : Int)))])) ?_
  rintro _ w26 h26
  refine ⟨fun h => absurd h (by decide), ?_⟩
  refine pR_done hs23 ?_ _
  refine blk_n (seq_n hK4 (wp_seq_k fun K27 hK27 => reg_lit ?_))
  refine wq_p 1 [(4, (bV true))] ?_
  refine wl_end rfl (seq_n hK27 (wp_ret ?_))
  refine post_1 rfl (by kernel_rfl) (rtm (bV true)) ?_
  have hq28 := h26.monoS 6 rfl (fun p hp => (hs15 _ hp))
  have h29 := (show Hp _ _ _ _ (lT p L15 (TEnv.mk e.tb e.sa e.sb F15 G15 e.Gb A25 c25 (e.wx ++ [[(sV f.src), (sV f.dst), (iV .i64 f.sid), (iV .i64 f.epoch), (iV .i64 f.seq), (lV Af15 f.box.length cf15)]]) e.A0 e.c0 e.x0 e.A1 e.c1 e.x1 e.A2 e.c2 e.x2 e.A3 e.c3 e.x3) { T with s := s', a := S', wire := T.wire ++ [f] } ++ []) from hq28.sel [3, 4, 5, 6, 7, 8, 9, 10, 11] [0] rfl rfl rfl).closeT ⟨((hT.w.mono (fun _ _ h => h.mono (fun p hp => (hs15 _ hp)))).push ⟨Af15, cf15, rfl, hmf15⟩), (hT.x0.mono (fun _ _ h => h.mono (fun p hp => (hs15 _ hp)))), (hT.x1.mono (fun _ _ h => h.mono (fun p hp => (hs15 _ hp)))), (hT.x2.mono (fun _ _ h => h.mono (fun p hp => (hs15 _ hp)))), (hT.x3.mono (fun _ _ h => h.mono (fun p hp => (hs15 _ hp)))), (hs15 _ hT.nil)⟩
  have hT2 := hT1
  have hC2 := hC1 hC
  exact ⟨rfl, _, _, _, W1, Wb, hT2, hC2, (hx15 _ (LExt.refl G w L)), h29⟩
 ·
  refine pR_op 6 (some 106) 111 rfl (x_bs h23 38 ([(sV f.src), (sV f.dst), (iV .i64 f.sid), (iV .i64 f.epoch), (iV .i64 f.seq), (lV Af15 f.box.length cf15)]) 1 (by kernel_rfl)) ?_
  rintro _ w30 ⟨g30, rfl, h30⟩
  refine ⟨fun _ => ⟨h30.at_ 1 rfl, trivial⟩, ?_⟩
  refine pR_to 4 (some 104) 127 rfl hs23 (OpTo.run (lV e.wA T.wire.length e.wc) (eL (h30.at_ 3 rfl) 30 (.tmp 103) 3 (lV e.wA T.wire.length e.wc)) (R := fun v w => v = (lV e.wA T.wire.length e.wc) /\ w30 = w) ⟨rfl, rfl⟩) ?_
  rintro _ _ ⟨rfl, rfl⟩
  refine ⟨fun _ => ⟨h30.at_ 1 rfl, trivial⟩, ?_⟩
  refine pR_to 7 (some 107) 255 rfl hs23 (xPu h30 7 0 rfl rfl (.tmp 104) (.tmp 106) 30 80 (aV ([(sV ByteArray.empty), (sV ByteArray.empty), (iV .i64 0), (iV .i64 0), (iV .i64 0), (lV none 0 0)]).toArray) (by omega) (by unfold maxLen; omega) (e.wx ++ [[(sV f.src), (sV f.dst), (iV .i64 f.sid), (iV .i64 f.epoch), (iV .i64 f.seq), (lV Af15 f.box.length cf15)]]) ((T.wire ++ [f]).length) (hyn := (by rw [List.length_append, List.length_append, hT.w.1]; rfl))) ?_
  rintro _ w31 ⟨A31, c31, rfl, h31⟩
  refine ⟨fun _ => ⟨h31.at_ 1 rfl, trivial⟩, ?_⟩
  refine pR_to 8 (some 108) 511 rfl hs23 (OpTo.run (pt p 0) (pureOp_run (by kernel_rfl) _) (R := fun v w => v = (pt p 0) /\ w31 = w) ⟨rfl, rfl⟩) ?_
  rintro _ _ ⟨rfl, rfl⟩
  refine ⟨fun h => absurd h (by decide), ?_⟩
  refine pR_to 9 (some 109) 1023 rfl hs23 (OpTo.run (pt p 3) (pureOp_run (by kernel_rfl) _) (R := fun v w => v = (pt p 3) /\ w31 = w) ⟨rfl, rfl⟩) ?_
  rintro _ _ ⟨rfl, rfl⟩
  refine ⟨fun h => absurd h (by decide), ?_⟩
  refine pR_to 10 none 2047 rfl hs23 (xSt h31 3 30 (.tmp 109) (.tmp 107) 3 (lV A31 ((T.wire ++ [f]).length) c31) ([(pt e.tb 0), (pt e.sa 0), (pt e.sb 0), (lV A31 ((T.wire ++ [f]).length) c31), (lV e.A0 T.sd0.length e.c0), (lV e.A1 T.sd1.length e.c1), (lV e.A2 T.cm0.length e.c2), (lV e.A3 T.cm1.length e.c3), (iV .i64 ((T.k0 : Int))), (iV .i64 ((T.k1 : Int)))])) ?_
  rintro _ w32 h32
  refine ⟨fun h => absurd h (by decide), ?_⟩
  refine pR_done hs23 ?_ _
  refine blk_n (seq_n hK4 (wp_seq_k fun K33 hK33 => reg_lit ?_))
  refine wq_p 1 [(4, (bV true))] ?_
  refine wl_end rfl (seq_n hK33 (wp_ret ?_))
  refine post_1 rfl (by kernel_rfl) (rtm (bV true)) ?_
  have hq34 := h32.monoS 6 rfl (fun p hp => (hs15 _ hp))
  have h35 := (show Hp _ _ _ _ (lT p L15 (TEnv.mk e.tb e.sa e.sb F15 G15 e.Gb A31 c31 (e.wx ++ [[(sV f.src), (sV f.dst), (iV .i64 f.sid), (iV .i64 f.epoch), (iV .i64 f.seq), (lV Af15 f.box.length cf15)]]) e.A0 e.c0 e.x0 e.A1 e.c1 e.x1 e.A2 e.c2 e.x2 e.A3 e.c3 e.x3) { T with s := s', a := S', wire := T.wire ++ [f] } ++ []) from hq34.sel [3, 4, 5, 6, 7, 8, 9, 10, 11] [0] rfl rfl rfl).closeT ⟨((hT.w.mono (fun _ _ h => h.mono (fun p hp => (hs15 _ hp)))).push ⟨Af15, cf15, rfl, hmf15⟩), (hT.x0.mono (fun _ _ h => h.mono (fun p hp => (hs15 _ hp)))), (hT.x1.mono (fun _ _ h => h.mono (fun p hp => (hs15 _ hp)))), (hT.x2.mono (fun _ _ h => h.mono (fun p hp => (hs15 _ hp)))), (hT.x3.mono (fun _ _ h => h.mono (fun p hp => (hs15 _ hp)))), (hs15 _ hT.nil)⟩
  have hT2 := hT1
  have hC2 := hC1 hC
  exact ⟨rfl, _, _, _, W1, Wb, hT2, hC2, (hx15 _ (LExt.refl G w L)), h35⟩
theorem tStep_send0n {G : Nat -> Prop} {p : Nat} {L : List (Value × Bytes)} {T : Tk} {n : Nat} {Wa Wb : Way} {w : World} (hI : TI sAnn sBob n T Wa Wb) (hC : Cnt n T Wa Wb) (hn : n < 200) (hv : (rT G p L T).Φ w) (hL : (rF L).Φ w) (hd : (rF L).dj (rT G p L T)) (z : Stp) (_hz : z.body.length <= 40) (A : Option Addr) (c : Nat) (hm : (lV A z.body.length c, z.body) ∈ L) (hk : z.kind = 4) (s' : STab) (S' : Ses) (hr : SendR T.s T.a s' S' none) : Calls Try.prog 15 #[pt p 0, .agg #[.int .i64 z.kind, .int .i64 z.at_, .int .i64 z.turn, .slice A z.body.length c]] w (StepPost n G p w L) := by
 have h00 := Hp.oneT hv hL hd
 obtain ⟨e, hT, h01⟩ := h00.openT 0 rfl
 have h02 := h01.roF 0 rfl hm
 have hsa := hI.small
 have hsb := hI.swap.small
 have hxw := hT.w.1
 have hx0 := hT.x0.1
 have hx1 := hT.x1.1
 have hx2 := hT.x2.1
 have hx3 := hT.x3.1
 have hwl := hI.wl
 have hdl := hI.rows
 have hks := hI.ks
 have hbs := hI.bs
 have hqa := hsa.q8
 have hqb := hsb.q8
 obtain ⟨hd0, hd1, hd2, hd3⟩ := hdl
 obtain ⟨W1, hT1, hSI, hC1⟩ := hI.send hr (by omega)
 have hsq : S'.queue = T.a.queue := hSI.q
 have hql : S'.queue.length = 0 := by
   have := hSI.is
   rw [hsq]
   exact List.length_eq_zero_iff.2 (Classical.not_not.1 (of_decide_eq_false (show decide _ = false from this.symm)))
 rw [hk]
 have h0 := h02
 refine enter 182 Try.func15 rfl rfl ?_
 refine wp_reset 184 [(0, (pt p 0)), (1, (aV ([(iV .i64 4), (iV .i64 z.at_), (iV .i64 z.turn), (lV A z.body.length c)]).toArray))] (fun x0 => ?_)
 refine wp_seq_k fun K1 hK1 => reg_lit ?_
 refine wq_to (some 3) (xN h0 50 ([(iV .i64 4), (iV .i64 z.at_), (iV .i64 z.turn), (lV A z.body.length c)])) ?_
 rintro _ w2 ⟨g2, rfl, h2⟩
 refine wq_p 1 [(4, (bV false))] ?_
 refine wl_end rfl (seq_n hK1 (wp_seq_k fun K3 hK3 => reg_lit ?_))
 refine wq_p 1 [(14, (pt g2 0))] (wq_v (some 15) (iV .i64 4) (eL (h2.at_ 0 rfl) 3 (.tmp 14) 0 _) (wq_v (some 16) (iV .i64 0) (eqI (iV .i64 (bits .and .i64 4 1)) (congrArg (iV .i64) (by kernel_rfl))) (wq_p 1 [(5, (iV .i64 0))] ?_)))
 refine wl_end rfl (seq_n hK3 (wp_seq_k fun K4 hK4 => wp_seq_k fun K5 hK5 => reg_lit ?_))
 refine wq_p 1 [(17, (pt g2 0))] (wq_v (some 18) (iV .i64 4) (eL (h2.at_ 0 rfl) 3 (.tmp 17) 0 _) ?_)
 refine wl_end rfl (seq_n hK5 (wp_block (wp_seq_k fun K6 hK6 => wp_seq_k fun K7 hK7 => reg_lit ?_)))
 refine wq_p 2 [(19, (bV false)), (20, (bV false))] ?_
 refine wl_end rfl (seq_n hK7 (cF (reg_lit ?_)))
 refine wq_p 2 [(19, (bV false)), (21, (bV false))] ?_
 refine wl_end rfl (seq_n hK6 (cF (wp_seq_k fun K8 hK8 => wp_seq_k fun K9 hK9 => reg_lit ?_)))
 refine wq_p 2 [(64, (bV false)), (65, (bV false))] ?_
 refine wl_end rfl (seq_n hK9 (cF (reg_lit ?_)))
 refine wq_p 2 [(64, (bV false)), (66, (bV false))] ?_
 refine wl_end rfl (seq_n hK8 (cF (wp_seq_k fun K10 hK10 => wp_seq_k fun K11 hK11 => ?_)))
 refine wp_reset 184 [(0, (pt p 0)), (1, (aV ([(iV .i64 4), (iV .i64 z.at_), (iV .i64 z.turn), (lV A z.body.length c)]).toArray)), (3, (pt g2 0)), (4, (bV false)), (5, (iV .i64 0)), (18, (iV .i64 4)), (19, (bV false)), (64, (bV false))] (fun x12 => ?_)
 refine reg_lit ?_
 refine wq_p 2 [(82, (bV true)), (83, (bV true))] ?_
 refine wl_end rfl (seq_n hK11 (cT (wp_skip (seq_n hK10 (cT (wp_seq_k fun K13 hK13 => reg_lit ?_))))))
 refine wq_p 2 [(87, (iV .i64 0)), (86, (pt p 0))] ?_
 refine wq_to (some 88) (x_dp h2 18 [(pt p 0), (iV .i64 0)] (by kernel_rfl) (tEnd_0 (h2.at_ 1 rfl))) ?_
 rintro _ w14 ⟨rfl, h14⟩
 refine wq_to (some 89) (x_two h14 2 3 rfl rfl (by kernel_rfl) 1 rfl 11 [(pt e.sa 0)] (by kernel_rfl) (send_of (h14.at_ 2 rfl) (h14.at_ 3 rfl) (h14.rd 1 rfl) (h14.dis 2 3 _ _ rfl rfl (by decide)) (h14.rdis 1 2 _ _ rfl rfl) (h14.rdis 1 3 _ _ rfl rfl) hr hsa.q (by have h1 : T.a.sent <= 60 := hsa.sent; omega) (by have h1 : T.a.eo <= 60 := hsa.eo; omega) (by omega) (by omega))) ?_
 rintro _ w15 ⟨F15, G15, L15, ⟨_, rfl, rfl⟩, hs15, hx15, h15⟩
 refine wq_p 3 [(91, (bV false)), (90, (aV ([(sV ByteArray.empty), (sV ByteArray.empty), (iV .i64 0), (iV .i64 0), (iV .i64 0), (lV none 0 0)]).toArray)), (85, (Value.tuple #[(aV ([(sV ByteArray.empty), (sV ByteArray.empty), (iV .i64 0), (iV .i64 0), (iV .i64 0), (lV none 0 0)]).toArray), (bV false)]))] ?_
 refine wq_to (some 8) (xN h15 38 ([(sV ByteArray.empty), (sV ByteArray.empty), (iV .i64 0), (iV .i64 0), (iV .i64 0), (lV none 0 0)])) ?_
 rintro _ w16 ⟨g16, rfl, h16⟩
 refine wq_to none (xSs h16 0 38 (.tmp 8) (.tmp 90) 0 ([(sV ByteArray.empty), (sV ByteArray.empty), (iV .i64 0), (iV .i64 0), (iV .i64 0), (lV none 0 0)]) ([(sV ByteArray.empty), (sV ByteArray.empty), (iV .i64 0), (iV .i64 0), (iV .i64 0), (lV none 0 0)])) ?_
 rintro _ w17 h17
 refine wq_p 1 [(9, (bV false))] ?_
 refine wl_end rfl (seq_n hK13 (wp_seq_k fun K18 hK18 => wp_seq_k fun K19 hK19 => reg_lit ?_))
 refine wq_p 3 [(94, (iV .i64 0)), (93, (pt p 0)), (92, (bV false))] ?_
 refine wq_to (some 95) (x_dp h17 18 [(pt p 0), (iV .i64 0)] (by kernel_rfl) (tEnd_0 (h17.at_ 2 rfl))) ?_
 rintro _ w20 ⟨rfl, h20⟩
 refine wq_to (some 96) (x_dp h20 10 [(pt e.sa 0)] (by kernel_rfl) (waits_any (h20.at_ 4 rfl))) ?_
 rintro _ w21 ⟨rfl, h21⟩
 refine wq_v (some 97) (.bool false) (eqI (bV (decide ((S'.queue.length : Int) > 0))) (congrArg bV (by simp only [decide_eq_false_iff_not]; omega))) (wq_p 1 [(98, (bV false))] ?_)
 refine wl_end rfl (seq_n hK19 (cF (wp_skip (seq_n hK18 (wp_seq_k fun K22 hK22 => reg_lit ?_)))))
 refine wq_p 1 [(99, (bV false))] ?_
 refine wl_end rfl (seq_n hK22 (cF (wp_skip (blk_n (seq_n hK4 (wp_seq_k fun K23 hK23 => reg_lit ?_))))))
 refine wq_p 1 [(4, (bV true))] ?_
 refine wl_end rfl (seq_n hK23 (wp_ret ?_))
 refine post_1 rfl (by kernel_rfl) (rtm (bV true)) ?_
 have hq24 := h21.monoS 5 rfl (fun p hp => (hs15 _ hp))
 have h25 := (show Hp _ _ _ _ (lT p L15 (TEnv.mk e.tb e.sa e.sb F15 G15 e.Gb e.wA e.wc e.wx e.A0 e.c0 e.x0 e.A1 e.c1 e.x1 e.A2 e.c2 e.x2 e.A3 e.c3 e.x3) { T with s := s', a := S', wire := T.wire } ++ []) from hq24.sel [2, 3, 4, 5, 6, 7, 8, 9, 10] [0] rfl rfl rfl).closeT ⟨(hT.w.mono (fun _ _ h => h.mono (fun p hp => (hs15 _ hp)))), (hT.x0.mono (fun _ _ h => h.mono (fun p hp => (hs15 _ hp)))), (hT.x1.mono (fun _ _ h => h.mono (fun p hp => (hs15 _ hp)))), (hT.x2.mono (fun _ _ h => h.mono (fun p hp => (hs15 _ hp)))), (hT.x3.mono (fun _ _ h => h.mono (fun p hp => (hs15 _ hp)))), (hs15 _ hT.nil)⟩
 have hT2 := hT1
 simp only [Option.toList, List.append_nil] at hT2
 have hC2 := hC1 hC
 simp only [Option.toList, List.append_nil] at hC2
 exact ⟨rfl, _, _, _, W1, Wb, hT2, hC2, (hx15 _ (LExt.refl G w L)), h25⟩
theorem tStep_send1s {G : Nat -> Prop} {p : Nat} {L : List (Value × Bytes)} {T : Tk} {n : Nat} {Wa Wb : Way} {w : World} (hI : TI sAnn sBob n T Wa Wb) (hC : Cnt n T Wa Wb) (hn : n < 200) (hv : (rT G p L T).Φ w) (hL : (rF L).Φ w) (hd : (rF L).dj (rT G p L T)) (z : Stp) (_hz : z.body.length <= 40) (A : Option Addr) (c : Nat) (hm : (lV A z.body.length c, z.body) ∈ L) (hk : z.kind = 5) (f : Frm) (s' : STab) (S' : Ses) (hr : SendR T.s T.b s' S' (some f)) : Calls Try.prog 15 #[pt p 0, .agg #[.int .i64 z.kind, .int .i64 z.at_, .int .i64 z.turn, .slice A z.body.length c]] w (StepPost n G p w L) := by
 have h00 := Hp.oneT hv hL hd
 obtain ⟨e, hT, h01⟩ := h00.openT 0 rfl
 have h02 := h01.roF 0 rfl hm
 have hsa := hI.small
 have hsb := hI.swap.small
 have hxw := hT.w.1
 have hx0 := hT.x0.1
 have hx1 := hT.x1.1
 have hx2 := hT.x2.1
 have hx3 := hT.x3.1
 have hwl := hI.wl
 have hdl := hI.rows
 have hks := hI.ks
 have hbs := hI.bs
 have hqa := hsa.q8
 have hqb := hsb.q8
 obtain ⟨hd0, hd1, hd2, hd3⟩ := hdl
 obtain ⟨W1, hT1, hSI, hC1⟩ := hI.swap.send hr (by omega)
 have hsq : S'.queue = T.b.queue := hSI.q
 have hql : S'.queue.length > 0 := by
   have := hSI.is
   rw [hsq]
   exact List.length_pos_iff.2 (of_decide_eq_true (show decide _ = true from this.symm))
 rw [hk]
 have h0 := h02
 refine enter 182 Try.func15 rfl rfl ?_
 refine wp_reset 184 [(0, (pt p 0)), (1, (aV ([(iV .i64 5), (iV .i64 z.at_), (iV .i64 z.turn), (lV A z.body.length c)]).toArray))] (fun x0 => ?_)
 refine wp_seq_k fun K1 hK1 => reg_lit ?_
 refine wq_to (some 3) (xN h0 50 ([(iV .i64 5), (iV .i64 z.at_), (iV .i64 z.turn), (lV A z.body.length c)])) ?_
 rintro _ w2 ⟨g2, rfl, h2⟩
 refine wq_p 1 [(4, (bV false))] ?_
 refine wl_end rfl (seq_n hK1 (wp_seq_k fun K3 hK3 => reg_lit ?_))
 refine wq_p 1 [(14, (pt g2 0))] (wq_v (some 15) (iV .i64 5) (eL (h2.at_ 0 rfl) 3 (.tmp 14) 0 _) (wq_v (some 16) (iV .i64 1) (eqI (iV .i64 (bits .and .i64 5 1)) (congrArg (iV .i64) (by kernel_rfl))) (wq_p 1 [(5, (iV .i64 1))] ?_)))
 refine wl_end rfl (seq_n hK3 (wp_seq_k fun K4 hK4 => wp_seq_k fun K5 hK5 => reg_lit ?_))
 refine wq_p 1 [(17, (pt g2 0))] (wq_v (some 18) (iV .i64 5) (eL (h2.at_ 0 rfl) 3 (.tmp 17) 0 _) ?_)
 refine wl_end rfl (seq_n hK5 (wp_block (wp_seq_k fun K6 hK6 => wp_seq_k fun K7 hK7 => reg_lit ?_)))
 refine wq_p 2 [(19, (bV false)), (20, (bV false))] ?_
 refine wl_end rfl (seq_n hK7 (cF (reg_lit ?_)))
 refine wq_p 2 [(19, (bV false)), (21, (bV false))] ?_
 refine wl_end rfl (seq_n hK6 (cF (wp_seq_k fun K8 hK8 => wp_seq_k fun K9 hK9 => reg_lit ?_)))
 refine wq_p 2 [(64, (bV false)), (65, (bV false))] ?_
 refine wl_end rfl (seq_n hK9 (cF (reg_lit ?_)))
 refine wq_p 2 [(64, (bV false)), (66, (bV false))] ?_
 refine wl_end rfl (seq_n hK8 (cF (wp_seq_k fun K10 hK10 => wp_seq_k fun K11 hK11 => ?_)))
 refine wp_reset 184 [(0, (pt p 0)), (1, (aV ([(iV .i64 5), (iV .i64 z.at_), (iV .i64 z.turn), (lV A z.body.length c)]).toArray)), (3, (pt g2 0)), (4, (bV false)), (5, (iV .i64 1)), (18, (iV .i64 5)), (19, (bV false)), (64, (bV false))] (fun x12 => ?_)
 refine reg_lit ?_
 refine wq_p 2 [(82, (bV false)), (83, (bV false))] ?_
 refine wl_end rfl (seq_n hK11 (cF (reg_lit ?_)))
 refine wq_p 2 [(82, (bV true)), (84, (bV true))] ?_
 refine wl_end rfl (seq_n hK10 (cT (wp_seq_k fun K13 hK13 => reg_lit ?_)))
 refine wq_p 2 [(87, (iV .i64 1)), (86, (pt p 0))] ?_
 refine wq_to (some 88) (x_dp h2 18 [(pt p 0), (iV .i64 1)] (by kernel_rfl) (tEnd_1 (h2.at_ 1 rfl))) ?_
 rintro _ w14 ⟨rfl, h14⟩
 refine wq_to (some 89) (x_two h14 2 4 rfl rfl (by kernel_rfl) 1 rfl 11 [(pt e.sb 0)] (by kernel_rfl) (send_of (h14.at_ 2 rfl) (h14.at_ 4 rfl) (h14.rd 1 rfl) (h14.dis 2 4 _ _ rfl rfl (by decide)) (h14.rdis 1 2 _ _ rfl rfl) (h14.rdis 1 4 _ _ rfl rfl) hr hsb.q (by have h1 : T.b.sent <= 60 := hsb.sent; omega) (by have h1 : T.b.eo <= 60 := hsb.eo; omega) (by omega) (by omega))) ?_
 rintro _ w15 ⟨F15, G15, L15, ⟨_, rfl, Af15, cf15, rfl, hmf15⟩, hs15, hx15, h15⟩
 refine wq_p 3 [(91, (bV true)), (90, (aV ([(sV f.src), (sV f.dst), (iV .i64 f.sid), (iV .i64 f.epoch), (iV .i64 f.seq), (lV Af15 f.box.length cf15)]).toArray)), (85, (Value.tuple #[(aV ([(sV f.src), (sV f.dst), (iV .i64 f.sid), (iV .i64 f.epoch), (iV .i64 f.seq), (lV Af15 f.box.length cf15)]).toArray), (bV true)]))] ?_
 refine wq_to (some 8) (xN h15 38 ([(sV ByteArray.empty), (sV ByteArray.empty), (iV .i64 0), (iV .i64 0), (iV .i64 0), (lV none 0 0)])) ?_
 rintro _ w16 ⟨g16, rfl, h16⟩
 refine wq_to none (xSs h16 0 38 (.tmp 8) (.tmp 90) 0 ([(sV f.src), (sV f.dst), (iV .i64 f.sid), (iV .i64 f.epoch), (iV .i64 f.seq), (lV Af15 f.box.length cf15)]) ([(sV f.src), (sV f.dst), (iV .i64 f.sid), (iV .i64 f.epoch), (iV .i64 f.seq), (lV Af15 f.box.length cf15)])) ?_
 rintro _ w17 h17
 refine wq_p 1 [(9, (bV true))] ?_
 refine wl_end rfl (seq_n hK13 (wp_seq_k fun K18 hK18 => wp_seq_k fun K19 hK19 => reg_lit ?_))
 refine wq_p 3 [(94, (iV .i64 1)), (93, (pt p 0)), (92, (bV true))] ?_
 refine wq_to (some 95) (x_dp h17 18 [(pt p 0), (iV .i64 1)] (by kernel_rfl) (tEnd_1 (h17.at_ 2 rfl))) ?_
 rintro _ w20 ⟨rfl, h20⟩
 refine wq_to (some 96) (x_dp h20 10 [(pt e.sb 0)] (by kernel_rfl) (waits_any (h20.at_ 5 rfl))) ?_
 rintro _ w21 ⟨rfl, h21⟩
 refine wq_v (some 97) (.bool true) (eqI (bV (decide ((S'.queue.length : Int) > 0))) (congrArg bV (by simp only [decide_eq_true_eq]; omega))) (wq_p 1 [(98, (bV false))] ?_)
 refine wl_end rfl (seq_n hK19 (cF (wp_skip (seq_n hK18 (wp_seq_k fun K22 hK22 => reg_lit ?_)))))
 refine wq_p 1 [(99, (bV true))] ?_
 refine wl_end rfl (seq_n hK22 (cT ?_))
 refine pR_go h21 8 (fun W => (rBlk g16 38 ([(sV f.src), (sV f.dst), (iV .i64 f.sid), (iV .i64 f.epoch), (iV .i64 f.seq), (lV Af15 f.box.length cf15)])).Φ W /\ True) [(101, [0], 0), (102, [0], 0), (103, [101], 2), (104, [102], 4), (105, [103], 8), (106, [8], 0), (107, [105], 32), (108, [104, 106], 80), (109, [100], 255), (110, [108], 511), (0, [109, 107], 767)] rfl (fun _ d _ _ _ h => by cases d <;> exact h) ?_
 intro hs23 w23 h23
 refine pR_p 7 [0, 1, 2, 3] [(103, (pt p 3)), (102, (pt p 0)), (101, (pt p 0)), (100, (pt p 0))] 15 hs23 ⟨h23.at_ 0 rfl, trivial⟩ ?_
 refine pR_v 5 (some 105) (aV ([(sV f.src), (sV f.dst), (iV .i64 f.sid), (iV .i64 f.epoch), (iV .i64 f.seq), (lV Af15 f.box.length cf15)]).toArray) 47 rfl hs23 ⟨h23.at_ 0 rfl, trivial⟩ (fun W hW => eLs hW.1 38 (.tmp 8) 0 ([(sV f.src), (sV f.dst), (iV .i64 f.sid), (iV .i64 f.epoch), (iV .i64 f.seq), (lV Af15 f.box.length cf15)])) ?_
 refine pR_or 4 6 hs23 ?_ ?_
 ·
  refine pR_op 4 (some 104) 63 rfl (OpTo.run (lV e.wA T.wire.length e.wc) (eL (h23.at_ 2 rfl) 30 (.tmp 103) 3 (lV e.wA T.wire.length e.wc)) (R := fun v w => v = (lV e.wA T.wire.length e.wc) /\ w23 = w) ⟨rfl, rfl⟩) ?_
  rintro _ _ ⟨rfl, rfl⟩
  refine ⟨fun _ => ⟨h23.at_ 0 rfl, trivial⟩, ?_⟩
  refine pR_to 6 (some 106) 127 rfl hs23 (x_bs h23 38 ([(sV f.src), (sV f.dst), (iV .i64 f.sid), (iV .i64 f.epoch), (iV .i64 f.seq), (lV Af15 f.box.length cf15)]) 1 (by kernel_rfl)) ?_
  rintro _ w24 ⟨g24, rfl, h24⟩
  refine ⟨fun _ => ⟨h24.at_ 1 rfl, trivial⟩, ?_⟩
  refine pR_to 7 (some 107) 255 rfl hs23 (xPu h24 7 0 rfl rfl (.tmp 104) (.tmp 106) 30 80 (aV ([(sV ByteArray.empty), (sV ByteArray.empty), (iV .i64 0), (iV .i64 0), (iV .i64 0), (lV none 0 0)]).toArray) (by omega) (by unfold maxLen; omega) (e.wx ++ [[(sV f.src), (sV f.dst), (iV .i64 f.sid), (iV .i64 f.epoch), (iV .i64 f.seq), (lV Af15 f.box.length cf15)]]) ((T.wire ++ [f]).length) (hyn := (by rw [List.length_append, List.length_append, hT.w.1]; rfl))) ?_
  rintro _ w25 ⟨A25, c25, rfl, h25⟩
  refine ⟨fun _ => ⟨h25.at_ 1 rfl, trivial⟩, ?_⟩
  refine pR_to 8 (some 108) 511 rfl hs23 (OpTo.run (pt p 0) (pureOp_run (by kernel_rfl) _) (R := fun v w => v = (pt p 0) /\ w25 = w) ⟨rfl, rfl⟩) ?_
  rintro _ _ ⟨rfl, rfl⟩
  refine ⟨fun h => absurd h (by decide), ?_⟩
  refine pR_to 9 (some 109) 1023 rfl hs23 (OpTo.run (pt p 3) (pureOp_run (by kernel_rfl) _) (R := fun v w => v = (pt p 3) /\ w25 = w) ⟨rfl, rfl⟩) ?_
  rintro _ _ ⟨rfl, rfl⟩
  refine ⟨fun h => absurd h (by decide), ?_⟩
  refine pR_to 10 none 2047 rfl hs23 (xSt h25 3 30 (.tmp 109) (.tmp 107) 3 (lV A25 ((T.wire ++ [f]).length) c25) ([(pt e.tb 0), (pt e.sa 0), (pt e.sb 0), (lV A25 ((T.wire ++ [f]).length) c25), (lV e.A0 T.sd0.length e.c0), (lV e.A1 T.sd1.length e.c1), (lV e.A2 T.cm0.length e.c2), (lV e.A3 T.cm1.length e.c3), (iV .i64 ((T.k0 : Int))), (iV .i64 ((T.k1 : Int)))])) ?_
  rintro _ w26 h26
  refine ⟨fun h => absurd h (by decide), ?_⟩
  refine pR_done hs23 ?_ _
  refine blk_n (seq_n hK4 (wp_seq_k fun K27 hK27 => reg_lit ?_))
  refine wq_p 1 [(4, (bV true))] ?_
  refine wl_end rfl (seq_n hK27 (wp_ret ?_))
  refine post_1 rfl (by kernel_rfl) (rtm (bV true)) ?_
  have hq28 := h26.monoS 5 rfl (fun p hp => (hs15 _ hp))
  have h29 := (show Hp _ _ _ _ (lT p L15 (TEnv.mk e.tb e.sa e.sb F15 e.Ga G15 A25 c25 (e.wx ++ [[(sV f.src), (sV f.dst), (iV .i64 f.sid), (iV .i64 f.epoch), (iV .i64 f.seq), (lV Af15 f.box.length cf15)]]) e.A0 e.c0 e.x0 e.A1 e.c1 e.x1 e.A2 e.c2 e.x2 e.A3 e.c3 e.x3) { T with s := s', b := S', wire := T.wire ++ [f] } ++ []) from hq28.sel [3, 4, 5, 6, 7, 8, 9, 10, 11] [0] rfl rfl rfl).closeT ⟨((hT.w.mono (fun _ _ h => h.mono (fun p hp => (hs15 _ hp)))).push ⟨Af15, cf15, rfl, hmf15⟩), (hT.x0.mono (fun _ _ h => h.mono (fun p hp => (hs15 _ hp)))), (hT.x1.mono (fun _ _ h => h.mono (fun p hp => (hs15 _ hp)))), (hT.x2.mono (fun _ _ h => h.mono (fun p hp => (hs15 _ hp)))), (hT.x3.mono (fun _ _ h => h.mono (fun p hp => (hs15 _ hp)))), (hs15 _ hT.nil)⟩
  have hT2 := hT1
  have hC2 := hC1 hC.swap
  exact ⟨rfl, _, _, _, Wa, W1, (hT2).swap, (hC2).swap, (hx15 _ (LExt.refl G w L)), h29⟩
 ·
  refine pR_op 6 (some 106) 111 rfl (x_bs h23 38 ([(sV f.src), (sV f.dst), (iV .i64 f.sid), (iV .i64 f.epoch), (iV .i64 f.seq), (lV Af15 f.box.length cf15)]) 1 (by kernel_rfl)) ?_
  rintro _ w30 ⟨g30, rfl, h30⟩
  refine ⟨fun _ => ⟨h30.at_ 1 rfl, trivial⟩, ?_⟩
  refine pR_to 4 (some 104) 127 rfl hs23 (OpTo.run (lV e.wA T.wire.length e.wc) (eL (h30.at_ 3 rfl) 30 (.tmp 103) 3 (lV e.wA T.wire.length e.wc)) (R := fun v w => v = (lV e.wA T.wire.length e.wc) /\ w30 = w) ⟨rfl, rfl⟩) ?_
  rintro _ _ ⟨rfl, rfl⟩
  refine ⟨fun _ => ⟨h30.at_ 1 rfl, trivial⟩, ?_⟩
  refine pR_to 7 (some 107) 255 rfl hs23 (xPu h30 7 0 rfl rfl (.tmp 104) (.tmp 106) 30 80 (aV ([(sV ByteArray.empty), (sV ByteArray.empty), (iV .i64 0), (iV .i64 0), (iV .i64 0), (lV none 0 0)]).toArray) (by omega) (by unfold maxLen; omega) (e.wx ++ [[(sV f.src), (sV f.dst), (iV .i64 f.sid), (iV .i64 f.epoch), (iV .i64 f.seq), (lV Af15 f.box.length cf15)]]) ((T.wire ++ [f]).length) (hyn := (by rw [List.length_append, List.length_append, hT.w.1]; rfl))) ?_
  rintro _ w31 ⟨A31, c31, rfl, h31⟩
  refine ⟨fun _ => ⟨h31.at_ 1 rfl, trivial⟩, ?_⟩
  refine pR_to 8 (some 108) 511 rfl hs23 (OpTo.run (pt p 0) (pureOp_run (by kernel_rfl) _) (R := fun v w => v = (pt p 0) /\ w31 = w) ⟨rfl, rfl⟩) ?_
  rintro _ _ ⟨rfl, rfl⟩
  refine ⟨fun h => absurd h (by decide), ?_⟩
  refine pR_to 9 (some 109) 1023 rfl hs23 (OpTo.run (pt p 3) (pureOp_run (by kernel_rfl) _) (R := fun v w => v = (pt p 3) /\ w31 = w) ⟨rfl, rfl⟩) ?_
  rintro _ _ ⟨rfl, rfl⟩
  refine ⟨fun h => absurd h (by decide), ?_⟩
  refine pR_to 10 none 2047 rfl hs23 (xSt h31 3 30 (.tmp 109) (.tmp 107) 3 (lV A31 ((T.wire ++ [f]).length) c31) ([(pt e.tb 0), (pt e.sa 0), (pt e.sb 0), (lV A31 ((T.wire ++ [f]).length) c31), (lV e.A0 T.sd0.length e.c0), (lV e.A1 T.sd1.length e.c1), (lV e.A2 T.cm0.length e.c2), (lV e.A3 T.cm1.length e.c3), (iV .i64 ((T.k0 : Int))), (iV .i64 ((T.k1 : Int)))])) ?_
  rintro _ w32 h32
  refine ⟨fun h => absurd h (by decide), ?_⟩
  refine pR_done hs23 ?_ _
  refine blk_n (seq_n hK4 (wp_seq_k fun K33 hK33 => reg_lit ?_))
  refine wq_p 1 [(4, (bV true))] ?_
  refine wl_end rfl (seq_n hK33 (wp_ret ?_))
  refine post_1 rfl (by kernel_rfl) (rtm (bV true)) ?_
  have hq34 := h32.monoS 5 rfl (fun p hp => (hs15 _ hp))
  have h35 := (show Hp _ _ _ _ (lT p L15 (TEnv.mk e.tb e.sa e.sb F15 e.Ga G15 A31 c31 (e.wx ++ [[(sV f.src), (sV f.dst), (iV .i64 f.sid), (iV .i64 f.epoch), (iV .i64 f.seq), (lV Af15 f.box.length cf15)]]) e.A0 e.c0 e.x0 e.A1 e.c1 e.x1 e.A2 e.c2 e.x2 e.A3 e.c3 e.x3) { T with s := s', b := S', wire := T.wire ++ [f] } ++ []) from hq34.sel [3, 4, 5, 6, 7, 8, 9, 10, 11] [0] rfl rfl rfl).closeT ⟨((hT.w.mono (fun _ _ h => h.mono (fun p hp => (hs15 _ hp)))).push ⟨Af15, cf15, rfl, hmf15⟩), (hT.x0.mono (fun _ _ h => h.mono (fun p hp => (hs15 _ hp)))), (hT.x1.mono (fun _ _ h => h.mono (fun p hp => (hs15 _ hp)))), (hT.x2.mono (fun _ _ h => h.mono (fun p hp => (hs15 _ hp)))), (hT.x3.mono (fun _ _ h => h.mono (fun p hp => (hs15 _ hp)))), (hs15 _ hT.nil)⟩
  have hT2 := hT1
  have hC2 := hC1 hC.swap
  exact ⟨rfl, _, _, _, Wa, W1, (hT2).swap, (hC2).swap, (hx15 _ (LExt.refl G w L)), h35⟩
theorem tStep_send1n {G : Nat -> Prop} {p : Nat} {L : List (Value × Bytes)} {T : Tk} {n : Nat} {Wa Wb : Way} {w : World} (hI : TI sAnn sBob n T Wa Wb) (hC : Cnt n T Wa Wb) (hn : n < 200) (hv : (rT G p L T).Φ w) (hL : (rF L).Φ w) (hd : (rF L).dj (rT G p L T)) (z : Stp) (_hz : z.body.length <= 40) (A : Option Addr) (c : Nat) (hm : (lV A z.body.length c, z.body) ∈ L) (hk : z.kind = 5) (s' : STab) (S' : Ses) (hr : SendR T.s T.b s' S' none) : Calls Try.prog 15 #[pt p 0, .agg #[.int .i64 z.kind, .int .i64 z.at_, .int .i64 z.turn, .slice A z.body.length c]] w (StepPost n G p w L) := by
 have h00 := Hp.oneT hv hL hd
 obtain ⟨e, hT, h01⟩ := h00.openT 0 rfl
 have h02 := h01.roF 0 rfl hm
 have hsa := hI.small
 have hsb := hI.swap.small
 have hxw := hT.w.1
 have hx0 := hT.x0.1
 have hx1 := hT.x1.1
 have hx2 := hT.x2.1
 have hx3 := hT.x3.1
 have hwl := hI.wl
 have hdl := hI.rows
 have hks := hI.ks
 have hbs := hI.bs
 have hqa := hsa.q8
 have hqb := hsb.q8
 obtain ⟨hd0, hd1, hd2, hd3⟩ := hdl
 obtain ⟨W1, hT1, hSI, hC1⟩ := hI.swap.send hr (by omega)
 have hsq : S'.queue = T.b.queue := hSI.q
 have hql : S'.queue.length = 0 := by
   have := hSI.is
   rw [hsq]
   exact List.length_eq_zero_iff.2 (Classical.not_not.1 (of_decide_eq_false (show decide _ = false from this.symm)))
 rw [hk]
 have h0 := h02
 refine enter 182 Try.func15 rfl rfl ?_
 refine wp_reset 184 [(0, (pt p 0)), (1, (aV ([(iV .i64 5), (iV .i64 z.at_), (iV .i64 z.turn), (lV A z.body.length c)]).toArray))] (fun x0 => ?_)
 refine wp_seq_k fun K1 hK1 => reg_lit ?_
 refine wq_to (some 3) (xN h0 50 ([(iV .i64 5), (iV .i64 z.at_), (iV .i64 z.turn), (lV A z.body.length c)])) ?_
 rintro _ w2 ⟨g2, rfl, h2⟩
 refine wq_p 1 [(4, (bV false))] ?_
 refine wl_end rfl (seq_n hK1 (wp_seq_k fun K3 hK3 => reg_lit ?_))
 refine wq_p 1 [(14, (pt g2 0))] (wq_v (some 15) (iV .i64 5) (eL (h2.at_ 0 rfl) 3 (.tmp 14) 0 _) (wq_v (some 16) (iV .i64 1) (eqI (iV .i64 (bits .and .i64 5 1)) (congrArg (iV .i64) (by kernel_rfl))) (wq_p 1 [(5, (iV .i64 1))] ?_)))
 refine wl_end rfl (seq_n hK3 (wp_seq_k fun K4 hK4 => wp_seq_k fun K5 hK5 => reg_lit ?_))
 refine wq_p 1 [(17, (pt g2 0))] (wq_v (some 18) (iV .i64 5) (eL (h2.at_ 0 rfl) 3 (.tmp 17) 0 _) ?_)
 refine wl_end rfl (seq_n hK5 (wp_block (wp_seq_k fun K6 hK6 => wp_seq_k fun K7 hK7 => reg_lit ?_)))
 refine wq_p 2 [(19, (bV false)), (20, (bV false))] ?_
 refine wl_end rfl (seq_n hK7 (cF (reg_lit ?_)))
 refine wq_p 2 [(19, (bV false)), (21, (bV false))] ?_
 refine wl_end rfl (seq_n hK6 (cF (wp_seq_k fun K8 hK8 => wp_seq_k fun K9 hK9 => reg_lit ?_)))
 refine wq_p 2 [(64, (bV false)), (65, (bV false))] ?_
 refine wl_end rfl (seq_n hK9 (cF (reg_lit ?_)))
 refine wq_p 2 [(64, (bV false)), (66, (bV false))] ?_
 refine wl_end rfl (seq_n hK8 (cF (wp_seq_k fun K10 hK10 => wp_seq_k fun K11 hK11 => ?_)))
 refine wp_reset 184 [(0, (pt p 0)), (1, (aV ([(iV .i64 5), (iV .i64 z.at_), (iV .i64 z.turn), (lV A z.body.length c)]).toArray)), (3, (pt g2 0)), (4, (bV false)), (5, (iV .i64 1)), (18, (iV .i64 5)), (19, (bV false)), (64, (bV false))] (fun x12 => ?_)
 refine reg_lit ?_
 refine wq_p 2 [(82, (bV false)), (83, (bV false))] ?_
 refine wl_end rfl (seq_n hK11 (cF (reg_lit ?_)))
 refine wq_p 2 [(82, (bV true)), (84, (bV true))] ?_
 refine wl_end rfl (seq_n hK10 (cT (wp_seq_k fun K13 hK13 => reg_lit ?_)))
 refine wq_p 2 [(87, (iV .i64 1)), (86, (pt p 0))] ?_
 refine wq_to (some 88) (x_dp h2 18 [(pt p 0), (iV .i64 1)] (by kernel_rfl) (tEnd_1 (h2.at_ 1 rfl))) ?_
 rintro _ w14 ⟨rfl, h14⟩
 refine wq_to (some 89) (x_two h14 2 4 rfl rfl (by kernel_rfl) 1 rfl 11 [(pt e.sb 0)] (by kernel_rfl) (send_of (h14.at_ 2 rfl) (h14.at_ 4 rfl) (h14.rd 1 rfl) (h14.dis 2 4 _ _ rfl rfl (by decide)) (h14.rdis 1 2 _ _ rfl rfl) (h14.rdis 1 4 _ _ rfl rfl) hr hsb.q (by have h1 : T.b.sent <= 60 := hsb.sent; omega) (by have h1 : T.b.eo <= 60 := hsb.eo; omega) (by omega) (by omega))) ?_
 rintro _ w15 ⟨F15, G15, L15, ⟨_, rfl, rfl⟩, hs15, hx15, h15⟩
 refine wq_p 3 [(91, (bV false)), (90, (aV ([(sV ByteArray.empty), (sV ByteArray.empty), (iV .i64 0), (iV .i64 0), (iV .i64 0), (lV none 0 0)]).toArray)), (85, (Value.tuple #[(aV ([(sV ByteArray.empty), (sV ByteArray.empty), (iV .i64 0), (iV .i64 0), (iV .i64 0), (lV none 0 0)]).toArray), (bV false)]))] ?_
 refine wq_to (some 8) (xN h15 38 ([(sV ByteArray.empty), (sV ByteArray.empty), (iV .i64 0), (iV .i64 0), (iV .i64 0), (lV none 0 0)])) ?_
 rintro _ w16 ⟨g16, rfl, h16⟩
 refine wq_to none (xSs h16 0 38 (.tmp 8) (.tmp 90) 0 ([(sV ByteArray.empty), (sV ByteArray.empty), (iV .i64 0), (iV .i64 0), (iV .i64 0), (lV none 0 0)]) ([(sV ByteArray.empty), (sV ByteArray.empty), (iV .i64 0), (iV .i64 0), (iV .i64 0), (lV none 0 0)])) ?_
 rintro _ w17 h17
 refine wq_p 1 [(9, (bV false))] ?_
 refine wl_end rfl (seq_n hK13 (wp_seq_k fun K18 hK18 => wp_seq_k fun K19 hK19 => reg_lit ?_))
 refine wq_p 3 [(94, (iV .i64 1)), (93, (pt p 0)), (92, (bV false))] ?_
 refine wq_to (some 95) (x_dp h17 18 [(pt p 0), (iV .i64 1)] (by kernel_rfl) (tEnd_1 (h17.at_ 2 rfl))) ?_
 rintro _ w20 ⟨rfl, h20⟩
 refine wq_to (some 96) (x_dp h20 10 [(pt e.sb 0)] (by kernel_rfl) (waits_any (h20.at_ 5 rfl))) ?_
 rintro _ w21 ⟨rfl, h21⟩
 refine wq_v (some 97) (.bool false) (eqI (bV (decide ((S'.queue.length : Int) > 0))) (congrArg bV (by simp only [decide_eq_false_iff_not]; omega))) (wq_p 1 [(98, (bV false))] ?_)
 refine wl_end rfl (seq_n hK19 (cF (wp_skip (seq_n hK18 (wp_seq_k fun K22 hK22 => reg_lit ?_)))))
 refine wq_p 1 [(99, (bV false))] ?_
 refine wl_end rfl (seq_n hK22 (cF (wp_skip (blk_n (seq_n hK4 (wp_seq_k fun K23 hK23 => reg_lit ?_))))))
 refine wq_p 1 [(4, (bV true))] ?_
 refine wl_end rfl (seq_n hK23 (wp_ret ?_))
 refine post_1 rfl (by kernel_rfl) (rtm (bV true)) ?_
 have hq24 := h21.monoS 4 rfl (fun p hp => (hs15 _ hp))
 have h25 := (show Hp _ _ _ _ (lT p L15 (TEnv.mk e.tb e.sa e.sb F15 e.Ga G15 e.wA e.wc e.wx e.A0 e.c0 e.x0 e.A1 e.c1 e.x1 e.A2 e.c2 e.x2 e.A3 e.c3 e.x3) { T with s := s', b := S', wire := T.wire } ++ []) from hq24.sel [2, 3, 4, 5, 6, 7, 8, 9, 10] [0] rfl rfl rfl).closeT ⟨(hT.w.mono (fun _ _ h => h.mono (fun p hp => (hs15 _ hp)))), (hT.x0.mono (fun _ _ h => h.mono (fun p hp => (hs15 _ hp)))), (hT.x1.mono (fun _ _ h => h.mono (fun p hp => (hs15 _ hp)))), (hT.x2.mono (fun _ _ h => h.mono (fun p hp => (hs15 _ hp)))), (hT.x3.mono (fun _ _ h => h.mono (fun p hp => (hs15 _ hp)))), (hs15 _ hT.nil)⟩
 have hT2 := hT1
 simp only [Option.toList, List.append_nil] at hT2
 have hC2 := hC1 hC.swap
 simp only [Option.toList, List.append_nil] at hC2
 exact ⟨rfl, _, _, _, Wa, W1, (hT2).swap, (hC2).swap, (hx15 _ (LExt.refl G w L)), h25⟩
theorem tStep_other {G : Nat -> Prop} {p : Nat} {L : List (Value × Bytes)} {T : Tk} {n : Nat} {Wa Wb : Way} {w : World} (hI : TI sAnn sBob n T Wa Wb) (hC : Cnt n T Wa Wb) (_hn : n < 200) (hv : (rT G p L T).Φ w) (hL : (rF L).Φ w) (hd : (rF L).dj (rT G p L T)) (z : Stp) (_hz : z.body.length <= 40) (A : Option Addr) (c : Nat) (hm : (lV A z.body.length c, z.body) ∈ L)  (ho : z.kind < 0 ∨ 6 < z.kind) : Calls Try.prog 15 #[pt p 0, .agg #[.int .i64 z.kind, .int .i64 z.at_, .int .i64 z.turn, .slice A z.body.length c]] w (StepPost n G p w L) := by
 have h00 := Hp.oneT hv hL hd
 obtain ⟨e, hT, h01⟩ := h00.openT 0 rfl
 have h02 := h01.roF 0 rfl hm
 have hsa := hI.small
 have hsb := hI.swap.small
 have hxw := hT.w.1
 have hx0 := hT.x0.1
 have hx1 := hT.x1.1
 have hx2 := hT.x2.1
 have hx3 := hT.x3.1
 have hwl := hI.wl
 have hdl := hI.rows
 have hks := hI.ks
 have hbs := hI.bs
 have hqa := hsa.q8
 have hqb := hsb.q8
 obtain ⟨hd0, hd1, hd2, hd3⟩ := hdl
 have h0 := h02
 refine enter 182 Try.func15 rfl rfl ?_
 refine wp_reset 184 [(0, (pt p 0)), (1, (aV ([(iV .i64 z.kind), (iV .i64 z.at_), (iV .i64 z.turn), (lV A z.body.length c)]).toArray))] (fun x0 => ?_)
 refine wp_seq_k fun K1 hK1 => reg_lit ?_
 refine wq_to (some 3) (xN h0 50 ([(iV .i64 z.kind), (iV .i64 z.at_), (iV .i64 z.turn), (lV A z.body.length c)])) ?_
 rintro _ w2 ⟨g2, rfl, h2⟩
 refine wq_p 1 [(4, (bV false))] ?_
 refine wl_end rfl (seq_n hK1 (wp_seq_k fun K3 hK3 => reg_lit ?_))
 refine wq_p 1 [(14, (pt g2 0))] (wq_v (some 15) (iV .i64 z.kind) (eL (h2.at_ 0 rfl) 3 (.tmp 14) 0 _) ?_)
 obtain ⟨M4, hM4, hb4⟩ := and_mask z.kind 1 (by decide)
 refine wq_v (some 16) (iV .i64 ((M4 : Int))) (eqI (iV .i64 (bits .and .i64 z.kind 1)) (congrArg (iV .i64) hM4)) (wq_p 1 [(5, (iV .i64 ((M4 : Int))))] ?_)
 refine wl_end rfl (seq_n hK3 (wp_seq_k fun K5 hK5 => wp_seq_k fun K6 hK6 => reg_lit ?_))
 refine wq_p 1 [(17, (pt g2 0))] (wq_v (some 18) (iV .i64 z.kind) (eL (h2.at_ 0 rfl) 3 (.tmp 17) 0 _) ?_)
 refine wl_end rfl (seq_n hK6 (wp_block (wp_seq_k fun K7 hK7 => wp_seq_k fun K8 hK8 => reg_lit ?_)))
 refine wq_v (some 20) (.bool false) (eqI (bV (z.kind == 0)) (congrArg bV (by simp; omega))) (wq_p 1 [(19, (bV false))] ?_)
 refine wl_end rfl (seq_n hK8 (cF (reg_lit ?_)))
 refine wq_v (some 21) (.bool false) (eqI (bV (z.kind == 1)) (congrArg bV (by simp; omega))) (wq_p 1 [(19, (bV false))] ?_)
 refine wl_end rfl (seq_n hK7 (cF (wp_seq_k fun K9 hK9 => wp_seq_k fun K10 hK10 => reg_lit ?_)))
 refine wq_v (some 65) (.bool false) (eqI (bV (z.kind == 2)) (congrArg bV (by simp; omega))) (wq_p 1 [(64, (bV false))] ?_)
 refine wl_end rfl (seq_n hK10 (cF (reg_lit ?_)))
 refine wq_v (some 66) (.bool false) (eqI (bV (z.kind == 3)) (congrArg bV (by simp; omega))) (wq_p 1 [(64, (bV false))] ?_)
 refine wl_end rfl (seq_n hK9 (cF (wp_seq_k fun K11 hK11 => wp_seq_k fun K12 hK12 => ?_)))
 refine wp_reset 184 [(0, (pt p 0)), (1, (aV ([(iV .i64 z.kind), (iV .i64 z.at_), (iV .i64 z.turn), (lV A z.body.length c)]).toArray)), (3, (pt g2 0)), (4, (bV false)), (5, (iV .i64 ((M4 : Int)))), (18, (iV .i64 z.kind)), (19, (bV false)), (64, (bV false))] (fun x13 => ?_)
 refine reg_lit ?_
 refine wq_v (some 83) (.bool false) (eqI (bV (z.kind == 4)) (congrArg bV (by simp; omega))) (wq_p 1 [(82, (bV false))] ?_)
 refine wl_end rfl (seq_n hK12 (cF (reg_lit ?_)))
 refine wq_v (some 84) (.bool false) (eqI (bV (z.kind == 5)) (congrArg bV (by simp; omega))) (wq_p 1 [(82, (bV false))] ?_)
 refine wl_end rfl (seq_n hK11 (cF (wp_seq_k fun K14 hK14 => reg_lit ?_)))
 refine wq_v (some 111) (.bool false) (eqI (bV (z.kind == 6)) (congrArg bV (by simp; omega))) (wq_p 1 [(110, (bV false))] ?_)
 refine wl_end rfl (seq_n hK14 (cF (wp_skip (blk_n (seq_n hK5 (wp_seq_k fun K15 hK15 => reg_lit ?_))))))
 refine wq_p 1 [(4, (bV true))] ?_
 refine wl_end rfl (seq_n hK15 (wp_ret ?_))
 refine post_1 rfl (by kernel_rfl) (rtm (bV true)) ?_
 have h16 := (show Hp _ _ _ _ (lT p L (TEnv.mk e.tb e.sa e.sb e.F e.Ga e.Gb e.wA e.wc e.wx e.A0 e.c0 e.x0 e.A1 e.c1 e.x1 e.A2 e.c2 e.x2 e.A3 e.c3 e.x3) T ++ []) from h2.sel [1, 2, 3, 4, 5, 6, 7, 8, 9] [1] rfl rfl rfl).closeT ⟨(hT.w.mono (fun _ _ h => h.mono (fun p hp => hp))), (hT.x0.mono (fun _ _ h => h.mono (fun p hp => hp))), (hT.x1.mono (fun _ _ h => h.mono (fun p hp => hp))), (hT.x2.mono (fun _ _ h => h.mono (fun p hp => hp))), (hT.x3.mono (fun _ _ h => h.mono (fun p hp => hp))), hT.nil⟩
 exact ⟨rfl, _, _, T, Wa, Wb, hI.idle, hC.idle, (LExt.refl G w L), h16⟩
end
section
open Go.RowKit Go.QT
section
variable {F0 : Nat -> Prop} {w0 w w' : World} {ro rs : List Res} {L L' : List (Value × Bytes)} {o : Oper} {a : Act} {P : Program}
/-- A call that holds nothing of the call's own, and such bytes. -/
theorem Hp.callF0 (h : Hp F0 w0 w ro rs) (k : Nat) (hk : ro[k]? = some (rF L)) (hc : Hp (fun _ => False) w w' [rF L'] []) (hL : LExt (fun _ => False) w L L') : Hp F0 w0 w' (rF L' :: ro) rs := by
 refine (h.call0 (hc.dropR 0)).addR (rF L') (hc.red 0 _ rfl) fun j s hj q h1 h2 => ?_
 rcases hL.new q h1 with h3 | h3 | h3
 · exact h.rdis k j _ s hk hj q h3 h2
 · exact h3.elim
 · exact absurd (s.lt (h.own j s hj) q h2) (by omega)
theorem LExt.then0 (h : Hp F0 w0 w ro rs) (hL : LExt (fun _ => False) w L L') {L0 : List (Value × Bytes)} (h0 : LExt F0 w0 L0 L) : LExt F0 w0 L0 L' :=
 ⟨fun p hp => hL.sub p (h0.sub p hp), fun q hq => by
   rcases hL.new q hq with h1 | h1 | h1
   · exact h0.new q h1
   · exact h1.elim
   · exact .inr (.inr (Nat.le_trans h.size h1))⟩
theorem x_turned (h : Hp F0 w0 w ro rs) (k : Nat) (hk : ro[k]? = some (rF L)) (fn : FuncId) (al : List Value) (hp : pureVal P (execOp a.eval o) = some (.enter fn al.toArray)) (hc : Calls P fn al.toArray w (TurnPost w L)) :
   OpTo P o a w (fun u w' => ∃ (f : Frm) (A : Option Addr) (c : Nat) (L' : List (Value × Bytes)), -10 <= f.seq /\ f.seq <= 2000000 /\ f.box.length = 16 /\ u = .agg (f.cells (.slice A f.box.length c)).toArray /\ (Value.slice A f.box.length c, f.box) ∈ L' /\ (∀ p, p ∈ L -> p ∈ L') /\ (∀ L0, LExt F0 w0 L0 L -> LExt F0 w0 L0 L') /\ Hp F0 w0 w' (rF L' :: ro) rs) :=
 OpTo.enter fn al hp hc fun e w' hq => by
   obtain ⟨f, A, c, L', h1, h2, h3, he, hm, hL, h4⟩ := hq
   exact ⟨_, he, f, A, c, L', h1, h2, h3, rfl, hm, hL.sub, fun L0 h0 => LExt.then0 h hL h0, h.callF0 k hk h4 hL⟩
theorem e_remN (x y : Operand) (t t' : TypeId) (ho : o.op = .binOp .rem t x y t') (m n : Nat) (hx : a.eval x = .int .i64 (m : Int)) (hy : a.eval y = .int .i64 (n : Int)) (hn : 0 < n) (r : Nat) (hr : m % n = r) (w : World) :
   (execOp a.eval o).run P w = .ok (.value (.int .i64 (r : Int))) w := by
 have h0 : ¬ ((n : Int) = 0) := by omega
 unfold execOp
 simp only [ho, hx, hy, eqGuard_rem, binOp_rem, Op.intDiv, Sem.run_bind, Sem.run_pure, Result.andThen_ok, if_neg h0]
 rw [← Int.ofNat_tmod, hr]
end
theorem ComeAt.six {L : List (Value × Bytes)} {m : Option Bytes} {g : Option Frm} {cs : List Value} (h : ComeAt L m g cs) : ∃ A c v0 v1 v2 v3 v4 v5, cs = [.slice A (m.getD []).length c, .bool m.isSome, v0, v1, v2, v3, v4, v5, .bool g.isSome] /\ (Value.slice A (m.getD []).length c, m.getD []) ∈ L /\ FrmO L g [v0, v1, v2, v3, v4, v5] := by
 obtain ⟨A, c, fs, rfl, hm, hg⟩ := h
 cases g with
 | none =>
   obtain rfl : fs = zFrm := hg
   exact ⟨A, c, _, _, _, _, _, _, rfl, hm, rfl⟩
 | some g =>
   obtain ⟨A', c', rfl, hm'⟩ : FrmAt L g fs := hg
   exact ⟨A, c, _, _, _, _, _, _, rfl, hm, A', c', rfl, hm'⟩
theorem six_inj {v0 v1 v2 v3 v4 v5 v : Value} {f : Frm} (h : [v0, v1, v2, v3, v4, v5] = f.cells v) : v0 = .string f.src /\ v1 = .string f.dst /\ v2 = .int .i64 f.sid /\ v3 = .int .i64 f.epoch /\ v4 = .int .i64 f.seq /\ v5 = v := by
 simpa [Frm.cells] using h
theorem frm_one {L : List (Value × Bytes)} {g : Option Frm} {v0 v1 v2 v3 v4 v5 : Value} {A : Option Addr} {n c : Nat} {p q : Bool} (h : FrmO L g [v0, v1, v2, v3, v4, v5]) : ([Value.slice A n c, Value.bool p, v0, v1, v2, v3, v4, v5, Value.bool q] : List Value).all (·.oneCell') = true := by
 cases g with
 | none =>
   obtain ⟨rfl, rfl, rfl, rfl, rfl, rfl⟩ : v0 = .string ByteArray.empty /\ v1 = .string ByteArray.empty /\ v2 = .int .i64 0 /\ v3 = .int .i64 0 /\ v4 = .int .i64 0 /\ v5 = .slice none 0 0 := by
     have h : [v0, v1, v2, v3, v4, v5] = zFrm := h
     simpa [zFrm] using h
   rfl
 | some g =>
   obtain ⟨A', c', hv, _⟩ : FrmAt L g [v0, v1, v2, v3, v4, v5] := h
   obtain ⟨rfl, rfl, rfl, rfl, rfl, rfl⟩ := six_inj hv
   rfl
theorem take6 {F G : Nat -> Prop} {tb sb : Nat} {w w' : World} {L : List (Value × Bytes)} {s' : STab} {S' : Ses} {m : Option Bytes} {g : Option Frm} {er : Int} {e : Ending} (h : Post2 F G tb sb w L s' S' (fun L' u => ∃ cs, u = .tuple #[.agg cs.toArray, .int .i64 er] /\ ComeAt L' m g cs) e w') :
   Post2 F G tb sb w L s' S' (fun L' u => ∃ A c v0 v1 v2 v3 v4 v5, u = .tuple #[.agg #[.slice A (m.getD []).length c, .bool m.isSome, v0, v1, v2, v3, v4, v5, .bool g.isSome], .int .i64 er] /\ (Value.slice A (m.getD []).length c, m.getD []) ∈ L' /\ FrmO L' g [v0, v1, v2, v3, v4, v5]) e w' := by
 obtain ⟨u, F', G', L', he, ⟨cs, hu, hc⟩, hx, h2⟩ := h
 obtain ⟨A, c, v0, v1, v2, v3, v4, v5, rfl, hm, hg⟩ := hc.six
 exact ⟨u, F', G', L', he, ⟨A, c, v0, v1, v2, v3, v4, v5, hu, hm, hg⟩, hx, h2⟩
end
end Go.Proofs.Ytjalodhdjollhaa
