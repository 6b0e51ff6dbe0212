/- The walks of the talk: a step in which a frame comes. -/
import Derived.Test.YtjalodhdjollhaaCA15
set_option maxRecDepth 100000
set_option maxHeartbeats 4000000
namespace Go.Proofs.Ytjalodhdjollhaa
section
open Go.Value renaming int -> iV, slice -> lV, string -> sV, bool -> bV, agg -> aV
open Go.RowKit Go.QT
theorem tStep_take {G : Nat -> Prop} {p : Nat} {L : List (Value × Bytes)} {T : Tk} {n : Nat} {Wa Wb : Way} {w : World} (hI : TI sAnn sBob n T Wa Wb) (hC : Cnt n T Wa Wb) (hn : n < 200) (hv : (rT G p L T).Φ w) (hL : (rF L).Φ w) (hd : (rF L).dj (rT G p L T)) (z : Stp) (_hz : z.body.length <= 40) (A : Option Addr) (c : Nat) (hm : (lV A z.body.length c, z.body) ∈ L) (hk : z.kind = 6)  : Calls Try.prog 15 #[pt p 0, .agg #[.int .i64 z.kind, .int .i64 z.at_, .int .i64 z.turn, .slice A z.body.length c]] w (StepPost n G p w L) := by
 have h00 := Hp.oneT hv hL hd
 obtain ⟨e, hT, h01⟩ := h00.openT 0 rfl
 have h02 := h01.roF 0 rfl hm
 have hsa := hI.small
 have hsb := hI.swap.small
 have hxw := hT.w.1
 have hx0 := hT.x0.1
 have hx1 := hT.x1.1
 have hx2 := hT.x2.1
 have hx3 := hT.x3.1
 have hwl := hI.wl
 have hdl := hI.rows
 have hks := hI.ks
 have hbs := hI.bs
 have hqa := hsa.q8
 have hqb := hsb.q8
 obtain ⟨hd0, hd1, hd2, hd3⟩ := hdl
 rw [hk]
 have h0 := h02
 refine enter 182 Try.func15 rfl rfl ?_
 refine wp_reset 184 [(0, (pt p 0)), (1, (aV ([(iV .i64 6), (iV .i64 z.at_), (iV .i64 z.turn), (lV A z.body.length c)]).toArray))] (fun x0 => ?_)
 refine wp_seq_k fun K1 hK1 => reg_lit ?_
 refine wq_to (some 3) (xN h0 50 ([(iV .i64 6), (iV .i64 z.at_), (iV .i64 z.turn), (lV A z.body.length c)])) ?_
 rintro _ w2 ⟨g2, rfl, h2⟩
 refine wq_p 1 [(4, (bV false))] ?_
 refine wl_end rfl (seq_n hK1 (wp_seq_k fun K3 hK3 => reg_lit ?_))
 refine wq_p 1 [(14, (pt g2 0))] (wq_v (some 15) (iV .i64 6) (eL (h2.at_ 0 rfl) 3 (.tmp 14) 0 _) (wq_v (some 16) (iV .i64 0) (eqI (iV .i64 (bits .and .i64 6 1)) (congrArg (iV .i64) (by kernel_rfl))) (wq_p 1 [(5, (iV .i64 0))] ?_)))
 refine wl_end rfl (seq_n hK3 (wp_seq_k fun K4 hK4 => wp_seq_k fun K5 hK5 => reg_lit ?_))
 refine wq_p 1 [(17, (pt g2 0))] (wq_v (some 18) (iV .i64 6) (eL (h2.at_ 0 rfl) 3 (.tmp 17) 0 _) ?_)
 refine wl_end rfl (seq_n hK5 (wp_block (wp_seq_k fun K6 hK6 => wp_seq_k fun K7 hK7 => reg_lit ?_)))
 refine wq_p 2 [(19, (bV false)), (20, (bV false))] ?_
 refine wl_end rfl (seq_n hK7 (cF (reg_lit ?_)))
 refine wq_p 2 [(19, (bV false)), (21, (bV false))] ?_
 refine wl_end rfl (seq_n hK6 (cF (wp_seq_k fun K8 hK8 => wp_seq_k fun K9 hK9 => reg_lit ?_)))
 refine wq_p 2 [(64, (bV false)), (65, (bV false))] ?_
 refine wl_end rfl (seq_n hK9 (cF (reg_lit ?_)))
 refine wq_p 2 [(64, (bV false)), (66, (bV false))] ?_
 refine wl_end rfl (seq_n hK8 (cF (wp_seq_k fun K10 hK10 => wp_seq_k fun K11 hK11 => ?_)))
 refine wp_reset 184 [(0, (pt p 0)), (1, (aV ([(iV .i64 6), (iV .i64 z.at_), (iV .i64 z.turn), (lV A z.body.length c)]).toArray)), (3, (pt g2 0)), (4, (bV false)), (5, (iV .i64 0)), (18, (iV .i64 6)), (19, (bV false)), (64, (bV false))] (fun x12 => ?_)
 refine reg_lit ?_
 refine wq_p 2 [(82, (bV false)), (83, (bV false))] ?_
 refine wl_end rfl (seq_n hK11 (cF (reg_lit ?_)))
 refine wq_p 2 [(82, (bV false)), (84, (bV false))] ?_
 refine wl_end rfl (seq_n hK10 (cF (wp_seq_k fun K13 hK13 => reg_lit ?_)))
 refine wq_p 2 [(110, (bV true)), (111, (bV true))] ?_
 refine wl_end rfl (seq_n hK13 (cT (wp_seq_k fun K14 hK14 => wp_seq_k fun K15 hK15 => ?_)))
 by_cases b16 : T.wire.length = 0
 ·
  refine reg_lit ?_
  refine wq_p 3 [(114, (pt p 3)), (113, (pt p 0)), (112, (pt p 0))] (wq_v (some 115) (lV e.wA T.wire.length e.wc) (eL (h2.at_ 1 rfl) 30 (.tmp 114) 3 _) (wq_p 1 [(116, (iV .i64 ((T.wire.length : Int))))] (wq_v (some 117) (.bool true) (eqI (bV (((T.wire.length : Int)) == 0)) (congrArg bV (by rw [beq_iff_eq]; omega))) ?_)))
  refine wl_end rfl (seq_n hK15 (cT (wp_seq_k fun K17 hK17 => reg_lit ?_)))
  refine wq_p 1 [(4, (bV true))] ?_
  refine wl_end rfl (seq_n hK17 (wp_ret (seq_r (blk_r (seq_r ?_)))))
  refine post_1 rfl (by kernel_rfl) (rtm (bV true)) ?_
  have h18 := (show Hp _ _ _ _ (lT p L (TEnv.mk e.tb e.sa e.sb e.F e.Ga e.Gb e.wA e.wc e.wx e.A0 e.c0 e.x0 e.A1 e.c1 e.x1 e.A2 e.c2 e.x2 e.A3 e.c3 e.x3) T ++ []) from h2.sel [1, 2, 3, 4, 5, 6, 7, 8, 9] [1] rfl rfl rfl).closeT ⟨(hT.w.mono (fun _ _ h => h.mono (fun p hp => hp))), (hT.x0.mono (fun _ _ h => h.mono (fun p hp => hp))), (hT.x1.mono (fun _ _ h => h.mono (fun p hp => hp))), (hT.x2.mono (fun _ _ h => h.mono (fun p hp => hp))), (hT.x3.mono (fun _ _ h => h.mono (fun p hp => hp))), hT.nil⟩
  exact ⟨rfl, _, _, T, Wa, Wb, hI.idle, hC.idle, (LExt.refl G w L), h18⟩
 ·
  refine reg_lit ?_
  refine wq_p 3 [(114, (pt p 3)), (113, (pt p 0)), (112, (pt p 0))] (wq_v (some 115) (lV e.wA T.wire.length e.wc) (eL (h2.at_ 1 rfl) 30 (.tmp 114) 3 _) (wq_p 1 [(116, (iV .i64 ((T.wire.length : Int))))] (wq_v (some 117) (.bool false) (eqI (bV (((T.wire.length : Int)) == 0)) (congrArg bV (by rw [beq_eq_false_iff_ne]; omega))) ?_)))
  refine wl_end rfl (seq_n hK15 (cF (wp_skip (seq_n hK14 (wp_seq_k fun K19 hK19 => ?_)))))
  have hJ20 : ∀ (fJ : Frm), ∀ (AJ : Option Addr), ∀ (cJ : Nat), ∀ (LJ : List (Value × Bytes)), ∀ (gJ : Nat), (-10 <= fJ.seq) -> (fJ.seq <= 2000000) -> (fJ.box.length = 16) -> ((lV AJ fJ.box.length cJ, fJ.box) ∈ LJ) -> (∀ p, p ∈ L -> p ∈ LJ) -> (LExt G w L LJ) -> ∀ (xJ20 : Nat -> Value) (aJ : Act) (wJ20 : World), aJ = patch xJ20 184 [(0, (pt p 0)), (1, (aV ([(iV .i64 6), (iV .i64 z.at_), (iV .i64 z.turn), (lV A z.body.length c)]).toArray)), (3, (pt g2 0)), (4, (bV false)), (5, (iV .i64 0)), (10, (pt gJ 0)), (18, (iV .i64 6)), (19, (bV false)), (64, (bV false)), (82, (bV false)), (110, (bV true)), (117, (bV false))] -> Hp G w wJ20 [rF LJ, rSB ((lV A z.body.length c)) z.body, rF L] [rBlk gJ 38 ([(sV fJ.src), (sV fJ.dst), (iV .i64 fJ.sid), (iV .i64 fJ.epoch), (iV .i64 fJ.seq), (lV AJ fJ.box.length cJ)]), rBlk g2 50 ([(iV .i64 6), (iV .i64 z.at_), (iV .i64 z.turn), (lV A z.body.length c)]), rBlk p 34 ([(pt e.tb 0), (pt e.sa 0), (pt e.sb 0), (lV e.wA T.wire.length e.wc), (lV e.A0 T.sd0.length e.c0), (lV e.A1 T.sd1.length e.c1), (lV e.A2 T.cm0.length e.c2), (lV e.A3 T.cm1.length e.c3), (iV .i64 ((T.k0 : Int))), (iV .i64 ((T.k1 : Int)))]), rTab e.F e.tb T.s, rS e.Ga e.tb e.sa L T.a, rS e.Gb e.tb e.sb L T.b, rOV 38 6 ((lV e.wA T.wire.length e.wc)) e.wx, rOV 26 1 ((lV e.A0 T.sd0.length e.c0)) e.x0, rOV 26 1 ((lV e.A1 T.sd1.length e.c1)) e.x1, rOV 26 1 ((lV e.A2 T.cm0.length e.c2)) e.x2, rOV 26 1 ((lV e.A3 T.cm1.length e.c3)) e.x3] -> K19 aJ wJ20 := by
    rintro fJ AJ cJ LJ gJ hs1J hs2J hbxJ hmfJ hsJ hxJ xJ20 _ wJ20 rfl hJh20
    refine seq_n hK19 (wp_seq_k fun K21 hK21 => reg_lit ?_)
    refine wq_p 1 [(11, (iV .i64 0))] ?_
    refine wl_end rfl (seq_n hK21 (wp_seq_k fun K22 hK22 => wp_seq_k fun K23 hK23 => ?_))
    by_cases b24 : fJ.dst = sBob
    ·
     refine reg_lit ?_
     refine wq_p 1 [(136, (pt gJ 1))] (wq_v (some 137) (sV fJ.dst) (eL (hJh20.at_ 0 rfl) 9 (.tmp 136) 1 _) (wq_v (some 138) (bV true) (eqI (bV ((fJ.dst).toList == (⟨#[98, 111, 98]⟩ : ByteArray).toList)) (congrArg bV (by rw [b24]; exact beq_iff_eq.2 rfl))) ?_))
     refine wl_end rfl (seq_n hK23 (cT (reg_lit ?_)))
     refine wq_p 1 [(11, (iV .i64 1))] ?_
     refine wl_end rfl (seq_n hK22 (wp_seq_k fun K25 hK25 => ?_))
     obtain ⟨r, hsd, htd⟩ := hI.swap.inv.said (show T.s.keys.length < 100000 by omega) fJ (by omega) (by omega)
     obtain ⟨s', S', m, g, er, hr⟩ := take_ex T.s T.b fJ r
     obtain ⟨hT1, hTk, hC1⟩ := hI.swap.take hr htd (by omega)
     have hC2 := hC1 hC.swap
     rcases m with _ | bd <;> rcases g with _ | g
     ·
      have hJ27 : ∀ (FK : Nat -> Prop), ∀ (GK : Nat -> Prop), ∀ (LK : List (Value × Bytes)), ∀ (AcK : Option Addr), ∀ (ccK : Nat), ∀ (gK : Nat), ((lV AcK ([] : Bytes).length ccK, ([] : Bytes)) ∈ LK) -> (∀ p, p ∈ LJ -> p ∈ LK) -> (LExt G w L LK) -> ∀ (xJ27 : Nat -> Value) (aJ : Act) (wJ27 : World), aJ = patch xJ27 184 [(0, (pt p 0)), (1, (aV ([(iV .i64 6), (iV .i64 z.at_), (iV .i64 z.turn), (lV A z.body.length c)]).toArray)), (3, (pt g2 0)), (4, (bV false)), (5, (iV .i64 0)), (10, (pt gJ 0)), (11, (iV .i64 1)), (12, (pt gK 0)), (13, (iV .i64 er)), (18, (iV .i64 6)), (19, (bV false)), (64, (bV false)), (82, (bV false)), (110, (bV true)), (117, (bV false)), (138, (bV true))] -> Hp G w wJ27 [rF LK, rF LJ, rSB ((lV A z.body.length c)) z.body, rF L] [rBlk gK 42 ([(lV AcK 0 ccK), (bV false), (sV ByteArray.empty), (sV ByteArray.empty), (iV .i64 0), (iV .i64 0), (iV .i64 0), (lV none 0 0), (bV false)]), rBlk gJ 38 ([(sV fJ.src), (sV fJ.dst), (iV .i64 fJ.sid), (iV .i64 fJ.epoch), (iV .i64 fJ.seq), (lV AJ fJ.box.length cJ)]), rBlk g2 50 ([(iV .i64 6), (iV .i64 z.at_), (iV .i64 z.turn), (lV A z.body.length c)]), rBlk p 34 ([(pt e.tb 0), (pt e.sa 0), (pt e.sb 0), (lV e.wA T.wire.length e.wc), (lV e.A0 T.sd0.length e.c0), (lV e.A1 T.sd1.length e.c1), (lV e.A2 T.cm0.length e.c2), (lV e.A3 T.cm1.length e.c3), (iV .i64 ((T.k0 : Int))), (iV .i64 ((T.k1 : Int)))]), rTab FK e.tb s', rS e.Ga e.tb e.sa L T.a, rS GK e.tb e.sb LK S', rOV 38 6 ((lV e.wA T.wire.length e.wc)) e.wx, rOV 26 1 ((lV e.A0 T.sd0.length e.c0)) e.x0, rOV 26 1 ((lV e.A1 T.sd1.length e.c1)) e.x1, rOV 26 1 ((lV e.A2 T.cm0.length e.c2)) e.x2, rOV 26 1 ((lV e.A3 T.cm1.length e.c3)) e.x3] -> K25 aJ wJ27 := by
        rintro FK GK LK AcK ccK gK hmcK hsK hxK xJ27 _ wJ27 rfl hJh27
        refine seq_n hK25 (wp_seq_k fun K28 hK28 => wp_seq_k fun K29 hK29 => reg_lit ?_)
        refine wq_p 1 [(147, (pt gK 8))] (wq_v (some 148) (bV false) (eL (hJh27.at_ 0 rfl) 4 (.tmp 147) 8 _) ?_)
        refine wl_end rfl (seq_n hK29 (cF (wp_skip (seq_n hK28 (wp_seq_k fun K30 hK30 => wp_seq_k fun K31 hK31 => reg_lit ?_)))))
        refine wq_p 1 [(160, (pt gK 1))] (wq_v (some 161) (bV false) (eL (hJh27.at_ 0 rfl) 4 (.tmp 160) 1 _) ?_)
        refine wl_end rfl (seq_n hK31 (cF (wp_skip (seq_n hK30 (wp_seq_k fun K32 hK32 => reg_lit ?_)))))
        refine wq_p 1 [(177, (pt gK 1))] (wq_v (some 178) (bV false) (eL (hJh27.at_ 0 rfl) 4 (.tmp 177) 1 _) (wq_p 6 [(4, (bV true)), (183, (bV true)), (182, undef), (181, undef), (180, (bV true)), (179, (bV true))] ?_))
        refine wl_end rfl (seq_n hK32 (wp_ret (blk_r (seq_r ?_))))
        refine post_1 rfl (by kernel_rfl) (rtm (bV true)) ?_
        have hq33 := hJh27.monoS 5 rfl (fun p hp => (hsK _ (hsJ _ hp)))
        have h34 := (show Hp _ _ _ _ (lT p LK (TEnv.mk e.tb e.sa e.sb FK e.Ga GK e.wA e.wc e.wx e.A0 e.c0 e.x0 e.A1 e.c1 e.x1 e.A2 e.c2 e.x2 e.A3 e.c3 e.x3) { T with s := s', b := S', wire := T.wire, cm1 := T.cm1 } ++ []) from hq33.sel [3, 4, 5, 6, 7, 8, 9, 10, 11] [0] rfl rfl rfl).closeT ⟨(hT.w.mono (fun _ _ h => h.mono (fun p hp => (hsK _ (hsJ _ hp))))), (hT.x0.mono (fun _ _ h => h.mono (fun p hp => (hsK _ (hsJ _ hp))))), (hT.x1.mono (fun _ _ h => h.mono (fun p hp => (hsK _ (hsJ _ hp))))), (hT.x2.mono (fun _ _ h => h.mono (fun p hp => (hsK _ (hsJ _ hp))))), (hT.x3.mono (fun _ _ h => h.mono (fun p hp => (hsK _ (hsJ _ hp))))), (hsK _ (hsJ _ hT.nil))⟩
        simp only [Option.toList, List.append_nil] at hT1 hC2
        exact ⟨rfl, _, _, _, Wa, Wb, (hT1).swap, (hC2).swap, hxK, h34⟩
      refine pR_go hJh20 10 (fun W => (rBlk gJ 38 ([(sV fJ.src), (sV fJ.dst), (iV .i64 fJ.sid), (iV .i64 fJ.epoch), (iV .i64 fJ.seq), (lV AJ fJ.box.length cJ)])).Φ W /\ True) [(141, [0], 0), (142, [11], 0), (143, [140, 141], 3), (144, [10], 0), (145, [142, 143], 12), (140, [144], 16), (146, [139], 32), (147, [139], 32), (13, [], 0), (0, [12, 145], 383), (14, [146], 1023)] rfl (fun _ d _ _ _ h => by cases d <;> exact h) ?_
      intro hs35 w35 h35
      refine pR_p 9 [0, 1] [(141, (iV .i64 1)), (140, (pt p 0))] 3 hs35 ⟨h35.at_ 0 rfl, trivial⟩ ?_
      refine pR_v 3 (some 143) (aV ([(sV fJ.src), (sV fJ.dst), (iV .i64 fJ.sid), (iV .i64 fJ.epoch), (iV .i64 fJ.seq), (lV AJ fJ.box.length cJ)]).toArray) 11 rfl hs35 ⟨h35.at_ 0 rfl, trivial⟩ (fun W hW => eLs hW.1 38 (.tmp 10) 0 ([(sV fJ.src), (sV fJ.dst), (iV .i64 fJ.sid), (iV .i64 fJ.epoch), (iV .i64 fJ.seq), (lV AJ fJ.box.length cJ)])) ?_
      refine pR_or 2 8 hs35 ?_ ?_
      ·
       refine pR_op 2 (some 142) 15 rfl (x_dp h35 18 [(pt p 0), (iV .i64 1)] (by kernel_rfl) (tEnd_1 (h35.at_ 2 rfl))) ?_
       rintro _ w36 ⟨rfl, h36⟩
       refine ⟨fun _ => ⟨h36.at_ 0 rfl, trivial⟩, ?_⟩
       refine pR_or 4 8 hs35 ?_ ?_
       ·
        have hq37 := h36.monoS 5 rfl (fun p hp => (hsJ _ hp))
        refine pR_op 4 (some 144) 31 rfl (x_two hq37 3 5 rfl rfl (by kernel_rfl) 0 rfl 12 [(pt e.sb 0), (aV ([(sV fJ.src), (sV fJ.dst), (iV .i64 fJ.sid), (iV .i64 fJ.epoch), (iV .i64 fJ.seq), (lV AJ fJ.box.length cJ)]).toArray)] (by kernel_rfl) (take_of (hq37.at_ 3 rfl) (hq37.at_ 5 rfl) (hq37.rd 0 rfl) (hq37.dis 3 5 _ _ rfl rfl (by decide)) (hq37.rdis 0 3 _ _ rfl rfl) (hq37.rdis 0 5 _ _ rfl rfl) hr AJ cJ hmfJ (hsJ _ hT.nil) hsd (by omega) (by omega) hI.bodies (by have h1 : T.b.sent <= 60 := hsb.sent; omega) (by have h1 : T.b.got <= 60 := hsb.got; omega) (by have h1 : T.b.ei <= 60 := hsb.ei; omega) hsb.fq)) ?_
        rintro _ w38 ⟨F38, G38, L38, ⟨_, rfl, Ac38, cc38, _, rfl, hmc38, rfl⟩, hs38, hx38, h38⟩
        refine ⟨fun _ => ⟨h38.at_ 0 rfl, trivial⟩, ?_⟩
        refine pR_p 3 [5, 6, 7] [(146, (iV .i64 er)), (145, (aV ([(lV Ac38 0 cc38), (bV false), (sV ByteArray.empty), (sV ByteArray.empty), (iV .i64 0), (iV .i64 0), (iV .i64 0), (lV none 0 0), (bV false)]).toArray)), (139, (Value.tuple #[(aV ([(lV Ac38 0 cc38), (bV false), (sV ByteArray.empty), (sV ByteArray.empty), (iV .i64 0), (iV .i64 0), (iV .i64 0), (lV none 0 0), (bV false)]).toArray), (iV .i64 er)]))] 255 hs35 ⟨h38.at_ 0 rfl, trivial⟩ ?_
        refine pR_to 8 (some 12) 511 rfl hs35 (xN h38 42 ([(lV none 0 0), (bV false), (sV ByteArray.empty), (sV ByteArray.empty), (iV .i64 0), (iV .i64 0), (iV .i64 0), (lV none 0 0), (bV false)])) ?_
        rintro _ w39 ⟨g39, rfl, h39⟩
        refine ⟨fun _ => ⟨h39.at_ 1 rfl, trivial⟩, ?_⟩
        refine pR_to 9 none 1023 rfl hs35 (xSs h39 0 42 (.tmp 12) (.tmp 145) 0 ([(lV Ac38 0 cc38), (bV false), (sV ByteArray.empty), (sV ByteArray.empty), (iV .i64 0), (iV .i64 0), (iV .i64 0), (lV none 0 0), (bV false)]) ([(lV Ac38 0 cc38), (bV false), (sV ByteArray.empty), (sV ByteArray.empty), (iV .i64 0), (iV .i64 0), (iV .i64 0), (lV none 0 0), (bV false)])) ?_
        rintro _ w40 h40
        refine ⟨fun _ => ⟨h40.at_ 1 rfl, trivial⟩, ?_⟩
        refine pR_to 10 (some 13) 2047 rfl hs35 (OpTo.run (iV .i64 er) (pureOp_run (by kernel_rfl) _) (R := fun v w => v = (iV .i64 er) /\ w40 = w) ⟨rfl, rfl⟩) ?_
        rintro _ _ ⟨rfl, rfl⟩
        refine ⟨fun h => absurd h (by decide), ?_⟩
        refine pR_done hs35 ?_ _
        exact hJ27 F38 G38 L38 Ac38 cc38 g39 hmc38 ((fun p hp => (hs38 _ hp))) ((hx38 _ hxJ)) _ _ _ (pEq 184) (h40.sel [0, 1, 2, 3, 4, 5, 6, 7, 8, 9, 10, 11] [0, 1, 2, 3] (by kernel_rfl) rfl rfl)
       ·
        refine pR_op 8 (some 12) 271 rfl (xN h36 42 ([(lV none 0 0), (bV false), (sV ByteArray.empty), (sV ByteArray.empty), (iV .i64 0), (iV .i64 0), (iV .i64 0), (lV none 0 0), (bV false)])) ?_
        rintro _ w41 ⟨g41, rfl, h41⟩
        refine ⟨fun _ => ⟨h41.at_ 1 rfl, trivial⟩, ?_⟩
        have hq42 := h41.monoS 6 rfl (fun p hp => (hsJ _ hp))
        refine pR_to 4 (some 144) 287 rfl hs35 (x_two hq42 4 6 rfl rfl (by kernel_rfl) 0 rfl 12 [(pt e.sb 0), (aV ([(sV fJ.src), (sV fJ.dst), (iV .i64 fJ.sid), (iV .i64 fJ.epoch), (iV .i64 fJ.seq), (lV AJ fJ.box.length cJ)]).toArray)] (by kernel_rfl) (take_of (hq42.at_ 4 rfl) (hq42.at_ 6 rfl) (hq42.rd 0 rfl) (hq42.dis 4 6 _ _ rfl rfl (by decide)) (hq42.rdis 0 4 _ _ rfl rfl) (hq42.rdis 0 6 _ _ rfl rfl) hr AJ cJ hmfJ (hsJ _ hT.nil) hsd (by omega) (by omega) hI.bodies (by have h1 : T.b.sent <= 60 := hsb.sent; omega) (by have h1 : T.b.got <= 60 := hsb.got; omega) (by have h1 : T.b.ei <= 60 := hsb.ei; omega) hsb.fq)) ?_
        rintro _ w43 ⟨F43, G43, L43, ⟨_, rfl, Ac43, cc43, _, rfl, hmc43, rfl⟩, hs43, hx43, h43⟩
        refine ⟨fun _ => ⟨h43.at_ 1 rfl, trivial⟩, ?_⟩
        refine pR_p 2 [5, 6, 7] [(146, (iV .i64 er)), (145, (aV ([(lV Ac43 0 cc43), (bV false), (sV ByteArray.empty), (sV ByteArray.empty), (iV .i64 0), (iV .i64 0), (iV .i64 0), (lV none 0 0), (bV false)]).toArray)), (139, (Value.tuple #[(aV ([(lV Ac43 0 cc43), (bV false), (sV ByteArray.empty), (sV ByteArray.empty), (iV .i64 0), (iV .i64 0), (iV .i64 0), (lV none 0 0), (bV false)]).toArray), (iV .i64 er)]))] 511 hs35 ⟨h43.at_ 1 rfl, trivial⟩ ?_
        refine pR_to 9 none 1023 rfl hs35 (xSs h43 0 42 (.tmp 12) (.tmp 145) 0 ([(lV Ac43 0 cc43), (bV false), (sV ByteArray.empty), (sV ByteArray.empty), (iV .i64 0), (iV .i64 0), (iV .i64 0), (lV none 0 0), (bV false)]) ([(lV Ac43 0 cc43), (bV false), (sV ByteArray.empty), (sV ByteArray.empty), (iV .i64 0), (iV .i64 0), (iV .i64 0), (lV none 0 0), (bV false)])) ?_
        rintro _ w44 h44
        refine ⟨fun _ => ⟨h44.at_ 1 rfl, trivial⟩, ?_⟩
        refine pR_to 10 (some 13) 2047 rfl hs35 (OpTo.run (iV .i64 er) (pureOp_run (by kernel_rfl) _) (R := fun v w => v = (iV .i64 er) /\ w44 = w) ⟨rfl, rfl⟩) ?_
        rintro _ _ ⟨rfl, rfl⟩
        refine ⟨fun h => absurd h (by decide), ?_⟩
        refine pR_done hs35 ?_ _
        exact hJ27 F43 G43 L43 Ac43 cc43 g41 hmc43 ((fun p hp => (hs43 _ hp))) ((hx43 _ hxJ)) _ _ _ (pEq 184) (h44.sel [0, 1, 2, 3, 4, 5, 6, 7, 8, 9, 10, 11] [0, 1, 2, 3] (by kernel_rfl) rfl rfl)
      ·
       refine pR_op 8 (some 12) 267 rfl (xN h35 42 ([(lV none 0 0), (bV false), (sV ByteArray.empty), (sV ByteArray.empty), (iV .i64 0), (iV .i64 0), (iV .i64 0), (lV none 0 0), (bV false)])) ?_
       rintro _ w45 ⟨g45, rfl, h45⟩
       refine ⟨fun _ => ⟨h45.at_ 1 rfl, trivial⟩, ?_⟩
       refine pR_to 2 (some 142) 271 rfl hs35 (x_dp h45 18 [(pt p 0), (iV .i64 1)] (by kernel_rfl) (tEnd_1 (h45.at_ 3 rfl))) ?_
       rintro _ w46 ⟨rfl, h46⟩
       refine ⟨fun _ => ⟨h46.at_ 1 rfl, trivial⟩, ?_⟩
       have hq47 := h46.monoS 6 rfl (fun p hp => (hsJ _ hp))
       refine pR_to 4 (some 144) 287 rfl hs35 (x_two hq47 4 6 rfl rfl (by kernel_rfl) 0 rfl 12 [(pt e.sb 0), (aV ([(sV fJ.src), (sV fJ.dst), (iV .i64 fJ.sid), (iV .i64 fJ.epoch), (iV .i64 fJ.seq), (lV AJ fJ.box.length cJ)]).toArray)] (by kernel_rfl) (take_of (hq47.at_ 4 rfl) (hq47.at_ 6 rfl) (hq47.rd 0 rfl) (hq47.dis 4 6 _ _ rfl rfl (by decide)) (hq47.rdis 0 4 _ _ rfl rfl) (hq47.rdis 0 6 _ _ rfl rfl) hr AJ cJ hmfJ (hsJ _ hT.nil) hsd (by omega) (by omega) hI.bodies (by have h1 : T.b.sent <= 60 := hsb.sent; omega) (by have h1 : T.b.got <= 60 := hsb.got; omega) (by have h1 : T.b.ei <= 60 := hsb.ei; omega) hsb.fq)) ?_
       rintro _ w48 ⟨F48, G48, L48, ⟨_, rfl, Ac48, cc48, _, rfl, hmc48, rfl⟩, hs48, hx48, h48⟩
       refine ⟨fun _ => ⟨h48.at_ 1 rfl, trivial⟩, ?_⟩
       refine pR_p 2 [5, 6, 7] [(146, (iV .i64 er)), (145, (aV ([(lV Ac48 0 cc48), (bV false), (sV ByteArray.empty), (sV ByteArray.empty), (iV .i64 0), (iV .i64 0), (iV .i64 0), (lV none 0 0), (bV false)]).toArray)), (139, (Value.tuple #[(aV ([(lV Ac48 0 cc48), (bV false), (sV ByteArray.empty), (sV ByteArray.empty), (iV .i64 0), (iV .i64 0), (iV .i64 0), (lV none 0 0), (bV false)]).toArray), (iV .i64 er)]))] 511 hs35 ⟨h48.at_ 1 rfl, trivial⟩ ?_
       refine pR_to 9 none 1023 rfl hs35 (xSs h48 0 42 (.tmp 12) (.tmp 145) 0 ([(lV Ac48 0 cc48), (bV false), (sV ByteArray.empty), (sV ByteArray.empty), (iV .i64 0), (iV .i64 0), (iV .i64 0), (lV none 0 0), (bV false)]) ([(lV Ac48 0 cc48), (bV false), (sV ByteArray.empty), (sV ByteArray.empty), (iV .i64 0), (iV .i64 0), (iV .i64 0), (lV none 0 0), (bV false)])) ?_
       rintro _ w49 h49
       refine ⟨fun _ => ⟨h49.at_ 1 rfl, trivial⟩, ?_⟩
       refine pR_to 10 (some 13) 2047 rfl hs35 (OpTo.run (iV .i64 er) (pureOp_run (by kernel_rfl) _) (R := fun v w => v = (iV .i64 er) /\ w49 = w) ⟨rfl, rfl⟩) ?_
       rintro _ _ ⟨rfl, rfl⟩
       refine ⟨fun h => absurd h (by decide), ?_⟩
       refine pR_done hs35 ?_ _
       exact hJ27 F48 G48 L48 Ac48 cc48 g45 hmc48 ((fun p hp => (hs48 _ hp))) ((hx48 _ hxJ)) _ _ _ (pEq 184) (h49.sel [0, 1, 2, 3, 4, 5, 6, 7, 8, 9, 10, 11] [0, 1, 2, 3] (by kernel_rfl) rfl rfl)
     ·
      have hJ50 : ∀ (FK : Nat -> Prop), ∀ (GK : Nat -> Prop), ∀ (LK : List (Value × Bytes)), ∀ (AcK : Option Addr), ∀ (ccK : Nat), ∀ (AgK : Option Addr), ∀ (cgK : Nat), ∀ (gK : Nat), ((lV AcK ([] : Bytes).length ccK, ([] : Bytes)) ∈ LK) -> ((lV AgK g.box.length cgK, g.box) ∈ LK) -> (∀ p, p ∈ LJ -> p ∈ LK) -> (LExt G w L LK) -> ∀ (xJ50 : Nat -> Value) (aJ : Act) (wJ50 : World), aJ = patch xJ50 184 [(0, (pt p 0)), (1, (aV ([(iV .i64 6), (iV .i64 z.at_), (iV .i64 z.turn), (lV A z.body.length c)]).toArray)), (3, (pt g2 0)), (4, (bV false)), (5, (iV .i64 0)), (10, (pt gJ 0)), (11, (iV .i64 1)), (12, (pt gK 0)), (13, (iV .i64 er)), (18, (iV .i64 6)), (19, (bV false)), (64, (bV false)), (82, (bV false)), (110, (bV true)), (117, (bV false)), (138, (bV true))] -> Hp G w wJ50 [rF LK, rF LJ, rSB ((lV A z.body.length c)) z.body, rF L] [rBlk gK 42 ([(lV AcK 0 ccK), (bV false), (sV g.src), (sV g.dst), (iV .i64 g.sid), (iV .i64 g.epoch), (iV .i64 g.seq), (lV AgK g.box.length cgK), (bV true)]), rBlk gJ 38 ([(sV fJ.src), (sV fJ.dst), (iV .i64 fJ.sid), (iV .i64 fJ.epoch), (iV .i64 fJ.seq), (lV AJ fJ.box.length cJ)]), rBlk g2 50 ([(iV .i64 6), (iV .i64 z.at_), (iV .i64 z.turn), (lV A z.body.length c)]), rBlk p 34 ([(pt e.tb 0), (pt e.sa 0), (pt e.sb 0), (lV e.wA T.wire.length e.wc), (lV e.A0 T.sd0.length e.c0), (lV e.A1 T.sd1.length e.c1), (lV e.A2 T.cm0.length e.c2), (lV e.A3 T.cm1.length e.c3), (iV .i64 ((T.k0 : Int))), (iV .i64 ((T.k1 : Int)))]), rTab FK e.tb s', rS e.Ga e.tb e.sa L T.a, rS GK e.tb e.sb LK S', rOV 38 6 ((lV e.wA T.wire.length e.wc)) e.wx, rOV 26 1 ((lV e.A0 T.sd0.length e.c0)) e.x0, rOV 26 1 ((lV e.A1 T.sd1.length e.c1)) e.x1, rOV 26 1 ((lV e.A2 T.cm0.length e.c2)) e.x2, rOV 26 1 ((lV e.A3 T.cm1.length e.c3)) e.x3] -> K25 aJ wJ50 := by
        rintro FK GK LK AcK ccK AgK cgK gK hmcK hmgK hsK hxK xJ50 _ wJ50 rfl hJh50
        refine seq_n hK25 (wp_seq_k fun K51 hK51 => wp_seq_k fun K52 hK52 => reg_lit ?_)
        refine wq_p 1 [(147, (pt gK 8))] (wq_v (some 148) (bV true) (eL (hJh50.at_ 0 rfl) 4 (.tmp 147) 8 _) ?_)
        refine wl_end rfl (seq_n hK52 (cT ?_))
        have hJ53 : ∀ (AW : Option Addr), ∀ (cW : Nat), ∀ (xJ53 : Nat -> Value) (aJ : Act) (wJ53 : World), aJ = patch xJ53 184 [(0, (pt p 0)), (1, (aV ([(iV .i64 6), (iV .i64 z.at_), (iV .i64 z.turn), (lV A z.body.length c)]).toArray)), (3, (pt g2 0)), (4, (bV false)), (5, (iV .i64 0)), (10, (pt gJ 0)), (11, (iV .i64 1)), (12, (pt gK 0)), (13, (iV .i64 er)), (18, (iV .i64 6)), (19, (bV false)), (64, (bV false)), (82, (bV false)), (110, (bV true)), (117, (bV false)), (138, (bV true)), (148, (bV true))] -> Hp G w wJ53 [rF LK, rF LJ, rSB ((lV A z.body.length c)) z.body, rF L] [rBlk gK 42 ([(lV AcK 0 ccK), (bV false), (sV g.src), (sV g.dst), (iV .i64 g.sid), (iV .i64 g.epoch), (iV .i64 g.seq), (lV AgK g.box.length cgK), (bV true)]), rBlk gJ 38 ([(sV fJ.src), (sV fJ.dst), (iV .i64 fJ.sid), (iV .i64 fJ.epoch), (iV .i64 fJ.seq), (lV AJ fJ.box.length cJ)]), rBlk g2 50 ([(iV .i64 6), (iV .i64 z.at_), (iV .i64 z.turn), (lV A z.body.length c)]), rBlk p 34 ([(pt e.tb 0), (pt e.sa 0), (pt e.sb 0), (lV AW ((T.wire ++ [g]).length) cW), (lV e.A0 T.sd0.length e.c0), (lV e.A1 T.sd1.length e.c1), (lV e.A2 T.cm0.length e.c2), (lV e.A3 T.cm1.length e.c3), (iV .i64 ((T.k0 : Int))), (iV .i64 ((T.k1 : Int)))]), rTab FK e.tb s', rS e.Ga e.tb e.sa L T.a, rS GK e.tb e.sb LK S', rOV 38 6 ((lV AW ((T.wire ++ [g]).length) cW)) (e.wx ++ [[(sV g.src), (sV g.dst), (iV .i64 g.sid), (iV .i64 g.epoch), (iV .i64 g.seq), (lV AgK g.box.length cgK)]]), rOV 26 1 ((lV e.A0 T.sd0.length e.c0)) e.x0, rOV 26 1 ((lV e.A1 T.sd1.length e.c1)) e.x1, rOV 26 1 ((lV e.A2 T.cm0.length e.c2)) e.x2, rOV 26 1 ((lV e.A3 T.cm1.length e.c3)) e.x3] -> K51 aJ wJ53 := by
          rintro AW cW xJ53 _ wJ53 rfl hJh53
          refine seq_n hK51 (wp_seq_k fun K54 hK54 => wp_seq_k fun K55 hK55 => reg_lit ?_)
          refine wq_p 1 [(160, (pt gK 1))] (wq_v (some 161) (bV false) (eL (hJh53.at_ 0 rfl) 4 (.tmp 160) 1 _) ?_)
          refine wl_end rfl (seq_n hK55 (cF (wp_skip (seq_n hK54 (wp_seq_k fun K56 hK56 => reg_lit ?_)))))
          refine wq_p 1 [(177, (pt gK 1))] (wq_v (some 178) (bV false) (eL (hJh53.at_ 0 rfl) 4 (.tmp 177) 1 _) (wq_p 6 [(4, (bV true)), (183, (bV true)), (182, undef), (181, undef), (180, (bV true)), (179, (bV true))] ?_))
          refine wl_end rfl (seq_n hK56 (wp_ret (blk_r (seq_r ?_))))
          refine post_1 rfl (by kernel_rfl) (rtm (bV true)) ?_
          have hq57 := hJh53.monoS 5 rfl (fun p hp => (hsK _ (hsJ _ hp)))
          have h58 := (show Hp _ _ _ _ (lT p LK (TEnv.mk e.tb e.sa e.sb FK e.Ga GK AW cW (e.wx ++ [[(sV g.src), (sV g.dst), (iV .i64 g.sid), (iV .i64 g.epoch), (iV .i64 g.seq), (lV AgK g.box.length cgK)]]) e.A0 e.c0 e.x0 e.A1 e.c1 e.x1 e.A2 e.c2 e.x2 e.A3 e.c3 e.x3) { T with s := s', b := S', wire := T.wire ++ [g], cm1 := T.cm1 } ++ []) from hq57.sel [3, 4, 5, 6, 7, 8, 9, 10, 11] [0] rfl rfl rfl).closeT ⟨((hT.w.mono (fun _ _ h => h.mono (fun p hp => (hsK _ (hsJ _ hp))))).push ⟨AgK, cgK, rfl, hmgK⟩), (hT.x0.mono (fun _ _ h => h.mono (fun p hp => (hsK _ (hsJ _ hp))))), (hT.x1.mono (fun _ _ h => h.mono (fun p hp => (hsK _ (hsJ _ hp))))), (hT.x2.mono (fun _ _ h => h.mono (fun p hp => (hsK _ (hsJ _ hp))))), (hT.x3.mono (fun _ _ h => h.mono (fun p hp => (hsK _ (hsJ _ hp))))), (hsK _ (hsJ _ hT.nil))⟩
          simp only [Option.toList, List.append_nil] at hT1 hC2
          exact ⟨rfl, _, _, _, Wa, Wb, (hT1).swap, (hC2).swap, hxK, h58⟩
        refine pR_go hJh50 9 (fun W => (rBlk gK 42 ([(lV AcK 0 ccK), (bV false), (sV g.src), (sV g.dst), (iV .i64 g.sid), (iV .i64 g.epoch), (iV .i64 g.seq), (lV AgK g.box.length cgK), (bV true)])).Φ W /\ True) [(150, [0], 0), (151, [0], 0), (152, [150], 2), (153, [151], 4), (154, [152], 8), (155, [12], 0), (156, [154], 32), (157, [155], 64), (158, [153, 156], 144), (159, [149], 511), (160, [158], 1023), (0, [159, 157], 1535)] rfl (fun _ d _ _ _ h => by cases d <;> exact h) ?_
        intro hs59 w59 h59
        refine pR_p 7 [0, 1, 2, 3, 5] [(154, (pt gK 2)), (152, (pt p 3)), (151, (pt p 0)), (150, (pt p 0)), (149, (pt p 0))] 47 hs59 ⟨h59.at_ 0 rfl, trivial⟩ ?_
        refine pR_v 6 (some 155) (aV ([(sV g.src), (sV g.dst), (iV .i64 g.sid), (iV .i64 g.epoch), (iV .i64 g.seq), (lV AgK g.box.length cgK)]).toArray) 111 rfl hs59 ⟨h59.at_ 0 rfl, trivial⟩ (fun W hW => eLs hW.1 38 (.tmp 154) 2 ([(sV g.src), (sV g.dst), (iV .i64 g.sid), (iV .i64 g.epoch), (iV .i64 g.seq), (lV AgK g.box.length cgK)])) ?_
        refine pR_or 4 7 hs59 ?_ ?_
        ·
         refine pR_op 4 (some 153) 127 rfl (OpTo.run (lV e.wA T.wire.length e.wc) (eL (h59.at_ 3 rfl) 30 (.tmp 152) 3 (lV e.wA T.wire.length e.wc)) (R := fun v w => v = (lV e.wA T.wire.length e.wc) /\ w59 = w) ⟨rfl, rfl⟩) ?_
         rintro _ _ ⟨rfl, rfl⟩
         refine ⟨fun _ => ⟨h59.at_ 0 rfl, trivial⟩, ?_⟩
         refine pR_to 7 (some 156) 255 rfl hs59 (x_bs h59 38 ([(sV g.src), (sV g.dst), (iV .i64 g.sid), (iV .i64 g.epoch), (iV .i64 g.seq), (lV AgK g.box.length cgK)]) 1 (by kernel_rfl)) ?_
         rintro _ w60 ⟨g60, rfl, h60⟩
         refine ⟨fun _ => ⟨h60.at_ 1 rfl, trivial⟩, ?_⟩
         refine pR_to 8 (some 157) 511 rfl hs59 (xPu h60 8 0 rfl rfl (.tmp 153) (.tmp 156) 30 80 (aV ([(sV ByteArray.empty), (sV ByteArray.empty), (iV .i64 0), (iV .i64 0), (iV .i64 0), (lV none 0 0)]).toArray) (by omega) (by unfold maxLen; omega) (e.wx ++ [[(sV g.src), (sV g.dst), (iV .i64 g.sid), (iV .i64 g.epoch), (iV .i64 g.seq), (lV AgK g.box.length cgK)]]) ((T.wire ++ [g]).length) (hyn := (by rw [List.length_append, List.length_append, hT.w.1]; rfl))) ?_
         rintro _ w61 ⟨A61, c61, rfl, h61⟩
         refine ⟨fun _ => ⟨h61.at_ 1 rfl, trivial⟩, ?_⟩
         refine pR_to 9 (some 158) 1023 rfl hs59 (OpTo.run (pt p 0) (pureOp_run (by kernel_rfl) _) (R := fun v w => v = (pt p 0) /\ w61 = w) ⟨rfl, rfl⟩) ?_
         rintro _ _ ⟨rfl, rfl⟩
         refine ⟨fun h => absurd h (by decide), ?_⟩
         refine pR_to 10 (some 159) 2047 rfl hs59 (OpTo.run (pt p 3) (pureOp_run (by kernel_rfl) _) (R := fun v w => v = (pt p 3) /\ w61 = w) ⟨rfl, rfl⟩) ?_
         rintro _ _ ⟨rfl, rfl⟩
         refine ⟨fun h => absurd h (by decide), ?_⟩
         refine pR_to 11 none 4095 rfl hs59 (xSt h61 4 30 (.tmp 159) (.tmp 157) 3 (lV A61 ((T.wire ++ [g]).length) c61) ([(pt e.tb 0), (pt e.sa 0), (pt e.sb 0), (lV A61 ((T.wire ++ [g]).length) c61), (lV e.A0 T.sd0.length e.c0), (lV e.A1 T.sd1.length e.c1), (lV e.A2 T.cm0.length e.c2), (lV e.A3 T.cm1.length e.c3), (iV .i64 ((T.k0 : Int))), (iV .i64 ((T.k1 : Int)))])) ?_
         rintro _ w62 h62
         refine ⟨fun h => absurd h (by decide), ?_⟩
         refine pR_done hs59 ?_ _
         exact hJ53 A61 c61 _ _ _ (pEq 184) (h62.sel [1, 2, 3, 4, 5, 6, 7, 8, 9, 10, 11, 12] [0, 1, 2, 3] (by kernel_rfl) rfl rfl)
        ·
         refine pR_op 7 (some 156) 239 rfl (x_bs h59 38 ([(sV g.src), (sV g.dst), (iV .i64 g.sid), (iV .i64 g.epoch), (iV .i64 g.seq), (lV AgK g.box.length cgK)]) 1 (by kernel_rfl)) ?_
         rintro _ w63 ⟨g63, rfl, h63⟩
         refine ⟨fun _ => ⟨h63.at_ 1 rfl, trivial⟩, ?_⟩
         refine pR_to 4 (some 153) 255 rfl hs59 (OpTo.run (lV e.wA T.wire.length e.wc) (eL (h63.at_ 4 rfl) 30 (.tmp 152) 3 (lV e.wA T.wire.length e.wc)) (R := fun v w => v = (lV e.wA T.wire.length e.wc) /\ w63 = w) ⟨rfl, rfl⟩) ?_
         rintro _ _ ⟨rfl, rfl⟩
         refine ⟨fun _ => ⟨h63.at_ 1 rfl, trivial⟩, ?_⟩
         refine pR_to 8 (some 157) 511 rfl hs59 (xPu h63 8 0 rfl rfl (.tmp 153) (.tmp 156) 30 80 (aV ([(sV ByteArray.empty), (sV ByteArray.empty), (iV .i64 0), (iV .i64 0), (iV .i64 0), (lV none 0 0)]).toArray) (by omega) (by unfold maxLen; omega) (e.wx ++ [[(sV g.src), (sV g.dst), (iV .i64 g.sid), (iV .i64 g.epoch), (iV .i64 g.seq), (lV AgK g.box.length cgK)]]) ((T.wire ++ [g]).length) (hyn := (by rw [List.length_append, List.length_append, hT.w.1]; rfl))) ?_
         rintro _ w64 ⟨A64, c64, rfl, h64⟩
         refine ⟨fun _ => ⟨h64.at_ 1 rfl, trivial⟩, ?_⟩
         refine pR_to 9 (some 158) 1023 rfl hs59 (OpTo.run (pt p 0) (pureOp_run (by kernel_rfl) _) (R := fun v w => v = (pt p 0) /\ w64 = w) ⟨rfl, rfl⟩) ?_
         rintro _ _ ⟨rfl, rfl⟩
         refine ⟨fun h => absurd h (by decide), ?_⟩
         refine pR_to 10 (some 159) 2047 rfl hs59 (OpTo.run (pt p 3) (pureOp_run (by kernel_rfl) _) (R := fun v w => v = (pt p 3) /\ w64 = w) ⟨rfl, rfl⟩) ?_
         rintro _ _ ⟨rfl, rfl⟩
         refine ⟨fun h => absurd h (by decide), ?_⟩
         refine pR_to 11 none 4095 rfl hs59 (xSt h64 4 30 (.tmp 159) (.tmp 157) 3 (lV A64 ((T.wire ++ [g]).length) c64) ([(pt e.tb 0), (pt e.sa 0), (pt e.sb 0), (lV A64 ((T.wire ++ [g]).length) c64), (lV e.A0 T.sd0.length e.c0), (lV e.A1 T.sd1.length e.c1), (lV e.A2 T.cm0.length e.c2), (lV e.A3 T.cm1.length e.c3), (iV .i64 ((T.k0 : Int))), (iV .i64 ((T.k1 : Int)))])) ?_
         rintro _ w65 h65
         refine ⟨fun h => absurd h (by decide), ?_⟩
         refine pR_done hs59 ?_ _
         exact hJ53 A64 c64 _ _ _ (pEq 184) (h65.sel [1, 2, 3, 4, 5, 6, 7, 8, 9, 10, 11, 12] [0, 1, 2, 3] (by kernel_rfl) rfl rfl)
      refine pR_go hJh20 10 (fun W => (rBlk gJ 38 ([(sV fJ.src), (sV fJ.dst), (iV .i64 fJ.sid), (iV .i64 fJ.epoch), (iV .i64 fJ.seq), (lV AJ fJ.box.length cJ)])).Φ W /\ True) [(141, [0], 0), (142, [11], 0), (143, [140, 141], 3), (144, [10], 0), (145, [142, 143], 12), (140, [144], 16), (146, [139], 32), (147, [139], 32), (13, [], 0), (0, [12, 145], 383), (14, [146], 1023)] rfl (fun _ d _ _ _ h => by cases d <;> exact h) ?_
      intro hs66 w66 h66
      refine pR_p 9 [0, 1] [(141, (iV .i64 1)), (140, (pt p 0))] 3 hs66 ⟨h66.at_ 0 rfl, trivial⟩ ?_
      refine pR_v 3 (some 143) (aV ([(sV fJ.src), (sV fJ.dst), (iV .i64 fJ.sid), (iV .i64 fJ.epoch), (iV .i64 fJ.seq), (lV AJ fJ.box.length cJ)]).toArray) 11 rfl hs66 ⟨h66.at_ 0 rfl, trivial⟩ (fun W hW => eLs hW.1 38 (.tmp 10) 0 ([(sV fJ.src), (sV fJ.dst), (iV .i64 fJ.sid), (iV .i64 fJ.epoch), (iV .i64 fJ.seq), (lV AJ fJ.box.length cJ)])) ?_
      refine pR_or 2 8 hs66 ?_ ?_
      ·
       refine pR_op 2 (some 142) 15 rfl (x_dp h66 18 [(pt p 0), (iV .i64 1)] (by kernel_rfl) (tEnd_1 (h66.at_ 2 rfl))) ?_
       rintro _ w67 ⟨rfl, h67⟩
       refine ⟨fun _ => ⟨h67.at_ 0 rfl, trivial⟩, ?_⟩
       refine pR_or 4 8 hs66 ?_ ?_
       ·
        have hq68 := h67.monoS 5 rfl (fun p hp => (hsJ _ hp))
        refine pR_op 4 (some 144) 31 rfl (x_two hq68 3 5 rfl rfl (by kernel_rfl) 0 rfl 12 [(pt e.sb 0), (aV ([(sV fJ.src), (sV fJ.dst), (iV .i64 fJ.sid), (iV .i64 fJ.epoch), (iV .i64 fJ.seq), (lV AJ fJ.box.length cJ)]).toArray)] (by kernel_rfl) (take_of (hq68.at_ 3 rfl) (hq68.at_ 5 rfl) (hq68.rd 0 rfl) (hq68.dis 3 5 _ _ rfl rfl (by decide)) (hq68.rdis 0 3 _ _ rfl rfl) (hq68.rdis 0 5 _ _ rfl rfl) hr AJ cJ hmfJ (hsJ _ hT.nil) hsd (by omega) (by omega) hI.bodies (by have h1 : T.b.sent <= 60 := hsb.sent; omega) (by have h1 : T.b.got <= 60 := hsb.got; omega) (by have h1 : T.b.ei <= 60 := hsb.ei; omega) hsb.fq)) ?_
        rintro _ w69 ⟨F69, G69, L69, ⟨_, rfl, Ac69, cc69, _, rfl, hmc69, Ag69, cg69, rfl, hmg69⟩, hs69, hx69, h69⟩
        refine ⟨fun _ => ⟨h69.at_ 0 rfl, trivial⟩, ?_⟩
        refine pR_p 3 [5, 6, 7] [(146, (iV .i64 er)), (145, (aV ([(lV Ac69 0 cc69), (bV false), (sV g.src), (sV g.dst), (iV .i64 g.sid), (iV .i64 g.epoch), (iV .i64 g.seq), (lV Ag69 g.box.length cg69), (bV true)]).toArray)), (139, (Value.tuple #[(aV ([(lV Ac69 0 cc69), (bV false), (sV g.src), (sV g.dst), (iV .i64 g.sid), (iV .i64 g.epoch), (iV .i64 g.seq), (lV Ag69 g.box.length cg69), (bV true)]).toArray), (iV .i64 er)]))] 255 hs66 ⟨h69.at_ 0 rfl, trivial⟩ ?_
        refine pR_to 8 (some 12) 511 rfl hs66 (xN h69 42 ([(lV none 0 0), (bV false), (sV ByteArray.empty), (sV ByteArray.empty), (iV .i64 0), (iV .i64 0), (iV .i64 0), (lV none 0 0), (bV false)])) ?_
        rintro _ w70 ⟨g70, rfl, h70⟩
        refine ⟨fun _ => ⟨h70.at_ 1 rfl, trivial⟩, ?_⟩
        refine pR_to 9 none 1023 rfl hs66 (xSs h70 0 42 (.tmp 12) (.tmp 145) 0 ([(lV Ac69 0 cc69), (bV false), (sV g.src), (sV g.dst), (iV .i64 g.sid), (iV .i64 g.epoch), (iV .i64 g.seq), (lV Ag69 g.box.length cg69), (bV true)]) ([(lV Ac69 0 cc69), (bV false), (sV g.src), (sV g.dst), (iV .i64 g.sid), (iV .i64 g.epoch), (iV .i64 g.seq), (lV Ag69 g.box.length cg69), (bV true)])) ?_
        rintro _ w71 h71
        refine ⟨fun _ => ⟨h71.at_ 1 rfl, trivial⟩, ?_⟩
        refine pR_to 10 (some 13) 2047 rfl hs66 (OpTo.run (iV .i64 er) (pureOp_run (by kernel_rfl) _) (R := fun v w => v = (iV .i64 er) /\ w71 = w) ⟨rfl, rfl⟩) ?_
        rintro _ _ ⟨rfl, rfl⟩
        refine ⟨fun h => absurd h (by decide), ?_⟩
        refine pR_done hs66 ?_ _
        exact hJ50 F69 G69 L69 Ac69 cc69 Ag69 cg69 g70 hmc69 hmg69 ((fun p hp => (hs69 _ hp))) ((hx69 _ hxJ)) _ _ _ (pEq 184) (h71.sel [0, 1, 2, 3, 4, 5, 6, 7, 8, 9, 10, 11] [0, 1, 2, 3] (by kernel_rfl) rfl rfl)
       ·
        refine pR_op 8 (some 12) 271 rfl (xN h67 42 ([(lV none 0 0), (bV false), (sV ByteArray.empty), (sV ByteArray.empty), (iV .i64 0), (iV .i64 0), (iV .i64 0), (lV none 0 0), (bV false)])) ?_
        rintro _ w72 ⟨g72, rfl, h72⟩
        refine ⟨fun _ => ⟨h72.at_ 1 rfl, trivial⟩, ?_⟩
        have hq73 := h72.monoS 6 rfl (fun p hp => (hsJ _ hp))
        refine pR_to 4 (some 144) 287 rfl hs66 (x_two hq73 4 6 rfl rfl (by kernel_rfl) 0 rfl 12 [(pt e.sb 0), (aV ([(sV fJ.src), (sV fJ.dst), (iV .i64 fJ.sid), (iV .i64 fJ.epoch), (iV .i64 fJ.seq), (lV AJ fJ.box.length cJ)]).toArray)] (by kernel_rfl) (take_of (hq73.at_ 4 rfl) (hq73.at_ 6 rfl) (hq73.rd 0 rfl) (hq73.dis 4 6 _ _ rfl rfl (by decide)) (hq73.rdis 0 4 _ _ rfl rfl) (hq73.rdis 0 6 _ _ rfl rfl) hr AJ cJ hmfJ (hsJ _ hT.nil) hsd (by omega) (by omega) hI.bodies (by have h1 : T.b.sent <= 60 := hsb.sent; omega) (by have h1 : T.b.got <= 60 := hsb.got; omega) (by have h1 : T.b.ei <= 60 := hsb.ei; omega) hsb.fq)) ?_
        rintro _ w74 ⟨F74, G74, L74, ⟨_, rfl, Ac74, cc74, _, rfl, hmc74, Ag74, cg74, rfl, hmg74⟩, hs74, hx74, h74⟩
        refine ⟨fun _ => ⟨h74.at_ 1 rfl, trivial⟩, ?_⟩
        refine pR_p 2 [5, 6, 7] [(146, (iV .i64 er)), (145, (aV ([(lV Ac74 0 cc74), (bV false), (sV g.src), (sV g.dst), (iV .i64 g.sid), (iV .i64 g.epoch), (iV .i64 g.seq), (lV Ag74 g.box.length cg74), (bV true)]).toArray)), (139, (Value.tuple #[(aV ([(lV Ac74 0 cc74), (bV false), (sV g.src), (sV g.dst), (iV .i64 g.sid), (iV .i64 g.epoch), (iV .i64 g.seq), (lV Ag74 g.box.length cg74), (bV true)]).toArray), (iV .i64 er)]))] 511 hs66 ⟨h74.at_ 1 rfl, trivial⟩ ?_
        refine pR_to 9 none 1023 rfl hs66 (xSs h74 0 42 (.tmp 12) (.tmp 145) 0 ([(lV Ac74 0 cc74), (bV false), (sV g.src), (sV g.dst), (iV .i64 g.sid), (iV .i64 g.epoch), (iV .i64 g.seq), (lV Ag74 g.box.length cg74), (bV true)]) ([(lV Ac74 0 cc74), (bV false), (sV g.src), (sV g.dst), (iV .i64 g.sid), (iV .i64 g.epoch), (iV .i64 g.seq), (lV Ag74 g.box.length cg74), (bV true)])) ?_
        rintro _ w75 h75
        refine ⟨fun _ => ⟨h75.at_ 1 rfl, trivial⟩, ?_⟩
        refine pR_to 10 (some 13) 2047 rfl hs66 (OpTo.run (iV .i64 er) (pureOp_run (by kernel_rfl) _) (R := fun v w => v = (iV .i64 er) /\ w75 = w) ⟨rfl, rfl⟩) ?_
        rintro _ _ ⟨rfl, rfl⟩
        refine ⟨fun h => absurd h (by decide), ?_⟩
        refine pR_done hs66 ?_ _
        exact hJ50 F74 G74 L74 Ac74 cc74 Ag74 cg74 g72 hmc74 hmg74 ((fun p hp => (hs74 _ hp))) ((hx74 _ hxJ)) _ _ _ (pEq 184) (h75.sel [0, 1, 2, 3, 4, 5, 6, 7, 8, 9, 10, 11] [0, 1, 2, 3] (by kernel_rfl) rfl rfl)
      ·
       refine pR_op 8 (some 12) 267 rfl (xN h66 42 ([(lV none 0 0), (bV false), (sV ByteArray.empty), (sV ByteArray.empty), (iV .i64 0), (iV .i64 0), (iV .i64 0), (lV none 0 0), (bV false)])) ?_
       rintro _ w76 ⟨g76, rfl, h76⟩
       refine ⟨fun _ => ⟨h76.at_ 1 rfl, trivial⟩, ?_⟩
       refine pR_to 2 (some 142) 271 rfl hs66 (x_dp h76 18 [(pt p 0), (iV .i64 1)] (by kernel_rfl) (tEnd_1 (h76.at_ 3 rfl))) ?_
       rintro _ w77 ⟨rfl, h77⟩
       refine ⟨fun _ => ⟨h77.at_ 1 rfl, trivial⟩, ?_⟩
       have hq78 := h77.monoS 6 rfl (fun p hp => (hsJ _ hp))
       refine pR_to 4 (some 144) 287 rfl hs66 (x_two hq78 4 6 rfl rfl (by kernel_rfl) 0 rfl 12 [(pt e.sb 0), (aV ([(sV fJ.src), (sV fJ.dst), (iV .i64 fJ.sid), (iV .i64 fJ.epoch), (iV .i64 fJ.seq), (lV AJ fJ.box.length cJ)]).toArray)] (by kernel_rfl) (take_of (hq78.at_ 4 rfl) (hq78.at_ 6 rfl) (hq78.rd 0 rfl) (hq78.dis 4 6 _ _ rfl rfl (by decide)) (hq78.rdis 0 4 _ _ rfl rfl) (hq78.rdis 0 6 _ _ rfl rfl) hr AJ cJ hmfJ (hsJ _ hT.nil) hsd (by omega) (by omega) hI.bodies (by have h1 : T.b.sent <= 60 := hsb.sent; omega) (by have h1 : T.b.got <= 60 := hsb.got; omega) (by have h1 : T.b.ei <= 60 := hsb.ei; omega) hsb.fq)) ?_
       rintro _ w79 ⟨F79, G79, L79, ⟨_, rfl, Ac79, cc79, _, rfl, hmc79, Ag79, cg79, rfl, hmg79⟩, hs79, hx79, h79⟩
       refine ⟨fun _ => ⟨h79.at_ 1 rfl, trivial⟩, ?_⟩
       refine pR_p 2 [5, 6, 7] [(146, (iV .i64 er)), (145, (aV ([(lV Ac79 0 cc79), (bV false), (sV g.src), (sV g.dst), (iV .i64 g.sid), (iV .i64 g.epoch), (iV .i64 g.seq), (lV Ag79 g.box.length cg79), (bV true)]).toArray)), (139, (Value.tuple #[(aV ([(lV Ac79 0 cc79), (bV false), (sV g.src), (sV g.dst), (iV .i64 g.sid), (iV .i64 g.epoch), (iV .i64 g.seq), (lV Ag79 g.box.length cg79), (bV true)]).toArray), (iV .i64 er)]))] 511 hs66 ⟨h79.at_ 1 rfl, trivial⟩ ?_
       refine pR_to 9 none 1023 rfl hs66 (xSs h79 0 42 (.tmp 12) (.tmp 145) 0 ([(lV Ac79 0 cc79), (bV false), (sV g.src), (sV g.dst), (iV .i64 g.sid), (iV .i64 g.epoch), (iV .i64 g.seq), (lV Ag79 g.box.length cg79), (bV true)]) ([(lV Ac79 0 cc79), (bV false), (sV g.src), (sV g.dst), (iV .i64 g.sid), (iV .i64 g.epoch), (iV .i64 g.seq), (lV Ag79 g.box.length cg79), (bV true)])) ?_
       rintro _ w80 h80
       refine ⟨fun _ => ⟨h80.at_ 1 rfl, trivial⟩, ?_⟩
       refine pR_to 10 (some 13) 2047 rfl hs66 (OpTo.run (iV .i64 er) (pureOp_run (by kernel_rfl) _) (R := fun v w => v = (iV .i64 er) /\ w80 = w) ⟨rfl, rfl⟩) ?_
       rintro _ _ ⟨rfl, rfl⟩
       refine ⟨fun h => absurd h (by decide), ?_⟩
       refine pR_done hs66 ?_ _
       exact hJ50 F79 G79 L79 Ac79 cc79 Ag79 cg79 g76 hmc79 hmg79 ((fun p hp => (hs79 _ hp))) ((hx79 _ hxJ)) _ _ _ (pEq 184) (h80.sel [0, 1, 2, 3, 4, 5, 6, 7, 8, 9, 10, 11] [0, 1, 2, 3] (by kernel_rfl) rfl rfl)
     ·
      cases hr
     ·
      obtain rfl : er = 0 := hTk.err rfl
      have hJ81 : ∀ (FK : Nat -> Prop), ∀ (GK : Nat -> Prop), ∀ (LK : List (Value × Bytes)), ∀ (AcK : Option Addr), ∀ (ccK : Nat), ∀ (AgK : Option Addr), ∀ (cgK : Nat), ∀ (gK : Nat), ((lV AcK bd.length ccK, bd) ∈ LK) -> ((lV AgK g.box.length cgK, g.box) ∈ LK) -> (∀ p, p ∈ LJ -> p ∈ LK) -> (LExt G w L LK) -> ∀ (xJ81 : Nat -> Value) (aJ : Act) (wJ81 : World), aJ = patch xJ81 184 [(0, (pt p 0)), (1, (aV ([(iV .i64 6), (iV .i64 z.at_), (iV .i64 z.turn), (lV A z.body.length c)]).toArray)), (3, (pt g2 0)), (4, (bV false)), (5, (iV .i64 0)), (10, (pt gJ 0)), (11, (iV .i64 1)), (12, (pt gK 0)), (13, (iV .i64 0)), (18, (iV .i64 6)), (19, (bV false)), (64, (bV false)), (82, (bV false)), (110, (bV true)), (117, (bV false)), (138, (bV true))] -> Hp G w wJ81 [rF LK, rF LJ, rSB ((lV A z.body.length c)) z.body, rF L] [rBlk gK 42 ([(lV AcK bd.length ccK), (bV true), (sV g.src), (sV g.dst), (iV .i64 g.sid), (iV .i64 g.epoch), (iV .i64 g.seq), (lV AgK g.box.length cgK), (bV true)]), rBlk gJ 38 ([(sV fJ.src), (sV fJ.dst), (iV .i64 fJ.sid), (iV .i64 fJ.epoch), (iV .i64 fJ.seq), (lV AJ fJ.box.length cJ)]), rBlk g2 50 ([(iV .i64 6), (iV .i64 z.at_), (iV .i64 z.turn), (lV A z.body.length c)]), rBlk p 34 ([(pt e.tb 0), (pt e.sa 0), (pt e.sb 0), (lV e.wA T.wire.length e.wc), (lV e.A0 T.sd0.length e.c0), (lV e.A1 T.sd1.length e.c1), (lV e.A2 T.cm0.length e.c2), (lV e.A3 T.cm1.length e.c3), (iV .i64 ((T.k0 : Int))), (iV .i64 ((T.k1 : Int)))]), rTab FK e.tb s', rS e.Ga e.tb e.sa L T.a, rS GK e.tb e.sb LK S', rOV 38 6 ((lV e.wA T.wire.length e.wc)) e.wx, rOV 26 1 ((lV e.A0 T.sd0.length e.c0)) e.x0, rOV 26 1 ((lV e.A1 T.sd1.length e.c1)) e.x1, rOV 26 1 ((lV e.A2 T.cm0.length e.c2)) e.x2, rOV 26 1 ((lV e.A3 T.cm1.length e.c3)) e.x3] -> K25 aJ wJ81 := by
        rintro FK GK LK AcK ccK AgK cgK gK hmcK hmgK hsK hxK xJ81 _ wJ81 rfl hJh81
        refine seq_n hK25 (wp_seq_k fun K82 hK82 => wp_seq_k fun K83 hK83 => reg_lit ?_)
        refine wq_p 1 [(147, (pt gK 8))] (wq_v (some 148) (bV true) (eL (hJh81.at_ 0 rfl) 4 (.tmp 147) 8 _) ?_)
        refine wl_end rfl (seq_n hK83 (cT ?_))
        have hJ84 : ∀ (AW : Option Addr), ∀ (cW : Nat), ∀ (xJ84 : Nat -> Value) (aJ : Act) (wJ84 : World), aJ = patch xJ84 184 [(0, (pt p 0)), (1, (aV ([(iV .i64 6), (iV .i64 z.at_), (iV .i64 z.turn), (lV A z.body.length c)]).toArray)), (3, (pt g2 0)), (4, (bV false)), (5, (iV .i64 0)), (10, (pt gJ 0)), (11, (iV .i64 1)), (12, (pt gK 0)), (13, (iV .i64 0)), (18, (iV .i64 6)), (19, (bV false)), (64, (bV false)), (82, (bV false)), (110, (bV true)), (117, (bV false)), (138, (bV true)), (148, (bV true))] -> Hp G w wJ84 [rF LK, rF LJ, rSB ((lV A z.body.length c)) z.body, rF L] [rBlk gK 42 ([(lV AcK bd.length ccK), (bV true), (sV g.src), (sV g.dst), (iV .i64 g.sid), (iV .i64 g.epoch), (iV .i64 g.seq), (lV AgK g.box.length cgK), (bV true)]), rBlk gJ 38 ([(sV fJ.src), (sV fJ.dst), (iV .i64 fJ.sid), (iV .i64 fJ.epoch), (iV .i64 fJ.seq), (lV AJ fJ.box.length cJ)]), rBlk g2 50 ([(iV .i64 6), (iV .i64 z.at_), (iV .i64 z.turn), (lV A z.body.length c)]), rBlk p 34 ([(pt e.tb 0), (pt e.sa 0), (pt e.sb 0), (lV AW ((T.wire ++ [g]).length) cW), (lV e.A0 T.sd0.length e.c0), (lV e.A1 T.sd1.length e.c1), (lV e.A2 T.cm0.length e.c2), (lV e.A3 T.cm1.length e.c3), (iV .i64 ((T.k0 : Int))), (iV .i64 ((T.k1 : Int)))]), rTab FK e.tb s', rS e.Ga e.tb e.sa L T.a, rS GK e.tb e.sb LK S', rOV 38 6 ((lV AW ((T.wire ++ [g]).length) cW)) (e.wx ++ [[(sV g.src), (sV g.dst), (iV .i64 g.sid), (iV .i64 g.epoch), (iV .i64 g.seq), (lV AgK g.box.length cgK)]]), rOV 26 1 ((lV e.A0 T.sd0.length e.c0)) e.x0, rOV 26 1 ((lV e.A1 T.sd1.length e.c1)) e.x1, rOV 26 1 ((lV e.A2 T.cm0.length e.c2)) e.x2, rOV 26 1 ((lV e.A3 T.cm1.length e.c3)) e.x3] -> K82 aJ wJ84 := by
          rintro AW cW xJ84 _ wJ84 rfl hJh84
          refine seq_n hK82 (wp_seq_k fun K85 hK85 => wp_seq_k fun K86 hK86 => reg_lit ?_)
          refine wq_p 1 [(160, (pt gK 1))] (wq_v (some 161) (bV true) (eL (hJh84.at_ 0 rfl) 4 (.tmp 160) 1 _) ?_)
          refine wl_end rfl (seq_n hK86 (cT ?_))
          have hJ87 : ∀ (AV : Option Addr), ∀ (cV : Nat), ∀ (xJ87 : Nat -> Value) (aJ : Act) (wJ87 : World), aJ = patch xJ87 184 [(0, (pt p 0)), (1, (aV ([(iV .i64 6), (iV .i64 z.at_), (iV .i64 z.turn), (lV A z.body.length c)]).toArray)), (3, (pt g2 0)), (4, (bV false)), (5, (iV .i64 0)), (10, (pt gJ 0)), (11, (iV .i64 1)), (12, (pt gK 0)), (13, (iV .i64 0)), (18, (iV .i64 6)), (19, (bV false)), (64, (bV false)), (82, (bV false)), (110, (bV true)), (117, (bV false)), (138, (bV true)), (148, (bV true)), (161, (bV true))] -> Hp G w wJ87 [rF LK, rF LJ, rSB ((lV A z.body.length c)) z.body, rF L] [rBlk gK 42 ([(lV AcK bd.length ccK), (bV true), (sV g.src), (sV g.dst), (iV .i64 g.sid), (iV .i64 g.epoch), (iV .i64 g.seq), (lV AgK g.box.length cgK), (bV true)]), rBlk gJ 38 ([(sV fJ.src), (sV fJ.dst), (iV .i64 fJ.sid), (iV .i64 fJ.epoch), (iV .i64 fJ.seq), (lV AJ fJ.box.length cJ)]), rBlk g2 50 ([(iV .i64 6), (iV .i64 z.at_), (iV .i64 z.turn), (lV A z.body.length c)]), rBlk p 34 ([(pt e.tb 0), (pt e.sa 0), (pt e.sb 0), (lV AW ((T.wire ++ [g]).length) cW), (lV e.A0 T.sd0.length e.c0), (lV e.A1 T.sd1.length e.c1), (lV e.A2 T.cm0.length e.c2), (lV AV ((T.cm1 ++ [bd]).length) cV), (iV .i64 ((T.k0 : Int))), (iV .i64 ((T.k1 : Int)))]), rTab FK e.tb s', rS e.Ga e.tb e.sa L T.a, rS GK e.tb e.sb LK S', rOV 38 6 ((lV AW ((T.wire ++ [g]).length) cW)) (e.wx ++ [[(sV g.src), (sV g.dst), (iV .i64 g.sid), (iV .i64 g.epoch), (iV .i64 g.seq), (lV AgK g.box.length cgK)]]), rOV 26 1 ((lV e.A0 T.sd0.length e.c0)) e.x0, rOV 26 1 ((lV e.A1 T.sd1.length e.c1)) e.x1, rOV 26 1 ((lV e.A2 T.cm0.length e.c2)) e.x2, rOV 26 1 ((lV AV ((T.cm1 ++ [bd]).length) cV)) (e.x3 ++ [[(lV AcK bd.length ccK)]])] -> K85 aJ wJ87 := by
            rintro AV cV xJ87 _ wJ87 rfl hJh87
            refine seq_n hK85 (wp_seq_k fun K88 hK88 => reg_lit ?_)
            refine wq_p 1 [(177, (pt gK 1))] (wq_v (some 178) (bV true) (eL (hJh87.at_ 0 rfl) 4 (.tmp 177) 1 _) (wq_p 6 [(4, (bV true)), (183, (bV true)), (182, (bV true)), (181, (iV .i64 0)), (180, (bV false)), (179, (bV false))] ?_))
            refine wl_end rfl (seq_n hK88 (wp_ret (blk_r (seq_r ?_))))
            refine post_1 rfl (by kernel_rfl) (rtm (bV true)) ?_
            have hq89 := hJh87.monoS 5 rfl (fun p hp => (hsK _ (hsJ _ hp)))
            have h90 := (show Hp _ _ _ _ (lT p LK (TEnv.mk e.tb e.sa e.sb FK e.Ga GK AW cW (e.wx ++ [[(sV g.src), (sV g.dst), (iV .i64 g.sid), (iV .i64 g.epoch), (iV .i64 g.seq), (lV AgK g.box.length cgK)]]) e.A0 e.c0 e.x0 e.A1 e.c1 e.x1 e.A2 e.c2 e.x2 AV cV (e.x3 ++ [[(lV AcK bd.length ccK)]])) { T with s := s', b := S', wire := T.wire ++ [g], cm1 := T.cm1 ++ [bd] } ++ []) from hq89.sel [3, 4, 5, 6, 7, 8, 9, 10, 11] [0] rfl rfl rfl).closeT ⟨((hT.w.mono (fun _ _ h => h.mono (fun p hp => (hsK _ (hsJ _ hp))))).push ⟨AgK, cgK, rfl, hmgK⟩), (hT.x0.mono (fun _ _ h => h.mono (fun p hp => (hsK _ (hsJ _ hp))))), (hT.x1.mono (fun _ _ h => h.mono (fun p hp => (hsK _ (hsJ _ hp))))), (hT.x2.mono (fun _ _ h => h.mono (fun p hp => (hsK _ (hsJ _ hp))))), ((hT.x3.mono (fun _ _ h => h.mono (fun p hp => (hsK _ (hsJ _ hp))))).push ⟨AcK, ccK, rfl, hmcK⟩), (hsK _ (hsJ _ hT.nil))⟩
            exact ⟨rfl, _, _, _, Wa, Wb, (hT1).swap, (hC2).swap, hxK, h90⟩
          refine pR_go hJh84 16 (fun W => (rBlk gK 42 ([(lV AcK bd.length ccK), (bV true), (sV g.src), (sV g.dst), (iV .i64 g.sid), (iV .i64 g.epoch), (iV .i64 g.seq), (lV AgK g.box.length cgK), (bV true)])).Φ W /\ True) [(163, [0], 0), (164, [11], 0), (165, [0], 0), (166, [11], 0), (167, [164], 4), (168, [166], 16), (169, [167, 165], 40), (170, [168], 64), (171, [12], 0), (172, [170], 256), (173, [171], 512), (174, [169, 172], 1152), (175, [162], 1), (176, [174], 4096), (177, [175, 163], 12287), (0, [176, 173], 20479)] rfl (fun _ d _ _ _ h => by cases d <;> exact h) ?_
          intro hs91 w91 h91
          refine pR_p 7 [0, 1, 2, 3, 4, 5, 8, 12, 13] [(175, (pt p 6)), (174, (pt p 0)), (170, (pt gK 0)), (167, (pt p 6)), (166, (pt p 0)), (165, (iV .i64 1)), (164, (pt p 0)), (163, (iV .i64 1)), (162, (pt p 0))] 12607 hs91 ⟨h91.at_ 0 rfl, trivial⟩ ?_
          refine pR_v 6 (some 168) (pt p 7) 12671 rfl hs91 ⟨h91.at_ 0 rfl, trivial⟩ (fun W hW => eIa 31 (.tmp 167) (.tmp 165) .i64 p 6 1 2 22 7) ?_
          refine pR_v 9 (some 171) (lV AcK bd.length ccK) 13183 rfl hs91 ⟨h91.at_ 0 rfl, trivial⟩ (fun W hW => eL hW.1 26 (.tmp 170) 0 _) ?_
          refine pR_or 7 10 hs91 ?_ ?_
          ·
           refine pR_op 7 (some 169) 13311 rfl (OpTo.run (lV e.A3 T.cm1.length e.c3) (eL (h91.at_ 3 rfl) 22 (.tmp 168) 7 (lV e.A3 T.cm1.length e.c3)) (R := fun v w => v = (lV e.A3 T.cm1.length e.c3) /\ w91 = w) ⟨rfl, rfl⟩) ?_
           rintro _ _ ⟨rfl, rfl⟩
           refine ⟨fun _ => ⟨h91.at_ 0 rfl, trivial⟩, ?_⟩
           refine pR_to 10 (some 172) 14335 rfl hs91 (x_bs h91 26 ([(lV AcK bd.length ccK)]) 1 (by kernel_rfl)) ?_
           rintro _ w92 ⟨g92, rfl, h92⟩
           refine ⟨fun _ => ⟨h92.at_ 1 rfl, trivial⟩, ?_⟩
           refine pR_to 11 (some 173) 16383 rfl hs91 (xPu h92 12 0 rfl rfl (.tmp 169) (.tmp 172) 22 24 (lV none 0 0) (by omega) (by unfold maxLen; omega) (e.x3 ++ [[(lV AcK bd.length ccK)]]) ((T.cm1 ++ [bd]).length) (hyn := (by rw [List.length_append, List.length_append, hT.x3.1]; rfl))) ?_
           rintro _ w93 ⟨A93, c93, rfl, h93⟩
           refine ⟨fun _ => ⟨h93.at_ 1 rfl, trivial⟩, ?_⟩
           refine pR_v 14 (some 176) (pt p 7) 32767 rfl hs91 ⟨h93.at_ 1 rfl, trivial⟩ (fun W hW => eIa 31 (.tmp 175) (.tmp 163) .i64 p 6 1 2 22 7) ?_
           refine pR_to 15 none 65535 rfl hs91 (xSt h93 4 22 (.tmp 176) (.tmp 173) 7 (lV A93 ((T.cm1 ++ [bd]).length) c93) ([(pt e.tb 0), (pt e.sa 0), (pt e.sb 0), (lV AW ((T.wire ++ [g]).length) cW), (lV e.A0 T.sd0.length e.c0), (lV e.A1 T.sd1.length e.c1), (lV e.A2 T.cm0.length e.c2), (lV A93 ((T.cm1 ++ [bd]).length) c93), (iV .i64 ((T.k0 : Int))), (iV .i64 ((T.k1 : Int)))])) ?_
           rintro _ w94 h94
           refine ⟨fun _ => ⟨h94.at_ 1 rfl, trivial⟩, ?_⟩
           refine pR_done hs91 ?_ _
           exact hJ87 A93 c93 _ _ _ (pEq 184) (h94.sel [1, 2, 3, 4, 5, 6, 7, 8, 9, 10, 11, 12] [0, 1, 2, 3] (by kernel_rfl) rfl rfl)
          ·
           refine pR_op 10 (some 172) 14207 rfl (x_bs h91 26 ([(lV AcK bd.length ccK)]) 1 (by kernel_rfl)) ?_
           rintro _ w95 ⟨g95, rfl, h95⟩
           refine ⟨fun _ => ⟨h95.at_ 1 rfl, trivial⟩, ?_⟩
           refine pR_to 7 (some 169) 14335 rfl hs91 (OpTo.run (lV e.A3 T.cm1.length e.c3) (eL (h95.at_ 4 rfl) 22 (.tmp 168) 7 (lV e.A3 T.cm1.length e.c3)) (R := fun v w => v = (lV e.A3 T.cm1.length e.c3) /\ w95 = w) ⟨rfl, rfl⟩) ?_
           rintro _ _ ⟨rfl, rfl⟩
           refine ⟨fun _ => ⟨h95.at_ 1 rfl, trivial⟩, ?_⟩
           refine pR_to 11 (some 173) 16383 rfl hs91 (xPu h95 12 0 rfl rfl (.tmp 169) (.tmp 172) 22 24 (lV none 0 0) (by omega) (by unfold maxLen; omega) (e.x3 ++ [[(lV AcK bd.length ccK)]]) ((T.cm1 ++ [bd]).length) (hyn := (by rw [List.length_append, List.length_append, hT.x3.1]; rfl))) ?_
           rintro _ w96 ⟨A96, c96, rfl, h96⟩
           refine ⟨fun _ => ⟨h96.at_ 1 rfl, trivial⟩, ?_⟩
           refine pR_v 14 (some 176) (pt p 7) 32767 rfl hs91 ⟨h96.at_ 1 rfl, trivial⟩ (fun W hW => eIa 31 (.tmp 175) (.tmp 163) .i64 p 6 1 2 22 7) ?_
           refine pR_to 15 none 65535 rfl hs91 (xSt h96 4 22 (.tmp 176) (.tmp 173) 7 (lV A96 ((T.cm1 ++ [bd]).length) c96) ([(pt e.tb 0), (pt e.sa 0), (pt e.sb 0), (lV AW ((T.wire ++ [g]).length) cW), (lV e.A0 T.sd0.length e.c0), (lV e.A1 T.sd1.length e.c1), (lV e.A2 T.cm0.length e.c2), (lV A96 ((T.cm1 ++ [bd]).length) c96), (iV .i64 ((T.k0 : Int))), (iV .i64 ((T.k1 : Int)))])) ?_
           rintro _ w97 h97
           refine ⟨fun _ => ⟨h97.at_ 1 rfl, trivial⟩, ?_⟩
           refine pR_done hs91 ?_ _
           exact hJ87 A96 c96 _ _ _ (pEq 184) (h97.sel [1, 2, 3, 4, 5, 6, 7, 8, 9, 10, 11, 12] [0, 1, 2, 3] (by kernel_rfl) rfl rfl)
        refine pR_go hJh81 9 (fun W => (rBlk gK 42 ([(lV AcK bd.length ccK), (bV true), (sV g.src), (sV g.dst), (iV .i64 g.sid), (iV .i64 g.epoch), (iV .i64 g.seq), (lV AgK g.box.length cgK), (bV true)])).Φ W /\ True) [(150, [0], 0), (151, [0], 0), (152, [150], 2), (153, [151], 4), (154, [152], 8), (155, [12], 0), (156, [154], 32), (157, [155], 64), (158, [153, 156], 144), (159, [149], 511), (160, [158], 1023), (0, [159, 157], 1535)] rfl (fun _ d _ _ _ h => by cases d <;> exact h) ?_
        intro hs98 w98 h98
        refine pR_p 7 [0, 1, 2, 3, 5] [(154, (pt gK 2)), (152, (pt p 3)), (151, (pt p 0)), (150, (pt p 0)), (149, (pt p 0))] 47 hs98 ⟨h98.at_ 0 rfl, trivial⟩ ?_
        refine pR_v 6 (some 155) (aV ([(sV g.src), (sV g.dst), (iV .i64 g.sid), (iV .i64 g.epoch), (iV .i64 g.seq), (lV AgK g.box.length cgK)]).toArray) 111 rfl hs98 ⟨h98.at_ 0 rfl, trivial⟩ (fun W hW => eLs hW.1 38 (.tmp 154) 2 ([(sV g.src), (sV g.dst), (iV .i64 g.sid), (iV .i64 g.epoch), (iV .i64 g.seq), (lV AgK g.box.length cgK)])) ?_
        refine pR_or 4 7 hs98 ?_ ?_
        ·
         refine pR_op 4 (some 153) 127 rfl (OpTo.run (lV e.wA T.wire.length e.wc) (eL (h98.at_ 3 rfl) 30 (.tmp 152) 3 (lV e.wA T.wire.length e.wc)) (R := fun v w => v = (lV e.wA T.wire.length e.wc) /\ w98 = w) ⟨rfl, rfl⟩) ?_
         rintro _ _ ⟨rfl, rfl⟩
         refine ⟨fun _ => ⟨h98.at_ 0 rfl, trivial⟩, ?_⟩
         refine pR_to 7 (some 156) 255 rfl hs98 (x_bs h98 38 ([(sV g.src), (sV g.dst), (iV .i64 g.sid), (iV .i64 g.epoch), (iV .i64 g.seq), (lV AgK g.box.length cgK)]) 1 (by kernel_rfl)) ?_
         rintro _ w99 ⟨g99, rfl, h99⟩
         refine ⟨fun _ => ⟨h99.at_ 1 rfl, trivial⟩, ?_⟩
         refine pR_to 8 (some 157) 511 rfl hs98 (xPu h99 8 0 rfl rfl (.tmp 153) (.tmp 156) 30 80 (aV ([(sV ByteArray.empty), (sV ByteArray.empty), (iV .i64 0), (iV .i64 0), (iV .i64 0), (lV none 0 0)]).toArray) (by omega) (by unfold maxLen; omega) (e.wx ++ [[(sV g.src), (sV g.dst), (iV .i64 g.sid), (iV .i64 g.epoch), (iV .i64 g.seq), (lV AgK g.box.length cgK)]]) ((T.wire ++ [g]).length) (hyn := (by rw [List.length_append, List.length_append, hT.w.1]; rfl))) ?_
         rintro _ w100 ⟨A100, c100, rfl, h100⟩
         refine ⟨fun _ => ⟨h100.at_ 1 rfl, trivial⟩, ?_⟩
         refine pR_to 9 (some 158) 1023 rfl hs98 (OpTo.run (pt p 0) (pureOp_run (by kernel_rfl) _) (R := fun v w => v = (pt p 0) /\ w100 = w) ⟨rfl, rfl⟩) ?_
         rintro _ _ ⟨rfl, rfl⟩
         refine ⟨fun h => absurd h (by decide), ?_⟩
         refine pR_to 10 (some 159) 2047 rfl hs98 (OpTo.run (pt p 3) (pureOp_run (by kernel_rfl) _) (R := fun v w => v = (pt p 3) /\ w100 = w) ⟨rfl, rfl⟩) ?_
         rintro _ _ ⟨rfl, rfl⟩
         refine ⟨fun h => absurd h (by decide), ?_⟩
         refine pR_to 11 none 4095 rfl hs98 (xSt h100 4 30 (.tmp 159) (.tmp 157) 3 (lV A100 ((T.wire ++ [g]).length) c100) ([(pt e.tb 0), (pt e.sa 0), (pt e.sb 0), (lV A100 ((T.wire ++ [g]).length) c100), (lV e.A0 T.sd0.length e.c0), (lV e.A1 T.sd1.length e.c1), (lV e.A2 T.cm0.length e.c2), (lV e.A3 T.cm1.length e.c3), (iV .i64 ((T.k0 : Int))), (iV .i64 ((T.k1 : Int)))])) ?_
         rintro _ w101 h101
         refine ⟨fun h => absurd h (by decide), ?_⟩
         refine pR_done hs98 ?_ _
         exact hJ84 A100 c100 _ _ _ (pEq 184) (h101.sel [1, 2, 3, 4, 5, 6, 7, 8, 9, 10, 11, 12] [0, 1, 2, 3] (by kernel_rfl) rfl rfl)
        ·
         refine pR_op 7 (some 156) 239 rfl (x_bs h98 38 ([(sV g.src), (sV g.dst), (iV .i64 g.sid), (iV .i64 g.epoch), (iV .i64 g.seq), (lV AgK g.box.length cgK)]) 1 (by kernel_rfl)) ?_
         rintro _ w102 ⟨g102, rfl, h102⟩
         refine ⟨fun _ => ⟨h102.at_ 1 rfl, trivial⟩, ?_⟩
         refine pR_to 4 (some 153) 255 rfl hs98 (OpTo.run (lV e.wA T.wire.length e.wc) (eL (h102.at_ 4 rfl) 30 (.tmp 152) 3 (lV e.wA T.wire.length e.wc)) (R := fun v w => v = (lV e.wA T.wire.length e.wc) /\ w102 = w) ⟨rfl, rfl⟩) ?_
         rintro _ _ ⟨rfl, rfl⟩
         refine ⟨fun _ => ⟨h102.at_ 1 rfl, trivial⟩, ?_⟩
         refine pR_to 8 (some 157) 511 rfl hs98 (xPu h102 8 0 rfl rfl (.tmp 153) (.tmp 156) 30 80 (aV ([(sV ByteArray.empty), (sV ByteArray.empty), (iV .i64 0), (iV .i64 0), (iV .i64 0), (lV none 0 0)]).toArray) (by omega) (by unfold maxLen; omega) (e.wx ++ [[(sV g.src), (sV g.dst), (iV .i64 g.sid), (iV .i64 g.epoch), (iV .i64 g.seq), (lV AgK g.box.length cgK)]]) ((T.wire ++ [g]).length) (hyn := (by rw [List.length_append, List.length_append, hT.w.1]; rfl))) ?_
         rintro _ w103 ⟨A103, c103, rfl, h103⟩
         refine ⟨fun _ => ⟨h103.at_ 1 rfl, trivial⟩, ?_⟩
         refine pR_to 9 (some 158) 1023 rfl hs98 (OpTo.run (pt p 0) (pureOp_run (by kernel_rfl) _) (R := fun v w => v = (pt p 0) /\ w103 = w) ⟨rfl, rfl⟩) ?_
         rintro _ _ ⟨rfl, rfl⟩
         refine ⟨fun h => absurd h (by decide), ?_⟩
         refine pR_to 10 (some 159) 2047 rfl hs98 (OpTo.run (pt p 3) (pureOp_run (by kernel_rfl) _) (R := fun v w => v = (pt p 3) /\ w103 = w) ⟨rfl, rfl⟩) ?_
         rintro _ _ ⟨rfl, rfl⟩
         refine ⟨fun h => absurd h (by decide), ?_⟩
         refine pR_to 11 none 4095 rfl hs98 (xSt h103 4 30 (.tmp 159) (.tmp 157) 3 (lV A103 ((T.wire ++ [g]).length) c103) ([(pt e.tb 0), (pt e.sa 0), (pt e.sb 0), (lV A103 ((T.wire ++ [g]).length) c103), (lV e.A0 T.sd0.length e.c0), (lV e.A1 T.sd1.length e.c1), (lV e.A2 T.cm0.length e.c2), (lV e.A3 T.cm1.length e.c3), (iV .i64 ((T.k0 : Int))), (iV .i64 ((T.k1 : Int)))])) ?_
         rintro _ w104 h104
         refine ⟨fun h => absurd h (by decide), ?_⟩
         refine pR_done hs98 ?_ _
         exact hJ84 A103 c103 _ _ _ (pEq 184) (h104.sel [1, 2, 3, 4, 5, 6, 7, 8, 9, 10, 11, 12] [0, 1, 2, 3] (by kernel_rfl) rfl rfl)
      refine pR_go hJh20 10 (fun W => (rBlk gJ 38 ([(sV fJ.src), (sV fJ.dst), (iV .i64 fJ.sid), (iV .i64 fJ.epoch), (iV .i64 fJ.seq), (lV AJ fJ.box.length cJ)])).Φ W /\ True) [(141, [0], 0), (142, [11], 0), (143, [140, 141], 3), (144, [10], 0), (145, [142, 143], 12), (140, [144], 16), (146, [139], 32), (147, [139], 32), (13, [], 0), (0, [12, 145], 383), (14, [146], 1023)] rfl (fun _ d _ _ _ h => by cases d <;> exact h) ?_
      intro hs105 w105 h105
      refine pR_p 9 [0, 1] [(141, (iV .i64 1)), (140, (pt p 0))] 3 hs105 ⟨h105.at_ 0 rfl, trivial⟩ ?_
      refine pR_v 3 (some 143) (aV ([(sV fJ.src), (sV fJ.dst), (iV .i64 fJ.sid), (iV .i64 fJ.epoch), (iV .i64 fJ.seq), (lV AJ fJ.box.length cJ)]).toArray) 11 rfl hs105 ⟨h105.at_ 0 rfl, trivial⟩ (fun W hW => eLs hW.1 38 (.tmp 10) 0 ([(sV fJ.src), (sV fJ.dst), (iV .i64 fJ.sid), (iV .i64 fJ.epoch), (iV .i64 fJ.seq), (lV AJ fJ.box.length cJ)])) ?_
      refine pR_or 2 8 hs105 ?_ ?_
      ·
       refine pR_op 2 (some 142) 15 rfl (x_dp h105 18 [(pt p 0), (iV .i64 1)] (by kernel_rfl) (tEnd_1 (h105.at_ 2 rfl))) ?_
       rintro _ w106 ⟨rfl, h106⟩
       refine ⟨fun _ => ⟨h106.at_ 0 rfl, trivial⟩, ?_⟩
       refine pR_or 4 8 hs105 ?_ ?_
       ·
        have hq107 := h106.monoS 5 rfl (fun p hp => (hsJ _ hp))
        refine pR_op 4 (some 144) 31 rfl (x_two hq107 3 5 rfl rfl (by kernel_rfl) 0 rfl 12 [(pt e.sb 0), (aV ([(sV fJ.src), (sV fJ.dst), (iV .i64 fJ.sid), (iV .i64 fJ.epoch), (iV .i64 fJ.seq), (lV AJ fJ.box.length cJ)]).toArray)] (by kernel_rfl) (take_of (hq107.at_ 3 rfl) (hq107.at_ 5 rfl) (hq107.rd 0 rfl) (hq107.dis 3 5 _ _ rfl rfl (by decide)) (hq107.rdis 0 3 _ _ rfl rfl) (hq107.rdis 0 5 _ _ rfl rfl) hr AJ cJ hmfJ (hsJ _ hT.nil) hsd (by omega) (by omega) hI.bodies (by have h1 : T.b.sent <= 60 := hsb.sent; omega) (by have h1 : T.b.got <= 60 := hsb.got; omega) (by have h1 : T.b.ei <= 60 := hsb.ei; omega) hsb.fq)) ?_
        rintro _ w108 ⟨F108, G108, L108, ⟨_, rfl, Ac108, cc108, _, rfl, hmc108, Ag108, cg108, rfl, hmg108⟩, hs108, hx108, h108⟩
        refine ⟨fun _ => ⟨h108.at_ 0 rfl, trivial⟩, ?_⟩
        refine pR_p 3 [5, 6, 7] [(146, (iV .i64 0)), (145, (aV ([(lV Ac108 bd.length cc108), (bV true), (sV g.src), (sV g.dst), (iV .i64 g.sid), (iV .i64 g.epoch), (iV .i64 g.seq), (lV Ag108 g.box.length cg108), (bV true)]).toArray)), (139, (Value.tuple #[(aV ([(lV Ac108 bd.length cc108), (bV true), (sV g.src), (sV g.dst), (iV .i64 g.sid), (iV .i64 g.epoch), (iV .i64 g.seq), (lV Ag108 g.box.length cg108), (bV true)]).toArray), (iV .i64 0)]))] 255 hs105 ⟨h108.at_ 0 rfl, trivial⟩ ?_
        refine pR_to 8 (some 12) 511 rfl hs105 (xN h108 42 ([(lV none 0 0), (bV false), (sV ByteArray.empty), (sV ByteArray.empty), (iV .i64 0), (iV .i64 0), (iV .i64 0), (lV none 0 0), (bV false)])) ?_
        rintro _ w109 ⟨g109, rfl, h109⟩
        refine ⟨fun _ => ⟨h109.at_ 1 rfl, trivial⟩, ?_⟩
        refine pR_to 9 none 1023 rfl hs105 (xSs h109 0 42 (.tmp 12) (.tmp 145) 0 ([(lV Ac108 bd.length cc108), (bV true), (sV g.src), (sV g.dst), (iV .i64 g.sid), (iV .i64 g.epoch), (iV .i64 g.seq), (lV Ag108 g.box.length cg108), (bV true)]) ([(lV Ac108 bd.length cc108), (bV true), (sV g.src), (sV g.dst), (iV .i64 g.sid), (iV .i64 g.epoch), (iV .i64 g.seq), (lV Ag108 g.box.length cg108), (bV true)])) ?_
        rintro _ w110 h110
        refine ⟨fun _ => ⟨h110.at_ 1 rfl, trivial⟩, ?_⟩
        refine pR_to 10 (some 13) 2047 rfl hs105 (OpTo.run (iV .i64 0) (pureOp_run (by kernel_rfl) _) (R := fun v w => v = (iV .i64 0) /\ w110 = w) ⟨rfl, rfl⟩) ?_
        rintro _ _ ⟨rfl, rfl⟩
        refine ⟨fun h => absurd h (by decide), ?_⟩
        refine pR_done hs105 ?_ _
        exact hJ81 F108 G108 L108 Ac108 cc108 Ag108 cg108 g109 hmc108 hmg108 ((fun p hp => (hs108 _ hp))) ((hx108 _ hxJ)) _ _ _ (pEq 184) (h110.sel [0, 1, 2, 3, 4, 5, 6, 7, 8, 9, 10, 11] [0, 1, 2, 3] (by kernel_rfl) rfl rfl)
       ·
        refine pR_op 8 (some 12) 271 rfl (xN h106 42 ([(lV none 0 0), (bV false), (sV ByteArray.empty), (sV ByteArray.empty), (iV .i64 0), (iV .i64 0), (iV .i64 0), (lV none 0 0), (bV false)])) ?_
        rintro _ w111 ⟨g111, rfl, h111⟩
        refine ⟨fun _ => ⟨h111.at_ 1 rfl, trivial⟩, ?_⟩
        have hq112 := h111.monoS 6 rfl (fun p hp => (hsJ _ hp))
        refine pR_to 4 (some 144) 287 rfl hs105 (x_two hq112 4 6 rfl rfl (by kernel_rfl) 0 rfl 12 [(pt e.sb 0), (aV ([(sV fJ.src), (sV fJ.dst), (iV .i64 fJ.sid), (iV .i64 fJ.epoch), (iV .i64 fJ.seq), (lV AJ fJ.box.length cJ)]).toArray)] (by kernel_rfl) (take_of (hq112.at_ 4 rfl) (hq112.at_ 6 rfl) (hq112.rd 0 rfl) (hq112.dis 4 6 _ _ rfl rfl (by decide)) (hq112.rdis 0 4 _ _ rfl rfl) (hq112.rdis 0 6 _ _ rfl rfl) hr AJ cJ hmfJ (hsJ _ hT.nil) hsd (by omega) (by omega) hI.bodies (by have h1 : T.b.sent <= 60 := hsb.sent; omega) (by have h1 : T.b.got <= 60 := hsb.got; omega) (by have h1 : T.b.ei <= 60 := hsb.ei; omega) hsb.fq)) ?_
        rintro _ w113 ⟨F113, G113, L113, ⟨_, rfl, Ac113, cc113, _, rfl, hmc113, Ag113, cg113, rfl, hmg113⟩, hs113, hx113, h113⟩
        refine ⟨fun _ => ⟨h113.at_ 1 rfl, trivial⟩, ?_⟩
        refine pR_p 2 [5, 6, 7] [(146, (iV .i64 0)), (145, (aV ([(lV Ac113 bd.length cc113), (bV true), (sV g.src), (sV g.dst), (iV .i64 g.sid), (iV .i64 g.epoch), (iV .i64 g.seq), (lV Ag113 g.box.length cg113), (bV true)]).toArray)), (139, (Value.tuple #[(aV ([(lV Ac113 bd.length cc113), (bV true), (sV g.src), (sV g.dst), (iV .i64 g.sid), (iV .i64 g.epoch), (iV .i64 g.seq), (lV Ag113 g.box.length cg113), (bV true)]).toArray), (iV .i64 0)]))] 511 hs105 ⟨h113.at_ 1 rfl, trivial⟩ ?_
        refine pR_to 9 none 1023 rfl hs105 (xSs h113 0 42 (.tmp 12) (.tmp 145) 0 ([(lV Ac113 bd.length cc113), (bV true), (sV g.src), (sV g.dst), (iV .i64 g.sid), (iV .i64 g.epoch), (iV .i64 g.seq), (lV Ag113 g.box.length cg113), (bV true)]) ([(lV Ac113 bd.length cc113), (bV true), (sV g.src), (sV g.dst), (iV .i64 g.sid), (iV .i64 g.epoch), (iV .i64 g.seq), (lV Ag113 g.box.length cg113), (bV true)])) ?_
        rintro _ w114 h114
        refine ⟨fun _ => ⟨h114.at_ 1 rfl, trivial⟩, ?_⟩
        refine pR_to 10 (some 13) 2047 rfl hs105 (OpTo.run (iV .i64 0) (pureOp_run (by kernel_rfl) _) (R := fun v w => v = (iV .i64 0) /\ w114 = w) ⟨rfl, rfl⟩) ?_
        rintro _ _ ⟨rfl, rfl⟩
        refine ⟨fun h => absurd h (by decide), ?_⟩
        refine pR_done hs105 ?_ _
        exact hJ81 F113 G113 L113 Ac113 cc113 Ag113 cg113 g111 hmc113 hmg113 ((fun p hp => (hs113 _ hp))) ((hx113 _ hxJ)) _ _ _ (pEq 184) (h114.sel [0, 1, 2, 3, 4, 5, 6, 7, 8, 9, 10, 11] [0, 1, 2, 3] (by kernel_rfl) rfl rfl)
      ·
       refine pR_op 8 (some 12) 267 rfl (xN h105 42 ([(lV none 0 0), (bV false), (sV ByteArray.empty), (sV ByteArray.empty), (iV .i64 0), (iV .i64 0), (iV .i64 0), (lV none 0 0), (bV false)])) ?_
       rintro _ w115 ⟨g115, rfl, h115⟩
       refine ⟨fun _ => ⟨h115.at_ 1 rfl, trivial⟩, ?_⟩
       refine pR_to 2 (some 142) 271 rfl hs105 (x_dp h115 18 [(pt p 0), (iV .i64 1)] (by kernel_rfl) (tEnd_1 (h115.at_ 3 rfl))) ?_
       rintro _ w116 ⟨rfl, h116⟩
       refine ⟨fun _ => ⟨h116.at_ 1 rfl, trivial⟩, ?_⟩
       have hq117 := h116.monoS 6 rfl (fun p hp => (hsJ _ hp))
       refine pR_to 4 (some 144) 287 rfl hs105 (x_two hq117 4 6 rfl rfl (by kernel_rfl) 0 rfl 12 [(pt e.sb 0), (aV ([(sV fJ.src), (sV fJ.dst), (iV .i64 fJ.sid), (iV .i64 fJ.epoch), (iV .i64 fJ.seq), (lV AJ fJ.box.length cJ)]).toArray)] (by kernel_rfl) (take_of (hq117.at_ 4 rfl) (hq117.at_ 6 rfl) (hq117.rd 0 rfl) (hq117.dis 4 6 _ _ rfl rfl (by decide)) (hq117.rdis 0 4 _ _ rfl rfl) (hq117.rdis 0 6 _ _ rfl rfl) hr AJ cJ hmfJ (hsJ _ hT.nil) hsd (by omega) (by omega) hI.bodies (by have h1 : T.b.sent <= 60 := hsb.sent; omega) (by have h1 : T.b.got <= 60 := hsb.got; omega) (by have h1 : T.b.ei <= 60 := hsb.ei; omega) hsb.fq)) ?_
       rintro _ w118 ⟨F118, G118, L118, ⟨_, rfl, Ac118, cc118, _, rfl, hmc118, Ag118, cg118, rfl, hmg118⟩, hs118, hx118, h118⟩
       refine ⟨fun _ => ⟨h118.at_ 1 rfl, trivial⟩, ?_⟩
       refine pR_p 2 [5, 6, 7] [(146, (iV .i64 0)), (145, (aV ([(lV Ac118 bd.length cc118), (bV true), (sV g.src), (sV g.dst), (iV .i64 g.sid), (iV .i64 g.epoch), (iV .i64 g.seq), (lV Ag118 g.box.length cg118), (bV true)]).toArray)), (139, (Value.tuple #[(aV ([(lV Ac118 bd.length cc118), (bV true), (sV g.src), (sV g.dst), (iV .i64 g.sid), (iV .i64 g.epoch), (iV .i64 g.seq), (lV Ag118 g.box.length cg118), (bV true)]).toArray), (iV .i64 0)]))] 511 hs105 ⟨h118.at_ 1 rfl, trivial⟩ ?_
       refine pR_to 9 none 1023 rfl hs105 (xSs h118 0 42 (.tmp 12) (.tmp 145) 0 ([(lV Ac118 bd.length cc118), (bV true), (sV g.src), (sV g.dst), (iV .i64 g.sid), (iV .i64 g.epoch), (iV .i64 g.seq), (lV Ag118 g.box.length cg118), (bV true)]) ([(lV Ac118 bd.length cc118), (bV true), (sV g.src), (sV g.dst), (iV .i64 g.sid), (iV .i64 g.epoch), (iV .i64 g.seq), (lV Ag118 g.box.length cg118), (bV true)])) ?_
       rintro _ w119 h119
       refine ⟨fun _ => ⟨h119.at_ 1 rfl, trivial⟩, ?_⟩
       refine pR_to 10 (some 13) 2047 rfl hs105 (OpTo.run (iV .i64 0) (pureOp_run (by kernel_rfl) _) (R := fun v w => v = (iV .i64 0) /\ w119 = w) ⟨rfl, rfl⟩) ?_
       rintro _ _ ⟨rfl, rfl⟩
       refine ⟨fun h => absurd h (by decide), ?_⟩
       refine pR_done hs105 ?_ _
       exact hJ81 F118 G118 L118 Ac118 cc118 Ag118 cg118 g115 hmc118 hmg118 ((fun p hp => (hs118 _ hp))) ((hx118 _ hxJ)) _ _ _ (pEq 184) (h119.sel [0, 1, 2, 3, 4, 5, 6, 7, 8, 9, 10, 11] [0, 1, 2, 3] (by kernel_rfl) rfl rfl)
    ·
     refine reg_lit ?_
     refine wq_p 1 [(136, (pt gJ 1))] (wq_v (some 137) (sV fJ.dst) (eL (hJh20.at_ 0 rfl) 9 (.tmp 136) 1 _) (wq_v (some 138) (bV false) (eqI (bV ((fJ.dst).toList == (⟨#[98, 111, 98]⟩ : ByteArray).toList)) (congrArg bV (beq_eq_false_iff_ne.2 (ba_ne b24)))) ?_))
     refine wl_end rfl (seq_n hK23 (cF (wp_skip (seq_n hK22 (wp_seq_k fun K120 hK120 => ?_)))))
     obtain ⟨r, hsd, htd⟩ := hI.inv.said (show T.s.keys.length < 100000 by omega) fJ (by omega) (by omega)
     obtain ⟨s', S', m, g, er, hr⟩ := take_ex T.s T.a fJ r
     obtain ⟨hT1, hTk, hC1⟩ := hI.take hr htd (by omega)
     have hC2 := hC1 hC
     rcases m with _ | bd <;> rcases g with _ | g
     ·
      have hJ122 : ∀ (FK : Nat -> Prop), ∀ (GK : Nat -> Prop), ∀ (LK : List (Value × Bytes)), ∀ (AcK : Option Addr), ∀ (ccK : Nat), ∀ (gK : Nat), ((lV AcK ([] : Bytes).length ccK, ([] : Bytes)) ∈ LK) -> (∀ p, p ∈ LJ -> p ∈ LK) -> (LExt G w L LK) -> ∀ (xJ122 : Nat -> Value) (aJ : Act) (wJ122 : World), aJ = patch xJ122 184 [(0, (pt p 0)), (1, (aV ([(iV .i64 6), (iV .i64 z.at_), (iV .i64 z.turn), (lV A z.body.length c)]).toArray)), (3, (pt g2 0)), (4, (bV false)), (5, (iV .i64 0)), (10, (pt gJ 0)), (11, (iV .i64 0)), (12, (pt gK 0)), (13, (iV .i64 er)), (18, (iV .i64 6)), (19, (bV false)), (64, (bV false)), (82, (bV false)), (110, (bV true)), (117, (bV false)), (138, (bV false))] -> Hp G w wJ122 [rF LK, rF LJ, rSB ((lV A z.body.length c)) z.body, rF L] [rBlk gK 42 ([(lV AcK 0 ccK), (bV false), (sV ByteArray.empty), (sV ByteArray.empty), (iV .i64 0), (iV .i64 0), (iV .i64 0), (lV none 0 0), (bV false)]), rBlk gJ 38 ([(sV fJ.src), (sV fJ.dst), (iV .i64 fJ.sid), (iV .i64 fJ.epoch), (iV .i64 fJ.seq), (lV AJ fJ.box.length cJ)]), rBlk g2 50 ([(iV .i64 6), (iV .i64 z.at_), (iV .i64 z.turn), (lV A z.body.length c)]), rBlk p 34 ([(pt e.tb 0), (pt e.sa 0), (pt e.sb 0), (lV e.wA T.wire.length e.wc), (lV e.A0 T.sd0.length e.c0), (lV e.A1 T.sd1.length e.c1), (lV e.A2 T.cm0.length e.c2), (lV e.A3 T.cm1.length e.c3), (iV .i64 ((T.k0 : Int))), (iV .i64 ((T.k1 : Int)))]), rTab FK e.tb s', rS GK e.tb e.sa LK S', rS e.Gb e.tb e.sb L T.b, rOV 38 6 ((lV e.wA T.wire.length e.wc)) e.wx, rOV 26 1 ((lV e.A0 T.sd0.length e.c0)) e.x0, rOV 26 1 ((lV e.A1 T.sd1.length e.c1)) e.x1, rOV 26 1 ((lV e.A2 T.cm0.length e.c2)) e.x2, rOV 26 1 ((lV e.A3 T.cm1.length e.c3)) e.x3] -> K120 aJ wJ122 := by
        rintro FK GK LK AcK ccK gK hmcK hsK hxK xJ122 _ wJ122 rfl hJh122
        refine seq_n hK120 (wp_seq_k fun K123 hK123 => wp_seq_k fun K124 hK124 => reg_lit ?_)
        refine wq_p 1 [(147, (pt gK 8))] (wq_v (some 148) (bV false) (eL (hJh122.at_ 0 rfl) 4 (.tmp 147) 8 _) ?_)
        refine wl_end rfl (seq_n hK124 (cF (wp_skip (seq_n hK123 (wp_seq_k fun K125 hK125 => wp_seq_k fun K126 hK126 => reg_lit ?_)))))
        refine wq_p 1 [(160, (pt gK 1))] (wq_v (some 161) (bV false) (eL (hJh122.at_ 0 rfl) 4 (.tmp 160) 1 _) ?_)
        refine wl_end rfl (seq_n hK126 (cF (wp_skip (seq_n hK125 (wp_seq_k fun K127 hK127 => reg_lit ?_)))))
        refine wq_p 1 [(177, (pt gK 1))] (wq_v (some 178) (bV false) (eL (hJh122.at_ 0 rfl) 4 (.tmp 177) 1 _) (wq_p 6 [(4, (bV true)), (183, (bV true)), (182, undef), (181, undef), (180, (bV true)), (179, (bV true))] ?_))
        refine wl_end rfl (seq_n hK127 (wp_ret (blk_r (seq_r ?_))))
        refine post_1 rfl (by kernel_rfl) (rtm (bV true)) ?_
        have hq128 := hJh122.monoS 6 rfl (fun p hp => (hsK _ (hsJ _ hp)))
        have h129 := (show Hp _ _ _ _ (lT p LK (TEnv.mk e.tb e.sa e.sb FK GK e.Gb e.wA e.wc e.wx e.A0 e.c0 e.x0 e.A1 e.c1 e.x1 e.A2 e.c2 e.x2 e.A3 e.c3 e.x3) { T with s := s', a := S', wire := T.wire, cm0 := T.cm0 } ++ []) from hq128.sel [3, 4, 5, 6, 7, 8, 9, 10, 11] [0] rfl rfl rfl).closeT ⟨(hT.w.mono (fun _ _ h => h.mono (fun p hp => (hsK _ (hsJ _ hp))))), (hT.x0.mono (fun _ _ h => h.mono (fun p hp => (hsK _ (hsJ _ hp))))), (hT.x1.mono (fun _ _ h => h.mono (fun p hp => (hsK _ (hsJ _ hp))))), (hT.x2.mono (fun _ _ h => h.mono (fun p hp => (hsK _ (hsJ _ hp))))), (hT.x3.mono (fun _ _ h => h.mono (fun p hp => (hsK _ (hsJ _ hp))))), (hsK _ (hsJ _ hT.nil))⟩
        simp only [Option.toList, List.append_nil] at hT1 hC2
        exact ⟨rfl, _, _, _, Wa, Wb, hT1, hC2, hxK, h129⟩
      refine pR_go hJh20 10 (fun W => (rBlk gJ 38 ([(sV fJ.src), (sV fJ.dst), (iV .i64 fJ.sid), (iV .i64 fJ.epoch), (iV .i64 fJ.seq), (lV AJ fJ.box.length cJ)])).Φ W /\ True) [(141, [0], 0), (142, [11], 0), (143, [140, 141], 3), (144, [10], 0), (145, [142, 143], 12), (140, [144], 16), (146, [139], 32), (147, [139], 32), (13, [], 0), (0, [12, 145], 383), (14, [146], 1023)] rfl (fun _ d _ _ _ h => by cases d <;> exact h) ?_
      intro hs130 w130 h130
      refine pR_p 9 [0, 1] [(141, (iV .i64 0)), (140, (pt p 0))] 3 hs130 ⟨h130.at_ 0 rfl, trivial⟩ ?_
      refine pR_v 3 (some 143) (aV ([(sV fJ.src), (sV fJ.dst), (iV .i64 fJ.sid), (iV .i64 fJ.epoch), (iV .i64 fJ.seq), (lV AJ fJ.box.length cJ)]).toArray) 11 rfl hs130 ⟨h130.at_ 0 rfl, trivial⟩ (fun W hW => eLs hW.1 38 (.tmp 10) 0 ([(sV fJ.src), (sV fJ.dst), (iV .i64 fJ.sid), (iV .i64 fJ.epoch), (iV .i64 fJ.seq), (lV AJ fJ.box.length cJ)])) ?_
      refine pR_or 2 8 hs130 ?_ ?_
      ·
       refine pR_op 2 (some 142) 15 rfl (x_dp h130 18 [(pt p 0), (iV .i64 0)] (by kernel_rfl) (tEnd_0 (h130.at_ 2 rfl))) ?_
       rintro _ w131 ⟨rfl, h131⟩
       refine ⟨fun _ => ⟨h131.at_ 0 rfl, trivial⟩, ?_⟩
       refine pR_or 4 8 hs130 ?_ ?_
       ·
        have hq132 := h131.monoS 4 rfl (fun p hp => (hsJ _ hp))
        refine pR_op 4 (some 144) 31 rfl (x_two hq132 3 4 rfl rfl (by kernel_rfl) 0 rfl 12 [(pt e.sa 0), (aV ([(sV fJ.src), (sV fJ.dst), (iV .i64 fJ.sid), (iV .i64 fJ.epoch), (iV .i64 fJ.seq), (lV AJ fJ.box.length cJ)]).toArray)] (by kernel_rfl) (take_of (hq132.at_ 3 rfl) (hq132.at_ 4 rfl) (hq132.rd 0 rfl) (hq132.dis 3 4 _ _ rfl rfl (by decide)) (hq132.rdis 0 3 _ _ rfl rfl) (hq132.rdis 0 4 _ _ rfl rfl) hr AJ cJ hmfJ (hsJ _ hT.nil) hsd (by omega) (by omega) hI.bodies (by have h1 : T.a.sent <= 60 := hsa.sent; omega) (by have h1 : T.a.got <= 60 := hsa.got; omega) (by have h1 : T.a.ei <= 60 := hsa.ei; omega) hsa.fq)) ?_
        rintro _ w133 ⟨F133, G133, L133, ⟨_, rfl, Ac133, cc133, _, rfl, hmc133, rfl⟩, hs133, hx133, h133⟩
        refine ⟨fun _ => ⟨h133.at_ 0 rfl, trivial⟩, ?_⟩
        refine pR_p 3 [5, 6, 7] [(146, (iV .i64 er)), (145, (aV ([(lV Ac133 0 cc133), (bV false), (sV ByteArray.empty), (sV ByteArray.empty), (iV .i64 0), (iV .i64 0), (iV .i64 0), (lV none 0 0), (bV false)]).toArray)), (139, (Value.tuple #[(aV ([(lV Ac133 0 cc133), (bV false), (sV ByteArray.empty), (sV ByteArray.empty), (iV .i64 0), (iV .i64 0), (iV .i64 0), (lV none 0 0), (bV false)]).toArray), (iV .i64 er)]))] 255 hs130 ⟨h133.at_ 0 rfl, trivial⟩ ?_
        refine pR_to 8 (some 12) 511 rfl hs130 (xN h133 42 ([(lV none 0 0), (bV false), (sV ByteArray.empty), (sV ByteArray.empty), (iV .i64 0), (iV .i64 0), (iV .i64 0), (lV none 0 0), (bV false)])) ?_
        rintro _ w134 ⟨g134, rfl, h134⟩
        refine ⟨fun _ => ⟨h134.at_ 1 rfl, trivial⟩, ?_⟩
        refine pR_to 9 none 1023 rfl hs130 (xSs h134 0 42 (.tmp 12) (.tmp 145) 0 ([(lV Ac133 0 cc133), (bV false), (sV ByteArray.empty), (sV ByteArray.empty), (iV .i64 0), (iV .i64 0), (iV .i64 0), (lV none 0 0), (bV false)]) ([(lV Ac133 0 cc133), (bV false), (sV ByteArray.empty), (sV ByteArray.empty), (iV .i64 0), (iV .i64 0), (iV .i64 0), (lV none 0 0), (bV false)])) ?_
        rintro _ w135 h135
        refine ⟨fun _ => ⟨h135.at_ 1 rfl, trivial⟩, ?_⟩
        refine pR_to 10 (some 13) 2047 rfl hs130 (OpTo.run (iV .i64 er) (pureOp_run (by kernel_rfl) _) (R := fun v w => v = (iV .i64 er) /\ w135 = w) ⟨rfl, rfl⟩) ?_
        rintro _ _ ⟨rfl, rfl⟩
        refine ⟨fun h => absurd h (by decide), ?_⟩
        refine pR_done hs130 ?_ _
        exact hJ122 F133 G133 L133 Ac133 cc133 g134 hmc133 ((fun p hp => (hs133 _ hp))) ((hx133 _ hxJ)) _ _ _ (pEq 184) (h135.sel [0, 1, 2, 3, 4, 5, 6, 7, 8, 9, 10, 11] [0, 1, 2, 3] (by kernel_rfl) rfl rfl)
       ·
        refine pR_op 8 (some 12) 271 rfl (xN h131 42 ([(lV none 0 0), (bV false), (sV ByteArray.empty), (sV ByteArray.empty), (iV .i64 0), (iV .i64 0), (iV .i64 0), (lV none 0 0), (bV false)])) ?_
        rintro _ w136 ⟨g136, rfl, h136⟩
        refine ⟨fun _ => ⟨h136.at_ 1 rfl, trivial⟩, ?_⟩
        have hq137 := h136.monoS 5 rfl (fun p hp => (hsJ _ hp))
        refine pR_to 4 (some 144) 287 rfl hs130 (x_two hq137 4 5 rfl rfl (by kernel_rfl) 0 rfl 12 [(pt e.sa 0), (aV ([(sV fJ.src), (sV fJ.dst), (iV .i64 fJ.sid), (iV .i64 fJ.epoch), (iV .i64 fJ.seq), (lV AJ fJ.box.length cJ)]).toArray)] (by kernel_rfl) (take_of (hq137.at_ 4 rfl) (hq137.at_ 5 rfl) (hq137.rd 0 rfl) (hq137.dis 4 5 _ _ rfl rfl (by decide)) (hq137.rdis 0 4 _ _ rfl rfl) (hq137.rdis 0 5 _ _ rfl rfl) hr AJ cJ hmfJ (hsJ _ hT.nil) hsd (by omega) (by omega) hI.bodies (by have h1 : T.a.sent <= 60 := hsa.sent; omega) (by have h1 : T.a.got <= 60 := hsa.got; omega) (by have h1 : T.a.ei <= 60 := hsa.ei; omega) hsa.fq)) ?_
        rintro _ w138 ⟨F138, G138, L138, ⟨_, rfl, Ac138, cc138, _, rfl, hmc138, rfl⟩, hs138, hx138, h138⟩
        refine ⟨fun _ => ⟨h138.at_ 1 rfl, trivial⟩, ?_⟩
        refine pR_p 2 [5, 6, 7] [(146, (iV .i64 er)), (145, (aV ([(lV Ac138 0 cc138), (bV false), (sV ByteArray.empty), (sV ByteArray.empty), (iV .i64 0), (iV .i64 0), (iV .i64 0), (lV none 0 0), (bV false)]).toArray)), (139, (Value.tuple #[(aV ([(lV Ac138 0 cc138), (bV false), (sV ByteArray.empty), (sV ByteArray.empty), (iV .i64 0), (iV .i64 0), (iV .i64 0), (lV none 0 0), (bV false)]).toArray), (iV .i64 er)]))] 511 hs130 ⟨h138.at_ 1 rfl, trivial⟩ ?_
        refine pR_to 9 none 1023 rfl hs130 (xSs h138 0 42 (.tmp 12) (.tmp 145) 0 ([(lV Ac138 0 cc138), (bV false), (sV ByteArray.empty), (sV ByteArray.empty), (iV .i64 0), (iV .i64 0), (iV .i64 0), (lV none 0 0), (bV false)]) ([(lV Ac138 0 cc138), (bV false), (sV ByteArray.empty), (sV ByteArray.empty), (iV .i64 0), (iV .i64 0), (iV .i64 0), (lV none 0 0), (bV false)])) ?_
        rintro _ w139 h139
        refine ⟨fun _ => ⟨h139.at_ 1 rfl, trivial⟩, ?_⟩
        refine pR_to 10 (some 13) 2047 rfl hs130 (OpTo.run (iV .i64 er) (pureOp_run (by kernel_rfl) _) (R := fun v w => v = (iV .i64 er) /\ w139 = w) ⟨rfl, rfl⟩) ?_
        rintro _ _ ⟨rfl, rfl⟩
        refine ⟨fun h => absurd h (by decide), ?_⟩
        refine pR_done hs130 ?_ _
        exact hJ122 F138 G138 L138 Ac138 cc138 g136 hmc138 ((fun p hp => (hs138 _ hp))) ((hx138 _ hxJ)) _ _ _ (pEq 184) (h139.sel [0, 1, 2, 3, 4, 5, 6, 7, 8, 9, 10, 11] [0, 1, 2, 3] (by kernel_rfl) rfl rfl)
      ·
       refine pR_op 8 (some 12) 267 rfl (xN h130 42 ([(lV none 0 0), (bV false), (sV ByteArray.empty), (sV ByteArray.empty), (iV .i64 0), (iV .i64 0), (iV .i64 0), (lV none 0 0), (bV false)])) ?_
       rintro _ w140 ⟨g140, rfl, h140⟩
       refine ⟨fun _ => ⟨h140.at_ 1 rfl, trivial⟩, ?_⟩
       refine pR_to 2 (some 142) 271 rfl hs130 (x_dp h140 18 [(pt p 0), (iV .i64 0)] (by kernel_rfl) (tEnd_0 (h140.at_ 3 rfl))) ?_
       rintro _ w141 ⟨rfl, h141⟩
       refine ⟨fun _ => ⟨h141.at_ 1 rfl, trivial⟩, ?_⟩
       have hq142 := h141.monoS 5 rfl (fun p hp => (hsJ _ hp))
       refine pR_to 4 (some 144) 287 rfl hs130 (x_two hq142 4 5 rfl rfl (by kernel_rfl) 0 rfl 12 [(pt e.sa 0), (aV ([(sV fJ.src), (sV fJ.dst), (iV .i64 fJ.sid), (iV .i64 fJ.epoch), (iV .i64 fJ.seq), (lV AJ fJ.box.length cJ)]).toArray)] (by kernel_rfl) (take_of (hq142.at_ 4 rfl) (hq142.at_ 5 rfl) (hq142.rd 0 rfl) (hq142.dis 4 5 _ _ rfl rfl (by decide)) (hq142.rdis 0 4 _ _ rfl rfl) (hq142.rdis 0 5 _ _ rfl rfl) hr AJ cJ hmfJ (hsJ _ hT.nil) hsd (by omega) (by omega) hI.bodies (by have h1 : T.a.sent <= 60 := hsa.sent; omega) (by have h1 : T.a.got <= 60 := hsa.got; omega) (by have h1 : T.a.ei <= 60 := hsa.ei; omega) hsa.fq)) ?_
       rintro _ w143 ⟨F143, G143, L143, ⟨_, rfl, Ac143, cc143, _, rfl, hmc143, rfl⟩, hs143, hx143, h143⟩
       refine ⟨fun _ => ⟨h143.at_ 1 rfl, trivial⟩, ?_⟩
       refine pR_p 2 [5, 6, 7] [(146, (iV .i64 er)), (145, (aV ([(lV Ac143 0 cc143), (bV false), (sV ByteArray.empty), (sV ByteArray.empty), (iV .i64 0), (iV .i64 0), (iV .i64 0), (lV none 0 0), (bV false)]).toArray)), (139, (Value.tuple #[(aV ([(lV Ac143 0 cc143), (bV false), (sV ByteArray.empty), (sV ByteArray.empty), (iV .i64 0), (iV .i64 0), (iV .i64 0), (lV none 0 0), (bV false)]).toArray), (iV .i64 er)]))] 511 hs130 ⟨h143.at_ 1 rfl, trivial⟩ ?_
       refine pR_to 9 none 1023 rfl hs130 (xSs h143 0 42 (.tmp 12) (.tmp 145) 0 ([(lV Ac143 0 cc143), (bV false), (sV ByteArray.empty), (sV ByteArray.empty), (iV .i64 0), (iV .i64 0), (iV .i64 0), (lV none 0 0), (bV false)]) ([(lV Ac143 0 cc143), (bV false), (sV ByteArray.empty), (sV ByteArray.empty), (iV .i64 0), (iV .i64 0), (iV .i64 0), (lV none 0 0), (bV false)])) ?_
       rintro _ w144 h144
       refine ⟨fun _ => ⟨h144.at_ 1 rfl, trivial⟩, ?_⟩
       refine pR_to 10 (some 13) 2047 rfl hs130 (OpTo.run (iV .i64 er) (pureOp_run (by kernel_rfl) _) (R := fun v w => v = (iV .i64 er) /\ w144 = w) ⟨rfl, rfl⟩) ?_
       rintro _ _ ⟨rfl, rfl⟩
       refine ⟨fun h => absurd h (by decide), ?_⟩
       refine pR_done hs130 ?_ _
       exact hJ122 F143 G143 L143 Ac143 cc143 g140 hmc143 ((fun p hp => (hs143 _ hp))) ((hx143 _ hxJ)) _ _ _ (pEq 184) (h144.sel [0, 1, 2, 3, 4, 5, 6, 7, 8, 9, 10, 11] [0, 1, 2, 3] (by kernel_rfl) rfl rfl)
     ·
      have hJ145 : ∀ (FK : Nat -> Prop), ∀ (GK : Nat -> Prop), ∀ (LK : List (Value × Bytes)), ∀ (AcK : Option Addr), ∀ (ccK : Nat), ∀ (AgK : Option Addr), ∀ (cgK : Nat), ∀ (gK : Nat), ((lV AcK ([] : Bytes).length ccK, ([] : Bytes)) ∈ LK) -> ((lV AgK g.box.length cgK, g.box) ∈ LK) -> (∀ p, p ∈ LJ -> p ∈ LK) -> (LExt G w L LK) -> ∀ (xJ145 : Nat -> Value) (aJ : Act) (wJ145 : World), aJ = patch xJ145 184 [(0, (pt p 0)), (1, (aV ([(iV .i64 6), (iV .i64 z.at_), (iV .i64 z.turn), (lV A z.body.length c)]).toArray)), (3, (pt g2 0)), (4, (bV false)), (5, (iV .i64 0)), (10, (pt gJ 0)), (11, (iV .i64 0)), (12, (pt gK 0)), (13, (iV .i64 er)), (18, (iV .i64 6)), (19, (bV false)), (64, (bV false)), (82, (bV false)), (110, (bV true)), (117, (bV false)), (138, (bV false))] -> Hp G w wJ145 [rF LK, rF LJ, rSB ((lV A z.body.length c)) z.body, rF L] [rBlk gK 42 ([(lV AcK 0 ccK), (bV false), (sV g.src), (sV g.dst), (iV .i64 g.sid), (iV .i64 g.epoch), (iV .i64 g.seq), (lV AgK g.box.length cgK), (bV true)]), rBlk gJ 38 ([(sV fJ.src), (sV fJ.dst), (iV .i64 fJ.sid), (iV .i64 fJ.epoch), (iV .i64 fJ.seq), (lV AJ fJ.box.length cJ)]), rBlk g2 50 ([(iV .i64 6), (iV .i64 z.at_), (iV .i64 z.turn), (lV A z.body.length c)]), rBlk p 34 ([(pt e.tb 0), (pt e.sa 0), (pt e.sb 0), (lV e.wA T.wire.length e.wc), (lV e.A0 T.sd0.length e.c0), (lV e.A1 T.sd1.length e.c1), (lV e.A2 T.cm0.length e.c2), (lV e.A3 T.cm1.length e.c3), (iV .i64 ((T.k0 : Int))), (iV .i64 ((T.k1 : Int)))]), rTab FK e.tb s', rS GK e.tb e.sa LK S', rS e.Gb e.tb e.sb L T.b, rOV 38 6 ((lV e.wA T.wire.length e.wc)) e.wx, rOV 26 1 ((lV e.A0 T.sd0.length e.c0)) e.x0, rOV 26 1 ((lV e.A1 T.sd1.length e.c1)) e.x1, rOV 26 1 ((lV e.A2 T.cm0.length e.c2)) e.x2, rOV 26 1 ((lV e.A3 T.cm1.length e.c3)) e.x3] -> K120 aJ wJ145 := by
        rintro FK GK LK AcK ccK AgK cgK gK hmcK hmgK hsK hxK xJ145 _ wJ145 rfl hJh145
        refine seq_n hK120 (wp_seq_k fun K146 hK146 => wp_seq_k fun K147 hK147 => reg_lit ?_)
        refine wq_p 1 [(147, (pt gK 8))] (wq_v (some 148) (bV true) (eL (hJh145.at_ 0 rfl) 4 (.tmp 147) 8 _) ?_)
        refine wl_end rfl (seq_n hK147 (cT ?_))
        have hJ148 : ∀ (AW : Option Addr), ∀ (cW : Nat), ∀ (xJ148 : Nat -> Value) (aJ : Act) (wJ148 : World), aJ = patch xJ148 184 [(0, (pt p 0)), (1, (aV ([(iV .i64 6), (iV .i64 z.at_), (iV .i64 z.turn), (lV A z.body.length c)]).toArray)), (3, (pt g2 0)), (4, (bV false)), (5, (iV .i64 0)), (10, (pt gJ 0)), (11, (iV .i64 0)), (12, (pt gK 0)), (13, (iV .i64 er)), (18, (iV .i64 6)), (19, (bV false)), (64, (bV false)), (82, (bV false)), (110, (bV true)), (117, (bV false)), (138, (bV false)), (148, (bV true))] -> Hp G w wJ148 [rF LK, rF LJ, rSB ((lV A z.body.length c)) z.body, rF L] [rBlk gK 42 ([(lV AcK 0 ccK), (bV false), (sV g.src), (sV g.dst), (iV .i64 g.sid), (iV .i64 g.epoch), (iV .i64 g.seq), (lV AgK g.box.length cgK), (bV true)]), rBlk gJ 38 ([(sV fJ.src), (sV fJ.dst), (iV .i64 fJ.sid), (iV .i64 fJ.epoch), (iV .i64 fJ.seq), (lV AJ fJ.box.length cJ)]), rBlk g2 50 ([(iV .i64 6), (iV .i64 z.at_), (iV .i64 z.turn), (lV A z.body.length c)]), rBlk p 34 ([(pt e.tb 0), (pt e.sa 0), (pt e.sb 0), (lV AW ((T.wire ++ [g]).length) cW), (lV e.A0 T.sd0.length e.c0), (lV e.A1 T.sd1.length e.c1), (lV e.A2 T.cm0.length e.c2), (lV e.A3 T.cm1.length e.c3), (iV .i64 ((T.k0 : Int))), (iV .i64 ((T.k1 : Int)))]), rTab FK e.tb s', rS GK e.tb e.sa LK S', rS e.Gb e.tb e.sb L T.b, rOV 38 6 ((lV AW ((T.wire ++ [g]).length) cW)) (e.wx ++ [[(sV g.src), (sV g.dst), (iV .i64 g.sid), (iV .i64 g.epoch), (iV .i64 g.seq), (lV AgK g.box.length cgK)]]), rOV 26 1 ((lV e.A0 T.sd0.length e.c0)) e.x0, rOV 26 1 ((lV e.A1 T.sd1.length e.c1)) e.x1, rOV 26 1 ((lV e.A2 T.cm0.length e.c2)) e.x2, rOV 26 1 ((lV e.A3 T.cm1.length e.c3)) e.x3] -> K146 aJ wJ148 := by
          rintro AW cW xJ148 _ wJ148 rfl hJh148
          refine seq_n hK146 (wp_seq_k fun K149 hK149 => wp_seq_k fun K150 hK150 => reg_lit ?_)
          refine wq_p 1 [(160, (pt gK 1))] (wq_v (some 161) (bV false) (eL (hJh148.at_ 0 rfl) 4 (.tmp 160) 1 _) ?_)
          refine wl_end rfl (seq_n hK150 (cF (wp_skip (seq_n hK149 (wp_seq_k fun K151 hK151 => reg_lit ?_)))))
          refine wq_p 1 [(177, (pt gK 1))] (wq_v (some 178) (bV false) (eL (hJh148.at_ 0 rfl) 4 (.tmp 177) 1 _) (wq_p 6 [(4, (bV true)), (183, (bV true)), (182, undef), (181, undef), (180, (bV true)), (179, (bV true))] ?_))
          refine wl_end rfl (seq_n hK151 (wp_ret (blk_r (seq_r ?_))))
          refine post_1 rfl (by kernel_rfl) (rtm (bV true)) ?_
          have hq152 := hJh148.monoS 6 rfl (fun p hp => (hsK _ (hsJ _ hp)))
          have h153 := (show Hp _ _ _ _ (lT p LK (TEnv.mk e.tb e.sa e.sb FK GK e.Gb AW cW (e.wx ++ [[(sV g.src), (sV g.dst), (iV .i64 g.sid), (iV .i64 g.epoch), (iV .i64 g.seq), (lV AgK g.box.length cgK)]]) e.A0 e.c0 e.x0 e.A1 e.c1 e.x1 e.A2 e.c2 e.x2 e.A3 e.c3 e.x3) { T with s := s', a := S', wire := T.wire ++ [g], cm0 := T.cm0 } ++ []) from hq152.sel [3, 4, 5, 6, 7, 8, 9, 10, 11] [0] rfl rfl rfl).closeT ⟨((hT.w.mono (fun _ _ h => h.mono (fun p hp => (hsK _ (hsJ _ hp))))).push ⟨AgK, cgK, rfl, hmgK⟩), (hT.x0.mono (fun _ _ h => h.mono (fun p hp => (hsK _ (hsJ _ hp))))), (hT.x1.mono (fun _ _ h => h.mono (fun p hp => (hsK _ (hsJ _ hp))))), (hT.x2.mono (fun _ _ h => h.mono (fun p hp => (hsK _ (hsJ _ hp))))), (hT.x3.mono (fun _ _ h => h.mono (fun p hp => (hsK _ (hsJ _ hp))))), (hsK _ (hsJ _ hT.nil))⟩
          simp only [Option.toList, List.append_nil] at hT1 hC2
          exact ⟨rfl, _, _, _, Wa, Wb, hT1, hC2, hxK, h153⟩
        refine pR_go hJh145 9 (fun W => (rBlk gK 42 ([(lV AcK 0 ccK), (bV false), (sV g.src), (sV g.dst), (iV .i64 g.sid), (iV .i64 g.epoch), (iV .i64 g.seq), (lV AgK g.box.length cgK), (bV true)])).Φ W /\ True) [(150, [0], 0), (151, [0], 0), (152, [150], 2), (153, [151], 4), (154, [152], 8), (155, [12], 0), (156, [154], 32), (157, [155], 64), (158, [153, 156], 144), (159, [149], 511), (160, [158], 1023), (0, [159, 157], 1535)] rfl (fun _ d _ _ _ h => by cases d <;> exact h) ?_
        intro hs154 w154 h154
        refine pR_p 7 [0, 1, 2, 3, 5] [(154, (pt gK 2)), (152, (pt p 3)), (151, (pt p 0)), (150, (pt p 0)), (149, (pt p 0))] 47 hs154 ⟨h154.at_ 0 rfl, trivial⟩ ?_
        refine pR_v 6 (some 155) (aV ([(sV g.src), (sV g.dst), (iV .i64 g.sid), (iV .i64 g.epoch), (iV .i64 g.seq), (lV AgK g.box.length cgK)]).toArray) 111 rfl hs154 ⟨h154.at_ 0 rfl, trivial⟩ (fun W hW => eLs hW.1 38 (.tmp 154) 2 ([(sV g.src), (sV g.dst), (iV .i64 g.sid), (iV .i64 g.epoch), (iV .i64 g.seq), (lV AgK g.box.length cgK)])) ?_
        refine pR_or 4 7 hs154 ?_ ?_
        ·
         refine pR_op 4 (some 153) 127 rfl (OpTo.run (lV e.wA T.wire.length e.wc) (eL (h154.at_ 3 rfl) 30 (.tmp 152) 3 (lV e.wA T.wire.length e.wc)) (R := fun v w => v = (lV e.wA T.wire.length e.wc) /\ w154 = w) ⟨rfl, rfl⟩) ?_
         rintro _ _ ⟨rfl, rfl⟩
         refine ⟨fun _ => ⟨h154.at_ 0 rfl, trivial⟩, ?_⟩
         refine pR_to 7 (some 156) 255 rfl hs154 (x_bs h154 38 ([(sV g.src), (sV g.dst), (iV .i64 g.sid), (iV .i64 g.epoch), (iV .i64 g.seq), (lV AgK g.box.length cgK)]) 1 (by kernel_rfl)) ?_
         rintro _ w155 ⟨g155, rfl, h155⟩
         refine ⟨fun _ => ⟨h155.at_ 1 rfl, trivial⟩, ?_⟩
         refine pR_to 8 (some 157) 511 rfl hs154 (xPu h155 8 0 rfl rfl (.tmp 153) (.tmp 156) 30 80 (aV ([(sV ByteArray.empty), (sV ByteArray.empty), (iV .i64 0), (iV .i64 0), (iV .i64 0), (lV none 0 0)]).toArray) (by omega) (by unfold maxLen; omega) (e.wx ++ [[(sV g.src), (sV g.dst), (iV .i64 g.sid), (iV .i64 g.epoch), (iV .i64 g.seq), (lV AgK g.box.length cgK)]]) ((T.wire ++ [g]).length) (hyn := (by rw [List.length_append, List.length_append, hT.w.1]; rfl))) ?_
         rintro _ w156 ⟨A156, c156, rfl, h156⟩
         refine ⟨fun _ => ⟨h156.at_ 1 rfl, trivial⟩, ?_⟩
         refine pR_to 9 (some 158) 1023 rfl hs154 (OpTo.run (pt p 0) (pureOp_run (by kernel_rfl) _) (R := fun v w => v = (pt p 0) /\ w156 = w) ⟨rfl, rfl⟩) ?_
         rintro _ _ ⟨rfl, rfl⟩
         refine ⟨fun h => absurd h (by decide), ?_⟩
         refine pR_to 10 (some 159) 2047 rfl hs154 (OpTo.run (pt p 3) (pureOp_run (by kernel_rfl) _) (R := fun v w => v = (pt p 3) /\ w156 = w) ⟨rfl, rfl⟩) ?_
         rintro _ _ ⟨rfl, rfl⟩
         refine ⟨fun h => absurd h (by decide), ?_⟩
         refine pR_to 11 none 4095 rfl hs154 (xSt h156 4 30 (.tmp 159) (.tmp 157) 3 (lV A156 ((T.wire ++ [g]).length) c156) ([(pt e.tb 0), (pt e.sa 0), (pt e.sb 0), (lV A156 ((T.wire ++ [g]).length) c156), (lV e.A0 T.sd0.length e.c0), (lV e.A1 T.sd1.length e.c1), (lV e.A2 T.cm0.length e.c2), (lV e.A3 T.cm1.length e.c3), (iV .i64 ((T.k0 : Int))), (iV .i64 ((T.k1 : Int)))])) ?_
         rintro _ w157 h157
         refine ⟨fun h => absurd h (by decide), ?_⟩
         refine pR_done hs154 ?_ _
         exact hJ148 A156 c156 _ _ _ (pEq 184) (h157.sel [1, 2, 3, 4, 5, 6, 7, 8, 9, 10, 11, 12] [0, 1, 2, 3] (by kernel_rfl) rfl rfl)
        ·
         refine pR_op 7 (some 156) 239 rfl (x_bs h154 38 ([(sV g.src), (sV g.dst), (iV .i64 g.sid), (iV .i64 g.epoch), (iV .i64 g.seq), (lV AgK g.box.length cgK)]) 1 (by kernel_rfl)) ?_
         rintro _ w158 ⟨g158, rfl, h158⟩
         refine ⟨fun _ => ⟨h158.at_ 1 rfl, trivial⟩, ?_⟩
         refine pR_to 4 (some 153) 255 rfl hs154 (OpTo.run (lV e.wA T.wire.length e.wc) (eL (h158.at_ 4 rfl) 30 (.tmp 152) 3 (lV e.wA T.wire.length e.wc)) (R := fun v w => v = (lV e.wA T.wire.length e.wc) /\ w158 = w) ⟨rfl, rfl⟩) ?_
         rintro _ _ ⟨rfl, rfl⟩
         refine ⟨fun _ => ⟨h158.at_ 1 rfl, trivial⟩, ?_⟩
         refine pR_to 8 (some 157) 511 rfl hs154 (xPu h158 8 0 rfl rfl (.tmp 153) (.tmp 156) 30 80 (aV ([(sV ByteArray.empty), (sV ByteArray.empty), (iV .i64 0), (iV .i64 0), (iV .i64 0), (lV none 0 0)]).toArray) (by omega) (by unfold maxLen; omega) (e.wx ++ [[(sV g.src), (sV g.dst), (iV .i64 g.sid), (iV .i64 g.epoch), (iV .i64 g.seq), (lV AgK g.box.length cgK)]]) ((T.wire ++ [g]).length) (hyn := (by rw [List.length_append, List.length_append, hT.w.1]; rfl))) ?_
         rintro _ w159 ⟨A159, c159, rfl, h159⟩
         refine ⟨fun _ => ⟨h159.at_ 1 rfl, trivial⟩, ?_⟩
         refine pR_to 9 (some 158) 1023 rfl hs154 (OpTo.run (pt p 0) (pureOp_run (by kernel_rfl) _) (R := fun v w => v = (pt p 0) /\ w159 = w) ⟨rfl, rfl⟩) ?_
         rintro _ _ ⟨rfl, rfl⟩
         refine ⟨fun h => absurd h (by decide), ?_⟩
         refine pR_to 10 (some 159) 2047 rfl hs154 (OpTo.run (pt p 3) (pureOp_run (by kernel_rfl) _) (R := fun v w => v = (pt p 3) /\ w159 = w) ⟨rfl, rfl⟩) ?_
         rintro _ _ ⟨rfl, rfl⟩
         refine ⟨fun h => absurd h (by decide), ?_⟩
         refine pR_to 11 none 4095 rfl hs154 (xSt h159 4 30 (.tmp 159) (.tmp 157) 3 (lV A159 ((T.wire ++ [g]).length) c159) ([(pt e.tb 0), (pt e.sa 0), (pt e.sb 0), (lV A159 ((T.wire ++ [g]).length) c159), (lV e.A0 T.sd0.length e.c0), (lV e.A1 T.sd1.length e.c1), (lV e.A2 T.cm0.length e.c2), (lV e.A3 T.cm1.length e.c3), (iV .i64 ((T.k0 : Int))), (iV .i64 ((T.k1 : Int)))])) ?_
         rintro _ w160 h160
         refine ⟨fun h => absurd h (by decide), ?_⟩
         refine pR_done hs154 ?_ _
         exact hJ148 A159 c159 _ _ _ (pEq 184) (h160.sel [1, 2, 3, 4, 5, 6, 7, 8, 9, 10, 11, 12] [0, 1, 2, 3] (by kernel_rfl) rfl rfl)
      refine pR_go hJh20 10 (fun W => (rBlk gJ 38 ([(sV fJ.src), (sV fJ.dst), (iV .i64 fJ.sid), (iV .i64 fJ.epoch), (iV .i64 fJ.seq), (lV AJ fJ.box.length cJ)])).Φ W /\ True) [(141, [0], 0), (142, [11], 0), (143, [140, 141], 3), (144, [10], 0), (145, [142, 143], 12), (140, [144], 16), (146, [139], 32), (147, [139], 32), (13, [], 0), (0, [12, 145], 383), (14, [146], 1023)] rfl (fun _ d _ _ _ h => by cases d <;> exact h) ?_
      intro hs161 w161 h161
      refine pR_p 9 [0, 1] [(141, (iV .i64 0)), (140, (pt p 0))] 3 hs161 ⟨h161.at_ 0 rfl, trivial⟩ ?_
      refine pR_v 3 (some 143) (aV ([(sV fJ.src), (sV fJ.dst), (iV .i64 fJ.sid), (iV .i64 fJ.epoch), (iV .i64 fJ.seq), (lV AJ fJ.box.length cJ)]).toArray) 11 rfl hs161 ⟨h161.at_ 0 rfl, trivial⟩ (fun W hW => eLs hW.1 38 (.tmp 10) 0 ([(sV fJ.src), (sV fJ.dst), (iV .i64 fJ.sid), (iV .i64 fJ.epoch), (iV .i64 fJ.seq), (lV AJ fJ.box.length cJ)])) ?_
      refine pR_or 2 8 hs161 ?_ ?_
      ·
       refine pR_op 2 (some 142) 15 rfl (x_dp h161 18 [(pt p 0), (iV .i64 0)] (by kernel_rfl) (tEnd_0 (h161.at_ 2 rfl))) ?_
       rintro _ w162 ⟨rfl, h162⟩
       refine ⟨fun _ => ⟨h162.at_ 0 rfl, trivial⟩, ?_⟩
       refine pR_or 4 8 hs161 ?_ ?_
       ·
        have hq163 := h162.monoS 4 rfl (fun p hp => (hsJ _ hp))
        refine pR_op 4 (some 144) 31 rfl (x_two hq163 3 4 rfl rfl (by kernel_rfl) 0 rfl 12 [(pt e.sa 0), (aV ([(sV fJ.src), (sV fJ.dst), (iV .i64 fJ.sid), (iV .i64 fJ.epoch), (iV .i64 fJ.seq), (lV AJ fJ.box.length cJ)]).toArray)] (by kernel_rfl) (take_of (hq163.at_ 3 rfl) (hq163.at_ 4 rfl) (hq163.rd 0 rfl) (hq163.dis 3 4 _ _ rfl rfl (by decide)) (hq163.rdis 0 3 _ _ rfl rfl) (hq163.rdis 0 4 _ _ rfl rfl) hr AJ cJ hmfJ (hsJ _ hT.nil) hsd (by omega) (by omega) hI.bodies (by have h1 : T.a.sent <= 60 := hsa.sent; omega) (by have h1 : T.a.got <= 60 := hsa.got; omega) (by have h1 : T.a.ei <= 60 := hsa.ei; omega) hsa.fq)) ?_
        rintro _ w164 ⟨F164, G164, L164, ⟨_, rfl, Ac164, cc164, _, rfl, hmc164, Ag164, cg164, rfl, hmg164⟩, hs164, hx164, h164⟩
        refine ⟨fun _ => ⟨h164.at_ 0 rfl, trivial⟩, ?_⟩
        refine pR_p 3 [5, 6, 7] [(146, (iV .i64 er)), (145, (aV ([(lV Ac164 0 cc164), (bV false), (sV g.src), (sV g.dst), (iV .i64 g.sid), (iV .i64 g.epoch), (iV .i64 g.seq), (lV Ag164 g.box.length cg164), (bV true)]).toArray)), (139, (Value.tuple #[(aV ([(lV Ac164 0 cc164), (bV false), (sV g.src), (sV g.dst), (iV .i64 g.sid), (iV .i64 g.epoch), (iV .i64 g.seq), (lV Ag164 g.box.length cg164), (bV true)]).toArray), (iV .i64 er)]))] 255 hs161 ⟨h164.at_ 0 rfl, trivial⟩ ?_
        refine pR_to 8 (some 12) 511 rfl hs161 (xN h164 42 ([(lV none 0 0), (bV false), (sV ByteArray.empty), (sV ByteArray.empty), (iV .i64 0), (iV .i64 0), (iV .i64 0), (lV none 0 0), (bV false)])) ?_
        rintro _ w165 ⟨g165, rfl, h165⟩
        refine ⟨fun _ => ⟨h165.at_ 1 rfl, trivial⟩, ?_⟩
        refine pR_to 9 none 1023 rfl hs161 (xSs h165 0 42 (.tmp 12) (.tmp 145) 0 ([(lV Ac164 0 cc164), (bV false), (sV g.src), (sV g.dst), (iV .i64 g.sid), (iV .i64 g.epoch), (iV .i64 g.seq), (lV Ag164 g.box.length cg164), (bV true)]) ([(lV Ac164 0 cc164), (bV false), (sV g.src), (sV g.dst), (iV .i64 g.sid), (iV .i64 g.epoch), (iV .i64 g.seq), (lV Ag164 g.box.length cg164), (bV true)])) ?_
        rintro _ w166 h166
        refine ⟨fun _ => ⟨h166.at_ 1 rfl, trivial⟩, ?_⟩
        refine pR_to 10 (some 13) 2047 rfl hs161 (OpTo.run (iV .i64 er) (pureOp_run (by kernel_rfl) _) (R := fun v w => v = (iV .i64 er) /\ w166 = w) ⟨rfl, rfl⟩) ?_
        rintro _ _ ⟨rfl, rfl⟩
        refine ⟨fun h => absurd h (by decide), ?_⟩
        refine pR_done hs161 ?_ _
        exact hJ145 F164 G164 L164 Ac164 cc164 Ag164 cg164 g165 hmc164 hmg164 ((fun p hp => (hs164 _ hp))) ((hx164 _ hxJ)) _ _ _ (pEq 184) (h166.sel [0, 1, 2, 3, 4, 5, 6, 7, 8, 9, 10, 11] [0, 1, 2, 3] (by kernel_rfl) rfl rfl)
       ·
        refine pR_op 8 (some 12) 271 rfl (xN h162 42 ([(lV none 0 0), (bV false), (sV ByteArray.empty), (sV ByteArray.empty), (iV .i64 0), (iV .i64 0), (iV .i64 0), (lV none 0 0), (bV false)])) ?_
        rintro _ w167 ⟨g167, rfl, h167⟩
        refine ⟨fun _ => ⟨h167.at_ 1 rfl, trivial⟩, ?_⟩
        have hq168 := h167.monoS 5 rfl (fun p hp => (hsJ _ hp))
        refine pR_to 4 (some 144) 287 rfl hs161 (x_two hq168 4 5 rfl rfl (by kernel_rfl) 0 rfl 12 [(pt e.sa 0), (aV ([(sV fJ.src), (sV fJ.dst), (iV .i64 fJ.sid), (iV .i64 fJ.epoch), (iV .i64 fJ.seq), (lV AJ fJ.box.length cJ)]).toArray)] (by kernel_rfl) (take_of (hq168.at_ 4 rfl) (hq168.at_ 5 rfl) (hq168.rd 0 rfl) (hq168.dis 4 5 _ _ rfl rfl (by decide)) (hq168.rdis 0 4 _ _ rfl rfl) (hq168.rdis 0 5 _ _ rfl rfl) hr AJ cJ hmfJ (hsJ _ hT.nil) hsd (by omega) (by omega) hI.bodies (by have h1 : T.a.sent <= 60 := hsa.sent; omega) (by have h1 : T.a.got <= 60 := hsa.got; omega) (by have h1 : T.a.ei <= 60 := hsa.ei; omega) hsa.fq)) ?_
        rintro _ w169 ⟨F169, G169, L169, ⟨_, rfl, Ac169, cc169, _, rfl, hmc169, Ag169, cg169, rfl, hmg169⟩, hs169, hx169, h169⟩
        refine ⟨fun _ => ⟨h169.at_ 1 rfl, trivial⟩, ?_⟩
        refine pR_p 2 [5, 6, 7] [(146, (iV .i64 er)), (145, (aV ([(lV Ac169 0 cc169), (bV false), (sV g.src), (sV g.dst), (iV .i64 g.sid), (iV .i64 g.epoch), (iV .i64 g.seq), (lV Ag169 g.box.length cg169), (bV true)]).toArray)), (139, (Value.tuple #[(aV ([(lV Ac169 0 cc169), (bV false), (sV g.src), (sV g.dst), (iV .i64 g.sid), (iV .i64 g.epoch), (iV .i64 g.seq), (lV Ag169 g.box.length cg169), (bV true)]).toArray), (iV .i64 er)]))] 511 hs161 ⟨h169.at_ 1 rfl, trivial⟩ ?_
        refine pR_to 9 none 1023 rfl hs161 (xSs h169 0 42 (.tmp 12) (.tmp 145) 0 ([(lV Ac169 0 cc169), (bV false), (sV g.src), (sV g.dst), (iV .i64 g.sid), (iV .i64 g.epoch), (iV .i64 g.seq), (lV Ag169 g.box.length cg169), (bV true)]) ([(lV Ac169 0 cc169), (bV false), (sV g.src), (sV g.dst), (iV .i64 g.sid), (iV .i64 g.epoch), (iV .i64 g.seq), (lV Ag169 g.box.length cg169), (bV true)])) ?_
        rintro _ w170 h170
        refine ⟨fun _ => ⟨h170.at_ 1 rfl, trivial⟩, ?_⟩
        refine pR_to 10 (some 13) 2047 rfl hs161 (OpTo.run (iV .i64 er) (pureOp_run (by kernel_rfl) _) (R := fun v w => v = (iV .i64 er) /\ w170 = w) ⟨rfl, rfl⟩) ?_
        rintro _ _ ⟨rfl, rfl⟩
        refine ⟨fun h => absurd h (by decide), ?_⟩
        refine pR_done hs161 ?_ _
        exact hJ145 F169 G169 L169 Ac169 cc169 Ag169 cg169 g167 hmc169 hmg169 ((fun p hp => (hs169 _ hp))) ((hx169 _ hxJ)) _ _ _ (pEq 184) (h170.sel [0, 1, 2, 3, 4, 5, 6, 7, 8, 9, 10, 11] [0, 1, 2, 3] (by kernel_rfl) rfl rfl)
      ·
       refine pR_op 8 (some 12) 267 rfl (xN h161 42 ([(lV none 0 0), (bV false), (sV ByteArray.empty), (sV ByteArray.empty), (iV .i64 0), (iV .i64 0), (iV .i64 0), (lV none 0 0), (bV false)])) ?_
       rintro _ w171 ⟨g171, rfl, h171⟩
       refine ⟨fun _ => ⟨h171.at_ 1 rfl, trivial⟩, ?_⟩
       refine pR_to 2 (some 142) 271 rfl hs161 (x_dp h171 18 [(pt p 0), (iV .i64 0)] (by kernel_rfl) (tEnd_0 (h171.at_ 3 rfl))) ?_
       rintro _ w172 ⟨rfl, h172⟩
       refine ⟨fun _ => ⟨h172.at_ 1 rfl, trivial⟩, ?_⟩
       have hq173 := h172.monoS 5 rfl (fun p hp => (hsJ _ hp))
       refine pR_to 4 (some 144) 287 rfl hs161 (x_two hq173 4 5 rfl rfl (by kernel_rfl) 0 rfl 12 [(pt e.sa 0), (aV ([(sV fJ.src), (sV fJ.dst), (iV .i64 fJ.sid), (iV .i64 fJ.epoch), (iV .i64 fJ.seq), (lV AJ fJ.box.length cJ)]).toArray)] (by kernel_rfl) (take_of (hq173.at_ 4 rfl) (hq173.at_ 5 rfl) (hq173.rd 0 rfl) (hq173.dis 4 5 _ _ rfl rfl (by decide)) (hq173.rdis 0 4 _ _ rfl rfl) (hq173.rdis 0 5 _ _ rfl rfl) hr AJ cJ hmfJ (hsJ _ hT.nil) hsd (by omega) (by omega) hI.bodies (by have h1 : T.a.sent <= 60 := hsa.sent; omega) (by have h1 : T.a.got <= 60 := hsa.got; omega) (by have h1 : T.a.ei <= 60 := hsa.ei; omega) hsa.fq)) ?_
       rintro _ w174 ⟨F174, G174, L174, ⟨_, rfl, Ac174, cc174, _, rfl, hmc174, Ag174, cg174, rfl, hmg174⟩, hs174, hx174, h174⟩
       refine ⟨fun _ => ⟨h174.at_ 1 rfl, trivial⟩, ?_⟩
       refine pR_p 2 [5, 6, 7] [(146, (iV .i64 er)), (145, (aV ([(lV Ac174 0 cc174), (bV false), (sV g.src), (sV g.dst), (iV .i64 g.sid), (iV .i64 g.epoch), (iV .i64 g.seq), (lV Ag174 g.box.length cg174), (bV true)]).toArray)), (139, (Value.tuple #[(aV ([(lV Ac174 0 cc174), (bV false), (sV g.src), (sV g.dst), (iV .i64 g.sid), (iV .i64 g.epoch), (iV .i64 g.seq), (lV Ag174 g.box.length cg174), (bV true)]).toArray), (iV .i64 er)]))] 511 hs161 ⟨h174.at_ 1 rfl, trivial⟩ ?_
       refine pR_to 9 none 1023 rfl hs161 (xSs h174 0 42 (.tmp 12) (.tmp 145) 0 ([(lV Ac174 0 cc174), (bV false), (sV g.src), (sV g.dst), (iV .i64 g.sid), (iV .i64 g.epoch), (iV .i64 g.seq), (lV Ag174 g.box.length cg174), (bV true)]) ([(lV Ac174 0 cc174), (bV false), (sV g.src), (sV g.dst), (iV .i64 g.sid), (iV .i64 g.epoch), (iV .i64 g.seq), (lV Ag174 g.box.length cg174), (bV true)])) ?_
       rintro _ w175 h175
       refine ⟨fun _ => ⟨h175.at_ 1 rfl, trivial⟩, ?_⟩
       refine pR_to 10 (some 13) 2047 rfl hs161 (OpTo.run (iV .i64 er) (pureOp_run (by kernel_rfl) _) (R := fun v w => v = (iV .i64 er) /\ w175 = w) ⟨rfl, rfl⟩) ?_
       rintro _ _ ⟨rfl, rfl⟩
       refine ⟨fun h => absurd h (by decide), ?_⟩
       refine pR_done hs161 ?_ _
       exact hJ145 F174 G174 L174 Ac174 cc174 Ag174 cg174 g171 hmc174 hmg174 ((fun p hp => (hs174 _ hp))) ((hx174 _ hxJ)) _ _ _ (pEq 184) (h175.sel [0, 1, 2, 3, 4, 5, 6, 7, 8, 9, 10, 11] [0, 1, 2, 3] (by kernel_rfl) rfl rfl)
     ·
      cases hr
     ·
      obtain rfl : er = 0 := hTk.err rfl
      have hJ176 : ∀ (FK : Nat -> Prop), ∀ (GK : Nat -> Prop), ∀ (LK : List (Value × Bytes)), ∀ (AcK : Option Addr), ∀ (ccK : Nat), ∀ (AgK : Option Addr), ∀ (cgK : Nat), ∀ (gK : Nat), ((lV AcK bd.length ccK, bd) ∈ LK) -> ((lV AgK g.box.length cgK, g.box) ∈ LK) -> (∀ p, p ∈ LJ -> p ∈ LK) -> (LExt G w L LK) -> ∀ (xJ176 : Nat -> Value) (aJ : Act) (wJ176 : World), aJ = patch xJ176 184 [(0, (pt p 0)), (1, (aV ([(iV .i64 6), (iV .i64 z.at_), (iV .i64 z.turn), (lV A z.body.length c)]).toArray)), (3, (pt g2 0)), (4, (bV false)), (5, (iV .i64 0)), (10, (pt gJ 0)), (11, (iV .i64 0)), (12, (pt gK 0)), (13, (iV .i64 0)), (18, (iV .i64 6)), (19, (bV false)), (64, (bV false)), (82, (bV false)), (110, (bV true)), (117, (bV false)), (138, (bV false))] -> Hp G w wJ176 [rF LK, rF LJ, rSB ((lV A z.body.length c)) z.body, rF L] [rBlk gK 42 ([(lV AcK bd.length ccK), (bV true), (sV g.src), (sV g.dst), (iV .i64 g.sid), (iV .i64 g.epoch), (iV .i64 g.seq), (lV AgK g.box.length cgK), (bV true)]), rBlk gJ 38 ([(sV fJ.src), (sV fJ.dst), (iV .i64 fJ.sid), (iV .i64 fJ.epoch), (iV .i64 fJ.seq), (lV AJ fJ.box.length cJ)]), rBlk g2 50 ([(iV .i64 6), (iV .i64 z.at_), (iV .i64 z.turn), (lV A z.body.length c)]), rBlk p 34 ([(pt e.tb 0), (pt e.sa 0), (pt e.sb 0), (lV e.wA T.wire.length e.wc), (lV e.A0 T.sd0.length e.c0), (lV e.A1 T.sd1.length e.c1), (lV e.A2 T.cm0.length e.c2), (lV e.A3 T.cm1.length e.c3), (iV .i64 ((T.k0 : Int))), (iV .i64 ((T.k1 : Int)))]), rTab FK e.tb s', rS GK e.tb e.sa LK S', rS e.Gb e.tb e.sb L T.b, rOV 38 6 ((lV e.wA T.wire.length e.wc)) e.wx, rOV 26 1 ((lV e.A0 T.sd0.length e.c0)) e.x0, rOV 26 1 ((lV e.A1 T.sd1.length e.c1)) e.x1, rOV 26 1 ((lV e.A2 T.cm0.length e.c2)) e.x2, rOV 26 1 ((lV e.A3 T.cm1.length e.c3)) e.x3] -> K120 aJ wJ176 := by
        rintro FK GK LK AcK ccK AgK cgK gK hmcK hmgK hsK hxK xJ176 _ wJ176 rfl hJh176
        refine seq_n hK120 (wp_seq_k fun K177 hK177 => wp_seq_k fun K178 hK178 => reg_lit ?_)
        refine wq_p 1 [(147, (pt gK 8))] (wq_v (some 148) (bV true) (eL (hJh176.at_ 0 rfl) 4 (.tmp 147) 8 _) ?_)
        refine wl_end rfl (seq_n hK178 (cT ?_))
        have hJ179 : ∀ (AW : Option Addr), ∀ (cW : Nat), ∀ (xJ179 : Nat -> Value) (aJ : Act) (wJ179 : World), aJ = patch xJ179 184 [(0, (pt p 0)), (1, (aV ([(iV .i64 6), (iV .i64 z.at_), (iV .i64 z.turn), (lV A z.body.length c)]).toArray)), (3, (pt g2 0)), (4, (bV false)), (5, (iV .i64 0)), (10, (pt gJ 0)), (11, (iV .i64 0)), (12, (pt gK 0)), (13, (iV .i64 0)), (18, (iV .i64 6)), (19, (bV false)), (64, (bV false)), (82, (bV false)), (110, (bV true)), (117, (bV false)), (138, (bV false)), (148, (bV true))] -> Hp G w wJ179 [rF LK, rF LJ, rSB ((lV A z.body.length c)) z.body, rF L] [rBlk gK 42 ([(lV AcK bd.length ccK), (bV true), (sV g.src), (sV g.dst), (iV .i64 g.sid), (iV .i64 g.epoch), (iV .i64 g.seq), (lV AgK g.box.length cgK), (bV true)]), rBlk gJ 38 ([(sV fJ.src), (sV fJ.dst), (iV .i64 fJ.sid), (iV .i64 fJ.epoch), (iV .i64 fJ.seq), (lV AJ fJ.box.length cJ)]), rBlk g2 50 ([(iV .i64 6), (iV .i64 z.at_), (iV .i64 z.turn), (lV A z.body.length c)]), rBlk p 34 ([(pt e.tb 0), (pt e.sa 0), (pt e.sb 0), (lV AW ((T.wire ++ [g]).length) cW), (lV e.A0 T.sd0.length e.c0), (lV e.A1 T.sd1.length e.c1), (lV e.A2 T.cm0.length e.c2), (lV e.A3 T.cm1.length e.c3), (iV .i64 ((T.k0 : Int))), (iV .i64 ((T.k1 : Int)))]), rTab FK e.tb s', rS GK e.tb e.sa LK S', rS e.Gb e.tb e.sb L T.b, rOV 38 6 ((lV AW ((T.wire ++ [g]).length) cW)) (e.wx ++ [[(sV g.src), (sV g.dst), (iV .i64 g.sid), (iV .i64 g.epoch), (iV .i64 g.seq), (lV AgK g.box.length cgK)]]), rOV 26 1 ((lV e.A0 T.sd0.length e.c0)) e.x0, rOV 26 1 ((lV e.A1 T.sd1.length e.c1)) e.x1, rOV 26 1 ((lV e.A2 T.cm0.length e.c2)) e.x2, rOV 26 1 ((lV e.A3 T.cm1.length e.c3)) e.x3] -> K177 aJ wJ179 := by
          rintro AW cW xJ179 _ wJ179 rfl hJh179
          refine seq_n hK177 (wp_seq_k fun K180 hK180 => wp_seq_k fun K181 hK181 => reg_lit ?_)
          refine wq_p 1 [(160, (pt gK 1))] (wq_v (some 161) (bV true) (eL (hJh179.at_ 0 rfl) 4 (.tmp 160) 1 _) ?_)
          refine wl_end rfl (seq_n hK181 (cT ?_))
          have hJ182 : ∀ (AV : Option Addr), ∀ (cV : Nat), ∀ (xJ182 : Nat -> Value) (aJ : Act) (wJ182 : World), aJ = patch xJ182 184 [(0, (pt p 0)), (1, (aV ([(iV .i64 6), (iV .i64 z.at_), (iV .i64 z.turn), (lV A z.body.length c)]).toArray)), (3, (pt g2 0)), (4, (bV false)), (5, (iV .i64 0)), (10, (pt gJ 0)), (11, (iV .i64 0)), (12, (pt gK 0)), (13, (iV .i64 0)), (18, (iV .i64 6)), (19, (bV false)), (64, (bV false)), (82, (bV false)), (110, (bV true)), (117, (bV false)), (138, (bV false)), (148, (bV true)), (161, (bV true))] -> Hp G w wJ182 [rF LK, rF LJ, rSB ((lV A z.body.length c)) z.body, rF L] [rBlk gK 42 ([(lV AcK bd.length ccK), (bV true), (sV g.src), (sV g.dst), (iV .i64 g.sid), (iV .i64 g.epoch), (iV .i64 g.seq), (lV AgK g.box.length cgK), (bV true)]), rBlk gJ 38 ([(sV fJ.src), (sV fJ.dst), (iV .i64 fJ.sid), (iV .i64 fJ.epoch), (iV .i64 fJ.seq), (lV AJ fJ.box.length cJ)]), rBlk g2 50 ([(iV .i64 6), (iV .i64 z.at_), (iV .i64 z.turn), (lV A z.body.length c)]), rBlk p 34 ([(pt e.tb 0), (pt e.sa 0), (pt e.sb 0), (lV AW ((T.wire ++ [g]).length) cW), (lV e.A0 T.sd0.length e.c0), (lV e.A1 T.sd1.length e.c1), (lV AV ((T.cm0 ++ [bd]).length) cV), (lV e.A3 T.cm1.length e.c3), (iV .i64 ((T.k0 : Int))), (iV .i64 ((T.k1 : Int)))]), rTab FK e.tb s', rS GK e.tb e.sa LK S', rS e.Gb e.tb e.sb L T.b, rOV 38 6 ((lV AW ((T.wire ++ [g]).length) cW)) (e.wx ++ [[(sV g.src), (sV g.dst), (iV .i64 g.sid), (iV .i64 g.epoch), (iV .i64 g.seq), (lV AgK g.box.length cgK)]]), rOV 26 1 ((lV e.A0 T.sd0.length e.c0)) e.x0, rOV 26 1 ((lV e.A1 T.sd1.length e.c1)) e.x1, rOV 26 1 ((lV AV ((T.cm0 ++ [bd]).length) cV)) (e.x2 ++ [[(lV AcK bd.length ccK)]]), rOV 26 1 ((lV e.A3 T.cm1.length e.c3)) e.x3] -> K180 aJ wJ182 := by
            rintro AV cV xJ182 _ wJ182 rfl hJh182
            refine seq_n hK180 (wp_seq_k fun K183 hK183 => reg_lit ?_)
            refine wq_p 1 [(177, (pt gK 1))] (wq_v (some 178) (bV true) (eL (hJh182.at_ 0 rfl) 4 (.tmp 177) 1 _) (wq_p 6 [(4, (bV true)), (183, (bV true)), (182, (bV true)), (181, (iV .i64 0)), (180, (bV false)), (179, (bV false))] ?_))
            refine wl_end rfl (seq_n hK183 (wp_ret (blk_r (seq_r ?_))))
            refine post_1 rfl (by kernel_rfl) (rtm (bV true)) ?_
            have hq184 := hJh182.monoS 6 rfl (fun p hp => (hsK _ (hsJ _ hp)))
            have h185 := (show Hp _ _ _ _ (lT p LK (TEnv.mk e.tb e.sa e.sb FK GK e.Gb AW cW (e.wx ++ [[(sV g.src), (sV g.dst), (iV .i64 g.sid), (iV .i64 g.epoch), (iV .i64 g.seq), (lV AgK g.box.length cgK)]]) e.A0 e.c0 e.x0 e.A1 e.c1 e.x1 AV cV (e.x2 ++ [[(lV AcK bd.length ccK)]]) e.A3 e.c3 e.x3) { T with s := s', a := S', wire := T.wire ++ [g], cm0 := T.cm0 ++ [bd] } ++ []) from hq184.sel [3, 4, 5, 6, 7, 8, 9, 10, 11] [0] rfl rfl rfl).closeT ⟨((hT.w.mono (fun _ _ h => h.mono (fun p hp => (hsK _ (hsJ _ hp))))).push ⟨AgK, cgK, rfl, hmgK⟩), (hT.x0.mono (fun _ _ h => h.mono (fun p hp => (hsK _ (hsJ _ hp))))), (hT.x1.mono (fun _ _ h => h.mono (fun p hp => (hsK _ (hsJ _ hp))))), ((hT.x2.mono (fun _ _ h => h.mono (fun p hp => (hsK _ (hsJ _ hp))))).push ⟨AcK, ccK, rfl, hmcK⟩), (hT.x3.mono (fun _ _ h => h.mono (fun p hp => (hsK _ (hsJ _ hp))))), (hsK _ (hsJ _ hT.nil))⟩
            exact ⟨rfl, _, _, _, Wa, Wb, hT1, hC2, hxK, h185⟩
          refine pR_go hJh179 16 (fun W => (rBlk gK 42 ([(lV AcK bd.length ccK), (bV true), (sV g.src), (sV g.dst), (iV .i64 g.sid), (iV .i64 g.epoch), (iV .i64 g.seq), (lV AgK g.box.length cgK), (bV true)])).Φ W /\ True) [(163, [0], 0), (164, [11], 0), (165, [0], 0), (166, [11], 0), (167, [164], 4), (168, [166], 16), (169, [167, 165], 40), (170, [168], 64), (171, [12], 0), (172, [170], 256), (173, [171], 512), (174, [169, 172], 1152), (175, [162], 1), (176, [174], 4096), (177, [175, 163], 12287), (0, [176, 173], 20479)] rfl (fun _ d _ _ _ h => by cases d <;> exact h) ?_
          intro hs186 w186 h186
          refine pR_p 7 [0, 1, 2, 3, 4, 5, 8, 12, 13] [(175, (pt p 6)), (174, (pt p 0)), (170, (pt gK 0)), (167, (pt p 6)), (166, (pt p 0)), (165, (iV .i64 0)), (164, (pt p 0)), (163, (iV .i64 0)), (162, (pt p 0))] 12607 hs186 ⟨h186.at_ 0 rfl, trivial⟩ ?_
          refine pR_v 6 (some 168) (pt p 6) 12671 rfl hs186 ⟨h186.at_ 0 rfl, trivial⟩ (fun W hW => eIa 31 (.tmp 167) (.tmp 165) .i64 p 6 0 2 22 6) ?_
          refine pR_v 9 (some 171) (lV AcK bd.length ccK) 13183 rfl hs186 ⟨h186.at_ 0 rfl, trivial⟩ (fun W hW => eL hW.1 26 (.tmp 170) 0 _) ?_
          refine pR_or 7 10 hs186 ?_ ?_
          ·
           refine pR_op 7 (some 169) 13311 rfl (OpTo.run (lV e.A2 T.cm0.length e.c2) (eL (h186.at_ 3 rfl) 22 (.tmp 168) 6 (lV e.A2 T.cm0.length e.c2)) (R := fun v w => v = (lV e.A2 T.cm0.length e.c2) /\ w186 = w) ⟨rfl, rfl⟩) ?_
           rintro _ _ ⟨rfl, rfl⟩
           refine ⟨fun _ => ⟨h186.at_ 0 rfl, trivial⟩, ?_⟩
           refine pR_to 10 (some 172) 14335 rfl hs186 (x_bs h186 26 ([(lV AcK bd.length ccK)]) 1 (by kernel_rfl)) ?_
           rintro _ w187 ⟨g187, rfl, h187⟩
           refine ⟨fun _ => ⟨h187.at_ 1 rfl, trivial⟩, ?_⟩
           refine pR_to 11 (some 173) 16383 rfl hs186 (xPu h187 11 0 rfl rfl (.tmp 169) (.tmp 172) 22 24 (lV none 0 0) (by omega) (by unfold maxLen; omega) (e.x2 ++ [[(lV AcK bd.length ccK)]]) ((T.cm0 ++ [bd]).length) (hyn := (by rw [List.length_append, List.length_append, hT.x2.1]; rfl))) ?_
           rintro _ w188 ⟨A188, c188, rfl, h188⟩
           refine ⟨fun _ => ⟨h188.at_ 1 rfl, trivial⟩, ?_⟩
           refine pR_v 14 (some 176) (pt p 6) 32767 rfl hs186 ⟨h188.at_ 1 rfl, trivial⟩ (fun W hW => eIa 31 (.tmp 175) (.tmp 163) .i64 p 6 0 2 22 6) ?_
           refine pR_to 15 none 65535 rfl hs186 (xSt h188 4 22 (.tmp 176) (.tmp 173) 6 (lV A188 ((T.cm0 ++ [bd]).length) c188) ([(pt e.tb 0), (pt e.sa 0), (pt e.sb 0), (lV AW ((T.wire ++ [g]).length) cW), (lV e.A0 T.sd0.length e.c0), (lV e.A1 T.sd1.length e.c1), (lV A188 ((T.cm0 ++ [bd]).length) c188), (lV e.A3 T.cm1.length e.c3), (iV .i64 ((T.k0 : Int))), (iV .i64 ((T.k1 : Int)))])) ?_
           rintro _ w189 h189
           refine ⟨fun _ => ⟨h189.at_ 1 rfl, trivial⟩, ?_⟩
           refine pR_done hs186 ?_ _
           exact hJ182 A188 c188 _ _ _ (pEq 184) (h189.sel [1, 2, 3, 4, 5, 6, 7, 8, 9, 10, 11, 12] [0, 1, 2, 3] (by kernel_rfl) rfl rfl)
          ·
           refine pR_op 10 (some 172) 14207 rfl (x_bs h186 26 ([(lV AcK bd.length ccK)]) 1 (by kernel_rfl)) ?_
           rintro _ w190 ⟨g190, rfl, h190⟩
           refine ⟨fun _ => ⟨h190.at_ 1 rfl, trivial⟩, ?_⟩
           refine pR_to 7 (some 169) 14335 rfl hs186 (OpTo.run (lV e.A2 T.cm0.length e.c2) (eL (h190.at_ 4 rfl) 22 (.tmp 168) 6 (lV e.A2 T.cm0.length e.c2)) (R := fun v w => v = (lV e.A2 T.cm0.length e.c2) /\ w190 = w) ⟨rfl, rfl⟩) ?_
           rintro _ _ ⟨rfl, rfl⟩
           refine ⟨fun _ => ⟨h190.at_ 1 rfl, trivial⟩, ?_⟩
           refine pR_to 11 (some 173) 16383 rfl hs186 (xPu h190 11 0 rfl rfl (.tmp 169) (.tmp 172) 22 24 (lV none 0 0) (by omega) (by unfold maxLen; omega) (e.x2 ++ [[(lV AcK bd.length ccK)]]) ((T.cm0 ++ [bd]).length) (hyn := (by rw [List.length_append, List.length_append, hT.x2.1]; rfl))) ?_
           rintro _ w191 ⟨A191, c191, rfl, h191⟩
           refine ⟨fun _ => ⟨h191.at_ 1 rfl, trivial⟩, ?_⟩
           refine pR_v 14 (some 176) (pt p 6) 32767 rfl hs186 ⟨h191.at_ 1 rfl, trivial⟩ (fun W hW => eIa 31 (.tmp 175) (.tmp 163) .i64 p 6 0 2 22 6) ?_
           refine pR_to 15 none 65535 rfl hs186 (xSt h191 4 22 (.tmp 176) (.tmp 173) 6 (lV A191 ((T.cm0 ++ [bd]).length) c191) ([(pt e.tb 0), (pt e.sa 0), (pt e.sb 0), (lV AW ((T.wire ++ [g]).length) cW), (lV e.A0 T.sd0.length e.c0), (lV e.A1 T.sd1.length e.c1), (lV A191 ((T.cm0 ++ [bd]).length) c191), (lV e.A3 T.cm1.length e.c3), (iV .i64 ((T.k0 : Int))), (iV .i64 ((T.k1 : Int)))])) ?_
           rintro _ w192 h192
           refine ⟨fun _ => ⟨h192.at_ 1 rfl, trivial⟩, ?_⟩
           refine pR_done hs186 ?_ _
           exact hJ182 A191 c191 _ _ _ (pEq 184) (h192.sel [1, 2, 3, 4, 5, 6, 7, 8, 9, 10, 11, 12] [0, 1, 2, 3] (by kernel_rfl) rfl rfl)
        refine pR_go hJh176 9 (fun W => (rBlk gK 42 ([(lV AcK bd.length ccK), (bV true), (sV g.src), (sV g.dst), (iV .i64 g.sid), (iV .i64 g.epoch), (iV .i64 g.seq), (lV AgK g.box.length cgK), (bV true)])).Φ W /\ True) [(150, [0], 0), (151, [0], 0), (152, [150], 2), (153, [151], 4), (154, [152], 8), (155, [12], 0), (156, [154], 32), (157, [155], 64), (158, [153, 156], 144), (159, [149], 511), (160, [158], 1023), (0, [159, 157], 1535)] rfl (fun _ d _ _ _ h => by cases d <;> exact h) ?_
        intro hs193 w193 h193
        refine pR_p 7 [0, 1, 2, 3, 5] [(154, (pt gK 2)), (152, (pt p 3)), (151, (pt p 0)), (150, (pt p 0)), (149, (pt p 0))] 47 hs193 ⟨h193.at_ 0 rfl, trivial⟩ ?_
        refine pR_v 6 (some 155) (aV ([(sV g.src), (sV g.dst), (iV .i64 g.sid), (iV .i64 g.epoch), (iV .i64 g.seq), (lV AgK g.box.length cgK)]).toArray) 111 rfl hs193 ⟨h193.at_ 0 rfl, trivial⟩ (fun W hW => eLs hW.1 38 (.tmp 154) 2 ([(sV g.src), (sV g.dst), (iV .i64 g.sid), (iV .i64 g.epoch), (iV .i64 g.seq), (lV AgK g.box.length cgK)])) ?_
        refine pR_or 4 7 hs193 ?_ ?_
        ·
         refine pR_op 4 (some 153) 127 rfl (OpTo.run (lV e.wA T.wire.length e.wc) (eL (h193.at_ 3 rfl) 30 (.tmp 152) 3 (lV e.wA T.wire.length e.wc)) (R := fun v w => v = (lV e.wA T.wire.length e.wc) /\ w193 = w) ⟨rfl, rfl⟩) ?_
         rintro _ _ ⟨rfl, rfl⟩
         refine ⟨fun _ => ⟨h193.at_ 0 rfl, trivial⟩, ?_⟩
         refine pR_to 7 (some 156) 255 rfl hs193 (x_bs h193 38 ([(sV g.src), (sV g.dst), (iV .i64 g.sid), (iV .i64 g.epoch), (iV .i64 g.seq), (lV AgK g.box.length cgK)]) 1 (by kernel_rfl)) ?_
         rintro _ w194 ⟨g194, rfl, h194⟩
         refine ⟨fun _ => ⟨h194.at_ 1 rfl, trivial⟩, ?_⟩
         refine pR_to 8 (some 157) 511 rfl hs193 (xPu h194 8 0 rfl rfl (.tmp 153) (.tmp 156) 30 80 (aV ([(sV ByteArray.empty), (sV ByteArray.empty), (iV .i64 0), (iV .i64 0), (iV .i64 0), (lV none 0 0)]).toArray) (by omega) (by unfold maxLen; omega) (e.wx ++ [[(sV g.src), (sV g.dst), (iV .i64 g.sid), (iV .i64 g.epoch), (iV .i64 g.seq), (lV AgK g.box.length cgK)]]) ((T.wire ++ [g]).length) (hyn := (by rw [List.length_append, List.length_append, hT.w.1]; rfl))) ?_
         rintro _ w195 ⟨A195, c195, rfl, h195⟩
         refine ⟨fun _ => ⟨h195.at_ 1 rfl, trivial⟩, ?_⟩
         refine pR_to 9 (some 158) 1023 rfl hs193 (OpTo.run (pt p 0) (pureOp_run (by kernel_rfl) _) (R := fun v w => v = (pt p 0) /\ w195 = w) ⟨rfl, rfl⟩) ?_
         rintro _ _ ⟨rfl, rfl⟩
         refine ⟨fun h => absurd h (by decide), ?_⟩
         refine pR_to 10 (some 159) 2047 rfl hs193 (OpTo.run (pt p 3) (pureOp_run (by kernel_rfl) _) (R := fun v w => v = (pt p 3) /\ w195 = w) ⟨rfl, rfl⟩) ?_
         rintro _ _ ⟨rfl, rfl⟩
         refine ⟨fun h => absurd h (by decide), ?_⟩
         refine pR_to 11 none 4095 rfl hs193 (xSt h195 4 30 (.tmp 159) (.tmp 157) 3 (lV A195 ((T.wire ++ [g]).length) c195) ([(pt e.tb 0), (pt e.sa 0), (pt e.sb 0), (lV A195 ((T.wire ++ [g]).length) c195), (lV e.A0 T.sd0.length e.c0), (lV e.A1 T.sd1.length e.c1), (lV e.A2 T.cm0.length e.c2), (lV e.A3 T.cm1.length e.c3), (iV .i64 ((T.k0 : Int))), (iV .i64 ((T.k1 : Int)))])) ?_
         rintro _ w196 h196
         refine ⟨fun h => absurd h (by decide), ?_⟩
         refine pR_done hs193 ?_ _
         exact hJ179 A195 c195 _ _ _ (pEq 184) (h196.sel [1, 2, 3, 4, 5, 6, 7, 8, 9, 10, 11, 12] [0, 1, 2, 3] (by kernel_rfl) rfl rfl)
        ·
         refine pR_op 7 (some 156) 239 rfl (x_bs h193 38 ([(sV g.src), (sV g.dst), (iV .i64 g.sid), (iV .i64 g.epoch), (iV .i64 g.seq), (lV AgK g.box.length cgK)]) 1 (by kernel_rfl)) ?_
         rintro _ w197 ⟨g197, rfl, h197⟩
         refine ⟨fun _ => ⟨h197.at_ 1 rfl, trivial⟩, ?_⟩
         refine pR_to 4 (some 153) 255 rfl hs193 (OpTo.run (lV e.wA T.wire.length e.wc) (eL (h197.at_ 4 rfl) 30 (.tmp 152) 3 (lV e.wA T.wire.length e.wc)) (R := fun v w => v = (lV e.wA T.wire.length e.wc) /\ w197 = w) ⟨rfl, rfl⟩) ?_
         rintro _ _ ⟨rfl, rfl⟩
         refine ⟨fun _ => ⟨h197.at_ 1 rfl, trivial⟩, ?_⟩
         refine pR_to 8 (some 157) 511 rfl hs193 (xPu h197 8 0 rfl rfl (.tmp 153) (.tmp 156) 30 80 (aV ([(sV ByteArray.empty), (sV ByteArray.empty), (iV .i64 0), (iV .i64 0), (iV .i64 0), (lV none 0 0)]).toArray) (by omega) (by unfold maxLen; omega) (e.wx ++ [[(sV g.src), (sV g.dst), (iV .i64 g.sid), (iV .i64 g.epoch), (iV .i64 g.seq), (lV AgK g.box.length cgK)]]) ((T.wire ++ [g]).length) (hyn := (by rw [List.length_append, List.length_append, hT.w.1]; rfl))) ?_
         rintro _ w198 ⟨A198, c198, rfl, h198⟩
         refine ⟨fun _ => ⟨h198.at_ 1 rfl, trivial⟩, ?_⟩
         refine pR_to 9 (some 158) 1023 rfl hs193 (OpTo.run (pt p 0) (pureOp_run (by kernel_rfl) _) (R := fun v w => v = (pt p 0) /\ w198 = w) ⟨rfl, rfl⟩) ?_
         rintro _ _ ⟨rfl, rfl⟩
         refine ⟨fun h => absurd h (by decide), ?_⟩
         refine pR_to 10 (some 159) 2047 rfl hs193 (OpTo.run (pt p 3) (pureOp_run (by kernel_rfl) _) (R := fun v w => v = (pt p 3) /\ w198 = w) ⟨rfl, rfl⟩) ?_
         rintro _ _ ⟨rfl, rfl⟩
         refine ⟨fun h => absurd h (by decide), ?_⟩
         refine pR_to 11 none 4095 rfl hs193 (xSt h198 4 30 (.tmp 159) (.tmp 157) 3 (lV A198 ((T.wire ++ [g]).length) c198) ([(pt e.tb 0), (pt e.sa 0), (pt e.sb 0), (lV A198 ((T.wire ++ [g]).length) c198), (lV e.A0 T.sd0.length e.c0), (lV e.A1 T.sd1.length e.c1), (lV e.A2 T.cm0.length e.c2), (lV e.A3 T.cm1.length e.c3), (iV .i64 ((T.k0 : Int))), (iV .i64 ((T.k1 : Int)))])) ?_
         rintro _ w199 h199
         refine ⟨fun h => absurd h (by decide), ?_⟩
         refine pR_done hs193 ?_ _
         exact hJ179 A198 c198 _ _ _ (pEq 184) (h199.sel [1, 2, 3, 4, 5, 6, 7, 8, 9, 10, 11, 12] [0, 1, 2, 3] (by kernel_rfl) rfl rfl)
      refine pR_go hJh20 10 (fun W => (rBlk gJ 38 ([(sV fJ.src), (sV fJ.dst), (iV .i64 fJ.sid), (iV .i64 fJ.epoch), (iV .i64 fJ.seq), (lV AJ fJ.box.length cJ)])).Φ W /\ True) [(141, [0], 0), (142, [11], 0), (143, [140, 141], 3), (144, [10], 0), (145, [142, 143], 12), (140, [144], 16), (146, [139], 32), (147, [139], 32), (13, [], 0), (0, [12, 145], 383), (14, [146], 1023)] rfl (fun _ d _ _ _ h => by cases d <;> exact h) ?_
      intro hs200 w200 h200
      refine pR_p 9 [0, 1] [(141, (iV .i64 0)), (140, (pt p 0))] 3 hs200 ⟨h200.at_ 0 rfl, trivial⟩ ?_
      refine pR_v 3 (some 143) (aV ([(sV fJ.src), (sV fJ.dst), (iV .i64 fJ.sid), (iV .i64 fJ.epoch), (iV .i64 fJ.seq), (lV AJ fJ.box.length cJ)]).toArray) 11 rfl hs200 ⟨h200.at_ 0 rfl, trivial⟩ (fun W hW => eLs hW.1 38 (.tmp 10) 0 ([(sV fJ.src), (sV fJ.dst), (iV .i64 fJ.sid), (iV .i64 fJ.epoch), (iV .i64 fJ.seq), (lV AJ fJ.box.length cJ)])) ?_
      refine pR_or 2 8 hs200 ?_ ?_
      ·
       refine pR_op 2 (some 142) 15 rfl (x_dp h200 18 [(pt p 0), (iV .i64 0)] (by kernel_rfl) (tEnd_0 (h200.at_ 2 rfl))) ?_
       rintro _ w201 ⟨rfl, h201⟩
       refine ⟨fun _ => ⟨h201.at_ 0 rfl, trivial⟩, ?_⟩
       refine pR_or 4 8 hs200 ?_ ?_
       ·
        have hq202 := h201.monoS 4 rfl (fun p hp => (hsJ _ hp))
        refine pR_op 4 (some 144) 31 rfl (x_two hq202 3 4 rfl rfl (by kernel_rfl) 0 rfl 12 [(pt e.sa 0), (aV ([(sV fJ.src), (sV fJ.dst), (iV .i64 fJ.sid), (iV .i64 fJ.epoch), (iV .i64 fJ.seq), (lV AJ fJ.box.length cJ)]).toArray)] (by kernel_rfl) (take_of (hq202.at_ 3 rfl) (hq202.at_ 4 rfl) (hq202.rd 0 rfl) (hq202.dis 3 4 _ _ rfl rfl (by decide)) (hq202.rdis 0 3 _ _ rfl rfl) (hq202.rdis 0 4 _ _ rfl rfl) hr AJ cJ hmfJ (hsJ _ hT.nil) hsd (by omega) (by omega) hI.bodies (by have h1 : T.a.sent <= 60 := hsa.sent; omega) (by have h1 : T.a.got <= 60 := hsa.got; omega) (by have h1 : T.a.ei <= 60 := hsa.ei; omega) hsa.fq)) ?_
        rintro _ w203 ⟨F203, G203, L203, ⟨_, rfl, Ac203, cc203, _, rfl, hmc203, Ag203, cg203, rfl, hmg203⟩, hs203, hx203, h203⟩
        refine ⟨fun _ => ⟨h203.at_ 0 rfl, trivial⟩, ?_⟩
        refine pR_p 3 [5, 6, 7] [(146, (iV .i64 0)), (145, (aV ([(lV Ac203 bd.length cc203), (bV true), (sV g.src), (sV g.dst), (iV .i64 g.sid), (iV .i64 g.epoch), (iV .i64 g.seq), (lV Ag203 g.box.length cg203), (bV true)]).toArray)), (139, (Value.tuple #[(aV ([(lV Ac203 bd.length cc203), (bV true), (sV g.src), (sV g.dst), (iV .i64 g.sid), (iV .i64 g.epoch), (iV .i64 g.seq), (lV Ag203 g.box.length cg203), (bV true)]).toArray), (iV .i64 0)]))] 255 hs200 ⟨h203.at_ 0 rfl, trivial⟩ ?_
        refine pR_to 8 (some 12) 511 rfl hs200 (xN h203 42 ([(lV none 0 0), (bV false), (sV ByteArray.empty), (sV ByteArray.empty), (iV .i64 0), (iV .i64 0), (iV .i64 0), (lV none 0 0), (bV false)])) ?_
        rintro _ w204 ⟨g204, rfl, h204⟩
        refine ⟨fun _ => ⟨h204.at_ 1 rfl, trivial⟩, ?_⟩
        refine pR_to 9 none 1023 rfl hs200 (xSs h204 0 42 (.tmp 12) (.tmp 145) 0 ([(lV Ac203 bd.length cc203), (bV true), (sV g.src), (sV g.dst), (iV .i64 g.sid), (iV .i64 g.epoch), (iV .i64 g.seq), (lV Ag203 g.box.length cg203), (bV true)]) ([(lV Ac203 bd.length cc203), (bV true), (sV g.src), (sV g.dst), (iV .i64 g.sid), (iV .i64 g.epoch), (iV .i64 g.seq), (lV Ag203 g.box.length cg203), (bV true)])) ?_
        rintro _ w205 h205
        refine ⟨fun _ => ⟨h205.at_ 1 rfl, trivial⟩, ?_⟩
        refine pR_to 10 (some 13) 2047 rfl hs200 (OpTo.run (iV .i64 0) (pureOp_run (by kernel_rfl) _) (R := fun v w => v = (iV .i64 0) /\ w205 = w) ⟨rfl, rfl⟩) ?_
        rintro _ _ ⟨rfl, rfl⟩
        refine ⟨fun h => absurd h (by decide), ?_⟩
        refine pR_done hs200 ?_ _
        exact hJ176 F203 G203 L203 Ac203 cc203 Ag203 cg203 g204 hmc203 hmg203 ((fun p hp => (hs203 _ hp))) ((hx203 _ hxJ)) _ _ _ (pEq 184) (h205.sel [0, 1, 2, 3, 4, 5, 6, 7, 8, 9, 10, 11] [0, 1, 2, 3] (by kernel_rfl) rfl rfl)
       ·
        refine pR_op 8 (some 12) 271 rfl (xN h201 42 ([(lV none 0 0), (bV false), (sV ByteArray.empty), (sV ByteArray.empty), (iV .i64 0), (iV .i64 0), (iV .i64 0), (lV none 0 0), (bV false)])) ?_
        rintro _ w206 ⟨g206, rfl, h206⟩
        refine ⟨fun _ => ⟨h206.at_ 1 rfl, trivial⟩, ?_⟩
        have hq207 := h206.monoS 5 rfl (fun p hp => (hsJ _ hp))
        refine pR_to 4 (some 144) 287 rfl hs200 (x_two hq207 4 5 rfl rfl (by kernel_rfl) 0 rfl 12 [(pt e.sa 0), (aV ([(sV fJ.src), (sV fJ.dst), (iV .i64 fJ.sid), (iV .i64 fJ.epoch), (iV .i64 fJ.seq), (lV AJ fJ.box.length cJ)]).toArray)] (by kernel_rfl) (take_of (hq207.at_ 4 rfl) (hq207.at_ 5 rfl) (hq207.rd 0 rfl) (hq207.dis 4 5 _ _ rfl rfl (by decide)) (hq207.rdis 0 4 _ _ rfl rfl) (hq207.rdis 0 5 _ _ rfl rfl) hr AJ cJ hmfJ (hsJ _ hT.nil) hsd (by omega) (by omega) hI.bodies (by have h1 : T.a.sent <= 60 := hsa.sent; omega) (by have h1 : T.a.got <= 60 := hsa.got; omega) (by have h1 : T.a.ei <= 60 := hsa.ei; omega) hsa.fq)) ?_
        rintro _ w208 ⟨F208, G208, L208, ⟨_, rfl, Ac208, cc208, _, rfl, hmc208, Ag208, cg208, rfl, hmg208⟩, hs208, hx208, h208⟩
        refine ⟨fun _ => ⟨h208.at_ 1 rfl, trivial⟩, ?_⟩
        refine pR_p 2 [5, 6, 7] [(146, (iV .i64 0)), (145, (aV ([(lV Ac208 bd.length cc208), (bV true), (sV g.src), (sV g.dst), (iV .i64 g.sid), (iV .i64 g.epoch), (iV .i64 g.seq), (lV Ag208 g.box.length cg208), (bV true)]).toArray)), (139, (Value.tuple #[(aV ([(lV Ac208 bd.length cc208), (bV true), (sV g.src), (sV g.dst), (iV .i64 g.sid), (iV .i64 g.epoch), (iV .i64 g.seq), (lV Ag208 g.box.length cg208), (bV true)]).toArray), (iV .i64 0)]))] 511 hs200 ⟨h208.at_ 1 rfl, trivial⟩ ?_
        refine pR_to 9 none 1023 rfl hs200 (xSs h208 0 42 (.tmp 12) (.tmp 145) 0 ([(lV Ac208 bd.length cc208), (bV true), (sV g.src), (sV g.dst), (iV .i64 g.sid), (iV .i64 g.epoch), (iV .i64 g.seq), (lV Ag208 g.box.length cg208), (bV true)]) ([(lV Ac208 bd.length cc208), (bV true), (sV g.src), (sV g.dst), (iV .i64 g.sid), (iV .i64 g.epoch), (iV .i64 g.seq), (lV Ag208 g.box.length cg208), (bV true)])) ?_
        rintro _ w209 h209
        refine ⟨fun _ => ⟨h209.at_ 1 rfl, trivial⟩, ?_⟩
        refine pR_to 10 (some 13) 2047 rfl hs200 (OpTo.run (iV .i64 0) (pureOp_run (by kernel_rfl) _) (R := fun v w => v = (iV .i64 0) /\ w209 = w) ⟨rfl, rfl⟩) ?_
        rintro _ _ ⟨rfl, rfl⟩
        refine ⟨fun h => absurd h (by decide), ?_⟩
        refine pR_done hs200 ?_ _
        exact hJ176 F208 G208 L208 Ac208 cc208 Ag208 cg208 g206 hmc208 hmg208 ((fun p hp => (hs208 _ hp))) ((hx208 _ hxJ)) _ _ _ (pEq 184) (h209.sel [0, 1, 2, 3, 4, 5, 6, 7, 8, 9, 10, 11] [0, 1, 2, 3] (by kernel_rfl) rfl rfl)
      ·
       refine pR_op 8 (some 12) 267 rfl (xN h200 42 ([(lV none 0 0), (bV false), (sV ByteArray.empty), (sV ByteArray.empty), (iV .i64 0), (iV .i64 0), (iV .i64 0), (lV none 0 0), (bV false)])) ?_
       rintro _ w210 ⟨g210, rfl, h210⟩
       refine ⟨fun _ => ⟨h210.at_ 1 rfl, trivial⟩, ?_⟩
       refine pR_to 2 (some 142) 271 rfl hs200 (x_dp h210 18 [(pt p 0), (iV .i64 0)] (by kernel_rfl) (tEnd_0 (h210.at_ 3 rfl))) ?_
       rintro _ w211 ⟨rfl, h211⟩
       refine ⟨fun _ => ⟨h211.at_ 1 rfl, trivial⟩, ?_⟩
       have hq212 := h211.monoS 5 rfl (fun p hp => (hsJ _ hp))
       refine pR_to 4 (some 144) 287 rfl hs200 (x_two hq212 4 5 rfl rfl (by kernel_rfl) 0 rfl 12 [(pt e.sa 0), (aV ([(sV fJ.src), (sV fJ.dst), (iV .i64 fJ.sid), (iV .i64 fJ.epoch), (iV .i64 fJ.seq), (lV AJ fJ.box.length cJ)]).toArray)] (by kernel_rfl) (take_of (hq212.at_ 4 rfl) (hq212.at_ 5 rfl) (hq212.rd 0 rfl) (hq212.dis 4 5 _ _ rfl rfl (by decide)) (hq212.rdis 0 4 _ _ rfl rfl) (hq212.rdis 0 5 _ _ rfl rfl) hr AJ cJ hmfJ (hsJ _ hT.nil) hsd (by omega) (by omega) hI.bodies (by have h1 : T.a.sent <= 60 := hsa.sent; omega) (by have h1 : T.a.got <= 60 := hsa.got; omega) (by have h1 : T.a.ei <= 60 := hsa.ei; omega) hsa.fq)) ?_
       rintro _ w213 ⟨F213, G213, L213, ⟨_, rfl, Ac213, cc213, _, rfl, hmc213, Ag213, cg213, rfl, hmg213⟩, hs213, hx213, h213⟩
       refine ⟨fun _ => ⟨h213.at_ 1 rfl, trivial⟩, ?_⟩
       refine pR_p 2 [5, 6, 7] [(146, (iV .i64 0)), (145, (aV ([(lV Ac213 bd.length cc213), (bV true), (sV g.src), (sV g.dst), (iV .i64 g.sid), (iV .i64 g.epoch), (iV .i64 g.seq), (lV Ag213 g.box.length cg213), (bV true)]).toArray)), (139, (Value.tuple #[(aV ([(lV Ac213 bd.length cc213), (bV true), (sV g.src), (sV g.dst), (iV .i64 g.sid), (iV .i64 g.epoch), (iV .i64 g.seq), (lV Ag213 g.box.length cg213), (bV true)]).toArray), (iV .i64 0)]))] 511 hs200 ⟨h213.at_ 1 rfl, trivial⟩ ?_
       refine pR_to 9 none 1023 rfl hs200 (xSs h213 0 42 (.tmp 12) (.tmp 145) 0 ([(lV Ac213 bd.length cc213), (bV true), (sV g.src), (sV g.dst), (iV .i64 g.sid), (iV .i64 g.epoch), (iV .i64 g.seq), (lV Ag213 g.box.length cg213), (bV true)]) ([(lV Ac213 bd.length cc213), (bV true), (sV g.src), (sV g.dst), (iV .i64 g.sid), (iV .i64 g.epoch), (iV .i64 g.seq), (lV Ag213 g.box.length cg213), (bV true)])) ?_
       rintro _ w214 h214
       refine ⟨fun _ => ⟨h214.at_ 1 rfl, trivial⟩, ?_⟩
       refine pR_to 10 (some 13) 2047 rfl hs200 (OpTo.run (iV .i64 0) (pureOp_run (by kernel_rfl) _) (R := fun v w => v = (iV .i64 0) /\ w214 = w) ⟨rfl, rfl⟩) ?_
       rintro _ _ ⟨rfl, rfl⟩
       refine ⟨fun h => absurd h (by decide), ?_⟩
       refine pR_done hs200 ?_ _
       exact hJ176 F213 G213 L213 Ac213 cc213 Ag213 cg213 g210 hmc213 hmg213 ((fun p hp => (hs213 _ hp))) ((hx213 _ hxJ)) _ _ _ (pEq 184) (h214.sel [0, 1, 2, 3, 4, 5, 6, 7, 8, 9, 10, 11] [0, 1, 2, 3] (by kernel_rfl) rfl rfl)
  refine pR_go h2 19 (fun W => (rBlk p 34 ([(pt e.tb 0), (pt e.sa 0), (pt e.sb 0), (lV e.wA T.wire.length e.wc), (lV e.A0 T.sd0.length e.c0), (lV e.A1 T.sd1.length e.c1), (lV e.A2 T.cm0.length e.c2), (lV e.A3 T.cm1.length e.c3), (iV .i64 ((T.k0 : Int))), (iV .i64 ((T.k1 : Int)))])).Φ W /\ (rBlk g2 50 ([(iV .i64 6), (iV .i64 z.at_), (iV .i64 z.turn), (lV A z.body.length c)])).Φ W /\ (rOV 38 6 ((lV e.wA T.wire.length e.wc)) e.wx).Φ W /\ True) [(119, [0], 0), (120, [118], 1), (121, [119], 2), (122, [120], 4), (123, [3], 0), (124, [122], 16), (125, [123], 32), (126, [0], 0), (127, [125], 128), (128, [126], 256), (129, [127], 512), (130, [128], 1024), (131, [124, 129], 2112), (132, [121, 130], 4104), (133, [131], 8192), (134, [3], 0), (135, [133], 32768), (136, [132, 134], 81920), (11, [], 0), (0, [10, 135], 524287)] rfl (fun _ d _ _ _ h => by cases d <;> exact h) ?_
  intro hs215 w215 h215
  refine pR_p 12 [0, 1, 2, 4, 7, 8, 9, 15] [(133, (pt g2 2)), (127, (pt p 3)), (126, (pt p 0)), (125, (pt p 0)), (122, (pt g2 1)), (120, (pt p 3)), (119, (pt p 0)), (118, (pt p 0))] 33687 hs215 ⟨h215.at_ 1 rfl, h215.at_ 0 rfl, h215.at_ 5 rfl, trivial⟩ ?_
  refine pR_v 3 (some 121) (lV e.wA T.wire.length e.wc) 33695 rfl hs215 ⟨h215.at_ 1 rfl, h215.at_ 0 rfl, h215.at_ 5 rfl, trivial⟩ (fun W hW => eL hW.1 30 (.tmp 120) 3 _) ?_
  refine pR_v 5 (some 123) (iV .i64 z.at_) 33727 rfl hs215 ⟨h215.at_ 1 rfl, h215.at_ 0 rfl, h215.at_ 5 rfl, trivial⟩ (fun W hW => eL hW.2.1 3 (.tmp 122) 1 _) ?_
  obtain ⟨M216, hM216, hb216⟩ := and_mask z.at_ 1023 (by decide)
  refine pR_v 6 (some 124) (iV .i64 ((M216 : Int))) 33791 rfl hs215 ⟨h215.at_ 1 rfl, h215.at_ 0 rfl, h215.at_ 5 rfl, trivial⟩ (fun W hW => eqI (iV .i64 (bits .and .i64 z.at_ 1023)) (congrArg (iV .i64) hM216)) ?_
  refine pR_v 10 (some 128) (lV e.wA T.wire.length e.wc) 34815 rfl hs215 ⟨h215.at_ 1 rfl, h215.at_ 0 rfl, h215.at_ 5 rfl, trivial⟩ (fun W hW => eL hW.1 30 (.tmp 127) 3 _) ?_
  refine pR_p 7 [11] [(129, (iV .i64 ((T.wire.length : Int))))] 36863 hs215 ⟨h215.at_ 1 rfl, h215.at_ 0 rfl, h215.at_ 5 rfl, trivial⟩ ?_
  obtain ⟨f0, hf0⟩ : ∃ f0, T.wire[M216 % T.wire.length]? = some f0 := ⟨_, List.getElem?_eq_getElem (Nat.mod_lt _ (by omega))⟩
  obtain ⟨_, hx0f, Af0, cf0, rfl, hmf0⟩ := hT.w.get hf0
  have hmod : M216 % T.wire.length < T.wire.length := Nat.mod_lt _ (by omega)
  have hfB := hI.wi f0 (List.mem_of_getElem? hf0)
  refine pR_v 12 (some 130) (iV .i64 (((M216 % T.wire.length : Nat) : Int))) 40959 rfl hs215 ⟨h215.at_ 1 rfl, h215.at_ 0 rfl, h215.at_ 5 rfl, trivial⟩ (fun W hW => e_remN (.tmp 124) (.tmp 129) 3 3 (by kernel_rfl) M216 T.wire.length (by kernel_rfl) (by kernel_rfl) (by omega) (M216 % T.wire.length) rfl _) ?_
  refine pR_v 13 (some 131) (eAt e.wA ((((M216 % T.wire.length))) * 6 + 0)) 49151 rfl hs215 ⟨h215.at_ 1 rfl, h215.at_ 0 rfl, h215.at_ 5 rfl, trivial⟩ (fun W hW => eIx (OV.rvn (h215.at_ 5 rfl)).2 (((M216 % T.wire.length))) T.wire.length (OV.rvn (h215.at_ 5 rfl)).1 (by omega) 30 (.tmp 121) (.tmp 130) .i64 38) ?_
  refine pR_v 14 (some 132) (aV ([(sV f0.src), (sV f0.dst), (iV .i64 f0.sid), (iV .i64 f0.epoch), (iV .i64 f0.seq), (lV Af0 f0.box.length cf0)]).toArray) 65535 rfl hs215 ⟨h215.at_ 1 rfl, h215.at_ 0 rfl, h215.at_ 5 rfl, trivial⟩ (fun W hW => e_elemsN (OV.rvn hW.2.2.1).2 (((M216 % T.wire.length))) 0 ([(sV f0.src), (sV f0.dst), (iV .i64 f0.sid), (iV .i64 f0.epoch), (iV .i64 f0.seq), (lV Af0 f0.box.length cf0)]) hx0f 38 (.tmp 131) (by kernel_rfl) ([(sV f0.src), (sV f0.dst), (iV .i64 f0.sid), (iV .i64 f0.epoch), (iV .i64 f0.seq), (lV Af0 f0.box.length cf0)]) (by kernel_rfl) (by kernel_rfl) (by kernel_rfl)) ?_
  refine pR_v 16 (some 134) (iV .i64 z.turn) 131071 rfl hs215 ⟨h215.at_ 1 rfl, h215.at_ 0 rfl, h215.at_ 5 rfl, trivial⟩ (fun W hW => eL hW.2.1 3 (.tmp 133) 2 _) ?_
  refine pR_or 17 18 hs215 ?_ ?_
  ·
   refine pR_op 17 (some 135) 262143 rfl (x_turned h215 1 rfl 35 [(aV ([(sV f0.src), (sV f0.dst), (iV .i64 f0.sid), (iV .i64 f0.epoch), (iV .i64 f0.seq), (lV Af0 f0.box.length cf0)]).toArray), (iV .i64 z.turn)] (by kernel_rfl) (tTurned_any (h215.rd 1 rfl) f0 hfB Af0 cf0 hmf0 z.turn)) ?_
   rintro _ w217 ⟨f217, Af217, cf217, L217, hs1217, hs2217, hbx217, rfl, hmf217, hs217, hx217, h217⟩
   refine ⟨fun _ => ⟨h217.at_ 1 rfl, h217.at_ 0 rfl, h217.at_ 5 rfl, trivial⟩, ?_⟩
   refine pR_to 18 (some 10) 524287 rfl hs215 (xN h217 38 ([(sV ByteArray.empty), (sV ByteArray.empty), (iV .i64 0), (iV .i64 0), (iV .i64 0), (lV none 0 0)])) ?_
   rintro _ w218 ⟨g218, rfl, h218⟩
   refine ⟨fun _ => ⟨h218.at_ 2 rfl, h218.at_ 1 rfl, h218.at_ 6 rfl, trivial⟩, ?_⟩
   refine pR_to 19 none 1048575 rfl hs215 (xSs h218 0 38 (.tmp 10) (.tmp 135) 0 ([(sV f217.src), (sV f217.dst), (iV .i64 f217.sid), (iV .i64 f217.epoch), (iV .i64 f217.seq), (lV Af217 f217.box.length cf217)]) ([(sV f217.src), (sV f217.dst), (iV .i64 f217.sid), (iV .i64 f217.epoch), (iV .i64 f217.seq), (lV Af217 f217.box.length cf217)])) ?_
   rintro _ w219 h219
   refine ⟨fun h => absurd h (by decide), ?_⟩
   refine pR_done hs215 ?_ _
   exact hJ20 f217 Af217 cf217 L217 g218 hs1217 hs2217 hbx217 hmf217 ((fun p hp => (hs217 _ hp))) ((hx217 _ (LExt.refl G w L))) _ _ _ (pEq 184) (h219.sel [0, 1, 2, 3, 4, 5, 6, 7, 8, 9, 10] [0, 1, 2] (by kernel_rfl) rfl rfl)
  ·
   refine pR_op 18 (some 10) 393215 rfl (xN h215 38 ([(sV ByteArray.empty), (sV ByteArray.empty), (iV .i64 0), (iV .i64 0), (iV .i64 0), (lV none 0 0)])) ?_
   rintro _ w220 ⟨g220, rfl, h220⟩
   refine ⟨fun _ => ⟨h220.at_ 2 rfl, h220.at_ 1 rfl, h220.at_ 6 rfl, trivial⟩, ?_⟩
   refine pR_to 17 (some 135) 524287 rfl hs215 (x_turned h220 1 rfl 35 [(aV ([(sV f0.src), (sV f0.dst), (iV .i64 f0.sid), (iV .i64 f0.epoch), (iV .i64 f0.seq), (lV Af0 f0.box.length cf0)]).toArray), (iV .i64 z.turn)] (by kernel_rfl) (tTurned_any (h220.rd 1 rfl) f0 hfB Af0 cf0 hmf0 z.turn)) ?_
   rintro _ w221 ⟨f221, Af221, cf221, L221, hs1221, hs2221, hbx221, rfl, hmf221, hs221, hx221, h221⟩
   refine ⟨fun _ => ⟨h221.at_ 2 rfl, h221.at_ 1 rfl, h221.at_ 6 rfl, trivial⟩, ?_⟩
   refine pR_to 19 none 1048575 rfl hs215 (xSs h221 0 38 (.tmp 10) (.tmp 135) 0 ([(sV f221.src), (sV f221.dst), (iV .i64 f221.sid), (iV .i64 f221.epoch), (iV .i64 f221.seq), (lV Af221 f221.box.length cf221)]) ([(sV f221.src), (sV f221.dst), (iV .i64 f221.sid), (iV .i64 f221.epoch), (iV .i64 f221.seq), (lV Af221 f221.box.length cf221)])) ?_
   rintro _ w222 h222
   refine ⟨fun h => absurd h (by decide), ?_⟩
   refine pR_done hs215 ?_ _
   exact hJ20 f221 Af221 cf221 L221 g220 hs1221 hs2221 hbx221 hmf221 ((fun p hp => (hs221 _ hp))) ((hx221 _ (LExt.refl G w L))) _ _ _ (pEq 184) (h222.sel [0, 1, 2, 3, 4, 5, 6, 7, 8, 9, 10] [0, 1, 2] (by kernel_rfl) rfl rfl)
end
end Go.Proofs.Ytjalodhdjollhaa
