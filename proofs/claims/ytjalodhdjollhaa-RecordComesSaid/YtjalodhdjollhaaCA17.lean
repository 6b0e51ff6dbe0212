/- Steps of the laws of record. -/
import Derived.Test.YtjalodhdjollhaaCA16
set_option maxRecDepth 100000
set_option maxHeartbeats 4000000
namespace Go.Proofs.Ytjalodhdjollhaa
section
open Go.Value renaming int -> iV, slice -> lV, string -> sV, bool -> bV, agg -> aV
open Go.RowKit Go.QT
theorem tStep_take {G : Nat -> Prop} {p : Nat} {L : List (Value × Bytes)} {T : Tk} {n : Nat} {Wa Wb : Way} {w : World} (hI : TI sAnn sBob n T Wa Wb) (hC : Cnt n T Wa Wb) (hn : n < 200) (hv : (rT G p L T).Φ w) (hL : (rF L).Φ w) (hd : (rF L).dj (rT G p L T)) (z : Stp) (_hz : z.body.length <= 40) (A : Option Addr) (c : Nat) (hm : (lV A z.body.length c, z.body) ∈ L) (hk : z.kind = 6)  : Calls Try.prog 15 #[pt p 0, .agg #[.int .i64 z.kind, .int .i64 z.at_, .int .i64 z.turn, .slice A z.body.length c]] w (StepPost n G p w L) := by
 have h00 := Hp.oneT hv hL hd
 obtain ⟨e, hT, h01⟩ := h00.openT 0 rfl
 have h02 := h01.roF 0 rfl hm
 have hsa := hI.small
 have hsb := hI.swap.small
 have hxw := hT.w.1
 have hx0 := hT.x0.1
 have hx1 := hT.x1.1
 have hx2 := hT.x2.1
 have hx3 := hT.x3.1
 have hwl := hI.wl
 have hdl := hI.rows
 have hks := hI.ks
 have hbs := hI.bs
 have hqa := hsa.q8
 have hqb := hsb.q8
 obtain ⟨hd0, hd1, hd2, hd3⟩ := hdl
 rw [hk]
 have h0 := h02
 refine enter 182 Try.func15 rfl rfl ?_
 refine wp_reset 184 [(0, (pt p 0)), (1, (aV ([(iV .i64 6), (iV .i64 z.at_), (iV .i64 z.turn), (lV A z.body.length c)]).toArray))] (fun x0 => ?_)
 refine wp_seq_k fun K1 hK1 => reg_lit ?_
 refine wq_to (some 3) (xN h0 50 ([(iV .i64 6), (iV .i64 z.at_), (iV .i64 z.turn), (lV A z.body.length c)])) ?_
 rintro _ w2 ⟨g2, rfl, h2⟩
 refine wq_p 1 [(4, (bV false))] ?_
 refine wl_end rfl (seq_n hK1 (wp_seq_k fun K3 hK3 => reg_lit ?_))
 refine wq_p 1 [(14, (pt g2 0))] (wq_v (some 15) (iV .i64 6) (eL (h2.at_ 0 rfl) 3 (.tmp 14) 0 _) (wq_v (some 16) (iV .i64 0) (eqI (iV .i64 (bits .and .i64 6 1)) (congrArg (iV .i64) (by kernel_rfl))) (wq_p 1 [(5, (iV .i64 0))] ?_)))
 refine wl_end rfl (seq_n hK3 (wp_seq_k fun K4 hK4 => wp_seq_k fun K5 hK5 => reg_lit ?_))
 refine wq_p 1 [(17, (pt g2 0))] (wq_v (some 18) (iV .i64 6) (eL (h2.at_ 0 rfl) 3 (.tmp 17) 0 _) ?_)
 refine wl_end rfl (seq_n hK5 (wp_block (wp_seq_k fun K6 hK6 => wp_seq_k fun K7 hK7 => reg_lit ?_)))
 refine wq_p 2 [(19, (bV false)), (20, (bV false))] ?_
 refine wl_end rfl (seq_n hK7 (cF (reg_lit ?_)))
 refine wq_p 2 [(19, (bV false)), (21, (bV false))] ?_
 refine wl_end rfl (seq_n hK6 (cF (wp_seq_k fun K8 hK8 => wp_seq_k fun K9 hK9 => reg_lit ?_)))
 refine wq_p 2 [(64, (bV false)), (65, (bV false))] ?_
 refine wl_end rfl (seq_n hK9 (cF (reg_lit ?_)))
 refine wq_p 2 [(64, (bV false)), (66, (bV false))] ?_
 refine wl_end rfl (seq_n hK8 (cF (wp_seq_k fun K10 hK10 => wp_seq_k fun K11 hK11 => ?_)))
 refine wp_reset 184 [(0, (pt p 0)), (1, (aV ([(iV .i64 6), (iV .i64 z.at_), (iV .i64 z.turn), (lV A z.body.length c)]).toArray)), (3, (pt g2 0)), (4, (bV false)), (5, (iV .i64 0)), (18, (iV .i64 6)), (19, (bV false)), (64, (bV false))] (fun x12 => ?_)
 refine reg_lit ?_
 refine wq_p 2 [(82, (bV false)), (83, (bV false))] ?_
 refine wl_end rfl (seq_n hK11 (cF (reg_lit ?_)))
 refine wq_p 2 [(82, (bV false)), (84, (bV false))] ?_
 refine wl_end rfl (seq_n hK10 (cF (wp_seq_k fun K13 hK13 => reg_lit ?_)))
 refine wq_p 2 [(110, (bV true)), (111, (bV true))] ?_
 refine wl_end rfl (seq_n hK13 (cT (wp_seq_k fun K14 hK14 => wp_seq_k fun K15 hK15 => ?_)))
 by_cases b16 : T.wire.length = 0
 ·
  refine reg_lit ?_
  refine wq_p 3 [(114, (pt p 3)), (113, (pt p 0)), (112, (pt p 0))] (wq_v (some 115) (lV e.wA T.wire.length e.wc) (eL (h2.at_ 1 rfl) 30 (.tmp 114) 3 _) (wq_p 1 [(116, (iV .i64 ((T.wire.length : Int))))] (wq_v (some 117) (.bool true) (eqI (bV (((T.wire.length : Int)) == 0)) (congrArg bV (by rw [beq_iff_eq]; omega))) ?_)))
  refine wl_end rfl (seq_n hK15 (cT (wp_seq_k fun K17 hK17 => reg_lit ?_)))
  refine wq_p 1 [(4, (bV true))] ?_
  refine wl_end rfl (seq_n hK17 (wp_ret (seq_r (blk_r (seq_r ?_)))))
  refine post_1 rfl (by kernel_rfl) (rtm (bV true)) ?_
  have h18 := (show Hp _ _ _ _ (lT p L (TEnv.mk e.tb e.sa e.sb e.F e.Ga e.Gb e.wA e.wc e.wx e.A0 e.c0 e.x0 e.A1 e.c1 e.x1 e.A2 e.c2 e.x2 e.A3 e.c3 e.x3) T ++ []) from h2.sel [1, 2, 3, 4, 5, 6, 7, 8, 9] [1] rfl rfl rfl).closeT ⟨(hT.w.mono (fun _ _ h => h.mono (fun p hp => hp))), (hT.x0.mono (fun _ _ h => h.mono (fun p hp => hp))), (hT.x1.mono (fun _ _ h => h.mono (fun p hp => hp))), (hT.x2.mono (fun _ _ h => h.mono (fun p hp => hp))), (hT.x3.mono (fun _ _ h => h.mono (fun p hp => hp))), hT.nil⟩
  exact ⟨rfl, _, _, T, Wa, Wb, hI.idle, hC.idle, (LExt.refl G w L), h18⟩
 ·
  refine reg_lit ?_
  refine wq_p 3 [(114, (pt p 3)), (113, (pt p 0)), (112, (pt p 0))] (wq_v (some 115) (lV e.wA T.wire.length e.wc) (eL (h2.at_ 1 rfl) 30 (.tmp 114) 3 _) (wq_p 1 [(116, (iV .i64 ((T.wire.length : Int))))] (wq_v (some 117) (.bool false) (eqI (bV (((T.wire.length : Int)) == 0)) (congrArg bV (by rw [beq_eq_false_iff_ne]; omega))) ?_)))
  refine wl_end rfl (seq_n hK15 (cF (wp_skip (seq_n hK14 (wp_seq_k fun K19 hK19 => ?_)))))
  have hJ20 : ∀ (fJ : Frm), ∀ (AJ : Option Addr), ∀ (cJ : Nat), ∀ (LJ : List (Value × Bytes)), ∀ (gJ : Nat), (-10 <= fJ.seq) -> (fJ.seq <= 2000000) -> (fJ.box.length = 16) -> ((lV AJ fJ.box.length cJ, fJ.box) ∈ LJ) -> (∀ p, p ∈ L -> p ∈ LJ) -> (LExt G w L LJ) -> ∀ (xJ20 : Nat -> Value) (aJ : Act) (wJ20 : World), aJ = patch xJ20 184 [(0, (pt p 0)), (1, (aV ([(iV .i64 6), (iV .i64 z.at_), (iV .i64 z.turn), (lV A z.body.length c)]).toArray)), (3, (pt g2 0)), (4, (bV false)), (5, (iV .i64 0)), (10, (pt gJ 0)), (18, (iV .i64 6)), (19, (bV false)), (64, (bV false)), (82, (bV false)), (110, (bV true)), (117, (bV false))] -> Hp G w wJ20 [rF LJ, rSB ((lV A z.body.length c)) z.body, rF L] [rBlk gJ 38 ([(sV fJ.src), (sV fJ.dst), (iV .i64 fJ.sid), (iV .i64 fJ.epoch), (iV .i64 fJ.seq), (lV AJ fJ.box.length cJ)]), rBlk g2 50 ([(iV .i64 6), (iV .i64 z.at_), (iV .i64 z.turn), (lV A z.body.length c)]), rBlk p 34 ([(pt e.tb 0), (pt e.sa 0), (pt e.sb 0), (lV e.wA T.wire.length e.wc), (lV e.A0 T.sd0.length e.c0), (lV e.A1 T.sd1.length e.c1), (lV e.A2 T.cm0.length e.c2), (lV e.A3 T.cm1.length e.c3), (iV .i64 ((T.k0 : Int))), (iV .i64 ((T.k1 : Int)))]), rTab e.F e.tb T.s, rS e.Ga e.tb e.sa L T.a, rS e.Gb e.tb e.sb L T.b, rOV 38 6 ((lV e.wA T.wire.length e.wc)) e.wx, rOV 26 1 ((lV e.A0 T.sd0.length e.c0)) e.x0, rOV 26 1 ((lV e.A1 T.sd1.length e.c1)) e.x1, rOV 26 1 ((lV e.A2 T.cm0.length e.c2)) e.x2, rOV 26 1 ((lV e.A3 T.cm1.length e.c3)) e.x3] -> K19 aJ wJ20 := by
    rintro fJ AJ cJ LJ gJ hs1J hs2J hbxJ hmfJ hsJ hxJ xJ20 _ wJ20 rfl hJh20
    refine seq_n hK19 (wp_seq_k fun K21 hK21 => reg_lit ?_)
    refine wq_p 1 [(11, (iV .i64 0))] ?_
    refine wl_end rfl (seq_n hK21 (wp_seq_k fun K22 hK22 => wp_seq_k fun K23 hK23 => ?_))
    by_cases b24 : fJ.dst = sBob
    ·
     refine reg_lit ?_
     refine wq_p 1 [(136, (pt gJ 1))] (wq_v (some 137) (sV fJ.dst) (eL (hJh20.at_ 0 rfl) 9 (.tmp 136) 1 _) (wq_v (some 138) (bV true) (eqI (bV ((fJ.dst).toList == (⟨#[98, 111, 98]⟩ : ByteArray).toList)) (congrArg bV (by rw [b24]; exact beq_iff_eq.2 rfl))) ?_))
     refine wl_end rfl (seq_n hK23 (cT (reg_lit ?_)))
     refine wq_p 1 [(11, (iV .i64 1))] ?_
     refine wl_end rfl (seq_n hK22 (wp_seq_k fun K25 hK25 => ?_))
     obtain ⟨r, hsd, htd⟩ := hI.swap.inv.said (show T.s.keys.length < 100000 by omega) fJ (by omega) (by omega)
     obtain ⟨s', S', m, g, er, hr⟩ := take_ex T.s T.b fJ r
     obtain ⟨hT1, hTk, hC1⟩ := hI.swap.take hr htd (by omega)
     have hC2 := hC1 hC.swap
     have hJ26 : ∀ (FK : Nat -> Prop), ∀ (GK : Nat -> Prop), ∀ (LK : List (Value × Bytes)), ∀ (AcK : Option Addr), ∀ (ccK : Nat), ∀ (u0 : Value), ∀ (u1 : Value), ∀ (u2 : Value), ∀ (u3 : Value), ∀ (u4 : Value), ∀ (u5 : Value), ∀ (gK : Nat), ((lV AcK (m.getD []).length ccK, m.getD []) ∈ LK) -> (FrmO LK g [u0, u1, u2, u3, u4, u5]) -> (∀ p, p ∈ LJ -> p ∈ LK) -> (LExt G w L LK) -> ∀ (xJ26 : Nat -> Value) (aJ : Act) (wJ26 : World), aJ = patch xJ26 184 [(0, (pt p 0)), (1, (aV ([(iV .i64 6), (iV .i64 z.at_), (iV .i64 z.turn), (lV A z.body.length c)]).toArray)), (3, (pt g2 0)), (4, (bV false)), (5, (iV .i64 0)), (10, (pt gJ 0)), (11, (iV .i64 1)), (12, (pt gK 0)), (13, (iV .i64 er)), (18, (iV .i64 6)), (19, (bV false)), (64, (bV false)), (82, (bV false)), (110, (bV true)), (117, (bV false)), (138, (bV true))] -> Hp G w wJ26 [rF LK, rF LJ, rSB ((lV A z.body.length c)) z.body, rF L] [rBlk gK 42 ([(lV AcK ((m.getD []).length) ccK), (bV m.isSome), u0, u1, u2, u3, u4, u5, (bV g.isSome)]), rBlk gJ 38 ([(sV fJ.src), (sV fJ.dst), (iV .i64 fJ.sid), (iV .i64 fJ.epoch), (iV .i64 fJ.seq), (lV AJ fJ.box.length cJ)]), rBlk g2 50 ([(iV .i64 6), (iV .i64 z.at_), (iV .i64 z.turn), (lV A z.body.length c)]), rBlk p 34 ([(pt e.tb 0), (pt e.sa 0), (pt e.sb 0), (lV e.wA T.wire.length e.wc), (lV e.A0 T.sd0.length e.c0), (lV e.A1 T.sd1.length e.c1), (lV e.A2 T.cm0.length e.c2), (lV e.A3 T.cm1.length e.c3), (iV .i64 ((T.k0 : Int))), (iV .i64 ((T.k1 : Int)))]), rTab FK e.tb s', rS e.Ga e.tb e.sa L T.a, rS GK e.tb e.sb LK S', rOV 38 6 ((lV e.wA T.wire.length e.wc)) e.wx, rOV 26 1 ((lV e.A0 T.sd0.length e.c0)) e.x0, rOV 26 1 ((lV e.A1 T.sd1.length e.c1)) e.x1, rOV 26 1 ((lV e.A2 T.cm0.length e.c2)) e.x2, rOV 26 1 ((lV e.A3 T.cm1.length e.c3)) e.x3] -> K25 aJ wJ26 := by
       rintro FK GK LK AcK ccK u0 u1 u2 u3 u4 u5 gK hmcK hgoK hsK hxK xJ26 _ wJ26 rfl hJh26
       refine seq_n hK25 (wp_seq_k fun K27 hK27 => wp_seq_k fun K28 hK28 => reg_lit ?_)
       refine wq_p 1 [(147, (pt gK 8))] (wq_v (some 148) (bV g.isSome) (eL (hJh26.at_ 0 rfl) 4 (.tmp 147) 8 _) ?_)
       refine wl_end rfl (seq_n hK28 ?_)
       have hJ29 : ∀ (AW : Option Addr), ∀ (cW : Nat), ∀ (xw : List (List Value)), ∀ (wv : List Frm), (RowOk (FrmAt LK) xw wv) -> (wv = T.wire ++ g.toList) -> ∀ (xJ29 : Nat -> Value) (aJ : Act) (wJ29 : World), aJ = patch xJ29 184 [(0, (pt p 0)), (1, (aV ([(iV .i64 6), (iV .i64 z.at_), (iV .i64 z.turn), (lV A z.body.length c)]).toArray)), (3, (pt g2 0)), (4, (bV false)), (5, (iV .i64 0)), (10, (pt gJ 0)), (11, (iV .i64 1)), (12, (pt gK 0)), (13, (iV .i64 er)), (18, (iV .i64 6)), (19, (bV false)), (64, (bV false)), (82, (bV false)), (110, (bV true)), (117, (bV false)), (138, (bV true)), (148, (bV g.isSome))] -> Hp G w wJ29 [rF LK, rF LJ, rSB ((lV A z.body.length c)) z.body, rF L] [rBlk gK 42 ([(lV AcK ((m.getD []).length) ccK), (bV m.isSome), u0, u1, u2, u3, u4, u5, (bV g.isSome)]), rBlk gJ 38 ([(sV fJ.src), (sV fJ.dst), (iV .i64 fJ.sid), (iV .i64 fJ.epoch), (iV .i64 fJ.seq), (lV AJ fJ.box.length cJ)]), rBlk g2 50 ([(iV .i64 6), (iV .i64 z.at_), (iV .i64 z.turn), (lV A z.body.length c)]), rBlk p 34 ([(pt e.tb 0), (pt e.sa 0), (pt e.sb 0), (lV AW wv.length cW), (lV e.A0 T.sd0.length e.c0), (lV e.A1 T.sd1.length e.c1), (lV e.A2 T.cm0.length e.c2), (lV e.A3 T.cm1.length e.c3), (iV .i64 ((T.k0 : Int))), (iV .i64 ((T.k1 : Int)))]), rTab FK e.tb s', rS e.Ga e.tb e.sa L T.a, rS GK e.tb e.sb LK S', rOV 38 6 ((lV AW wv.length cW)) xw, rOV 26 1 ((lV e.A0 T.sd0.length e.c0)) e.x0, rOV 26 1 ((lV e.A1 T.sd1.length e.c1)) e.x1, rOV 26 1 ((lV e.A2 T.cm0.length e.c2)) e.x2, rOV 26 1 ((lV e.A3 T.cm1.length e.c3)) e.x3] -> K27 aJ wJ29 := by
         rintro AW cW xw wv hwv hwm xJ29 _ wJ29 rfl hJh29
         refine seq_n hK27 (wp_seq_k fun K30 hK30 => wp_seq_k fun K31 hK31 => reg_lit ?_)
         refine wq_p 1 [(160, (pt gK 1))] (wq_v (some 161) (bV m.isSome) (eL (hJh29.at_ 0 rfl) 4 (.tmp 160) 1 _) ?_)
         refine wl_end rfl (seq_n hK31 ?_)
         have hJ32 : ∀ (AV : Option Addr), ∀ (cV : Nat), ∀ (xv : List (List Value)), ∀ (cmv : List Bytes), (RowOk (BAt LK) xv cmv) -> (cmv = T.cm1 ++ m.toList) -> ∀ (xJ32 : Nat -> Value) (aJ : Act) (wJ32 : World), aJ = patch xJ32 184 [(0, (pt p 0)), (1, (aV ([(iV .i64 6), (iV .i64 z.at_), (iV .i64 z.turn), (lV A z.body.length c)]).toArray)), (3, (pt g2 0)), (4, (bV false)), (5, (iV .i64 0)), (10, (pt gJ 0)), (11, (iV .i64 1)), (12, (pt gK 0)), (13, (iV .i64 er)), (18, (iV .i64 6)), (19, (bV false)), (64, (bV false)), (82, (bV false)), (110, (bV true)), (117, (bV false)), (138, (bV true)), (148, (bV g.isSome)), (161, (bV m.isSome))] -> Hp G w wJ32 [rF LK, rF LJ, rSB ((lV A z.body.length c)) z.body, rF L] [rBlk gK 42 ([(lV AcK ((m.getD []).length) ccK), (bV m.isSome), u0, u1, u2, u3, u4, u5, (bV g.isSome)]), rBlk gJ 38 ([(sV fJ.src), (sV fJ.dst), (iV .i64 fJ.sid), (iV .i64 fJ.epoch), (iV .i64 fJ.seq), (lV AJ fJ.box.length cJ)]), rBlk g2 50 ([(iV .i64 6), (iV .i64 z.at_), (iV .i64 z.turn), (lV A z.body.length c)]), rBlk p 34 ([(pt e.tb 0), (pt e.sa 0), (pt e.sb 0), (lV AW wv.length cW), (lV e.A0 T.sd0.length e.c0), (lV e.A1 T.sd1.length e.c1), (lV e.A2 T.cm0.length e.c2), (lV AV cmv.length cV), (iV .i64 ((T.k0 : Int))), (iV .i64 ((T.k1 : Int)))]), rTab FK e.tb s', rS e.Ga e.tb e.sa L T.a, rS GK e.tb e.sb LK S', rOV 38 6 ((lV AW wv.length cW)) xw, rOV 26 1 ((lV e.A0 T.sd0.length e.c0)) e.x0, rOV 26 1 ((lV e.A1 T.sd1.length e.c1)) e.x1, rOV 26 1 ((lV e.A2 T.cm0.length e.c2)) e.x2, rOV 26 1 ((lV AV cmv.length cV)) xv] -> K30 aJ wJ32 := by
           rintro AV cV xv cmv hcv hcm xJ32 _ wJ32 rfl hJh32
           rw [← (show wv = T.swap.wire ++ g.toList from hwm), ← (show cmv = T.swap.cm0 ++ m.toList from hcm)] at hT1 hC2
           refine seq_n hK30 (wp_seq_k fun K33 hK33 => ?_)
           rcases m with _ | bd
           ·
            refine reg_lit ?_
            refine wq_p 1 [(177, (pt gK 1))] (wq_v (some 178) (bV false) (eL (hJh32.at_ 0 rfl) 4 (.tmp 177) 1 _) (wq_p 6 [(4, (bV true)), (183, (bV true)), (182, undef), (181, undef), (180, (bV true)), (179, (bV true))] ?_))
            refine wl_end rfl (seq_n hK33 (wp_ret (blk_r (seq_r ?_))))
            refine post_1 rfl (by kernel_rfl) (rtm (bV true)) ?_
            have hq35 := hJh32.monoS 5 rfl (fun p hp => (hsK _ (hsJ _ hp)))
            have h36 := (show Hp _ _ _ _ (lT p LK (TEnv.mk e.tb e.sa e.sb FK e.Ga GK AW cW xw e.A0 e.c0 e.x0 e.A1 e.c1 e.x1 e.A2 e.c2 e.x2 AV cV xv) { T with s := s', b := S', wire := wv, cm1 := cmv } ++ []) from hq35.sel [3, 4, 5, 6, 7, 8, 9, 10, 11] [0] rfl rfl rfl).closeT ⟨(hwv.mono (fun _ _ h => h.mono (fun p hp => hp))), (hT.x0.mono (fun _ _ h => h.mono (fun p hp => (hsK _ (hsJ _ hp))))), (hT.x1.mono (fun _ _ h => h.mono (fun p hp => (hsK _ (hsJ _ hp))))), (hT.x2.mono (fun _ _ h => h.mono (fun p hp => (hsK _ (hsJ _ hp))))), (hcv.mono (fun _ _ h => h.mono (fun p hp => hp))), (hsK _ (hsJ _ hT.nil))⟩
            exact ⟨rfl, _, _, _, Wa, Wb, (hT1).swap, (hC2).swap, hxK, h36⟩
           ·
            obtain rfl : er = 0 := hTk.err rfl
            refine reg_lit ?_
            refine wq_p 1 [(177, (pt gK 1))] (wq_v (some 178) (bV true) (eL (hJh32.at_ 0 rfl) 4 (.tmp 177) 1 _) (wq_p 6 [(4, (bV true)), (183, (bV true)), (182, (bV true)), (181, (iV .i64 0)), (180, (bV false)), (179, (bV false))] ?_))
            refine wl_end rfl (seq_n hK33 (wp_ret (blk_r (seq_r ?_))))
            refine post_1 rfl (by kernel_rfl) (rtm (bV true)) ?_
            have hq37 := hJh32.monoS 5 rfl (fun p hp => (hsK _ (hsJ _ hp)))
            have h38 := (show Hp _ _ _ _ (lT p LK (TEnv.mk e.tb e.sa e.sb FK e.Ga GK AW cW xw e.A0 e.c0 e.x0 e.A1 e.c1 e.x1 e.A2 e.c2 e.x2 AV cV xv) { T with s := s', b := S', wire := wv, cm1 := cmv } ++ []) from hq37.sel [3, 4, 5, 6, 7, 8, 9, 10, 11] [0] rfl rfl rfl).closeT ⟨(hwv.mono (fun _ _ h => h.mono (fun p hp => hp))), (hT.x0.mono (fun _ _ h => h.mono (fun p hp => (hsK _ (hsJ _ hp))))), (hT.x1.mono (fun _ _ h => h.mono (fun p hp => (hsK _ (hsJ _ hp))))), (hT.x2.mono (fun _ _ h => h.mono (fun p hp => (hsK _ (hsJ _ hp))))), (hcv.mono (fun _ _ h => h.mono (fun p hp => hp))), (hsK _ (hsJ _ hT.nil))⟩
            exact ⟨rfl, _, _, _, Wa, Wb, (hT1).swap, (hC2).swap, hxK, h38⟩
         refine wp_cond_split (t := m.isSome) (by kernel_rfl) (fun b39 => ?_) (fun b39 => ?_)
         ·
          obtain ⟨bd, rfl⟩ := Option.isSome_iff_exists.1 b39
          refine pR_go hJh29 16 (fun W => (rBlk gK 42 ([(lV AcK (((some bd).getD []).length) ccK), (bV ((some bd).isSome)), u0, u1, u2, u3, u4, u5, (bV g.isSome)])).Φ W /\ True) [(163, [0], 0), (164, [11], 0), (165, [0], 0), (166, [11], 0), (167, [164], 4), (168, [166], 16), (169, [167, 165], 40), (170, [168], 64), (171, [12], 0), (172, [170], 256), (173, [171], 512), (174, [169, 172], 1152), (175, [162], 1), (176, [174], 4096), (177, [175, 163], 12287), (0, [176, 173], 20479)] rfl (fun _ d _ _ _ h => by cases d <;> exact h) ?_
          intro hs40 w40 h40
          refine pR_p 7 [0, 1, 2, 3, 4, 5, 8, 12, 13] [(175, (pt p 6)), (174, (pt p 0)), (170, (pt gK 0)), (167, (pt p 6)), (166, (pt p 0)), (165, (iV .i64 1)), (164, (pt p 0)), (163, (iV .i64 1)), (162, (pt p 0))] 12607 hs40 ⟨h40.at_ 0 rfl, trivial⟩ ?_
          refine pR_v 6 (some 168) (pt p 7) 12671 rfl hs40 ⟨h40.at_ 0 rfl, trivial⟩ (fun W hW => eIa 31 (.tmp 167) (.tmp 165) .i64 p 6 1 2 22 7) ?_
          refine pR_v 9 (some 171) (lV AcK (((some bd).getD []).length) ccK) 13183 rfl hs40 ⟨h40.at_ 0 rfl, trivial⟩ (fun W hW => eL hW.1 26 (.tmp 170) 0 _) ?_
          refine pR_or 7 10 hs40 ?_ ?_
          ·
           refine pR_op 7 (some 169) 13311 rfl (OpTo.run (lV e.A3 T.cm1.length e.c3) (eL (h40.at_ 3 rfl) 22 (.tmp 168) 7 (lV e.A3 T.cm1.length e.c3)) (R := fun v w => v = (lV e.A3 T.cm1.length e.c3) /\ w40 = w) ⟨rfl, rfl⟩) ?_
           rintro _ _ ⟨rfl, rfl⟩
           refine ⟨fun _ => ⟨h40.at_ 0 rfl, trivial⟩, ?_⟩
           refine pR_to 10 (some 172) 14335 rfl hs40 (x_bs h40 26 ([(lV AcK (((some bd).getD []).length) ccK)]) 1 (by kernel_rfl)) ?_
           rintro _ w41 ⟨g41, rfl, h41⟩
           refine ⟨fun _ => ⟨h41.at_ 1 rfl, trivial⟩, ?_⟩
           refine pR_to 11 (some 173) 16383 rfl hs40 (xPu h41 12 0 rfl rfl (.tmp 169) (.tmp 172) 22 24 (lV none 0 0) (by omega) (by unfold maxLen; omega) (e.x3 ++ [[(lV AcK (((some bd).getD []).length) ccK)]]) ((T.cm1 ++ [bd]).length) (hyn := (by rw [List.length_append, List.length_append, hT.x3.1]; rfl))) ?_
           rintro _ w42 ⟨A42, c42, rfl, h42⟩
           refine ⟨fun _ => ⟨h42.at_ 1 rfl, trivial⟩, ?_⟩
           refine pR_v 14 (some 176) (pt p 7) 32767 rfl hs40 ⟨h42.at_ 1 rfl, trivial⟩ (fun W hW => eIa 31 (.tmp 175) (.tmp 163) .i64 p 6 1 2 22 7) ?_
           refine pR_to 15 none 65535 rfl hs40 (xSt h42 4 22 (.tmp 176) (.tmp 173) 7 (lV A42 ((T.cm1 ++ [bd]).length) c42) ([(pt e.tb 0), (pt e.sa 0), (pt e.sb 0), (lV AW wv.length cW), (lV e.A0 T.sd0.length e.c0), (lV e.A1 T.sd1.length e.c1), (lV e.A2 T.cm0.length e.c2), (lV A42 ((T.cm1 ++ [bd]).length) c42), (iV .i64 ((T.k0 : Int))), (iV .i64 ((T.k1 : Int)))])) ?_
           rintro _ w43 h43
           refine ⟨fun _ => ⟨h43.at_ 1 rfl, trivial⟩, ?_⟩
           refine pR_done hs40 ?_ _
           exact hJ32 A42 c42 (e.x3 ++ [[(lV AcK (((some bd).getD []).length) ccK)]]) (T.cm1 ++ [bd]) (((hT.x3.mono (fun _ _ h => h.mono (fun p hp => (hsK _ (hsJ _ hp))))).push ⟨AcK, ccK, rfl, hmcK⟩)) rfl _ _ _ (pEq 184) (h43.sel [1, 2, 3, 4, 5, 6, 7, 8, 9, 10, 11, 12] [0, 1, 2, 3] (by kernel_rfl) rfl rfl)
          ·
           refine pR_op 10 (some 172) 14207 rfl (x_bs h40 26 ([(lV AcK (((some bd).getD []).length) ccK)]) 1 (by kernel_rfl)) ?_
           rintro _ w44 ⟨g44, rfl, h44⟩
           refine ⟨fun _ => ⟨h44.at_ 1 rfl, trivial⟩, ?_⟩
           refine pR_to 7 (some 169) 14335 rfl hs40 (OpTo.run (lV e.A3 T.cm1.length e.c3) (eL (h44.at_ 4 rfl) 22 (.tmp 168) 7 (lV e.A3 T.cm1.length e.c3)) (R := fun v w => v = (lV e.A3 T.cm1.length e.c3) /\ w44 = w) ⟨rfl, rfl⟩) ?_
           rintro _ _ ⟨rfl, rfl⟩
           refine ⟨fun _ => ⟨h44.at_ 1 rfl, trivial⟩, ?_⟩
           refine pR_to 11 (some 173) 16383 rfl hs40 (xPu h44 12 0 rfl rfl (.tmp 169) (.tmp 172) 22 24 (lV none 0 0) (by omega) (by unfold maxLen; omega) (e.x3 ++ [[(lV AcK (((some bd).getD []).length) ccK)]]) ((T.cm1 ++ [bd]).length) (hyn := (by rw [List.length_append, List.length_append, hT.x3.1]; rfl))) ?_
           rintro _ w45 ⟨A45, c45, rfl, h45⟩
           refine ⟨fun _ => ⟨h45.at_ 1 rfl, trivial⟩, ?_⟩
           refine pR_v 14 (some 176) (pt p 7) 32767 rfl hs40 ⟨h45.at_ 1 rfl, trivial⟩ (fun W hW => eIa 31 (.tmp 175) (.tmp 163) .i64 p 6 1 2 22 7) ?_
           refine pR_to 15 none 65535 rfl hs40 (xSt h45 4 22 (.tmp 176) (.tmp 173) 7 (lV A45 ((T.cm1 ++ [bd]).length) c45) ([(pt e.tb 0), (pt e.sa 0), (pt e.sb 0), (lV AW wv.length cW), (lV e.A0 T.sd0.length e.c0), (lV e.A1 T.sd1.length e.c1), (lV e.A2 T.cm0.length e.c2), (lV A45 ((T.cm1 ++ [bd]).length) c45), (iV .i64 ((T.k0 : Int))), (iV .i64 ((T.k1 : Int)))])) ?_
           rintro _ w46 h46
           refine ⟨fun _ => ⟨h46.at_ 1 rfl, trivial⟩, ?_⟩
           refine pR_done hs40 ?_ _
           exact hJ32 A45 c45 (e.x3 ++ [[(lV AcK (((some bd).getD []).length) ccK)]]) (T.cm1 ++ [bd]) (((hT.x3.mono (fun _ _ h => h.mono (fun p hp => (hsK _ (hsJ _ hp))))).push ⟨AcK, ccK, rfl, hmcK⟩)) rfl _ _ _ (pEq 184) (h46.sel [1, 2, 3, 4, 5, 6, 7, 8, 9, 10, 11, 12] [0, 1, 2, 3] (by kernel_rfl) rfl rfl)
         ·
          obtain rfl : m = none := by simpa using b39
          refine wp_skip ?_
          exact hJ32 e.A3 e.c3 e.x3 T.cm1 ((hT.x3.mono (fun _ _ h => h.mono (fun p hp => (hsK _ (hsJ _ hp)))))) ((by simp)) _ _ _ (pEq 184) (hJh29.sel [0, 1, 2, 3, 4, 5, 6, 7, 8, 9, 10, 11] [0, 1, 2, 3] (by kernel_rfl) rfl rfl)
       refine wp_cond_split (t := g.isSome) (by kernel_rfl) (fun b47 => ?_) (fun b47 => ?_)
       ·
        obtain ⟨gg, rfl⟩ := Option.isSome_iff_exists.1 b47
        obtain ⟨Ag, cg, hv, hmg⟩ := hgoK
        obtain ⟨rfl, rfl, rfl, rfl, rfl, rfl⟩ := six_inj hv
        refine pR_go hJh26 9 (fun W => (rBlk gK 42 ([(lV AcK ((m.getD []).length) ccK), (bV m.isSome), (sV gg.src), (sV gg.dst), (iV .i64 gg.sid), (iV .i64 gg.epoch), (iV .i64 gg.seq), (lV Ag gg.box.length cg), (bV ((some gg).isSome))])).Φ W /\ True) [(150, [0], 0), (151, [0], 0), (152, [150], 2), (153, [151], 4), (154, [152], 8), (155, [12], 0), (156, [154], 32), (157, [155], 64), (158, [153, 156], 144), (159, [149], 511), (160, [158], 1023), (0, [159, 157], 1535)] rfl (fun _ d _ _ _ h => by cases d <;> exact h) ?_
        intro hs48 w48 h48
        refine pR_p 7 [0, 1, 2, 3, 5] [(154, (pt gK 2)), (152, (pt p 3)), (151, (pt p 0)), (150, (pt p 0)), (149, (pt p 0))] 47 hs48 ⟨h48.at_ 0 rfl, trivial⟩ ?_
        refine pR_v 6 (some 155) (aV ([(sV gg.src), (sV gg.dst), (iV .i64 gg.sid), (iV .i64 gg.epoch), (iV .i64 gg.seq), (lV Ag gg.box.length cg)]).toArray) 111 rfl hs48 ⟨h48.at_ 0 rfl, trivial⟩ (fun W hW => eLs hW.1 38 (.tmp 154) 2 ([(sV gg.src), (sV gg.dst), (iV .i64 gg.sid), (iV .i64 gg.epoch), (iV .i64 gg.seq), (lV Ag gg.box.length cg)])) ?_
        refine pR_or 4 7 hs48 ?_ ?_
        ·
         refine pR_op 4 (some 153) 127 rfl (OpTo.run (lV e.wA T.wire.length e.wc) (eL (h48.at_ 3 rfl) 30 (.tmp 152) 3 (lV e.wA T.wire.length e.wc)) (R := fun v w => v = (lV e.wA T.wire.length e.wc) /\ w48 = w) ⟨rfl, rfl⟩) ?_
         rintro _ _ ⟨rfl, rfl⟩
         refine ⟨fun _ => ⟨h48.at_ 0 rfl, trivial⟩, ?_⟩
         refine pR_to 7 (some 156) 255 rfl hs48 (x_bs h48 38 ([(sV gg.src), (sV gg.dst), (iV .i64 gg.sid), (iV .i64 gg.epoch), (iV .i64 gg.seq), (lV Ag gg.box.length cg)]) 1 (by kernel_rfl)) ?_
         rintro _ w49 ⟨g49, rfl, h49⟩
         refine ⟨fun _ => ⟨h49.at_ 1 rfl, trivial⟩, ?_⟩
         refine pR_to 8 (some 157) 511 rfl hs48 (xPu h49 8 0 rfl rfl (.tmp 153) (.tmp 156) 30 80 (aV ([(sV ByteArray.empty), (sV ByteArray.empty), (iV .i64 0), (iV .i64 0), (iV .i64 0), (lV none 0 0)]).toArray) (by omega) (by unfold maxLen; omega) (e.wx ++ [[(sV gg.src), (sV gg.dst), (iV .i64 gg.sid), (iV .i64 gg.epoch), (iV .i64 gg.seq), (lV Ag gg.box.length cg)]]) ((T.wire ++ [gg]).length) (hyn := (by rw [List.length_append, List.length_append, hT.w.1]; rfl))) ?_
         rintro _ w50 ⟨A50, c50, rfl, h50⟩
         refine ⟨fun _ => ⟨h50.at_ 1 rfl, trivial⟩, ?_⟩
         refine pR_to 9 (some 158) 1023 rfl hs48 (OpTo.run (pt p 0) (pureOp_run (by kernel_rfl) _) (R := fun v w => v = (pt p 0) /\ w50 = w) ⟨rfl, rfl⟩) ?_
         rintro _ _ ⟨rfl, rfl⟩
         refine ⟨fun h => absurd h (by decide), ?_⟩
         refine pR_to 10 (some 159) 2047 rfl hs48 (OpTo.run (pt p 3) (pureOp_run (by kernel_rfl) _) (R := fun v w => v = (pt p 3) /\ w50 = w) ⟨rfl, rfl⟩) ?_
         rintro _ _ ⟨rfl, rfl⟩
         refine ⟨fun h => absurd h (by decide), ?_⟩
         refine pR_to 11 none 4095 rfl hs48 (xSt h50 4 30 (.tmp 159) (.tmp 157) 3 (lV A50 ((T.wire ++ [gg]).length) c50) ([(pt e.tb 0), (pt e.sa 0), (pt e.sb 0), (lV A50 ((T.wire ++ [gg]).length) c50), (lV e.A0 T.sd0.length e.c0), (lV e.A1 T.sd1.length e.c1), (lV e.A2 T.cm0.length e.c2), (lV e.A3 T.cm1.length e.c3), (iV .i64 ((T.k0 : Int))), (iV .i64 ((T.k1 : Int)))])) ?_
         rintro _ w51 h51
         refine ⟨fun h => absurd h (by decide), ?_⟩
         refine pR_done hs48 ?_ _
         exact hJ29 A50 c50 (e.wx ++ [[(sV gg.src), (sV gg.dst), (iV .i64 gg.sid), (iV .i64 gg.epoch), (iV .i64 gg.seq), (lV Ag gg.box.length cg)]]) (T.wire ++ [gg]) (((hT.w.mono (fun _ _ h => h.mono (fun p hp => (hsK _ (hsJ _ hp))))).push ⟨Ag, cg, rfl, hmg⟩)) rfl _ _ _ (pEq 184) (h51.sel [1, 2, 3, 4, 5, 6, 7, 8, 9, 10, 11, 12] [0, 1, 2, 3] (by kernel_rfl) rfl rfl)
        ·
         refine pR_op 7 (some 156) 239 rfl (x_bs h48 38 ([(sV gg.src), (sV gg.dst), (iV .i64 gg.sid), (iV .i64 gg.epoch), (iV .i64 gg.seq), (lV Ag gg.box.length cg)]) 1 (by kernel_rfl)) ?_
         rintro _ w52 ⟨g52, rfl, h52⟩
         refine ⟨fun _ => ⟨h52.at_ 1 rfl, trivial⟩, ?_⟩
         refine pR_to 4 (some 153) 255 rfl hs48 (OpTo.run (lV e.wA T.wire.length e.wc) (eL (h52.at_ 4 rfl) 30 (.tmp 152) 3 (lV e.wA T.wire.length e.wc)) (R := fun v w => v = (lV e.wA T.wire.length e.wc) /\ w52 = w) ⟨rfl, rfl⟩) ?_
         rintro _ _ ⟨rfl, rfl⟩
         refine ⟨fun _ => ⟨h52.at_ 1 rfl, trivial⟩, ?_⟩
         refine pR_to 8 (some 157) 511 rfl hs48 (xPu h52 8 0 rfl rfl (.tmp 153) (.tmp 156) 30 80 (aV ([(sV ByteArray.empty), (sV ByteArray.empty), (iV .i64 0), (iV .i64 0), (iV .i64 0), (lV none 0 0)]).toArray) (by omega) (by unfold maxLen; omega) (e.wx ++ [[(sV gg.src), (sV gg.dst), (iV .i64 gg.sid), (iV .i64 gg.epoch), (iV .i64 gg.seq), (lV Ag gg.box.length cg)]]) ((T.wire ++ [gg]).length) (hyn := (by rw [List.length_append, List.length_append, hT.w.1]; rfl))) ?_
         rintro _ w53 ⟨A53, c53, rfl, h53⟩
         refine ⟨fun _ => ⟨h53.at_ 1 rfl, trivial⟩, ?_⟩
         refine pR_to 9 (some 158) 1023 rfl hs48 (OpTo.run (pt p 0) (pureOp_run (by kernel_rfl) _) (R := fun v w => v = (pt p 0) /\ w53 = w) ⟨rfl, rfl⟩) ?_
         rintro _ _ ⟨rfl, rfl⟩
         refine ⟨fun h => absurd h (by decide), ?_⟩
         refine pR_to 10 (some 159) 2047 rfl hs48 (OpTo.run (pt p 3) (pureOp_run (by kernel_rfl) _) (R := fun v w => v = (pt p 3) /\ w53 = w) ⟨rfl, rfl⟩) ?_
         rintro _ _ ⟨rfl, rfl⟩
         refine ⟨fun h => absurd h (by decide), ?_⟩
         refine pR_to 11 none 4095 rfl hs48 (xSt h53 4 30 (.tmp 159) (.tmp 157) 3 (lV A53 ((T.wire ++ [gg]).length) c53) ([(pt e.tb 0), (pt e.sa 0), (pt e.sb 0), (lV A53 ((T.wire ++ [gg]).length) c53), (lV e.A0 T.sd0.length e.c0), (lV e.A1 T.sd1.length e.c1), (lV e.A2 T.cm0.length e.c2), (lV e.A3 T.cm1.length e.c3), (iV .i64 ((T.k0 : Int))), (iV .i64 ((T.k1 : Int)))])) ?_
         rintro _ w54 h54
         refine ⟨fun h => absurd h (by decide), ?_⟩
         refine pR_done hs48 ?_ _
         exact hJ29 A53 c53 (e.wx ++ [[(sV gg.src), (sV gg.dst), (iV .i64 gg.sid), (iV .i64 gg.epoch), (iV .i64 gg.seq), (lV Ag gg.box.length cg)]]) (T.wire ++ [gg]) (((hT.w.mono (fun _ _ h => h.mono (fun p hp => (hsK _ (hsJ _ hp))))).push ⟨Ag, cg, rfl, hmg⟩)) rfl _ _ _ (pEq 184) (h54.sel [1, 2, 3, 4, 5, 6, 7, 8, 9, 10, 11, 12] [0, 1, 2, 3] (by kernel_rfl) rfl rfl)
       ·
        obtain rfl : g = none := by simpa using b47
        refine wp_skip ?_
        exact hJ29 e.wA e.wc e.wx T.wire ((hT.w.mono (fun _ _ h => h.mono (fun p hp => (hsK _ (hsJ _ hp)))))) ((by simp)) _ _ _ (pEq 184) (hJh26.sel [0, 1, 2, 3, 4, 5, 6, 7, 8, 9, 10, 11] [0, 1, 2, 3] (by kernel_rfl) rfl rfl)
     refine pR_go hJh20 10 (fun W => (rBlk gJ 38 ([(sV fJ.src), (sV fJ.dst), (iV .i64 fJ.sid), (iV .i64 fJ.epoch), (iV .i64 fJ.seq), (lV AJ fJ.box.length cJ)])).Φ W /\ True) [(141, [0], 0), (142, [11], 0), (143, [140, 141], 3), (144, [10], 0), (145, [142, 143], 12), (140, [144], 16), (146, [139], 32), (147, [139], 32), (13, [], 0), (0, [12, 145], 383), (14, [146], 1023)] rfl (fun _ d _ _ _ h => by cases d <;> exact h) ?_
     intro hs55 w55 h55
     refine pR_p 9 [0, 1] [(141, (iV .i64 1)), (140, (pt p 0))] 3 hs55 ⟨h55.at_ 0 rfl, trivial⟩ ?_
     refine pR_v 3 (some 143) (aV ([(sV fJ.src), (sV fJ.dst), (iV .i64 fJ.sid), (iV .i64 fJ.epoch), (iV .i64 fJ.seq), (lV AJ fJ.box.length cJ)]).toArray) 11 rfl hs55 ⟨h55.at_ 0 rfl, trivial⟩ (fun W hW => eLs hW.1 38 (.tmp 10) 0 ([(sV fJ.src), (sV fJ.dst), (iV .i64 fJ.sid), (iV .i64 fJ.epoch), (iV .i64 fJ.seq), (lV AJ fJ.box.length cJ)])) ?_
     refine pR_or 2 8 hs55 ?_ ?_
     ·
      refine pR_op 2 (some 142) 15 rfl (x_dp h55 18 [(pt p 0), (iV .i64 1)] (by kernel_rfl) (tEnd_1 (h55.at_ 2 rfl))) ?_
      rintro _ w56 ⟨rfl, h56⟩
      refine ⟨fun _ => ⟨h56.at_ 0 rfl, trivial⟩, ?_⟩
      refine pR_or 4 8 hs55 ?_ ?_
      ·
       have hq57 := h56.monoS 5 rfl (fun p hp => (hsJ _ hp))
       refine pR_op 4 (some 144) 31 rfl (x_two hq57 3 5 rfl rfl (by kernel_rfl) 0 rfl 12 [(pt e.sb 0), (aV ([(sV fJ.src), (sV fJ.dst), (iV .i64 fJ.sid), (iV .i64 fJ.epoch), (iV .i64 fJ.seq), (lV AJ fJ.box.length cJ)]).toArray)] (by kernel_rfl) ((take_of (hq57.at_ 3 rfl) (hq57.at_ 5 rfl) (hq57.rd 0 rfl) (hq57.dis 3 5 _ _ rfl rfl (by decide)) (hq57.rdis 0 3 _ _ rfl rfl) (hq57.rdis 0 5 _ _ rfl rfl) hr AJ cJ hmfJ (hsJ _ hT.nil) hsd (by omega) (by omega) hI.bodies (by have h1 : T.b.sent <= 60 := hsb.sent; omega) (by have h1 : T.b.got <= 60 := hsb.got; omega) (by have h1 : T.b.ei <= 60 := hsb.ei; omega) hsb.fq).mono fun _ _ hq => take6 hq)) ?_
       rintro _ w58 ⟨F58, G58, L58, ⟨Ac58, cc58, v0, v1, v2, v3, v4, v5, rfl, hmc58, hgo58⟩, hs58, hx58, h58⟩
       refine ⟨fun _ => ⟨h58.at_ 0 rfl, trivial⟩, ?_⟩
       refine pR_p 3 [5, 6, 7] [(146, (iV .i64 er)), (145, (aV ([(lV Ac58 ((m.getD []).length) cc58), (bV m.isSome), v0, v1, v2, v3, v4, v5, (bV g.isSome)]).toArray)), (139, (Value.tuple #[(aV ([(lV Ac58 ((m.getD []).length) cc58), (bV m.isSome), v0, v1, v2, v3, v4, v5, (bV g.isSome)]).toArray), (iV .i64 er)]))] 255 hs55 ⟨h58.at_ 0 rfl, trivial⟩ ?_
       refine pR_to 8 (some 12) 511 rfl hs55 (xN h58 42 ([(lV none 0 0), (bV false), (sV ByteArray.empty), (sV ByteArray.empty), (iV .i64 0), (iV .i64 0), (iV .i64 0), (lV none 0 0), (bV false)])) ?_
       rintro _ w59 ⟨g59, rfl, h59⟩
       refine ⟨fun _ => ⟨h59.at_ 1 rfl, trivial⟩, ?_⟩
       refine pR_to 9 none 1023 rfl hs55 (xSs h59 0 42 (.tmp 12) (.tmp 145) 0 ([(lV Ac58 ((m.getD []).length) cc58), (bV m.isSome), v0, v1, v2, v3, v4, v5, (bV g.isSome)]) ([(lV Ac58 ((m.getD []).length) cc58), (bV m.isSome), v0, v1, v2, v3, v4, v5, (bV g.isSome)]) (h1 := (frm_one hgo58))) ?_
       rintro _ w60 h60
       refine ⟨fun _ => ⟨h60.at_ 1 rfl, trivial⟩, ?_⟩
       refine pR_to 10 (some 13) 2047 rfl hs55 (OpTo.run (iV .i64 er) (pureOp_run (by kernel_rfl) _) (R := fun v w => v = (iV .i64 er) /\ w60 = w) ⟨rfl, rfl⟩) ?_
       rintro _ _ ⟨rfl, rfl⟩
       refine ⟨fun h => absurd h (by decide), ?_⟩
       refine pR_done hs55 ?_ _
       exact hJ26 F58 G58 L58 Ac58 cc58 v0 v1 v2 v3 v4 v5 g59 hmc58 hgo58 ((fun p hp => (hs58 _ hp))) ((hx58 _ hxJ)) _ _ _ (pEq 184) (h60.sel [0, 1, 2, 3, 4, 5, 6, 7, 8, 9, 10, 11] [0, 1, 2, 3] (by kernel_rfl) rfl rfl)
      ·
       refine pR_op 8 (some 12) 271 rfl (xN h56 42 ([(lV none 0 0), (bV false), (sV ByteArray.empty), (sV ByteArray.empty), (iV .i64 0), (iV .i64 0), (iV .i64 0), (lV none 0 0), (bV false)])) ?_
       rintro _ w61 ⟨g61, rfl, h61⟩
       refine ⟨fun _ => ⟨h61.at_ 1 rfl, trivial⟩, ?_⟩
       have hq62 := h61.monoS 6 rfl (fun p hp => (hsJ _ hp))
       refine pR_to 4 (some 144) 287 rfl hs55 (x_two hq62 4 6 rfl rfl (by kernel_rfl) 0 rfl 12 [(pt e.sb 0), (aV ([(sV fJ.src), (sV fJ.dst), (iV .i64 fJ.sid), (iV .i64 fJ.epoch), (iV .i64 fJ.seq), (lV AJ fJ.box.length cJ)]).toArray)] (by kernel_rfl) ((take_of (hq62.at_ 4 rfl) (hq62.at_ 6 rfl) (hq62.rd 0 rfl) (hq62.dis 4 6 _ _ rfl rfl (by decide)) (hq62.rdis 0 4 _ _ rfl rfl) (hq62.rdis 0 6 _ _ rfl rfl) hr AJ cJ hmfJ (hsJ _ hT.nil) hsd (by omega) (by omega) hI.bodies (by have h1 : T.b.sent <= 60 := hsb.sent; omega) (by have h1 : T.b.got <= 60 := hsb.got; omega) (by have h1 : T.b.ei <= 60 := hsb.ei; omega) hsb.fq).mono fun _ _ hq => take6 hq)) ?_
       rintro _ w63 ⟨F63, G63, L63, ⟨Ac63, cc63, v0, v1, v2, v3, v4, v5, rfl, hmc63, hgo63⟩, hs63, hx63, h63⟩
       refine ⟨fun _ => ⟨h63.at_ 1 rfl, trivial⟩, ?_⟩
       refine pR_p 2 [5, 6, 7] [(146, (iV .i64 er)), (145, (aV ([(lV Ac63 ((m.getD []).length) cc63), (bV m.isSome), v0, v1, v2, v3, v4, v5, (bV g.isSome)]).toArray)), (139, (Value.tuple #[(aV ([(lV Ac63 ((m.getD []).length) cc63), (bV m.isSome), v0, v1, v2, v3, v4, v5, (bV g.isSome)]).toArray), (iV .i64 er)]))] 511 hs55 ⟨h63.at_ 1 rfl, trivial⟩ ?_
       refine pR_to 9 none 1023 rfl hs55 (xSs h63 0 42 (.tmp 12) (.tmp 145) 0 ([(lV Ac63 ((m.getD []).length) cc63), (bV m.isSome), v0, v1, v2, v3, v4, v5, (bV g.isSome)]) ([(lV Ac63 ((m.getD []).length) cc63), (bV m.isSome), v0, v1, v2, v3, v4, v5, (bV g.isSome)]) (h1 := (frm_one hgo63))) ?_
       rintro _ w64 h64
       refine ⟨fun _ => ⟨h64.at_ 1 rfl, trivial⟩, ?_⟩
       refine pR_to 10 (some 13) 2047 rfl hs55 (OpTo.run (iV .i64 er) (pureOp_run (by kernel_rfl) _) (R := fun v w => v = (iV .i64 er) /\ w64 = w) ⟨rfl, rfl⟩) ?_
       rintro _ _ ⟨rfl, rfl⟩
       refine ⟨fun h => absurd h (by decide), ?_⟩
       refine pR_done hs55 ?_ _
       exact hJ26 F63 G63 L63 Ac63 cc63 v0 v1 v2 v3 v4 v5 g61 hmc63 hgo63 ((fun p hp => (hs63 _ hp))) ((hx63 _ hxJ)) _ _ _ (pEq 184) (h64.sel [0, 1, 2, 3, 4, 5, 6, 7, 8, 9, 10, 11] [0, 1, 2, 3] (by kernel_rfl) rfl rfl)
     ·
      refine pR_op 8 (some 12) 267 rfl (xN h55 42 ([(lV none 0 0), (bV false), (sV ByteArray.empty), (sV ByteArray.empty), (iV .i64 0), (iV .i64 0), (iV .i64 0), (lV none 0 0), (bV false)])) ?_
      rintro _ w65 ⟨g65, rfl, h65⟩
      refine ⟨fun _ => ⟨h65.at_ 1 rfl, trivial⟩, ?_⟩
      refine pR_to 2 (some 142) 271 rfl hs55 (x_dp h65 18 [(pt p 0), (iV .i64 1)] (by kernel_rfl) (tEnd_1 (h65.at_ 3 rfl))) ?_
      rintro _ w66 ⟨rfl, h66⟩
      refine ⟨fun _ => ⟨h66.at_ 1 rfl, trivial⟩, ?_⟩
      have hq67 := h66.monoS 6 rfl (fun p hp => (hsJ _ hp))
      refine pR_to 4 (some 144) 287 rfl hs55 (x_two hq67 4 6 rfl rfl (by kernel_rfl) 0 rfl 12 [(pt e.sb 0), (aV ([(sV fJ.src), (sV fJ.dst), (iV .i64 fJ.sid), (iV .i64 fJ.epoch), (iV .i64 fJ.seq), (lV AJ fJ.box.length cJ)]).toArray)] (by kernel_rfl) ((take_of (hq67.at_ 4 rfl) (hq67.at_ 6 rfl) (hq67.rd 0 rfl) (hq67.dis 4 6 _ _ rfl rfl (by decide)) (hq67.rdis 0 4 _ _ rfl rfl) (hq67.rdis 0 6 _ _ rfl rfl) hr AJ cJ hmfJ (hsJ _ hT.nil) hsd (by omega) (by omega) hI.bodies (by have h1 : T.b.sent <= 60 := hsb.sent; omega) (by have h1 : T.b.got <= 60 := hsb.got; omega) (by have h1 : T.b.ei <= 60 := hsb.ei; omega) hsb.fq).mono fun _ _ hq => take6 hq)) ?_
      rintro _ w68 ⟨F68, G68, L68, ⟨Ac68, cc68, v0, v1, v2, v3, v4, v5, rfl, hmc68, hgo68⟩, hs68, hx68, h68⟩
      refine ⟨fun _ => ⟨h68.at_ 1 rfl, trivial⟩, ?_⟩
      refine pR_p 2 [5, 6, 7] [(146, (iV .i64 er)), (145, (aV ([(lV Ac68 ((m.getD []).length) cc68), (bV m.isSome), v0, v1, v2, v3, v4, v5, (bV g.isSome)]).toArray)), (139, (Value.tuple #[(aV ([(lV Ac68 ((m.getD []).length) cc68), (bV m.isSome), v0, v1, v2, v3, v4, v5, (bV g.isSome)]).toArray), (iV .i64 er)]))] 511 hs55 ⟨h68.at_ 1 rfl, trivial⟩ ?_
      refine pR_to 9 none 1023 rfl hs55 (xSs h68 0 42 (.tmp 12) (.tmp 145) 0 ([(lV Ac68 ((m.getD []).length) cc68), (bV m.isSome), v0, v1, v2, v3, v4, v5, (bV g.isSome)]) ([(lV Ac68 ((m.getD []).length) cc68), (bV m.isSome), v0, v1, v2, v3, v4, v5, (bV g.isSome)]) (h1 := (frm_one hgo68))) ?_
      rintro _ w69 h69
      refine ⟨fun _ => ⟨h69.at_ 1 rfl, trivial⟩, ?_⟩
      refine pR_to 10 (some 13) 2047 rfl hs55 (OpTo.run (iV .i64 er) (pureOp_run (by kernel_rfl) _) (R := fun v w => v = (iV .i64 er) /\ w69 = w) ⟨rfl, rfl⟩) ?_
      rintro _ _ ⟨rfl, rfl⟩
      refine ⟨fun h => absurd h (by decide), ?_⟩
      refine pR_done hs55 ?_ _
      exact hJ26 F68 G68 L68 Ac68 cc68 v0 v1 v2 v3 v4 v5 g65 hmc68 hgo68 ((fun p hp => (hs68 _ hp))) ((hx68 _ hxJ)) _ _ _ (pEq 184) (h69.sel [0, 1, 2, 3, 4, 5, 6, 7, 8, 9, 10, 11] [0, 1, 2, 3] (by kernel_rfl) rfl rfl)
    ·
     refine reg_lit ?_
     refine wq_p 1 [(136, (pt gJ 1))] (wq_v (some 137) (sV fJ.dst) (eL (hJh20.at_ 0 rfl) 9 (.tmp 136) 1 _) (wq_v (some 138) (bV false) (eqI (bV ((fJ.dst).toList == (⟨#[98, 111, 98]⟩ : ByteArray).toList)) (congrArg bV (beq_eq_false_iff_ne.2 (ba_ne b24)))) ?_))
     refine wl_end rfl (seq_n hK23 (cF (wp_skip (seq_n hK22 (wp_seq_k fun K70 hK70 => ?_)))))
     obtain ⟨r, hsd, htd⟩ := hI.inv.said (show T.s.keys.length < 100000 by omega) fJ (by omega) (by omega)
     obtain ⟨s', S', m, g, er, hr⟩ := take_ex T.s T.a fJ r
     obtain ⟨hT1, hTk, hC1⟩ := hI.take hr htd (by omega)
     have hC2 := hC1 hC
     have hJ71 : ∀ (FK : Nat -> Prop), ∀ (GK : Nat -> Prop), ∀ (LK : List (Value × Bytes)), ∀ (AcK : Option Addr), ∀ (ccK : Nat), ∀ (u0 : Value), ∀ (u1 : Value), ∀ (u2 : Value), ∀ (u3 : Value), ∀ (u4 : Value), ∀ (u5 : Value), ∀ (gK : Nat), ((lV AcK (m.getD []).length ccK, m.getD []) ∈ LK) -> (FrmO LK g [u0, u1, u2, u3, u4, u5]) -> (∀ p, p ∈ LJ -> p ∈ LK) -> (LExt G w L LK) -> ∀ (xJ71 : Nat -> Value) (aJ : Act) (wJ71 : World), aJ = patch xJ71 184 [(0, (pt p 0)), (1, (aV ([(iV .i64 6), (iV .i64 z.at_), (iV .i64 z.turn), (lV A z.body.length c)]).toArray)), (3, (pt g2 0)), (4, (bV false)), (5, (iV .i64 0)), (10, (pt gJ 0)), (11, (iV .i64 0)), (12, (pt gK 0)), (13, (iV .i64 er)), (18, (iV .i64 6)), (19, (bV false)), (64, (bV false)), (82, (bV false)), (110, (bV true)), (117, (bV false)), (138, (bV false))] -> Hp G w wJ71 [rF LK, rF LJ, rSB ((lV A z.body.length c)) z.body, rF L] [rBlk gK 42 ([(lV AcK ((m.getD []).length) ccK), (bV m.isSome), u0, u1, u2, u3, u4, u5, (bV g.isSome)]), rBlk gJ 38 ([(sV fJ.src), (sV fJ.dst), (iV .i64 fJ.sid), (iV .i64 fJ.epoch), (iV .i64 fJ.seq), (lV AJ fJ.box.length cJ)]), rBlk g2 50 ([(iV .i64 6), (iV .i64 z.at_), (iV .i64 z.turn), (lV A z.body.length c)]), rBlk p 34 ([(pt e.tb 0), (pt e.sa 0), (pt e.sb 0), (lV e.wA T.wire.length e.wc), (lV e.A0 T.sd0.length e.c0), (lV e.A1 T.sd1.length e.c1), (lV e.A2 T.cm0.length e.c2), (lV e.A3 T.cm1.length e.c3), (iV .i64 ((T.k0 : Int))), (iV .i64 ((T.k1 : Int)))]), rTab FK e.tb s', rS GK e.tb e.sa LK S', rS e.Gb e.tb e.sb L T.b, rOV 38 6 ((lV e.wA T.wire.length e.wc)) e.wx, rOV 26 1 ((lV e.A0 T.sd0.length e.c0)) e.x0, rOV 26 1 ((lV e.A1 T.sd1.length e.c1)) e.x1, rOV 26 1 ((lV e.A2 T.cm0.length e.c2)) e.x2, rOV 26 1 ((lV e.A3 T.cm1.length e.c3)) e.x3] -> K70 aJ wJ71 := by
       rintro FK GK LK AcK ccK u0 u1 u2 u3 u4 u5 gK hmcK hgoK hsK hxK xJ71 _ wJ71 rfl hJh71
       refine seq_n hK70 (wp_seq_k fun K72 hK72 => wp_seq_k fun K73 hK73 => reg_lit ?_)
       refine wq_p 1 [(147, (pt gK 8))] (wq_v (some 148) (bV g.isSome) (eL (hJh71.at_ 0 rfl) 4 (.tmp 147) 8 _) ?_)
       refine wl_end rfl (seq_n hK73 ?_)
       have hJ74 : ∀ (AW : Option Addr), ∀ (cW : Nat), ∀ (xw : List (List Value)), ∀ (wv : List Frm), (RowOk (FrmAt LK) xw wv) -> (wv = T.wire ++ g.toList) -> ∀ (xJ74 : Nat -> Value) (aJ : Act) (wJ74 : World), aJ = patch xJ74 184 [(0, (pt p 0)), (1, (aV ([(iV .i64 6), (iV .i64 z.at_), (iV .i64 z.turn), (lV A z.body.length c)]).toArray)), (3, (pt g2 0)), (4, (bV false)), (5, (iV .i64 0)), (10, (pt gJ 0)), (11, (iV .i64 0)), (12, (pt gK 0)), (13, (iV .i64 er)), (18, (iV .i64 6)), (19, (bV false)), (64, (bV false)), (82, (bV false)), (110, (bV true)), (117, (bV false)), (138, (bV false)), (148, (bV g.isSome))] -> Hp G w wJ74 [rF LK, rF LJ, rSB ((lV A z.body.length c)) z.body, rF L] [rBlk gK 42 ([(lV AcK ((m.getD []).length) ccK), (bV m.isSome), u0, u1, u2, u3, u4, u5, (bV g.isSome)]), rBlk gJ 38 ([(sV fJ.src), (sV fJ.dst), (iV .i64 fJ.sid), (iV .i64 fJ.epoch), (iV .i64 fJ.seq), (lV AJ fJ.box.length cJ)]), rBlk g2 50 ([(iV .i64 6), (iV .i64 z.at_), (iV .i64 z.turn), (lV A z.body.length c)]), rBlk p 34 ([(pt e.tb 0), (pt e.sa 0), (pt e.sb 0), (lV AW wv.length cW), (lV e.A0 T.sd0.length e.c0), (lV e.A1 T.sd1.length e.c1), (lV e.A2 T.cm0.length e.c2), (lV e.A3 T.cm1.length e.c3), (iV .i64 ((T.k0 : Int))), (iV .i64 ((T.k1 : Int)))]), rTab FK e.tb s', rS GK e.tb e.sa LK S', rS e.Gb e.tb e.sb L T.b, rOV 38 6 ((lV AW wv.length cW)) xw, rOV 26 1 ((lV e.A0 T.sd0.length e.c0)) e.x0, rOV 26 1 ((lV e.A1 T.sd1.length e.c1)) e.x1, rOV 26 1 ((lV e.A2 T.cm0.length e.c2)) e.x2, rOV 26 1 ((lV e.A3 T.cm1.length e.c3)) e.x3] -> K72 aJ wJ74 := by
         rintro AW cW xw wv hwv hwm xJ74 _ wJ74 rfl hJh74
         refine seq_n hK72 (wp_seq_k fun K75 hK75 => wp_seq_k fun K76 hK76 => reg_lit ?_)
         refine wq_p 1 [(160, (pt gK 1))] (wq_v (some 161) (bV m.isSome) (eL (hJh74.at_ 0 rfl) 4 (.tmp 160) 1 _) ?_)
         refine wl_end rfl (seq_n hK76 ?_)
         have hJ77 : ∀ (AV : Option Addr), ∀ (cV : Nat), ∀ (xv : List (List Value)), ∀ (cmv : List Bytes), (RowOk (BAt LK) xv cmv) -> (cmv = T.cm0 ++ m.toList) -> ∀ (xJ77 : Nat -> Value) (aJ : Act) (wJ77 : World), aJ = patch xJ77 184 [(0, (pt p 0)), (1, (aV ([(iV .i64 6), (iV .i64 z.at_), (iV .i64 z.turn), (lV A z.body.length c)]).toArray)), (3, (pt g2 0)), (4, (bV false)), (5, (iV .i64 0)), (10, (pt gJ 0)), (11, (iV .i64 0)), (12, (pt gK 0)), (13, (iV .i64 er)), (18, (iV .i64 6)), (19, (bV false)), (64, (bV false)), (82, (bV false)), (110, (bV true)), (117, (bV false)), (138, (bV false)), (148, (bV g.isSome)), (161, (bV m.isSome))] -> Hp G w wJ77 [rF LK, rF LJ, rSB ((lV A z.body.length c)) z.body, rF L] [rBlk gK 42 ([(lV AcK ((m.getD []).length) ccK), (bV m.isSome), u0, u1, u2, u3, u4, u5, (bV g.isSome)]), rBlk gJ 38 ([(sV fJ.src), (sV fJ.dst), (iV .i64 fJ.sid), (iV .i64 fJ.epoch), (iV .i64 fJ.seq), (lV AJ fJ.box.length cJ)]), rBlk g2 50 ([(iV .i64 6), (iV .i64 z.at_), (iV .i64 z.turn), (lV A z.body.length c)]), rBlk p 34 ([(pt e.tb 0), (pt e.sa 0), (pt e.sb 0), (lV AW wv.length cW), (lV e.A0 T.sd0.length e.c0), (lV e.A1 T.sd1.length e.c1), (lV AV cmv.length cV), (lV e.A3 T.cm1.length e.c3), (iV .i64 ((T.k0 : Int))), (iV .i64 ((T.k1 : Int)))]), rTab FK e.tb s', rS GK e.tb e.sa LK S', rS e.Gb e.tb e.sb L T.b, rOV 38 6 ((lV AW wv.length cW)) xw, rOV 26 1 ((lV e.A0 T.sd0.length e.c0)) e.x0, rOV 26 1 ((lV e.A1 T.sd1.length e.c1)) e.x1, rOV 26 1 ((lV AV cmv.length cV)) xv, rOV 26 1 ((lV e.A3 T.cm1.length e.c3)) e.x3] -> K75 aJ wJ77 := by
           rintro AV cV xv cmv hcv hcm xJ77 _ wJ77 rfl hJh77
           rw [← (show wv = T.wire ++ g.toList from hwm), ← (show cmv = T.cm0 ++ m.toList from hcm)] at hT1 hC2
           refine seq_n hK75 (wp_seq_k fun K78 hK78 => ?_)
           rcases m with _ | bd
           ·
            refine reg_lit ?_
            refine wq_p 1 [(177, (pt gK 1))] (wq_v (some 178) (bV false) (eL (hJh77.at_ 0 rfl) 4 (.tmp 177) 1 _) (wq_p 6 [(4, (bV true)), (183, (bV true)), (182, undef), (181, undef), (180, (bV true)), (179, (bV true))] ?_))
            refine wl_end rfl (seq_n hK78 (wp_ret (blk_r (seq_r ?_))))
            refine post_1 rfl (by kernel_rfl) (rtm (bV true)) ?_
            have hq80 := hJh77.monoS 6 rfl (fun p hp => (hsK _ (hsJ _ hp)))
            have h81 := (show Hp _ _ _ _ (lT p LK (TEnv.mk e.tb e.sa e.sb FK GK e.Gb AW cW xw e.A0 e.c0 e.x0 e.A1 e.c1 e.x1 AV cV xv e.A3 e.c3 e.x3) { T with s := s', a := S', wire := wv, cm0 := cmv } ++ []) from hq80.sel [3, 4, 5, 6, 7, 8, 9, 10, 11] [0] rfl rfl rfl).closeT ⟨(hwv.mono (fun _ _ h => h.mono (fun p hp => hp))), (hT.x0.mono (fun _ _ h => h.mono (fun p hp => (hsK _ (hsJ _ hp))))), (hT.x1.mono (fun _ _ h => h.mono (fun p hp => (hsK _ (hsJ _ hp))))), (hcv.mono (fun _ _ h => h.mono (fun p hp => hp))), (hT.x3.mono (fun _ _ h => h.mono (fun p hp => (hsK _ (hsJ _ hp))))), (hsK _ (hsJ _ hT.nil))⟩
            exact ⟨rfl, _, _, _, Wa, Wb, hT1, hC2, hxK, h81⟩
           ·
            obtain rfl : er = 0 := hTk.err rfl
            refine reg_lit ?_
            refine wq_p 1 [(177, (pt gK 1))] (wq_v (some 178) (bV true) (eL (hJh77.at_ 0 rfl) 4 (.tmp 177) 1 _) (wq_p 6 [(4, (bV true)), (183, (bV true)), (182, (bV true)), (181, (iV .i64 0)), (180, (bV false)), (179, (bV false))] ?_))
            refine wl_end rfl (seq_n hK78 (wp_ret (blk_r (seq_r ?_))))
            refine post_1 rfl (by kernel_rfl) (rtm (bV true)) ?_
            have hq82 := hJh77.monoS 6 rfl (fun p hp => (hsK _ (hsJ _ hp)))
            have h83 := (show Hp _ _ _ _ (lT p LK (TEnv.mk e.tb e.sa e.sb FK GK e.Gb AW cW xw e.A0 e.c0 e.x0 e.A1 e.c1 e.x1 AV cV xv e.A3 e.c3 e.x3) { T with s := s', a := S', wire := wv, cm0 := cmv } ++ []) from hq82.sel [3, 4, 5, 6, 7, 8, 9, 10, 11] [0] rfl rfl rfl).closeT ⟨(hwv.mono (fun _ _ h => h.mono (fun p hp => hp))), (hT.x0.mono (fun _ _ h => h.mono (fun p hp => (hsK _ (hsJ _ hp))))), (hT.x1.mono (fun _ _ h => h.mono (fun p hp => (hsK _ (hsJ _ hp))))), (hcv.mono (fun _ _ h => h.mono (fun p hp => hp))), (hT.x3.mono (fun _ _ h => h.mono (fun p hp => (hsK _ (hsJ _ hp))))), (hsK _ (hsJ _ hT.nil))⟩
            exact ⟨rfl, _, _, _, Wa, Wb, hT1, hC2, hxK, h83⟩
         refine wp_cond_split (t := m.isSome) (by kernel_rfl) (fun b84 => ?_) (fun b84 => ?_)
         ·
          obtain ⟨bd, rfl⟩ := Option.isSome_iff_exists.1 b84
          refine pR_go hJh74 16 (fun W => (rBlk gK 42 ([(lV AcK (((some bd).getD []).length) ccK), (bV ((some bd).isSome)), u0, u1, u2, u3, u4, u5, (bV g.isSome)])).Φ W /\ True) [(163, [0], 0), (164, [11], 0), (165, [0], 0), (166, [11], 0), (167, [164], 4), (168, [166], 16), (169, [167, 165], 40), (170, [168], 64), (171, [12], 0), (172, [170], 256), (173, [171], 512), (174, [169, 172], 1152), (175, [162], 1), (176, [174], 4096), (177, [175, 163], 12287), (0, [176, 173], 20479)] rfl (fun _ d _ _ _ h => by cases d <;> exact h) ?_
          intro hs85 w85 h85
          refine pR_p 7 [0, 1, 2, 3, 4, 5, 8, 12, 13] [(175, (pt p 6)), (174, (pt p 0)), (170, (pt gK 0)), (167, (pt p 6)), (166, (pt p 0)), (165, (iV .i64 0)), (164, (pt p 0)), (163, (iV .i64 0)), (162, (pt p 0))] 12607 hs85 ⟨h85.at_ 0 rfl, trivial⟩ ?_
          refine pR_v 6 (some 168) (pt p 6) 12671 rfl hs85 ⟨h85.at_ 0 rfl, trivial⟩ (fun W hW => eIa 31 (.tmp 167) (.tmp 165) .i64 p 6 0 2 22 6) ?_
          refine pR_v 9 (some 171) (lV AcK (((some bd).getD []).length) ccK) 13183 rfl hs85 ⟨h85.at_ 0 rfl, trivial⟩ (fun W hW => eL hW.1 26 (.tmp 170) 0 _) ?_
          refine pR_or 7 10 hs85 ?_ ?_
          ·
           refine pR_op 7 (some 169) 13311 rfl (OpTo.run (lV e.A2 T.cm0.length e.c2) (eL (h85.at_ 3 rfl) 22 (.tmp 168) 6 (lV e.A2 T.cm0.length e.c2)) (R := fun v w => v = (lV e.A2 T.cm0.length e.c2) /\ w85 = w) ⟨rfl, rfl⟩) ?_
           rintro _ _ ⟨rfl, rfl⟩
           refine ⟨fun _ => ⟨h85.at_ 0 rfl, trivial⟩, ?_⟩
           refine pR_to 10 (some 172) 14335 rfl hs85 (x_bs h85 26 ([(lV AcK (((some bd).getD []).length) ccK)]) 1 (by kernel_rfl)) ?_
           rintro _ w86 ⟨g86, rfl, h86⟩
           refine ⟨fun _ => ⟨h86.at_ 1 rfl, trivial⟩, ?_⟩
           refine pR_to 11 (some 173) 16383 rfl hs85 (xPu h86 11 0 rfl rfl (.tmp 169) (.tmp 172) 22 24 (lV none 0 0) (by omega) (by unfold maxLen; omega) (e.x2 ++ [[(lV AcK (((some bd).getD []).length) ccK)]]) ((T.cm0 ++ [bd]).length) (hyn := (by rw [List.length_append, List.length_append, hT.x2.1]; rfl))) ?_
           rintro _ w87 ⟨A87, c87, rfl, h87⟩
           refine ⟨fun _ => ⟨h87.at_ 1 rfl, trivial⟩, ?_⟩
           refine pR_v 14 (some 176) (pt p 6) 32767 rfl hs85 ⟨h87.at_ 1 rfl, trivial⟩ (fun W hW => eIa 31 (.tmp 175) (.tmp 163) .i64 p 6 0 2 22 6) ?_
           refine pR_to 15 none 65535 rfl hs85 (xSt h87 4 22 (.tmp 176) (.tmp 173) 6 (lV A87 ((T.cm0 ++ [bd]).length) c87) ([(pt e.tb 0), (pt e.sa 0), (pt e.sb 0), (lV AW wv.length cW), (lV e.A0 T.sd0.length e.c0), (lV e.A1 T.sd1.length e.c1), (lV A87 ((T.cm0 ++ [bd]).length) c87), (lV e.A3 T.cm1.length e.c3), (iV .i64 ((T.k0 : Int))), (iV .i64 ((T.k1 : Int)))])) ?_
           rintro _ w88 h88
           refine ⟨fun _ => ⟨h88.at_ 1 rfl, trivial⟩, ?_⟩
           refine pR_done hs85 ?_ _
           exact hJ77 A87 c87 (e.x2 ++ [[(lV AcK (((some bd).getD []).length) ccK)]]) (T.cm0 ++ [bd]) (((hT.x2.mono (fun _ _ h => h.mono (fun p hp => (hsK _ (hsJ _ hp))))).push ⟨AcK, ccK, rfl, hmcK⟩)) rfl _ _ _ (pEq 184) (h88.sel [1, 2, 3, 4, 5, 6, 7, 8, 9, 10, 11, 12] [0, 1, 2, 3] (by kernel_rfl) rfl rfl)
          ·
           refine pR_op 10 (some 172) 14207 rfl (x_bs h85 26 ([(lV AcK (((some bd).getD []).length) ccK)]) 1 (by kernel_rfl)) ?_
           rintro _ w89 ⟨g89, rfl, h89⟩
           refine ⟨fun _ => ⟨h89.at_ 1 rfl, trivial⟩, ?_⟩
           refine pR_to 7 (some 169) 14335 rfl hs85 (OpTo.run (lV e.A2 T.cm0.length e.c2) (eL (h89.at_ 4 rfl) 22 (.tmp 168) 6 (lV e.A2 T.cm0.length e.c2)) (R := fun v w => v = (lV e.A2 T.cm0.length e.c2) /\ w89 = w) ⟨rfl, rfl⟩) ?_
           rintro _ _ ⟨rfl, rfl⟩
           refine ⟨fun _ => ⟨h89.at_ 1 rfl, trivial⟩, ?_⟩
           refine pR_to 11 (some 173) 16383 rfl hs85 (xPu h89 11 0 rfl rfl (.tmp 169) (.tmp 172) 22 24 (lV none 0 0) (by omega) (by unfold maxLen; omega) (e.x2 ++ [[(lV AcK (((some bd).getD []).length) ccK)]]) ((T.cm0 ++ [bd]).length) (hyn := (by rw [List.length_append, List.length_append, hT.x2.1]; rfl))) ?_
           rintro _ w90 ⟨A90, c90, rfl, h90⟩
           refine ⟨fun _ => ⟨h90.at_ 1 rfl, trivial⟩, ?_⟩
           refine pR_v 14 (some 176) (pt p 6) 32767 rfl hs85 ⟨h90.at_ 1 rfl, trivial⟩ (fun W hW => eIa 31 (.tmp 175) (.tmp 163) .i64 p 6 0 2 22 6) ?_
           refine pR_to 15 none 65535 rfl hs85 (xSt h90 4 22 (.tmp 176) (.tmp 173) 6 (lV A90 ((T.cm0 ++ [bd]).length) c90) ([(pt e.tb 0), (pt e.sa 0), (pt e.sb 0), (lV AW wv.length cW), (lV e.A0 T.sd0.length e.c0), (lV e.A1 T.sd1.length e.c1), (lV A90 ((T.cm0 ++ [bd]).length) c90), (lV e.A3 T.cm1.length e.c3), (iV .i64 ((T.k0 : Int))), (iV .i64 ((T.k1 : Int)))])) ?_
           rintro _ w91 h91
           refine ⟨fun _ => ⟨h91.at_ 1 rfl, trivial⟩, ?_⟩
           refine pR_done hs85 ?_ _
           exact hJ77 A90 c90 (e.x2 ++ [[(lV AcK (((some bd).getD []).length) ccK)]]) (T.cm0 ++ [bd]) (((hT.x2.mono (fun _ _ h => h.mono (fun p hp => (hsK _ (hsJ _ hp))))).push ⟨AcK, ccK, rfl, hmcK⟩)) rfl _ _ _ (pEq 184) (h91.sel [1, 2, 3, 4, 5, 6, 7, 8, 9, 10, 11, 12] [0, 1, 2, 3] (by kernel_rfl) rfl rfl)
         ·
          obtain rfl : m = none := by simpa using b84
          refine wp_skip ?_
          exact hJ77 e.A2 e.c2 e.x2 T.cm0 ((hT.x2.mono (fun _ _ h => h.mono (fun p hp => (hsK _ (hsJ _ hp)))))) ((by simp)) _ _ _ (pEq 184) (hJh74.sel [0, 1, 2, 3, 4, 5, 6, 7, 8, 9, 10, 11] [0, 1, 2, 3] (by kernel_rfl) rfl rfl)
       refine wp_cond_split (t := g.isSome) (by kernel_rfl) (fun b92 => ?_) (fun b92 => ?_)
       ·
        obtain ⟨gg, rfl⟩ := Option.isSome_iff_exists.1 b92
        obtain ⟨Ag, cg, hv, hmg⟩ := hgoK
        obtain ⟨rfl, rfl, rfl, rfl, rfl, rfl⟩ := six_inj hv
        refine pR_go hJh71 9 (fun W => (rBlk gK 42 ([(lV AcK ((m.getD []).length) ccK), (bV m.isSome), (sV gg.src), (sV gg.dst), (iV .i64 gg.sid), (iV .i64 gg.epoch), (iV .i64 gg.seq), (lV Ag gg.box.length cg), (bV ((some gg).isSome))])).Φ W /\ True) [(150, [0], 0), (151, [0], 0), (152, [150], 2), (153, [151], 4), (154, [152], 8), (155, [12], 0), (156, [154], 32), (157, [155], 64), (158, [153, 156], 144), (159, [149], 511), (160, [158], 1023), (0, [159, 157], 1535)] rfl (fun _ d _ _ _ h => by cases d <;> exact h) ?_
        intro hs93 w93 h93
        refine pR_p 7 [0, 1, 2, 3, 5] [(154, (pt gK 2)), (152, (pt p 3)), (151, (pt p 0)), (150, (pt p 0)), (149, (pt p 0))] 47 hs93 ⟨h93.at_ 0 rfl, trivial⟩ ?_
        refine pR_v 6 (some 155) (aV ([(sV gg.src), (sV gg.dst), (iV .i64 gg.sid), (iV .i64 gg.epoch), (iV .i64 gg.seq), (lV Ag gg.box.length cg)]).toArray) 111 rfl hs93 ⟨h93.at_ 0 rfl, trivial⟩ (fun W hW => eLs hW.1 38 (.tmp 154) 2 ([(sV gg.src), (sV gg.dst), (iV .i64 gg.sid), (iV .i64 gg.epoch), (iV .i64 gg.seq), (lV Ag gg.box.length cg)])) ?_
        refine pR_or 4 7 hs93 ?_ ?_
        ·
         refine pR_op 4 (some 153) 127 rfl (OpTo.run (lV e.wA T.wire.length e.wc) (eL (h93.at_ 3 rfl) 30 (.tmp 152) 3 (lV e.wA T.wire.length e.wc)) (R := fun v w => v = (lV e.wA T.wire.length e.wc) /\ w93 = w) ⟨rfl, rfl⟩) ?_
         rintro _ _ ⟨rfl, rfl⟩
         refine ⟨fun _ => ⟨h93.at_ 0 rfl, trivial⟩, ?_⟩
         refine pR_to 7 (some 156) 255 rfl hs93 (x_bs h93 38 ([(sV gg.src), (sV gg.dst), (iV .i64 gg.sid), (iV .i64 gg.epoch), (iV .i64 gg.seq), (lV Ag gg.box.length cg)]) 1 (by kernel_rfl)) ?_
         rintro _ w94 ⟨g94, rfl, h94⟩
         refine ⟨fun _ => ⟨h94.at_ 1 rfl, trivial⟩, ?_⟩
         refine pR_to 8 (some 157) 511 rfl hs93 (xPu h94 8 0 rfl rfl (.tmp 153) (.tmp 156) 30 80 (aV ([(sV ByteArray.empty), (sV ByteArray.empty), (iV .i64 0), (iV .i64 0), (iV .i64 0), (lV none 0 0)]).toArray) (by omega) (by unfold maxLen; omega) (e.wx ++ [[(sV gg.src), (sV gg.dst), (iV .i64 gg.sid), (iV .i64 gg.epoch), (iV .i64 gg.seq), (lV Ag gg.box.length cg)]]) ((T.wire ++ [gg]).length) (hyn := (by rw [List.length_append, List.length_append, hT.w.1]; rfl))) ?_
         rintro _ w95 ⟨A95, c95, rfl, h95⟩
         refine ⟨fun _ => ⟨h95.at_ 1 rfl, trivial⟩, ?_⟩
         refine pR_to 9 (some 158) 1023 rfl hs93 (OpTo.run (pt p 0) (pureOp_run (by kernel_rfl) _) (R := fun v w => v = (pt p 0) /\ w95 = w) ⟨rfl, rfl⟩) ?_
         rintro _ _ ⟨rfl, rfl⟩
         refine ⟨fun h => absurd h (by decide), ?_⟩
         refine pR_to 10 (some 159) 2047 rfl hs93 (OpTo.run (pt p 3) (pureOp_run (by kernel_rfl) _) (R := fun v w => v = (pt p 3) /\ w95 = w) ⟨rfl, rfl⟩) ?_
         rintro _ _ ⟨rfl, rfl⟩
         refine ⟨fun h => absurd h (by decide), ?_⟩
         refine pR_to 11 none 4095 rfl hs93 (xSt h95 4 30 (.tmp 159) (.tmp 157) 3 (lV A95 ((T.wire ++ [gg]).length) c95) ([(pt e.tb 0), (pt e.sa 0), (pt e.sb 0), (lV A95 ((T.wire ++ [gg]).length) c95), (lV e.A0 T.sd0.length e.c0), (lV e.A1 T.sd1.length e.c1), (lV e.A2 T.cm0.length e.c2), (lV e.A3 T.cm1.length e.c3), (iV .i64 ((T.k0 : Int))), (iV .i64 ((T.k1 : Int)))])) ?_
         rintro _ w96 h96
         refine ⟨fun h => absurd h (by decide), ?_⟩
         refine pR_done hs93 ?_ _
         exact hJ74 A95 c95 (e.wx ++ [[(sV gg.src), (sV gg.dst), (iV .i64 gg.sid), (iV .i64 gg.epoch), (iV .i64 gg.seq), (lV Ag gg.box.length cg)]]) (T.wire ++ [gg]) (((hT.w.mono (fun _ _ h => h.mono (fun p hp => (hsK _ (hsJ _ hp))))).push ⟨Ag, cg, rfl, hmg⟩)) rfl _ _ _ (pEq 184) (h96.sel [1, 2, 3, 4, 5, 6, 7, 8, 9, 10, 11, 12] [0, 1, 2, 3] (by kernel_rfl) rfl rfl)
        ·
         refine pR_op 7 (some 156) 239 rfl (x_bs h93 38 ([(sV gg.src), (sV gg.dst), (iV .i64 gg.sid), (iV .i64 gg.epoch), (iV .i64 gg.seq), (lV Ag gg.box.length cg)]) 1 (by kernel_rfl)) ?_
         rintro _ w97 ⟨g97, rfl, h97⟩
         refine ⟨fun _ => ⟨h97.at_ 1 rfl, trivial⟩, ?_⟩
         refine pR_to 4 (some 153) 255 rfl hs93 (OpTo.run (lV e.wA T.wire.length e.wc) (eL (h97.at_ 4 rfl) 30 (.tmp 152) 3 (lV e.wA T.wire.length e.wc)) (R := fun v w => v = (lV e.wA T.wire.length e.wc) /\ w97 = w) ⟨rfl, rfl⟩) ?_
         rintro _ _ ⟨rfl, rfl⟩
         refine ⟨fun _ => ⟨h97.at_ 1 rfl, trivial⟩, ?_⟩
         refine pR_to 8 (some 157) 511 rfl hs93 (xPu h97 8 0 rfl rfl (.tmp 153) (.tmp 156) 30 80 (aV ([(sV ByteArray.empty), (sV ByteArray.empty), (iV .i64 0), (iV .i64 0), (iV .i64 0), (lV none 0 0)]).toArray) (by omega) (by unfold maxLen; omega) (e.wx ++ [[(sV gg.src), (sV gg.dst), (iV .i64 gg.sid), (iV .i64 gg.epoch), (iV .i64 gg.seq), (lV Ag gg.box.length cg)]]) ((T.wire ++ [gg]).length) (hyn := (by rw [List.length_append, List.length_append, hT.w.1]; rfl))) ?_
         rintro _ w98 ⟨A98, c98, rfl, h98⟩
         refine ⟨fun _ => ⟨h98.at_ 1 rfl, trivial⟩, ?_⟩
         refine pR_to 9 (some 158) 1023 rfl hs93 (OpTo.run (pt p 0) (pureOp_run (by kernel_rfl) _) (R := fun v w => v = (pt p 0) /\ w98 = w) ⟨rfl, rfl⟩) ?_
         rintro _ _ ⟨rfl, rfl⟩
         refine ⟨fun h => absurd h (by decide), ?_⟩
         refine pR_to 10 (some 159) 2047 rfl hs93 (OpTo.run (pt p 3) (pureOp_run (by kernel_rfl) _) (R := fun v w => v = (pt p 3) /\ w98 = w) ⟨rfl, rfl⟩) ?_
         rintro _ _ ⟨rfl, rfl⟩
         refine ⟨fun h => absurd h (by decide), ?_⟩
         refine pR_to 11 none 4095 rfl hs93 (xSt h98 4 30 (.tmp 159) (.tmp 157) 3 (lV A98 ((T.wire ++ [gg]).length) c98) ([(pt e.tb 0), (pt e.sa 0), (pt e.sb 0), (lV A98 ((T.wire ++ [gg]).length) c98), (lV e.A0 T.sd0.length e.c0), (lV e.A1 T.sd1.length e.c1), (lV e.A2 T.cm0.length e.c2), (lV e.A3 T.cm1.length e.c3), (iV .i64 ((T.k0 : Int))), (iV .i64 ((T.k1 : Int)))])) ?_
         rintro _ w99 h99
         refine ⟨fun h => absurd h (by decide), ?_⟩
         refine pR_done hs93 ?_ _
         exact hJ74 A98 c98 (e.wx ++ [[(sV gg.src), (sV gg.dst), (iV .i64 gg.sid), (iV .i64 gg.epoch), (iV .i64 gg.seq), (lV Ag gg.box.length cg)]]) (T.wire ++ [gg]) (((hT.w.mono (fun _ _ h => h.mono (fun p hp => (hsK _ (hsJ _ hp))))).push ⟨Ag, cg, rfl, hmg⟩)) rfl _ _ _ (pEq 184) (h99.sel [1, 2, 3, 4, 5, 6, 7, 8, 9, 10, 11, 12] [0, 1, 2, 3] (by kernel_rfl) rfl rfl)
       ·
        obtain rfl : g = none := by simpa using b92
        refine wp_skip ?_
        exact hJ74 e.wA e.wc e.wx T.wire ((hT.w.mono (fun _ _ h => h.mono (fun p hp => (hsK _ (hsJ _ hp)))))) ((by simp)) _ _ _ (pEq 184) (hJh71.sel [0, 1, 2, 3, 4, 5, 6, 7, 8, 9, 10, 11] [0, 1, 2, 3] (by kernel_rfl) rfl rfl)
     refine pR_go hJh20 10 (fun W => (rBlk gJ 38 ([(sV fJ.src), (sV fJ.dst), (iV .i64 fJ.sid), (iV .i64 fJ.epoch), (iV .i64 fJ.seq), (lV AJ fJ.box.length cJ)])).Φ W /\ True) [(141, [0], 0), (142, [11], 0), (143, [140, 141], 3), (144, [10], 0), (145, [142, 143], 12), (140, [144], 16), (146, [139], 32), (147, [139], 32), (13, [], 0), (0, [12, 145], 383), (14, [146], 1023)] rfl (fun _ d _ _ _ h => by cases d <;> exact h) ?_
     intro hs100 w100 h100
     refine pR_p 9 [0, 1] [(141, (iV .i64 0)), (140, (pt p 0))] 3 hs100 ⟨h100.at_ 0 rfl, trivial⟩ ?_
     refine pR_v 3 (some 143) (aV ([(sV fJ.src), (sV fJ.dst), (iV .i64 fJ.sid), (iV .i64 fJ.epoch), (iV .i64 fJ.seq), (lV AJ fJ.box.length cJ)]).toArray) 11 rfl hs100 ⟨h100.at_ 0 rfl, trivial⟩ (fun W hW => eLs hW.1 38 (.tmp 10) 0 ([(sV fJ.src), (sV fJ.dst), (iV .i64 fJ.sid), (iV .i64 fJ.epoch), (iV .i64 fJ.seq), (lV AJ fJ.box.length cJ)])) ?_
     refine pR_or 2 8 hs100 ?_ ?_
     ·
      refine pR_op 2 (some 142) 15 rfl (x_dp h100 18 [(pt p 0), (iV .i64 0)] (by kernel_rfl) (tEnd_0 (h100.at_ 2 rfl))) ?_
      rintro _ w101 ⟨rfl, h101⟩
      refine ⟨fun _ => ⟨h101.at_ 0 rfl, trivial⟩, ?_⟩
      refine pR_or 4 8 hs100 ?_ ?_
      ·
       have hq102 := h101.monoS 4 rfl (fun p hp => (hsJ _ hp))
       refine pR_op 4 (some 144) 31 rfl (x_two hq102 3 4 rfl rfl (by kernel_rfl) 0 rfl 12 [(pt e.sa 0), (aV ([(sV fJ.src), (sV fJ.dst), (iV .i64 fJ.sid), (iV .i64 fJ.epoch), (iV .i64 fJ.seq), (lV AJ fJ.box.length cJ)]).toArray)] (by kernel_rfl) ((take_of (hq102.at_ 3 rfl) (hq102.at_ 4 rfl) (hq102.rd 0 rfl) (hq102.dis 3 4 _ _ rfl rfl (by decide)) (hq102.rdis 0 3 _ _ rfl rfl) (hq102.rdis 0 4 _ _ rfl rfl) hr AJ cJ hmfJ (hsJ _ hT.nil) hsd (by omega) (by omega) hI.bodies (by have h1 : T.a.sent <= 60 := hsa.sent; omega) (by have h1 : T.a.got <= 60 := hsa.got; omega) (by have h1 : T.a.ei <= 60 := hsa.ei; omega) hsa.fq).mono fun _ _ hq => take6 hq)) ?_
       rintro _ w103 ⟨F103, G103, L103, ⟨Ac103, cc103, v0, v1, v2, v3, v4, v5, rfl, hmc103, hgo103⟩, hs103, hx103, h103⟩
       refine ⟨fun _ => ⟨h103.at_ 0 rfl, trivial⟩, ?_⟩
       refine pR_p 3 [5, 6, 7] [(146, (iV .i64 er)), (145, (aV ([(lV Ac103 ((m.getD []).length) cc103), (bV m.isSome), v0, v1, v2, v3, v4, v5, (bV g.isSome)]).toArray)), (139, (Value.tuple #[(aV ([(lV Ac103 ((m.getD []).length) cc103), (bV m.isSome), v0, v1, v2, v3, v4, v5, (bV g.isSome)]).toArray), (iV .i64 er)]))] 255 hs100 ⟨h103.at_ 0 rfl, trivial⟩ ?_
       refine pR_to 8 (some 12) 511 rfl hs100 (xN h103 42 ([(lV none 0 0), (bV false), (sV ByteArray.empty), (sV ByteArray.empty), (iV .i64 0), (iV .i64 0), (iV .i64 0), (lV none 0 0), (bV false)])) ?_
       rintro _ w104 ⟨g104, rfl, h104⟩
       refine ⟨fun _ => ⟨h104.at_ 1 rfl, trivial⟩, ?_⟩
       refine pR_to 9 none 1023 rfl hs100 (xSs h104 0 42 (.tmp 12) (.tmp 145) 0 ([(lV Ac103 ((m.getD []).length) cc103), (bV m.isSome), v0, v1, v2, v3, v4, v5, (bV g.isSome)]) ([(lV Ac103 ((m.getD []).length) cc103), (bV m.isSome), v0, v1, v2, v3, v4, v5, (bV g.isSome)]) (h1 := (frm_one hgo103))) ?_
       rintro _ w105 h105
       refine ⟨fun _ => ⟨h105.at_ 1 rfl, trivial⟩, ?_⟩
       refine pR_to 10 (some 13) 2047 rfl hs100 (OpTo.run (iV .i64 er) (pureOp_run (by kernel_rfl) _) (R := fun v w => v = (iV .i64 er) /\ w105 = w) ⟨rfl, rfl⟩) ?_
       rintro _ _ ⟨rfl, rfl⟩
       refine ⟨fun h => absurd h (by decide), ?_⟩
       refine pR_done hs100 ?_ _
       exact hJ71 F103 G103 L103 Ac103 cc103 v0 v1 v2 v3 v4 v5 g104 hmc103 hgo103 ((fun p hp => (hs103 _ hp))) ((hx103 _ hxJ)) _ _ _ (pEq 184) (h105.sel [0, 1, 2, 3, 4, 5, 6, 7, 8, 9, 10, 11] [0, 1, 2, 3] (by kernel_rfl) rfl rfl)
      ·
       refine pR_op 8 (some 12) 271 rfl (xN h101 42 ([(lV none 0 0), (bV false), (sV ByteArray.empty), (sV ByteArray.empty), (iV .i64 0), (iV .i64 0), (iV .i64 0), (lV none 0 0), (bV false)])) ?_
       rintro _ w106 ⟨g106, rfl, h106⟩
       refine ⟨fun _ => ⟨h106.at_ 1 rfl, trivial⟩, ?_⟩
       have hq107 := h106.monoS 5 rfl (fun p hp => (hsJ _ hp))
       refine pR_to 4 (some 144) 287 rfl hs100 (x_two hq107 4 5 rfl rfl (by kernel_rfl) 0 rfl 12 [(pt e.sa 0), (aV ([(sV fJ.src), (sV fJ.dst), (iV .i64 fJ.sid), (iV .i64 fJ.epoch), (iV .i64 fJ.seq), (lV AJ fJ.box.length cJ)]).toArray)] (by kernel_rfl) ((take_of (hq107.at_ 4 rfl) (hq107.at_ 5 rfl) (hq107.rd 0 rfl) (hq107.dis 4 5 _ _ rfl rfl (by decide)) (hq107.rdis 0 4 _ _ rfl rfl) (hq107.rdis 0 5 _ _ rfl rfl) hr AJ cJ hmfJ (hsJ _ hT.nil) hsd (by omega) (by omega) hI.bodies (by have h1 : T.a.sent <= 60 := hsa.sent; omega) (by have h1 : T.a.got <= 60 := hsa.got; omega) (by have h1 : T.a.ei <= 60 := hsa.ei; omega) hsa.fq).mono fun _ _ hq => take6 hq)) ?_
       rintro _ w108 ⟨F108, G108, L108, ⟨Ac108, cc108, v0, v1, v2, v3, v4, v5, rfl, hmc108, hgo108⟩, hs108, hx108, h108⟩
       refine ⟨fun _ => ⟨h108.at_ 1 rfl, trivial⟩, ?_⟩
       refine pR_p 2 [5, 6, 7] [(146, (iV .i64 er)), (145, (aV ([(lV Ac108 ((m.getD []).length) cc108), (bV m.isSome), v0, v1, v2, v3, v4, v5, (bV g.isSome)]).toArray)), (139, (Value.tuple #[(aV ([(lV Ac108 ((m.getD []).length) cc108), (bV m.isSome), v0, v1, v2, v3, v4, v5, (bV g.isSome)]).toArray), (iV .i64 er)]))] 511 hs100 ⟨h108.at_ 1 rfl, trivial⟩ ?_
       refine pR_to 9 none 1023 rfl hs100 (xSs h108 0 42 (.tmp 12) (.tmp 145) 0 ([(lV Ac108 ((m.getD []).length) cc108), (bV m.isSome), v0, v1, v2, v3, v4, v5, (bV g.isSome)]) ([(lV Ac108 ((m.getD []).length) cc108), (bV m.isSome), v0, v1, v2, v3, v4, v5, (bV g.isSome)]) (h1 := (frm_one hgo108))) ?_
       rintro _ w109 h109
       refine ⟨fun _ => ⟨h109.at_ 1 rfl, trivial⟩, ?_⟩
       refine pR_to 10 (some 13) 2047 rfl hs100 (OpTo.run (iV .i64 er) (pureOp_run (by kernel_rfl) _) (R := fun v w => v = (iV .i64 er) /\ w109 = w) ⟨rfl, rfl⟩) ?_
       rintro _ _ ⟨rfl, rfl⟩
       refine ⟨fun h => absurd h (by decide), ?_⟩
       refine pR_done hs100 ?_ _
       exact hJ71 F108 G108 L108 Ac108 cc108 v0 v1 v2 v3 v4 v5 g106 hmc108 hgo108 ((fun p hp => (hs108 _ hp))) ((hx108 _ hxJ)) _ _ _ (pEq 184) (h109.sel [0, 1, 2, 3, 4, 5, 6, 7, 8, 9, 10, 11] [0, 1, 2, 3] (by kernel_rfl) rfl rfl)
     ·
      refine pR_op 8 (some 12) 267 rfl (xN h100 42 ([(lV none 0 0), (bV false), (sV ByteArray.empty), (sV ByteArray.empty), (iV .i64 0), (iV .i64 0), (iV .i64 0), (lV none 0 0), (bV false)])) ?_
      rintro _ w110 ⟨g110, rfl, h110⟩
      refine ⟨fun _ => ⟨h110.at_ 1 rfl, trivial⟩, ?_⟩
      refine pR_to 2 (some 142) 271 rfl hs100 (x_dp h110 18 [(pt p 0), (iV .i64 0)] (by kernel_rfl) (tEnd_0 (h110.at_ 3 rfl))) ?_
      rintro _ w111 ⟨rfl, h111⟩
      refine ⟨fun _ => ⟨h111.at_ 1 rfl, trivial⟩, ?_⟩
      have hq112 := h111.monoS 5 rfl (fun p hp => (hsJ _ hp))
      refine pR_to 4 (some 144) 287 rfl hs100 (x_two hq112 4 5 rfl rfl (by kernel_rfl) 0 rfl 12 [(pt e.sa 0), (aV ([(sV fJ.src), (sV fJ.dst), (iV .i64 fJ.sid), (iV .i64 fJ.epoch), (iV .i64 fJ.seq), (lV AJ fJ.box.length cJ)]).toArray)] (by kernel_rfl) ((take_of (hq112.at_ 4 rfl) (hq112.at_ 5 rfl) (hq112.rd 0 rfl) (hq112.dis 4 5 _ _ rfl rfl (by decide)) (hq112.rdis 0 4 _ _ rfl rfl) (hq112.rdis 0 5 _ _ rfl rfl) hr AJ cJ hmfJ (hsJ _ hT.nil) hsd (by omega) (by omega) hI.bodies (by have h1 : T.a.sent <= 60 := hsa.sent; omega) (by have h1 : T.a.got <= 60 := hsa.got; omega) (by have h1 : T.a.ei <= 60 := hsa.ei; omega) hsa.fq).mono fun _ _ hq => take6 hq)) ?_
      rintro _ w113 ⟨F113, G113, L113, ⟨Ac113, cc113, v0, v1, v2, v3, v4, v5, rfl, hmc113, hgo113⟩, hs113, hx113, h113⟩
      refine ⟨fun _ => ⟨h113.at_ 1 rfl, trivial⟩, ?_⟩
      refine pR_p 2 [5, 6, 7] [(146, (iV .i64 er)), (145, (aV ([(lV Ac113 ((m.getD []).length) cc113), (bV m.isSome), v0, v1, v2, v3, v4, v5, (bV g.isSome)]).toArray)), (139, (Value.tuple #[(aV ([(lV Ac113 ((m.getD []).length) cc113), (bV m.isSome), v0, v1, v2, v3, v4, v5, (bV g.isSome)]).toArray), (iV .i64 er)]))] 511 hs100 ⟨h113.at_ 1 rfl, trivial⟩ ?_
      refine pR_to 9 none 1023 rfl hs100 (xSs h113 0 42 (.tmp 12) (.tmp 145) 0 ([(lV Ac113 ((m.getD []).length) cc113), (bV m.isSome), v0, v1, v2, v3, v4, v5, (bV g.isSome)]) ([(lV Ac113 ((m.getD []).length) cc113), (bV m.isSome), v0, v1, v2, v3, v4, v5, (bV g.isSome)]) (h1 := (frm_one hgo113))) ?_
      rintro _ w114 h114
      refine ⟨fun _ => ⟨h114.at_ 1 rfl, trivial⟩, ?_⟩
      refine pR_to 10 (some 13) 2047 rfl hs100 (OpTo.run (iV .i64 er) (pureOp_run (by kernel_rfl) _) (R := fun v w => v = (iV .i64 er) /\ w114 = w) ⟨rfl, rfl⟩) ?_
      rintro _ _ ⟨rfl, rfl⟩
      refine ⟨fun h => absurd h (by decide), ?_⟩
      refine pR_done hs100 ?_ _
      exact hJ71 F113 G113 L113 Ac113 cc113 v0 v1 v2 v3 v4 v5 g110 hmc113 hgo113 ((fun p hp => (hs113 _ hp))) ((hx113 _ hxJ)) _ _ _ (pEq 184) (h114.sel [0, 1, 2, 3, 4, 5, 6, 7, 8, 9, 10, 11] [0, 1, 2, 3] (by kernel_rfl) rfl rfl)
  refine pR_go h2 19 (fun W => (rBlk p 34 ([(pt e.tb 0), (pt e.sa 0), (pt e.sb 0), (lV e.wA T.wire.length e.wc), (lV e.A0 T.sd0.length e.c0), (lV e.A1 T.sd1.length e.c1), (lV e.A2 T.cm0.length e.c2), (lV e.A3 T.cm1.length e.c3), (iV .i64 ((T.k0 : Int))), (iV .i64 ((T.k1 : Int)))])).Φ W /\ (rBlk g2 50 ([(iV .i64 6), (iV .i64 z.at_), (iV .i64 z.turn), (lV A z.body.length c)])).Φ W /\ (rOV 38 6 ((lV e.wA T.wire.length e.wc)) e.wx).Φ W /\ True) [(119, [0], 0), (120, [118], 1), (121, [119], 2), (122, [120], 4), (123, [3], 0), (124, [122], 16), (125, [123], 32), (126, [0], 0), (127, [125], 128), (128, [126], 256), (129, [127], 512), (130, [128], 1024), (131, [124, 129], 2112), (132, [121, 130], 4104), (133, [131], 8192), (134, [3], 0), (135, [133], 32768), (136, [132, 134], 81920), (11, [], 0), (0, [10, 135], 524287)] rfl (fun _ d _ _ _ h => by cases d <;> exact h) ?_
  intro hs115 w115 h115
  refine pR_p 12 [0, 1, 2, 4, 7, 8, 9, 15] [(133, (pt g2 2)), (127, (pt p 3)), (126, (pt p 0)), (125, (pt p 0)), (122, (pt g2 1)), (120, (pt p 3)), (119, (pt p 0)), (118, (pt p 0))] 33687 hs115 ⟨h115.at_ 1 rfl, h115.at_ 0 rfl, h115.at_ 5 rfl, trivial⟩ ?_
  refine pR_v 3 (some 121) (lV e.wA T.wire.length e.wc) 33695 rfl hs115 ⟨h115.at_ 1 rfl, h115.at_ 0 rfl, h115.at_ 5 rfl, trivial⟩ (fun W hW => eL hW.1 30 (.tmp 120) 3 _) ?_
  refine pR_v 5 (some 123) (iV .i64 z.at_) 33727 rfl hs115 ⟨h115.at_ 1 rfl, h115.at_ 0 rfl, h115.at_ 5 rfl, trivial⟩ (fun W hW => eL hW.2.1 3 (.tmp 122) 1 _) ?_
  obtain ⟨M116, hM116, hb116⟩ := and_mask z.at_ 1023 (by decide)
  refine pR_v 6 (some 124) (iV .i64 ((M116 : Int))) 33791 rfl hs115 ⟨h115.at_ 1 rfl, h115.at_ 0 rfl, h115.at_ 5 rfl, trivial⟩ (fun W hW => eqI (iV .i64 (bits .and .i64 z.at_ 1023)) (congrArg (iV .i64) hM116)) ?_
  refine pR_v 10 (some 128) (lV e.wA T.wire.length e.wc) 34815 rfl hs115 ⟨h115.at_ 1 rfl, h115.at_ 0 rfl, h115.at_ 5 rfl, trivial⟩ (fun W hW => eL hW.1 30 (.tmp 127) 3 _) ?_
  refine pR_p 7 [11] [(129, (iV .i64 ((T.wire.length : Int))))] 36863 hs115 ⟨h115.at_ 1 rfl, h115.at_ 0 rfl, h115.at_ 5 rfl, trivial⟩ ?_
  obtain ⟨f0, hf0⟩ : ∃ f0, T.wire[M116 % T.wire.length]? = some f0 := ⟨_, List.getElem?_eq_getElem (Nat.mod_lt _ (by omega))⟩
  obtain ⟨_, hx0f, Af0, cf0, rfl, hmf0⟩ := hT.w.get hf0
  have hmod : M116 % T.wire.length < T.wire.length := Nat.mod_lt _ (by omega)
  have hfB := hI.wi f0 (List.mem_of_getElem? hf0)
  refine pR_v 12 (some 130) (iV .i64 (((M116 % T.wire.length : Nat) : Int))) 40959 rfl hs115 ⟨h115.at_ 1 rfl, h115.at_ 0 rfl, h115.at_ 5 rfl, trivial⟩ (fun W hW => e_remN (.tmp 124) (.tmp 129) 3 3 (by kernel_rfl) M116 T.wire.length (by kernel_rfl) (by kernel_rfl) (by omega) (M116 % T.wire.length) rfl _) ?_
  refine pR_v 13 (some 131) (eAt e.wA ((((M116 % T.wire.length))) * 6 + 0)) 49151 rfl hs115 ⟨h115.at_ 1 rfl, h115.at_ 0 rfl, h115.at_ 5 rfl, trivial⟩ (fun W hW => eIx (OV.rvn (h115.at_ 5 rfl)).2 (((M116 % T.wire.length))) T.wire.length (OV.rvn (h115.at_ 5 rfl)).1 (by omega) 30 (.tmp 121) (.tmp 130) .i64 38) ?_
  refine pR_v 14 (some 132) (aV ([(sV f0.src), (sV f0.dst), (iV .i64 f0.sid), (iV .i64 f0.epoch), (iV .i64 f0.seq), (lV Af0 f0.box.length cf0)]).toArray) 65535 rfl hs115 ⟨h115.at_ 1 rfl, h115.at_ 0 rfl, h115.at_ 5 rfl, trivial⟩ (fun W hW => e_elemsN (OV.rvn hW.2.2.1).2 (((M116 % T.wire.length))) 0 ([(sV f0.src), (sV f0.dst), (iV .i64 f0.sid), (iV .i64 f0.epoch), (iV .i64 f0.seq), (lV Af0 f0.box.length cf0)]) hx0f 38 (.tmp 131) (by kernel_rfl) ([(sV f0.src), (sV f0.dst), (iV .i64 f0.sid), (iV .i64 f0.epoch), (iV .i64 f0.seq), (lV Af0 f0.box.length cf0)]) (by kernel_rfl) (by kernel_rfl) (by kernel_rfl)) ?_
  refine pR_v 16 (some 134) (iV .i64 z.turn) 131071 rfl hs115 ⟨h115.at_ 1 rfl, h115.at_ 0 rfl, h115.at_ 5 rfl, trivial⟩ (fun W hW => eL hW.2.1 3 (.tmp 133) 2 _) ?_
  refine pR_or 17 18 hs115 ?_ ?_
  ·
   refine pR_op 17 (some 135) 262143 rfl (x_turned h115 1 rfl 35 [(aV ([(sV f0.src), (sV f0.dst), (iV .i64 f0.sid), (iV .i64 f0.epoch), (iV .i64 f0.seq), (lV Af0 f0.box.length cf0)]).toArray), (iV .i64 z.turn)] (by kernel_rfl) (tTurned_any (h115.rd 1 rfl) f0 hfB Af0 cf0 hmf0 z.turn)) ?_
   rintro _ w117 ⟨f117, Af117, cf117, L117, hs1117, hs2117, hbx117, rfl, hmf117, hs117, hx117, h117⟩
   refine ⟨fun _ => ⟨h117.at_ 1 rfl, h117.at_ 0 rfl, h117.at_ 5 rfl, trivial⟩, ?_⟩
   refine pR_to 18 (some 10) 524287 rfl hs115 (xN h117 38 ([(sV ByteArray.empty), (sV ByteArray.empty), (iV .i64 0), (iV .i64 0), (iV .i64 0), (lV none 0 0)])) ?_
   rintro _ w118 ⟨g118, rfl, h118⟩
   refine ⟨fun _ => ⟨h118.at_ 2 rfl, h118.at_ 1 rfl, h118.at_ 6 rfl, trivial⟩, ?_⟩
   refine pR_to 19 none 1048575 rfl hs115 (xSs h118 0 38 (.tmp 10) (.tmp 135) 0 ([(sV f117.src), (sV f117.dst), (iV .i64 f117.sid), (iV .i64 f117.epoch), (iV .i64 f117.seq), (lV Af117 f117.box.length cf117)]) ([(sV f117.src), (sV f117.dst), (iV .i64 f117.sid), (iV .i64 f117.epoch), (iV .i64 f117.seq), (lV Af117 f117.box.length cf117)])) ?_
   rintro _ w119 h119
   refine ⟨fun h => absurd h (by decide), ?_⟩
   refine pR_done hs115 ?_ _
   exact hJ20 f117 Af117 cf117 L117 g118 hs1117 hs2117 hbx117 hmf117 ((fun p hp => (hs117 _ hp))) ((hx117 _ (LExt.refl G w L))) _ _ _ (pEq 184) (h119.sel [0, 1, 2, 3, 4, 5, 6, 7, 8, 9, 10] [0, 1, 2] (by kernel_rfl) rfl rfl)
  ·
   refine pR_op 18 (some 10) 393215 rfl (xN h115 38 ([(sV ByteArray.empty), (sV ByteArray.empty), (iV .i64 0), (iV .i64 0), (iV .i64 0), (lV none 0 0)])) ?_
   rintro _ w120 ⟨g120, rfl, h120⟩
   refine ⟨fun _ => ⟨h120.at_ 2 rfl, h120.at_ 1 rfl, h120.at_ 6 rfl, trivial⟩, ?_⟩
   refine pR_to 17 (some 135) 524287 rfl hs115 (x_turned h120 1 rfl 35 [(aV ([(sV f0.src), (sV f0.dst), (iV .i64 f0.sid), (iV .i64 f0.epoch), (iV .i64 f0.seq), (lV Af0 f0.box.length cf0)]).toArray), (iV .i64 z.turn)] (by kernel_rfl) (tTurned_any (h120.rd 1 rfl) f0 hfB Af0 cf0 hmf0 z.turn)) ?_
   rintro _ w121 ⟨f121, Af121, cf121, L121, hs1121, hs2121, hbx121, rfl, hmf121, hs121, hx121, h121⟩
   refine ⟨fun _ => ⟨h121.at_ 2 rfl, h121.at_ 1 rfl, h121.at_ 6 rfl, trivial⟩, ?_⟩
   refine pR_to 19 none 1048575 rfl hs115 (xSs h121 0 38 (.tmp 10) (.tmp 135) 0 ([(sV f121.src), (sV f121.dst), (iV .i64 f121.sid), (iV .i64 f121.epoch), (iV .i64 f121.seq), (lV Af121 f121.box.length cf121)]) ([(sV f121.src), (sV f121.dst), (iV .i64 f121.sid), (iV .i64 f121.epoch), (iV .i64 f121.seq), (lV Af121 f121.box.length cf121)])) ?_
   rintro _ w122 h122
   refine ⟨fun h => absurd h (by decide), ?_⟩
   refine pR_done hs115 ?_ _
   exact hJ20 f121 Af121 cf121 L121 g120 hs1121 hs2121 hbx121 hmf121 ((fun p hp => (hs121 _ hp))) ((hx121 _ (LExt.refl G w L))) _ _ _ (pEq 184) (h122.sel [0, 1, 2, 3, 4, 5, 6, 7, 8, 9, 10] [0, 1, 2] (by kernel_rfl) rfl rfl)
end
section
open Go.RowKit Go.QT
theorem tStep_any {G : Nat -> Prop} {p : Nat} {L : List (Value × Bytes)} {T : Tk} {n : Nat} {Wa Wb : Way} {w : World} (hI : TI sAnn sBob n T Wa Wb) (hC : Cnt n T Wa Wb) (hn : n < 200) (hv : (rT G p L T).Φ w) (hL : (rF L).Φ w) (hd : (rF L).dj (rT G p L T)) (z : Stp) (hz : z.body.length <= 40) (A : Option Addr) (c : Nat) (hm : (Value.slice A z.body.length c, z.body) ∈ L) :
   Calls Try.prog 15 #[pt p 0, .agg #[.int .i64 z.kind, .int .i64 z.at_, .int .i64 z.turn, .slice A z.body.length c]] w (StepPost n G p w L) := by
 have ha := hI.small.q8
 have hb : T.b.queue.length <= 8 := hI.swap.small.q8
 by_cases ho : z.kind < 0 ∨ 6 < z.kind
 · exact tStep_other hI hC hn hv hL hd z hz A c hm ho
 by_cases h0 : z.kind = 0
 · by_cases hq : T.a.queue.length < 8
   · exact tStep_push0 hI hC hn hv hL hd z hz A c hm h0 hq
   · exact tStep_push0f hI hC hn hv hL hd z hz A c hm h0 (by omega)
 by_cases h1 : z.kind = 1
 · by_cases hq : T.b.queue.length < 8
   · exact tStep_push1 hI hC hn hv hL hd z hz A c hm h1 hq
   · exact tStep_push1f hI hC hn hv hL hd z hz A c hm h1 (by omega)
 by_cases h2 : z.kind = 2
 · by_cases hq : T.a.queue.length < 8
   · exact tStep_rekey0 hI hC hn hv hL hd z hz A c hm h2 hq
   · exact tStep_rekey0f hI hC hn hv hL hd z hz A c hm h2 (by omega)
 by_cases h3 : z.kind = 3
 · by_cases hq : T.b.queue.length < 8
   · exact tStep_rekey1 hI hC hn hv hL hd z hz A c hm h3 hq
   · exact tStep_rekey1f hI hC hn hv hL hd z hz A c hm h3 (by omega)
 by_cases h4 : z.kind = 4
 · obtain ⟨s', S', m, hr⟩ := send_ex T.s T.a
   cases m with
   | none => exact tStep_send0n hI hC hn hv hL hd z hz A c hm h4 s' S' hr
   | some f => exact tStep_send0s hI hC hn hv hL hd z hz A c hm h4 f s' S' hr
 by_cases h5 : z.kind = 5
 · obtain ⟨s', S', m, hr⟩ := send_ex T.s T.b
   cases m with
   | none => exact tStep_send1n hI hC hn hv hL hd z hz A c hm h5 s' S' hr
   | some f => exact tStep_send1s hI hC hn hv hL hd z hz A c hm h5 f s' S' hr
 exact tStep_take hI hC hn hv hL hd z hz A c hm (by omega)
end
section
theorem datas_pre (l : List (Nat × Bytes)) (k : Nat) : datas (l.take k) <+: datas l := by
 refine ⟨datas (l.drop k), ?_⟩
 unfold datas
 rw [← List.map_append, ← List.filter_append, List.take_append_drop]
/-- The mark that answers. -/
structure MarkI (s : STab) (b : Ses) (n : Nat) (g : Frm) : Prop where
 src : g.src = b.me
 dst : g.dst = b.peer
 sid : g.sid = b.sid
 ep : g.epoch = (b.eo : Int)
 seq : g.seq = (n : Int)
 ex : ∃ j m, j < 1000000 /\ g.box = mkB 98 (j + 1) /\ s.boxes[j]? = some ⟨mkB 107 m, 14, wrV (contV 2 n [])⟩ /\ s.at_ (useF b.ko) = some m
/-- What a frame that is out does where it comes. -/
structure ExchI (s s' : STab) (a b b' : Ses) (Wa : Way) (f : Frm) (r : Option (Nat × Nat × Bytes)) (m : Option Bytes) (g : Frm) (e : Int) : Prop where
 said : Said s b f r
 told : Told b a Wa r
 take : TakeR s b f r s' b' m (some g) e
 got : b'.got = a.sent + 1
 mark : MarkI s' b' (a.sent + 1) g
 new : b.got = a.sent -> ∃ k c, Wa.P[a.sent]? = some (k, c) /\ e = 0 /\ m = if k = 1 then some c else none
 old : b.got ≠ a.sent -> m = none /\ e = 18
structure SmlS (S : Ses) : Prop where
 sent : S.sent <= 60
 got : S.got <= 60
 eo : S.eo <= 60
 ei : S.ei <= 60
 q : ∀ p ∈ S.queue, p.1 < 1000 /\ p.2.length <= 2048
 q8 : S.queue.length <= 8
 fq : S.frame.isSome -> S.queue ≠ []
theorem RecI.smallS {s : STab} {a b : Ses} {Wa Wb : Way} (h : RecI s a b Wa Wb) (pa : Wa.P.length <= 60) (pb : Wb.P.length <= 60) : SmlS a := by
 have hw := h.ab
 have hv := h.ba
 have h1 := hw.sl
 have h2 := hv.sl
 have h3 := hv.g2
 refine ⟨by omega, by omega, ?_, ?_, fun p hp => ?_, hw.q8, fun hf => ?_⟩
 · have := rks_take_all Wa.P (a.sent + a.fn); have := rks_len Wa.P; have := hw.eo; omega
 · have := rks_take_all Wb.P a.got; have := rks_len Wb.P; have := hv.ei; omega
 · rw [hw.q] at hp
   have := hw.kd p (List.mem_of_mem_drop hp); omega
 · obtain ⟨f, hf⟩ := Option.isSome_iff_exists.1 hf
   exact hw.fresh hf
theorem RecI.bodiesS {s : STab} {a b : Ses} {Wa Wb : Way} (h : RecI s a b Wa Wb) : ∀ x ∈ s.boxes, x.body.length <= 1000000 := fun x hx => by
 rcases h.box x hx with ⟨e, k, n, c, hb⟩ | ⟨e, k, n, c, hb⟩
 · obtain ⟨K, m, _, _, rfl⟩ := hb.ex
   have := cont_len k n c; have := hb.bb; show (wrV (contV k n c)).length <= _; omega
 · obtain ⟨K, m, _, _, rfl⟩ := hb.ex
   have := cont_len k n c; have := hb.bb; show (wrV (contV k n c)).length <= _; omega
section
variable {p q : ByteArray} {n : Nat} {T : Tk} {Wa Wb : Way} {c : Bytes} {s s' : STab} {a b a' S : Ses} {f g : Frm}
theorem TI.pre1 (h : TI p q n T Wa Wb) : T.cm1 <+: T.sd0 := by rw [h.cm1, h.sd0]; exact datas_pre _ _
theorem open_is {K : Bytes} {m j : Nat} {u : Bytes} (hm : s.at_ (useF K) = some m) (hk : S.ki = K) (hb : s.boxes[j]? = some ⟨mkB 107 m, 14, u⟩) (hj : j < 1000000) : (openT s S).open_ (openK s S) 14 (mkB 98 (j + 1)) = some u := by
 have e : openK s S = mkB 107 m := by unfold openK; rw [hk, STab.num_of _ _ _ hm]
 rw [e]
 exact open_at (by rw [openT_boxes]; exact hb) hj
theorem markI_of (s : STab) (b : Ses) (n : Nat) (hb : s.boxes.length < 1000000) : MarkI (sealT s b 2 n []) b n (sealF s b n) :=
 ⟨rfl, rfl, rfl, rfl, rfl, s.boxes.length, s.num (useF b.ko), hb, rfl, by rw [sealT_boxes]; simp, sealT_at s b 2 n []⟩
theorem RecI.exch (h : RecI s a b Wa Wb) (hk : s.keys.length < 100000) (hbs : s.boxes.length < 100000) (hse : a.sent < 100000) (hf : a.frame = some f) (i1 : a.me = b.peer) (i2 : a.peer = b.me) (i3 : a.sid = b.sid) :
   ∃ s' b' r m g e, ExchI s s' a b b' Wa f r m g e := by
 have hw := h.ab
 have hF := hw.fr f hf
 obtain ⟨e, K, m, k, c, j, h1, h2, h3, h4, h5, h6, h7⟩ := hF.ex
 have hfn := fn_some hf
 have hg1 := hw.g1
 have hg2 := hw.g2
 rw [hfn] at hg2
 have hT := take_snoc h6
 have hei := hw.ei
 have hkd := hw.kd _ (List.mem_of_getElem? h6)
 have hkd1 : k = 1 ∨ k = 3 := hkd.1
 have hkd2 : c.length <= 2048 := hkd.2
 have hjl := (List.getElem?_eq_some_iff.1 h3).1
 have hfor : ForS b f := ⟨h.ba.ov, hF.src.trans i1, hF.dst.trans i2, hF.sid.trans i3⟩
 have hbk : b.over = false := h.ba.ov
 -- what is said, where the epoch is right
 have hsaid : b.ei = e -> Said s b f (some (k, a.sent + 1, c)) := fun he => by
   have hki : b.ki = K := by
     have := h.ab.ki; rw [he, h4] at this; exact (Option.some.inj this).symm
   exact ⟨by omega, by omega, hkd2, by rw [h2]; exact open_is h5 hki h3 (by omega), hF.seq⟩
 have htold : b.ei = e -> Told b a Wa (some (k, a.sent + 1, c)) := fun he =>
   ⟨fun e => by omega, fun _ => ⟨by omega, by rw [hfn]; exact Nat.le_refl _, h6, by rw [he, h7]; rfl⟩⟩
 by_cases hg : b.got = a.sent
 · have he : b.ei = e := by rw [hei, hg, h7]
   have hep : f.epoch = (b.ei : Int) := by rw [he]; exact h1
   rcases hkd1 with rfl | rfl
   · refine ⟨_, _, _, _, _, _, hsaid he, htold he, .data hfor hep 1 c (by rw [hg]) (by decide) (by decide), by show b.got + 1 = _; rw [hg], ?_, fun _ => ⟨1, c, h6, rfl, rfl⟩, fun hn => absurd hg hn⟩
     have := markI_of (openT s b) { b with got := b.got + 1 } (b.got + 1) (by rw [openT_boxes]; omega)
     rw [← hg]; exact this
   · refine ⟨_, _, _, _, _, _, hsaid he, htold he, .rekey hfor hep c (by rw [hg]), by show b.got + 1 = _; rw [hg], ?_, fun _ => ⟨3, c, h6, rfl, rfl⟩, fun hn => absurd hg hn⟩
     have hm := markI_of (openT s b) { b with got := b.got + 1 } (b.got + 1) (by rw [openT_boxes]; omega)
     obtain ⟨j, m, m1, m2, m3, m4⟩ := hm.ex
     have g2 := Grow0.made (sealT (openT s b) { b with got := b.got + 1 } 2 (b.got + 1) []) (nxtF b.ki)
     rw [← hg]
     exact ⟨rfl, rfl, rfl, rfl, rfl, j, m, m1, m2, g2.bx _ _ m3, g2.at_ _ _ m4⟩
 · have hg3 : b.got = a.sent + 1 := by omega
   rcases hkd1 with rfl | rfl
   · have he : b.ei = e := by rw [hei, hg3, hT, rks_snoc, if_neg (fun e => absurd (show (1 : Nat) = 3 from e) (by decide)), h7]; rfl
     have hep : f.epoch = (b.ei : Int) := by rw [he]; exact h1
     refine ⟨_, _, _, _, _, _, hsaid he, htold he, .again hfor hep 1 _ c rfl (by decide) (by omega), hg3, ?_, fun hn => absurd hn hg, fun _ => ⟨rfl, rfl⟩⟩
     rw [← hg3]
     exact markI_of (openT s b) b b.got (by rw [openT_boxes]; omega)
   · have he : b.ei = e + 1 := by rw [hei, hg3, hT, rks_snoc, if_pos rfl, h7]
     obtain ⟨r, hs, ht⟩ := h.symm.said hk f (by have := hF.seq; omega) (by have := hF.seq; omega)
     refine ⟨_, _, r, _, _, _, hs, ht, .old hfor (by omega) (by have := hF.seq; omega), hg3, ?_, fun hn => absurd hn hg, fun _ => ⟨rfl, rfl⟩⟩
     rw [← hg3]
     exact markI_of s b b.got (by omega)
theorem TakeR.grow {r : Option (Nat × Nat × Bytes)} {m' : Option Bytes} {n' : Option Frm} {er : Int} (h : TakeR s a f r s' a' m' n' er) : Grow0 s s' := by
 cases h with
 | over h => exact (Grow.refl s).z
 | wrong h => exact (Grow.refl s).z
 | old h => exact (sealT_grow s a 2 a.got []).z
 | epoch h => exact (Grow.refl s).z
 | shut h => exact (openT_grow s a).z
 | mark h he n b => exact (openT_grow s a).z
 | again h he k n b => exact ((openT_grow s a).trans (sealT_grow _ a 2 a.got [])).z
 | ahead h he k n b => exact (openT_grow s a).z
 | data h he k b => exact ((openT_grow s a).trans (sealT_grow _ _ 2 (a.got + 1) [])).z
 | rekey h he b => exact ((openT_grow s a).trans (sealT_grow _ _ 2 (a.got + 1) [])).z.trans (Grow0.made _ _)
theorem MarkI.grow {m : Nat} (h : MarkI s b m g) (gr : Grow0 s s') {b' : Ses} (h1 : b'.me = b.me) (h2 : b'.peer = b.peer) (h3 : b'.sid = b.sid) (h4 : b'.eo = b.eo) (h5 : b'.ko = b.ko) : MarkI s' b' m g :=
 ⟨h.src.trans h1.symm, h.dst.trans h2.symm, h.sid.trans h3.symm, by rw [h4]; exact h.ep, h.seq, by
   obtain ⟨j, m, m1, m2, m3, m4⟩ := h.ex
   exact ⟨j, m, m1, m2, gr.bx _ _ m3, by rw [h5]; exact gr.at_ _ _ m4⟩⟩
/-- The mark comes back. -/
theorem RecI.back (h : RecI s a b Wa Wb) (hf : a.frame = some f) (hm : MarkI s b (a.sent + 1) g) (hk : s.keys.length < 100000) (hse : a.sent < 100000) (hg : b.got = a.sent + 1) (i1 : b.me = a.peer) (i2 : b.peer = a.me) (i3 : b.sid = a.sid) :
   (a.ei = b.eo -> ∃ r, Said s a g r /\ Told a b Wb r /\ TakeR s a g r (openT s a) (markR a) none none 0) /\
   (a.ei ≠ b.eo -> ∃ r, Said s a g r /\ Told a b Wb r /\ TakeR s a g r s a none none 18) := by
 have hfor : ForS a g := ⟨h.ab.ov, hm.src.trans i1, hm.dst.trans i2, hm.sid.trans i3⟩
 have hseq := hm.seq
 have hep := hm.ep
 refine ⟨fun he => ?_, fun he => ?_⟩
 · obtain ⟨j, m, h1, h2, h3, h4⟩ := hm.ex
   have hki : a.ki = b.ko := by
     have h5 := h.ba.ki
     rw [he, h.ba.ks.ko] at h5
     exact (Option.some.inj h5).symm
   refine ⟨some (2, a.sent + 1, []), ⟨by omega, by omega, by simp, by rw [h2]; exact open_is h4 hki h3 h1, hseq⟩, ⟨fun _ => by omega, fun e => absurd rfl e⟩, ?_⟩
   have e1 : markedR a (a.sent + 1) = markR a := if_pos ⟨by rw [hf]; rfl, rfl⟩
   rw [← e1]
   exact .mark hfor (by rw [hep, he]) (a.sent + 1) [] rfl
 · obtain ⟨r, hs, ht⟩ := h.said hk g (by omega) (by omega)
   have hle : a.ei <= b.eo := by rw [h.ba.ei, h.ba.eo]; exact rks_take_le _ h.ba.g2
   exact ⟨r, hs, ht, .epoch hfor (by omega) (fun h => by omega)⟩
end
end
section
open Go.RowKit Go.QT
section
variable {F0 G : Nat -> Prop} {w0 w w' : World} {ro rs : List Res} {p n : Nat} {L L' : List (Value × Bytes)} {T : Tk} {o : Oper} {a : Act} {P : Program}
theorem x_topen (h : Hp F0 w0 w ro rs) (fn : FuncId) (hp : pureVal P (execOp a.eval o) = some (.enter fn #[])) (hc : Calls P fn #[] w (TOpenPost w L)) :
   OpTo P o a w (fun u w' => ∃ p G, u = pt p 0 /\ Hp F0 w0 w' ro (rT G p L tk0 :: rs)) :=
 OpTo.enter fn [] hp hc fun e w' hq => by
   obtain ⟨p, G, he, h2⟩ := hq
   exact ⟨_, he, p, G, rfl, h.call0 h2⟩
theorem x_tstep (h : Hp F0 w0 w ro rs) (i : Nat) (hi : rs[i]? = some (rT G p L T)) (k : Nat) (hk : ro[k]? = some (rF L)) (fn : FuncId) (al : List Value) (hp : pureVal P (execOp a.eval o) = some (.enter fn al.toArray)) (hc : Calls P fn al.toArray w (StepPost n G p w L)) :
   OpTo P o a w (fun u w' => u = .bool true /\ ∃ G' L' T' Wa' Wb', TI sAnn sBob (n + 1) T' Wa' Wb' /\ Cnt (n + 1) T' Wa' Wb' /\ (∀ p, p ∈ L -> p ∈ L') /\ Hp F0 w0 w' (rF L' :: ro) (rs.set i (rT G' p L' T'))) :=
 OpTo.enter fn al hp hc fun e w' hq => by
   obtain ⟨he, G', L', T', Wa', Wb', h1, h2, hL, h3⟩ := hq
   exact ⟨_, he, rfl, G', L', T', Wa', Wb', h1, h2, hL.sub, h.callF i hi k hk h3 hL⟩
end
end
end Go.Proofs.Ytjalodhdjollhaa
