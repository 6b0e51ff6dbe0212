/- The row of RecordCloses: for every input the law returns true and what came in reads as it did. -/
import Derived.ChangeMaps5
import Derived.Test.YtjalodhdjollhaaCA17
set_option maxRecDepth 100000
set_option maxHeartbeats 4000000
namespace Go.Proofs.Ytjalodhdjollhaa
section
open Go.Value renaming int -> iV, slice -> lV, string -> sV, bool -> bV, agg -> aV
open Go.RowKit Go.QT
theorem push3 (q b : Nat) (hq : q <= 8) : 2048 < b ∨ (b <= 2048 /\ q < 8) ∨ (b <= 2048 /\ q = 8) := by omega
theorem tA {α : Type} (x : α) {n : Nat} (h : n < 2) : [x, x][n]? = some x := by
 match n, h with
 | 0, _ => rfl
 | 1, _ => rfl
theorem zkl : zKey.length = 16 := by simp [zKey]
theorem rv2 {w : World} {g : Nat} (hb : Blk w g 59 (vb zKey ++ vb zKey)) : RV w 16 (some ⟨g, 0, none⟩) 2 [vb zKey, vb zKey] := by
 refine ⟨by simp, by unfold maxLen; omega, by simp [vb, zkl], fun _ => ⟨g, 0, rfl, hb.lt, fun i x hx j u hu => ?_⟩⟩
 have hi : i < 2 := (List.getElem?_eq_some_iff.1 hx).1
 rw [tA _ hi] at hx
 obtain rfl := Option.some.inj hx
 have hj := (List.getElem?_eq_some_iff.1 hu).1
 have hl : (vb zKey).length = 16 := by simp [vb, zkl]
 rw [hb.cell]
 match i, hi with
 | 0, _ => rw [show 0 + 0 * 16 + j = j by omega, List.getElem?_append_left hj, hu]
 | 1, _ => rw [show 0 + 1 * 16 + j = 16 + j by omega, List.getElem?_append_right (by omega), hl, Nat.add_sub_cancel_left, hu]
section
variable {F0 : Nat -> Prop} {w0 w : World} {ro rs : List Res} {o : Oper} {a : Act} {P : Program}
theorem x_slots (h : Hp F0 w0 w ro rs) (fn : FuncId) (al : List Value) (hp : pureVal P (execOp a.eval o) = some (.enter fn al.toArray)) (hc : Calls P fn al.toArray w (SlPost w zKey zKey)) :
   OpTo P o a w (fun u w' => ∃ g, u = .slice (some ⟨g, 0, none⟩) 2 2 /\ Hp F0 w0 w' (rRV 16 (some ⟨g, 0, none⟩) 2 [vb zKey, vb zKey] :: ro) rs) :=
 OpTo.enter fn al hp hc fun e w' hq => by
   obtain ⟨g, he, h2⟩ := hq
   have h3 := h.call0 h2
   refine ⟨_, he, g, rfl, ?_⟩
   have h4 := h3.share 0 rfl
   have h5 : ∀ q, (rRV 16 (some ⟨g, 0, none⟩) 2 [vb zKey, vb zKey]).F q -> (rBlk g 59 (vb zKey ++ vb zKey)).F q := fun q hq => by
     have e : g = q := by simpa [ownA] using hq.2
     exact e.symm
   exact (h4.sub 0 rfl (rRV 16 (some ⟨g, 0, none⟩) 2 [vb zKey, vb zKey]) (rv2 (h3.at_ 0 rfl)) h5).dropR 1
end
theorem sPs {G : Nat -> Prop} {tb sb : Nat} {L : List (Value × Bytes)} {S : Ses} {w : World} (hv : (rS G tb sb L S).Φ w) (hL : (rF L).Φ w) (hd : (rF L).dj (rS G tb sb L S)) (b : Bytes) (A : Option Addr) (c : Nat) (hb : SB w (.slice A b.length c) b) (hbd : ∀ q, (rSB (.slice A b.length c) b).F q -> ¬ (rS G tb sb L S).F q) (h : b.length <= 2048) (ho : S.over = true) (h8 : S.queue.length <= 8) :
   Calls Try.prog 9 #[pt sb 0, .slice A b.length c] w (SPostR G tb sb w L (.int .i64 21) S) := by
 have := sPush_in hv hL hd b A c hb hbd (by omega) h8
 rwa [show pushR S 1 b = (21, S) from if_pos ho] at this
theorem sRs {G : Nat -> Prop} {tb sb : Nat} {L : List (Value × Bytes)} {S : Ses} {w : World} (hv : (rS G tb sb L S).Φ w) (hL : (rF L).Φ w) (hd : (rF L).dj (rS G tb sb L S)) (hn : (lV none 0 0, ([] : Bytes)) ∈ L) (h8 : S.queue.length <= 8) (ho : S.over = true) :
   Calls Try.prog 22 #[pt sb 0] w (SPostR G tb sb w L (.int .i64 21) S) := by
 have := sRekey_any hv hL hd hn h8
 rwa [show pushR S 3 [] = (21, S) from if_pos ho] at this
theorem rcA {L : List (Value × Bytes)} {w : World} (hL : (rF L).Φ w) (hnil : (lV none 0 0, ([] : Bytes)) ∈ L) {A : Option Addr} {c : Nat} {xs : List (List Value)} {st : List Stp} (hx : RowOk (StAt L) xs st) (hrx : RV w 4 A c xs) {B : Option Addr} {d : Nat} {body : Bytes} (hbody : SB w (.slice B body.length d) body) :
   Calls Try.prog 6 #[.slice A st.length c, .slice B body.length d] w fun e w' => e = .returned (.bool true) /\ Below w.heap.size w w' := by
 have hcap : st.length <= 9223372036854775807 := by have h1 := hrx.le; have h2 := hrx.cap; have h3 := hx.1; unfold maxLen at h2; omega
 have h0 := ((Hp.ro1 (rF L) hL).addR (rRV 4 A c xs) hrx (by simp)).addR (rSB (.slice B body.length d) body) hbody (by simp)
 refine enter 160 Try.func6 rfl rfl ?_
 refine wp_reset 162 [(0, (lV A st.length c)), (1, (lV B body.length d))] (fun x0 => ?_)
 refine wp_seq_k fun K1 hK1 => reg_lit ?_
 refine wq_p 1 [(4, (bV false))] ?_
 refine wl_end rfl (seq_n hK1 (wp_seq_k fun K2 hK2 => wp_seq_k fun K3 hK3 => reg_lit ?_))
 refine wq_to (some 17) (OpTo.enter 7 [] (by kernel_rfl) (alive20_any _) (R := fun u w' => u = bV true /\ Below w.heap.size w w') (fun e w' hq => ⟨_, hq.1, rfl, hq.2⟩)) ?_
 rintro _ w4 ⟨rfl, hb4⟩
 have h4 := h0.below hb4
 refine wq_p 1 [(18, (bV false))] ?_
 refine wl_end rfl (seq_n hK3 (cF (wp_skip (seq_n hK2 (wp_seq_k fun K5 hK5 => wp_seq_k fun K6 hK6 => ?_)))))
 rcases Decidable.em (briefR st = true) with hb1 | hb1 <;> rcases Decidable.em (body.length <= 5000) with hb2 | hb2
 ·
  refine reg_lit ?_
  refine wq_p 1 [(19, (lV A st.length c))] ?_
  have hbr8 : briefR st = true := hb1
  refine wq_to (some 20) (x_dp h4 14 [(lV A st.length c)] (by kernel_rfl) (v := bV true) (by have := tBrief_any hx (h4.rd 1 rfl); rwa [hbr8] at this)) ?_
  rintro _ w8 ⟨rfl, h8⟩
  obtain ⟨hlen, hall⟩ := of_decide_eq_true (show decide _ = true from hbr8)
  refine wq_p 4 [(24, (iV .i64 ((body.length : Int)))), (23, (lV B body.length d)), (22, (bV false)), (21, (bV false))] (wq_v (some 25) (.bool false) (eqI (bV (decide ((body.length : Int) > 5000))) (congrArg bV (by simp; omega))) (wq_p 1 [(26, (bV false))] ?_))
  refine wl_end rfl (seq_n hK6 (cF (wp_skip (seq_n hK5 (wp_seq_k fun K9 hK9 => reg_lit ?_)))))
  refine wq_to (some 27) (x_topen h8 8 (by kernel_rfl) (tOpen_any hnil _)) ?_
  rintro _ w10 ⟨p, G0, rfl, h10⟩
  refine wq_p 1 [(5, (pt p 0))] ?_
  refine wl_end rfl (seq_n hK9 (wp_seq_k fun K11 hK11 => wp_seq_k fun K12 hK12 => reg_lit ?_))
  refine wq_p 3 [(30, (iV .i64 0)), (29, (iV .i64 ((st.length : Int)))), (28, (lV A st.length c))] ?_
  refine wl_end rfl (seq_n hK12 (wp_block ?_))
  refine wp_loopm (fun mM xX aA wL => ∃ (n : Nat) (G : Nat -> Prop) (LL : List (Value × Bytes)) (T : Tk) (Wa : Way) (Wb : Way), (n <= st.length) /\ (TI sAnn sBob n T Wa Wb) /\ (Cnt n T Wa Wb) /\ (∀ p, p ∈ L -> p ∈ LL) /\ mM = st.length - (n) /\ aA = patch xX 162 [(0, (lV A st.length c)), (1, (lV B body.length d)), (4, (bV false)), (5, (pt p 0)), (18, (bV false)), (26, (bV false)), (28, (lV A st.length c)), (29, (iV .i64 ((st.length : Int)))), (30, (iV .i64 ((n : Int))))] /\ Hp (fun _ => False) w wL [rF LL, rRV 4 A c xs, rSB ((lV B body.length d)) body] [rT G p LL T]) ⟨_, 0, G0, L, tk0, (⟨[], [sA0.ko]⟩), (⟨[], [sA0.ki]⟩), (by omega), ti0, (cnt0 rfl rfl), (fun p hp => hp), rfl, (pEq 162), h10.sel [0] [2, 1, 0] (by kernel_rfl) rfl rfl⟩ ?_
  rintro _ x13 _ w13 ⟨n, G, LL, T, Wa, Wb, hn, hTI, hCn, hsub, rfl, rfl, h13⟩
  refine wp_seq_k fun K14 hK14 => reg_lit ?_
  refine wq_p 1 [(31, (bV (decide ((n : Int) < (st.length : Int)))))] ?_
  refine wl_end rfl (seq_n hK14 (wp_seq_k fun K15 hK15 => ?_))
  refine wp_if ((n : Int) < (st.length : Int)) (by kernel_rfl) (fun b16 => ?_) (fun b16 => ?_)
  ·
   refine wp_skip (seq_n hK15 (wp_seq_k fun K17 hK17 => wp_block (wp_seq_k fun K18 hK18 => ?_)))
   obtain ⟨z, hz0⟩ : ∃ z, st[n]? = some z := ⟨_, List.getElem?_eq_getElem (by omega)⟩
   obtain ⟨x1, hx1, A1, c1, rfl, hm1⟩ := hx.get hz0
   have hzl := hall z (List.mem_of_getElem? hz0)
   refine reg_lit ?_
   refine wq_v (some 32) (eAt A (n * 4 + 0)) (eIx (RV.lenIs (n := st.length) (h13.rd 1 rfl) hx.1).2 n st.length (RV.lenIs (n := st.length) (h13.rd 1 rfl) hx.1).1 (by omega) 47 (.tmp 28) (.tmp 30) .i64 50) (wq_v (some 33) (aV ([(iV .i64 z.kind), (iV .i64 z.at_), (iV .i64 z.turn), (lV A1 z.body.length c1)]).toArray) (e_elemsN (RV.lenIs (n := st.length) (h13.rd 1 rfl) hx.1).2 n 0 ([(iV .i64 z.kind), (iV .i64 z.at_), (iV .i64 z.turn), (lV A1 z.body.length c1)]) hx1 50 (.tmp 32) (by kernel_rfl) ([(iV .i64 z.kind), (iV .i64 z.at_), (iV .i64 z.turn), (lV A1 z.body.length c1)]) (by kernel_rfl) (by kernel_rfl) (by kernel_rfl)) ?_)
   refine wq_to (some 7) (xN h13 50 ([(iV .i64 0), (iV .i64 0), (iV .i64 0), (lV none 0 0)])) ?_
   rintro _ w19 ⟨g19, rfl, h19⟩
   refine wq_to none (xSs h19 0 50 (.tmp 7) (.tmp 33) 0 ([(iV .i64 z.kind), (iV .i64 z.at_), (iV .i64 z.turn), (lV A1 z.body.length c1)]) ([(iV .i64 z.kind), (iV .i64 z.at_), (iV .i64 z.turn), (lV A1 z.body.length c1)])) ?_
   rintro _ w20 h20
   refine wl_end rfl (seq_n hK18 (reg_lit ?_))
   refine wq_p 1 [(34, (pt p 0))] (wq_v (some 35) (aV ([(iV .i64 z.kind), (iV .i64 z.at_), (iV .i64 z.turn), (lV A1 z.body.length c1)]).toArray) (eLs (h20.at_ 0 rfl) 50 (.tmp 7) 0 ([(iV .i64 z.kind), (iV .i64 z.at_), (iV .i64 z.turn), (lV A1 z.body.length c1)])) ?_)
   refine wq_to (some 36) (x_tstep h20 1 rfl 0 rfl 15 [(pt p 0), (aV ([(iV .i64 z.kind), (iV .i64 z.at_), (iV .i64 z.turn), (lV A1 z.body.length c1)]).toArray)] (by kernel_rfl) (tStep_any hTI hCn (by omega) (h20.at_ 1 rfl) (h20.rd 0 rfl) (h20.rdis 0 1 _ _ rfl rfl) z hzl A1 c1 (hsub _ hm1))) ?_
   rintro _ w21 ⟨rfl, G21, L21, T, Wa, Wb, hTI, hCn, hsS21, h21⟩
   refine wl_end rfl (blk_n (seq_n hK17 (reg_lit ?_)))
   refine wq_v (some 37) (iV .i64 ((n : Int) + 1)) (exec_add _ _ _ _ rfl ((n : Int)) 1 (by kernel_rfl) (by kernel_rfl) ((n : Int) + 1) rfl (by omega) (by omega) _) (wq_p 1 [(30, (iV .i64 ((n : Int) + 1)))] ?_)
   refine wl_end rfl ?_
   refine ⟨st.length - (n + 1), (by omega), (n + 1), G21, L21, T, Wa, Wb, (by omega), hTI, hCn, (fun p hp => hsS21 p (hsub p hp)), rfl, (pEq 162), h21.sel [1] [0, 2, 3] (by kernel_rfl) rfl rfl⟩
  ·
   refine wp_exit (seq_e (seq_e (blk_e (seq_n hK11 (wp_seq_k fun K22 hK22 => wp_seq_k fun K23 hK23 => ?_)))))
   obtain ⟨e, hT, h24⟩ := h13.openT 0 rfl
   have hJ25 : ∀ (Gq : Nat -> Prop), ∀ (LQ : List (Value × Bytes)), ∀ (Sb : Ses), ∀ (W1 : Way), ∀ (er : Int), (RecI T.s T.a Sb Wa W1) -> (W1.P.length <= 60) -> (∀ p, p ∈ LL -> p ∈ LQ) -> (2048 < body.length -> er = 20) -> ∀ (xJ25 : Nat -> Value) (aJ : Act) (wJ25 : World), aJ = patch xJ25 162 [(0, (lV A st.length c)), (1, (lV B body.length d)), (4, (bV false)), (5, (pt p 0)), (8, (iV .i64 er)), (18, (bV false)), (26, (bV false)), (28, (lV A st.length c)), (29, (iV .i64 ((st.length : Int)))), (30, (iV .i64 ((n : Int)))), (31, (bV (decide ((n : Int) < (st.length : Int)))))] -> Hp (fun _ => False) w wJ25 [rF LQ, rF LL, rRV 4 A c xs, rSB ((lV B body.length d)) body] [rBlk p 34 ([(pt e.tb 0), (pt e.sa 0), (pt e.sb 0), (lV e.wA T.wire.length e.wc), (lV e.A0 T.sd0.length e.c0), (lV e.A1 T.sd1.length e.c1), (lV e.A2 T.cm0.length e.c2), (lV e.A3 T.cm1.length e.c3), (iV .i64 ((T.k0 : Int))), (iV .i64 ((T.k1 : Int)))]), rTab e.F e.tb T.s, rS e.Ga e.tb e.sa LL T.a, rS Gq e.tb e.sb LQ Sb, rOV 38 6 ((lV e.wA T.wire.length e.wc)) e.wx, rOV 26 1 ((lV e.A0 T.sd0.length e.c0)) e.x0, rOV 26 1 ((lV e.A1 T.sd1.length e.c1)) e.x1, rOV 26 1 ((lV e.A2 T.cm0.length e.c2)) e.x2, rOV 26 1 ((lV e.A3 T.cm1.length e.c3)) e.x3] -> K23 aJ wJ25 := by
     rintro Gq LQ Sb W1 er hRI hP1 hsq her xJ25 _ wJ25 rfl hJh25
     refine seq_n hK23 (wp_seq_k fun K26 hK26 => ?_)
     by_cases b27 : 2048 < body.length
     ·
      obtain rfl : er = 20 := her b27
      refine reg_lit ?_
      refine wq_p 2 [(45, (iV .i64 ((body.length : Int)))), (44, (lV B body.length d))] (wq_v (some 46) (.bool true) (eqI (bV (decide ((body.length : Int) > 2048))) (congrArg bV (by simp; omega))) (wq_p 4 [(50, (bV false)), (49, (bV false)), (48, (iV .i64 20)), (47, (bV true))] ?_))
      refine wl_end rfl (seq_n hK26 (cF (wp_skip (seq_n hK22 (wp_seq_k fun K28 hK28 => ?_)))))
      have hJ29 : ∀ (FQ : Nat -> Prop), ∀ (GQ : Nat -> Prop), ∀ (LR : List (Value × Bytes)), ∀ (s' : STab), ∀ (S' : Ses), ∀ (fS : Frm), ∀ (AS : Option Addr), ∀ (cS : Nat), ∀ (gS : Nat), ∀ (W2 : Way), ∀ (oks : Bool), ((lV AS fS.box.length cS, fS.box) ∈ LR) -> (oks = true ∨ S'.queue.length = 0) -> (RecI s' T.a S' Wa W2) -> (s'.keys.length < 100000) -> (s'.boxes.length < 100000) -> (∀ p, p ∈ LQ -> p ∈ LR) -> ∀ (xJ29 : Nat -> Value) (aJ : Act) (wJ29 : World), aJ = patch xJ29 162 [(0, (lV A st.length c)), (1, (lV B body.length d)), (4, (bV false)), (5, (pt p 0)), (8, (iV .i64 20)), (9, (pt gS 0)), (10, (bV oks)), (18, (bV false)), (26, (bV false)), (28, (lV A st.length c)), (29, (iV .i64 ((st.length : Int)))), (30, (iV .i64 ((n : Int)))), (31, (bV (decide ((n : Int) < (st.length : Int))))), (50, (bV false))] -> Hp (fun _ => False) w wJ29 [rF LR, rF LQ, rF LL, rRV 4 A c xs, rSB ((lV B body.length d)) body] [rBlk gS 38 ([(sV fS.src), (sV fS.dst), (iV .i64 fS.sid), (iV .i64 fS.epoch), (iV .i64 fS.seq), (lV AS fS.box.length cS)]), rBlk p 34 ([(pt e.tb 0), (pt e.sa 0), (pt e.sb 0), (lV e.wA T.wire.length e.wc), (lV e.A0 T.sd0.length e.c0), (lV e.A1 T.sd1.length e.c1), (lV e.A2 T.cm0.length e.c2), (lV e.A3 T.cm1.length e.c3), (iV .i64 ((T.k0 : Int))), (iV .i64 ((T.k1 : Int)))]), rTab FQ e.tb s', rS e.Ga e.tb e.sa LL T.a, rS GQ e.tb e.sb LR S', rOV 38 6 ((lV e.wA T.wire.length e.wc)) e.wx, rOV 26 1 ((lV e.A0 T.sd0.length e.c0)) e.x0, rOV 26 1 ((lV e.A1 T.sd1.length e.c1)) e.x1, rOV 26 1 ((lV e.A2 T.cm0.length e.c2)) e.x2, rOV 26 1 ((lV e.A3 T.cm1.length e.c3)) e.x3] -> K28 aJ wJ29 := by
        rintro FQ GQ LR s' S' fS AS cS gS W2 oks hmS hok hRI2 hk2 hb2 hsr xJ29 _ wJ29 rfl hJh29
        refine seq_n hK28 (wp_seq_k fun K30 hK30 => reg_lit ?_)
        refine wq_p 3 [(61, (pt p 1)), (60, (pt p 0)), (59, (pt p 0))] (wq_v (some 62) (pt e.sa 0) (eL (hJh29.at_ 1 rfl) 29 (.tmp 61) 1 _) ?_)
        have hq31 := hJh29.monoS 3 rfl (fun p hp => (hsr _ (hsq _ hp)))
        refine wq_to (some 63) (x_ses hq31 3 rfl 0 rfl 20 [(pt e.sa 0)] (by kernel_rfl) (sClose_any (hq31.at_ 3 rfl) (hq31.rd 0 rfl) (hq31.rdis 0 3 _ _ rfl rfl))) ?_
        rintro _ w31 ⟨G31, L31, rfl, hs31, hx31, h31⟩
        refine wl_end rfl (seq_n hK30 (wp_seq_k fun K32 hK32 => ?_))
        have hJ33 : ∀ (F6 : Nat -> Prop), ∀ (G6 : Nat -> Prop), ∀ (L6 : List (Value × Bytes)), ∀ (A6 : Option Addr), ∀ (c6 : Nat), ∀ (g6 : Nat), (∀ p, p ∈ L31 -> p ∈ L6) -> ∀ (xJ33 : Nat -> Value) (aJ : Act) (wJ33 : World), aJ = patch xJ33 162 [(0, (lV A st.length c)), (1, (lV B body.length d)), (4, (bV false)), (5, (pt p 0)), (8, (iV .i64 20)), (9, (pt gS 0)), (10, (bV oks)), (11, (pt g6 0)), (12, (iV .i64 21)), (18, (bV false)), (26, (bV false)), (28, (lV A st.length c)), (29, (iV .i64 ((st.length : Int)))), (30, (iV .i64 ((n : Int)))), (31, (bV (decide ((n : Int) < (st.length : Int))))), (50, (bV false))] -> Hp (fun _ => False) w wJ33 [rF L6, rF L31, rF LR, rF LQ, rF LL, rRV 4 A c xs, rSB ((lV B body.length d)) body] [rBlk g6 42 ([(lV A6 0 c6), (bV false), (sV ByteArray.empty), (sV ByteArray.empty), (iV .i64 0), (iV .i64 0), (iV .i64 0), (lV none 0 0), (bV false)]), rBlk gS 38 ([(sV fS.src), (sV fS.dst), (iV .i64 fS.sid), (iV .i64 fS.epoch), (iV .i64 fS.seq), (lV AS fS.box.length cS)]), rBlk p 34 ([(pt e.tb 0), (pt e.sa 0), (pt e.sb 0), (lV e.wA T.wire.length e.wc), (lV e.A0 T.sd0.length e.c0), (lV e.A1 T.sd1.length e.c1), (lV e.A2 T.cm0.length e.c2), (lV e.A3 T.cm1.length e.c3), (iV .i64 ((T.k0 : Int))), (iV .i64 ((T.k1 : Int)))]), rTab F6 e.tb s', rS G6 e.tb e.sa L6 (closeR T.a), rS GQ e.tb e.sb LR S', rOV 38 6 ((lV e.wA T.wire.length e.wc)) e.wx, rOV 26 1 ((lV e.A0 T.sd0.length e.c0)) e.x0, rOV 26 1 ((lV e.A1 T.sd1.length e.c1)) e.x1, rOV 26 1 ((lV e.A2 T.cm0.length e.c2)) e.x2, rOV 26 1 ((lV e.A3 T.cm1.length e.c3)) e.x3] -> K32 aJ wJ33 := by
          rintro F6 G6 L6 A6 c6 g6 hs6 xJ33 _ wJ33 rfl hJh33
          refine seq_n hK32 (wp_seq_k fun K34 hK34 => reg_lit ?_)
          refine wq_p 3 [(76, (pt p 1)), (75, (pt p 0)), (74, (pt p 0))] (wq_v (some 77) (pt e.sa 0) (eL (hJh33.at_ 2 rfl) 29 (.tmp 76) 1 _) ?_)
          refine wq_to (some 78) (x_two hJh33 3 4 rfl rfl (by kernel_rfl) 0 rfl 11 [(pt e.sa 0)] (by kernel_rfl) (sSend_over (hJh33.at_ 3 rfl) (hJh33.at_ 4 rfl) (hJh33.rd 0 rfl) (hJh33.dis 3 4 _ _ rfl rfl (by decide)) (hJh33.rdis 0 3 _ _ rfl rfl) (hJh33.rdis 0 4 _ _ rfl rfl) rfl)) ?_
          rintro _ w35 ⟨F35, G35, L35, rfl, hs35, hx35, h35⟩
          refine wq_p 3 [(80, (bV false)), (79, (aV ([(sV ByteArray.empty), (sV ByteArray.empty), (iV .i64 0), (iV .i64 0), (iV .i64 0), (lV none 0 0)]).toArray)), (73, (Value.tuple #[(aV ([(sV ByteArray.empty), (sV ByteArray.empty), (iV .i64 0), (iV .i64 0), (iV .i64 0), (lV none 0 0)]).toArray), (bV false)]))] ?_
          refine wq_to (some 13) (xN h35 38 ([(sV ByteArray.empty), (sV ByteArray.empty), (iV .i64 0), (iV .i64 0), (iV .i64 0), (lV none 0 0)])) ?_
          rintro _ w36 ⟨g36, rfl, h36⟩
          refine wq_to none (xSs h36 0 38 (.tmp 13) (.tmp 79) 0 ([(sV ByteArray.empty), (sV ByteArray.empty), (iV .i64 0), (iV .i64 0), (iV .i64 0), (lV none 0 0)]) ([(sV ByteArray.empty), (sV ByteArray.empty), (iV .i64 0), (iV .i64 0), (iV .i64 0), (lV none 0 0)])) ?_
          rintro _ w37 h37
          refine wq_p 1 [(14, (bV false))] ?_
          refine wl_end rfl (seq_n hK34 (wp_seq_k fun K38 hK38 => wp_seq_k fun K39 hK39 => reg_lit ?_))
          refine wq_p 3 [(83, (pt p 1)), (82, (pt p 0)), (81, (pt p 0))] (wq_v (some 84) (pt e.sa 0) (eL (h37.at_ 3 rfl) 29 (.tmp 83) 1 _) ?_)
          refine wq_to (some 85) (x_slots h37 21 [(pt e.sa 0)] (by kernel_rfl) (slots_any (h37.at_ 5 rfl))) ?_
          rintro _ w40 ⟨g40, rfl, h40⟩
          refine wq_p 2 [(87, (iV .i64 0)), (86, (iV .i64 2))] ?_
          refine wl_end rfl (seq_n hK39 (wp_block ?_))
          refine wp_loopm (fun mM xX aA wL => ∃ (n2 : Nat), (n2 <= 2) /\ mM = 2 - (n2) /\ aA = patch xX 162 [(0, (lV A st.length c)), (1, (lV B body.length d)), (5, (pt p 0)), (8, (iV .i64 20)), (9, (pt gS 0)), (10, (bV oks)), (11, (pt g6 0)), (12, (iV .i64 21)), (14, (bV false)), (18, (bV false)), (26, (bV false)), (28, (lV A st.length c)), (29, (iV .i64 ((st.length : Int)))), (30, (iV .i64 ((n : Int)))), (31, (bV (decide ((n : Int) < (st.length : Int))))), (50, (bV false)), (85, (lV (some ⟨g40, 0, none⟩) 2 2)), (86, (iV .i64 2)), (87, (iV .i64 ((n2 : Int))))] /\ Hp (fun _ => False) w wL [rRV 16 ((some ⟨g40, 0, none⟩)) 2 ([vb zKey, vb zKey]), rF L35, rF L6, rF L31, rF LR, rF LQ, rF LL, rRV 4 A c xs, rSB ((lV B body.length d)) body] [rBlk g36 38 ([(sV ByteArray.empty), (sV ByteArray.empty), (iV .i64 0), (iV .i64 0), (iV .i64 0), (lV none 0 0)]), rBlk g6 42 ([(lV A6 0 c6), (bV false), (sV ByteArray.empty), (sV ByteArray.empty), (iV .i64 0), (iV .i64 0), (iV .i64 0), (lV none 0 0), (bV false)]), rBlk gS 38 ([(sV fS.src), (sV fS.dst), (iV .i64 fS.sid), (iV .i64 fS.epoch), (iV .i64 fS.seq), (lV AS fS.box.length cS)]), rBlk p 34 ([(pt e.tb 0), (pt e.sa 0), (pt e.sb 0), (lV e.wA T.wire.length e.wc), (lV e.A0 T.sd0.length e.c0), (lV e.A1 T.sd1.length e.c1), (lV e.A2 T.cm0.length e.c2), (lV e.A3 T.cm1.length e.c3), (iV .i64 ((T.k0 : Int))), (iV .i64 ((T.k1 : Int)))]), rTab F35 e.tb s', rS G35 e.tb e.sa L35 (closeR T.a), rS GQ e.tb e.sb LR S', rOV 38 6 ((lV e.wA T.wire.length e.wc)) e.wx, rOV 26 1 ((lV e.A0 T.sd0.length e.c0)) e.x0, rOV 26 1 ((lV e.A1 T.sd1.length e.c1)) e.x1, rOV 26 1 ((lV e.A2 T.cm0.length e.c2)) e.x2, rOV 26 1 ((lV e.A3 T.cm1.length e.c3)) e.x3]) ⟨_, 0, (by omega), rfl, (pEq 162), h40.sel [0, 1, 2, 3, 4, 5, 6, 7, 8, 9, 10, 11] [0, 1, 2, 3, 4, 5, 6, 7, 8] (by kernel_rfl) rfl rfl⟩ ?_
          rintro _ x41 _ w41 ⟨n2, hn2, rfl, rfl, h41⟩
          refine wp_seq_k fun K42 hK42 => reg_lit ?_
          refine wq_p 1 [(88, (bV (decide ((n2 : Int) < 2))))] ?_
          refine wl_end rfl (seq_n hK42 (wp_seq_k fun K43 hK43 => ?_))
          refine wp_if ((n2 : Int) < 2) (by kernel_rfl) (fun b44 => ?_) (fun b44 => ?_)
          ·
           refine wp_skip (seq_n hK43 (wp_seq_k fun K45 hK45 => wp_block (wp_seq_k fun K46 hK46 => reg_lit ?_)))
           refine wq_v (some 89) (eAt (some ⟨g40, 0, none⟩) (n2 * 16 + 0)) (eIx (RV.lenIs (n := 2) (h41.rd 0 rfl) rfl).2 n2 2 (RV.lenIs (n := 2) (h41.rd 0 rfl) rfl).1 (by omega) 56 (.tmp 85) (.tmp 87) .i64 59) (wq_v (some 90) (aV (vb zKey).toArray) (e_elemsN (RV.lenIs (n := 2) (h41.rd 0 rfl) rfl).2 n2 0 (vb zKey) (tA _ (by omega)) 59 (.tmp 89) (by kernel_rfl) (vb zKey) (by kernel_rfl) (by kernel_rfl) (by kernel_rfl)) ?_)
           refine wq_to (some 16) (xN h41 59 (vb (List.replicate 16 0))) ?_
           rintro _ w47 ⟨g47, rfl, h47⟩
           refine wq_to none (xSs h47 0 59 (.tmp 16) (.tmp 90) 0 (vb zKey) (vb zKey)) ?_
           rintro _ w48 h48
           refine wl_end rfl (seq_n hK46 (wp_seq_k fun K49 hK49 => reg_lit ?_))
           refine wq_v (some 91) (aV (vb zKey).toArray) (eLs (h48.at_ 0 rfl) 59 (.tmp 16) 0 (vb zKey)) (wq_p 1 [(92, (aV (vb (List.replicate 16 0)).toArray))] (wq_v (some 93) (bV false) (e_kneB zKey (List.replicate 16 0) (by kernel_rfl) (by kernel_rfl) 59 59 (.tmp 91) (.tmp 92) (by kernel_rfl) (by kernel_rfl) (by kernel_rfl) (by kernel_rfl) (by kernel_rfl) false (by simp [zKey]) _) ?_))
           refine wl_end rfl (seq_n hK49 (cF (wp_skip (blk_n (seq_n hK45 (reg_lit ?_))))))
           refine wq_v (some 94) (iV .i64 ((n2 : Int) + 1)) (exec_add _ _ _ _ rfl ((n2 : Int)) 1 (by kernel_rfl) (by kernel_rfl) ((n2 : Int) + 1) rfl (by omega) (by omega) _) (wq_p 1 [(87, (iV .i64 ((n2 : Int) + 1)))] ?_)
           refine wl_end rfl ?_
           refine ⟨2 - (n2 + 1), (by omega), (n2 + 1), (by omega), rfl, (pEq 162), h48.sel [1, 2, 3, 4, 5, 6, 7, 8, 9, 10, 11, 12] [0, 1, 2, 3, 4, 5, 6, 7, 8] (by kernel_rfl) rfl rfl⟩
          ·
           refine wp_exit (seq_e (seq_e (blk_e (seq_n hK38 (wp_seq_k fun K50 hK50 => ?_)))))
           by_cases b51 : oks = true
           ·
            obtain rfl : oks = true := b51
            refine reg_lit ?_
            refine wq_p 3 [(97, (pt p 1)), (96, (pt p 0)), (95, (pt p 0))] (wq_v (some 98) (pt e.sa 0) (eL (h41.at_ 3 rfl) 29 (.tmp 97) 1 _) ?_)
            refine wq_to (some 99) (x_dp h41 19 [(pt e.sa 0)] (by kernel_rfl) (over_any (h41.at_ 5 rfl))) ?_
            rintro _ w52 ⟨rfl, h52⟩
            refine wq_p 6 [(105, (pt g6 1)), (104, (bV true)), (103, (bV true)), (102, (bV true)), (101, (bV false)), (100, (bV true))] (wq_v (some 106) (bV false) (eL (h52.at_ 1 rfl) 4 (.tmp 105) 1 _) (wq_p 4 [(110, (pt g6 8)), (109, (bV true)), (108, (bV true)), (107, (bV true))] (wq_v (some 111) (bV false) (eL (h52.at_ 1 rfl) 4 (.tmp 110) 8 _) ?_)))
            refine wq_p 10 [(121, (pt p 1)), (120, (pt p 0)), (119, (pt p 0)), (118, (bV true)), (117, (bV true)), (116, (bV true)), (115, (iV .i64 21)), (114, (bV true)), (113, (bV true)), (112, (bV true))] (wq_v (some 122) (pt e.sa 0) (eL (h52.at_ 3 rfl) 29 (.tmp 121) 1 _) ?_)
            refine wq_to (some 123) (x_ses h52 5 rfl 1 rfl 9 [(pt e.sa 0), (lV none 0 0)] (by kernel_rfl) (sPs (h52.at_ 5 rfl) (h52.rd 1 rfl) (h52.rdis 1 5 _ _ rfl rfl) [] none 0 (SB.nil _ _ (Nat.zero_le _) _) (fun q hq => absurd rfl hq.1) (by simp) rfl (by show (0 : Nat) <= 8; omega))) ?_
            rintro _ w53 ⟨G53, L53, rfl, hs53, hx53, h53⟩
            refine wq_p 6 [(129, (pt p 1)), (128, (pt p 0)), (127, (pt p 0)), (126, (bV true)), (125, (bV true)), (124, (bV true))] (wq_v (some 130) (pt e.sa 0) (eL (h53.at_ 3 rfl) 29 (.tmp 129) 1 _) ?_)
            refine wq_to (some 131) (x_ses h53 5 rfl 0 rfl 22 [(pt e.sa 0)] (by kernel_rfl) (sRs (h53.at_ 5 rfl) (h53.rd 0 rfl) (h53.rdis 0 5 _ _ rfl rfl) (hs53 _ (hs35 _ (hs6 _ (hs31 _ (hsr _ (hsq _ hT.nil)))))) (by show (0 : Nat) <= 8; omega) rfl)) ?_
            rintro _ w54 ⟨G54, L54, rfl, hs54, hx54, h54⟩
            refine wq_p 6 [(137, (pt p 1)), (136, (pt p 0)), (135, (pt p 0)), (134, (bV true)), (133, (bV true)), (132, (bV true))] (wq_v (some 138) (pt e.sa 0) (eL (h54.at_ 3 rfl) 29 (.tmp 137) 1 _) ?_)
            refine wq_to (some 139) (x_dp h54 10 [(pt e.sa 0)] (by kernel_rfl) (waits_any (h54.at_ 5 rfl))) ?_
            rintro _ w55 ⟨rfl, h55⟩
            refine wq_p 6 [(145, (pt p 1)), (144, (pt p 0)), (143, (pt p 0)), (142, (bV true)), (141, (bV true)), (140, (bV true))] (wq_v (some 146) (pt e.sa 0) (eL (h55.at_ 3 rfl) 29 (.tmp 145) 1 _) ?_)
            refine wq_to (some 147) (x_slots h55 21 [(pt e.sa 0)] (by kernel_rfl) (slots_any (h55.at_ 5 rfl))) ?_
            rintro _ w56 ⟨g56, rfl, h56⟩
            refine wq_p 11 [(158, undef), (157, undef), (156, undef), (155, undef), (154, undef), (153, (bV true)), (152, (bV true)), (151, (bV true)), (150, (bV true)), (149, (bV true)), (148, (iV .i64 2))] (wq_p 1 [(159, undef)] (wq_p 3 [(4, (bV true)), (161, (bV true)), (160, (bV true))] ?_))
            refine wl_end rfl (seq_n hK50 (wp_ret ?_))
            refine post_1 rfl (by kernel_rfl) (rtm (bV true)) ?_
            exact ⟨rfl, h56.below0⟩
           ·
            obtain rfl : oks = false := by simpa using b51
            have hql0 : S'.queue.length = 0 := by simpa using hok
            refine reg_lit ?_
            refine wq_p 3 [(97, (pt p 1)), (96, (pt p 0)), (95, (pt p 0))] (wq_v (some 98) (pt e.sa 0) (eL (h41.at_ 3 rfl) 29 (.tmp 97) 1 _) ?_)
            refine wq_to (some 99) (x_dp h41 19 [(pt e.sa 0)] (by kernel_rfl) (over_any (h41.at_ 5 rfl))) ?_
            rintro _ w57 ⟨rfl, h57⟩
            refine wq_p 6 [(105, (pt g6 1)), (104, (bV true)), (103, (bV true)), (102, (bV true)), (101, (bV false)), (100, (bV true))] (wq_v (some 106) (bV false) (eL (h57.at_ 1 rfl) 4 (.tmp 105) 1 _) (wq_p 4 [(110, (pt g6 8)), (109, (bV true)), (108, (bV true)), (107, (bV true))] (wq_v (some 111) (bV false) (eL (h57.at_ 1 rfl) 4 (.tmp 110) 8 _) ?_)))
            refine wq_p 10 [(121, (pt p 1)), (120, (pt p 0)), (119, (pt p 0)), (118, (bV true)), (117, (bV true)), (116, (bV true)), (115, (iV .i64 21)), (114, (bV true)), (113, (bV true)), (112, (bV true))] (wq_v (some 122) (pt e.sa 0) (eL (h57.at_ 3 rfl) 29 (.tmp 121) 1 _) ?_)
            refine wq_to (some 123) (x_ses h57 5 rfl 1 rfl 9 [(pt e.sa 0), (lV none 0 0)] (by kernel_rfl) (sPs (h57.at_ 5 rfl) (h57.rd 1 rfl) (h57.rdis 1 5 _ _ rfl rfl) [] none 0 (SB.nil _ _ (Nat.zero_le _) _) (fun q hq => absurd rfl hq.1) (by simp) rfl (by show (0 : Nat) <= 8; omega))) ?_
            rintro _ w58 ⟨G58, L58, rfl, hs58, hx58, h58⟩
            refine wq_p 6 [(129, (pt p 1)), (128, (pt p 0)), (127, (pt p 0)), (126, (bV true)), (125, (bV true)), (124, (bV true))] (wq_v (some 130) (pt e.sa 0) (eL (h58.at_ 3 rfl) 29 (.tmp 129) 1 _) ?_)
            refine wq_to (some 131) (x_ses h58 5 rfl 0 rfl 22 [(pt e.sa 0)] (by kernel_rfl) (sRs (h58.at_ 5 rfl) (h58.rd 0 rfl) (h58.rdis 0 5 _ _ rfl rfl) (hs58 _ (hs35 _ (hs6 _ (hs31 _ (hsr _ (hsq _ hT.nil)))))) (by show (0 : Nat) <= 8; omega) rfl)) ?_
            rintro _ w59 ⟨G59, L59, rfl, hs59, hx59, h59⟩
            refine wq_p 6 [(137, (pt p 1)), (136, (pt p 0)), (135, (pt p 0)), (134, (bV true)), (133, (bV true)), (132, (bV true))] (wq_v (some 138) (pt e.sa 0) (eL (h59.at_ 3 rfl) 29 (.tmp 137) 1 _) ?_)
            refine wq_to (some 139) (x_dp h59 10 [(pt e.sa 0)] (by kernel_rfl) (waits_any (h59.at_ 5 rfl))) ?_
            rintro _ w60 ⟨rfl, h60⟩
            refine wq_p 6 [(145, (pt p 1)), (144, (pt p 0)), (143, (pt p 0)), (142, (bV true)), (141, (bV true)), (140, (bV true))] (wq_v (some 146) (pt e.sa 0) (eL (h60.at_ 3 rfl) 29 (.tmp 145) 1 _) ?_)
            refine wq_to (some 147) (x_slots h60 21 [(pt e.sa 0)] (by kernel_rfl) (slots_any (h60.at_ 5 rfl))) ?_
            rintro _ w61 ⟨g61, rfl, h61⟩
            refine wq_p 9 [(156, (pt p 2)), (155, (pt p 0)), (154, (pt p 0)), (153, (bV false)), (152, (bV false)), (151, (bV true)), (150, (bV true)), (149, (bV true)), (148, (iV .i64 2))] (wq_v (some 157) (pt e.sb 0) (eL (h61.at_ 3 rfl) 29 (.tmp 156) 2 _) ?_)
            refine wq_to (some 158) (x_dp h61 10 [(pt e.sb 0)] (by kernel_rfl) (waits_any (h61.at_ 6 rfl))) ?_
            rintro _ w62 ⟨rfl, h62⟩
            refine wq_v (some 159) (.bool true) (eqI (bV (((S'.queue.length : Int)) == 0)) (congrArg bV (by rw [hql0]; rfl))) (wq_p 3 [(4, (bV true)), (161, (bV true)), (160, (bV true))] ?_)
            refine wl_end rfl (seq_n hK50 (wp_ret ?_))
            refine post_1 rfl (by kernel_rfl) (rtm (bV true)) ?_
            exact ⟨rfl, h62.below0⟩
        refine pR_go h31 11 (fun W => (rBlk p 34 ([(pt e.tb 0), (pt e.sa 0), (pt e.sb 0), (lV e.wA T.wire.length e.wc), (lV e.A0 T.sd0.length e.c0), (lV e.A1 T.sd1.length e.c1), (lV e.A2 T.cm0.length e.c2), (lV e.A3 T.cm1.length e.c3), (iV .i64 ((T.k0 : Int))), (iV .i64 ((T.k1 : Int)))])).Φ W /\ (rBlk gS 38 ([(sV fS.src), (sV fS.dst), (iV .i64 fS.sid), (iV .i64 fS.epoch), (iV .i64 fS.seq), (lV AS fS.box.length cS)])).Φ W /\ True) [(66, [5], 0), (67, [65], 1), (68, [66], 2), (69, [67], 4), (70, [9], 0), (71, [68, 69], 24), (65, [70], 32), (72, [64], 64), (73, [64], 64), (12, [], 0), (0, [11, 71], 767), (13, [72], 2047)] rfl (fun _ d _ _ _ h => by cases d <;> exact h) ?_
        intro hs63 w63 h63
        refine pR_p 9 [0, 1, 2] [(67, (pt p 1)), (66, (pt p 0)), (65, (pt p 0))] 7 hs63 ⟨h63.at_ 1 rfl, h63.at_ 0 rfl, trivial⟩ ?_
        refine pR_v 3 (some 68) (pt e.sa 0) 15 rfl hs63 ⟨h63.at_ 1 rfl, h63.at_ 0 rfl, trivial⟩ (fun W hW => eL hW.1 29 (.tmp 67) 1 _) ?_
        refine pR_v 4 (some 69) (aV ([(sV fS.src), (sV fS.dst), (iV .i64 fS.sid), (iV .i64 fS.epoch), (iV .i64 fS.seq), (lV AS fS.box.length cS)]).toArray) 31 rfl hs63 ⟨h63.at_ 1 rfl, h63.at_ 0 rfl, trivial⟩ (fun W hW => eLs hW.2.1 38 (.tmp 9) 0 ([(sV fS.src), (sV fS.dst), (iV .i64 fS.sid), (iV .i64 fS.epoch), (iV .i64 fS.seq), (lV AS fS.box.length cS)])) ?_
        refine pR_or 5 9 hs63 ?_ ?_
        ·
         refine pR_op 5 (some 70) 63 rfl (x_two h63 2 3 rfl rfl (by kernel_rfl) 0 rfl 12 [(pt e.sa 0), (aV ([(sV fS.src), (sV fS.dst), (iV .i64 fS.sid), (iV .i64 fS.epoch), (iV .i64 fS.seq), (lV AS fS.box.length cS)]).toArray)] (by kernel_rfl) (sTake_over (h63.at_ 2 rfl) (h63.at_ 3 rfl) (h63.rd 0 rfl) (h63.dis 2 3 _ _ rfl rfl (by decide)) (h63.rdis 0 2 _ _ rfl rfl) (h63.rdis 0 3 _ _ rfl rfl) fS AS cS (hs31 _ hmS) (hs31 _ (hsr _ (hsq _ hT.nil))) (by omega) (by omega) hRI2.bodiesS rfl)) ?_
         rintro _ w64 ⟨F64, G64, L64, ⟨_, rfl, Ac64, cc64, _, rfl, hmc64, rfl⟩, hs64, hx64, h64⟩
         refine ⟨fun _ => ⟨h64.at_ 1 rfl, h64.at_ 0 rfl, trivial⟩, ?_⟩
         refine pR_p 3 [6, 7, 8] [(72, (iV .i64 21)), (71, (aV ([(lV Ac64 0 cc64), (bV false), (sV ByteArray.empty), (sV ByteArray.empty), (iV .i64 0), (iV .i64 0), (iV .i64 0), (lV none 0 0), (bV false)]).toArray)), (64, (Value.tuple #[(aV ([(lV Ac64 0 cc64), (bV false), (sV ByteArray.empty), (sV ByteArray.empty), (iV .i64 0), (iV .i64 0), (iV .i64 0), (lV none 0 0), (bV false)]).toArray), (iV .i64 21)]))] 511 hs63 ⟨h64.at_ 1 rfl, h64.at_ 0 rfl, trivial⟩ ?_
         refine pR_to 9 (some 11) 1023 rfl hs63 (xN h64 42 ([(lV none 0 0), (bV false), (sV ByteArray.empty), (sV ByteArray.empty), (iV .i64 0), (iV .i64 0), (iV .i64 0), (lV none 0 0), (bV false)])) ?_
         rintro _ w65 ⟨g65, rfl, h65⟩
         refine ⟨fun _ => ⟨h65.at_ 2 rfl, h65.at_ 1 rfl, trivial⟩, ?_⟩
         refine pR_to 10 none 2047 rfl hs63 (xSs h65 0 42 (.tmp 11) (.tmp 71) 0 ([(lV Ac64 0 cc64), (bV false), (sV ByteArray.empty), (sV ByteArray.empty), (iV .i64 0), (iV .i64 0), (iV .i64 0), (lV none 0 0), (bV false)]) ([(lV Ac64 0 cc64), (bV false), (sV ByteArray.empty), (sV ByteArray.empty), (iV .i64 0), (iV .i64 0), (iV .i64 0), (lV none 0 0), (bV false)])) ?_
         rintro _ w66 h66
         refine ⟨fun _ => ⟨h66.at_ 2 rfl, h66.at_ 1 rfl, trivial⟩, ?_⟩
         refine pR_to 11 (some 12) 4095 rfl hs63 (OpTo.run (iV .i64 21) (pureOp_run (by kernel_rfl) _) (R := fun v w => v = (iV .i64 21) /\ w66 = w) ⟨rfl, rfl⟩) ?_
         rintro _ _ ⟨rfl, rfl⟩
         refine ⟨fun h => absurd h (by decide), ?_⟩
         refine pR_done hs63 ?_ _
         exact hJ33 F64 G64 L64 Ac64 cc64 g65 ((fun p hp => (hs64 _ hp))) _ _ _ (pEq 162) (h66.sel [0, 1, 2, 3, 4, 5, 6, 7, 8, 9, 10] [0, 1, 2, 3, 4, 5, 6] (by kernel_rfl) rfl rfl)
        ·
         refine pR_op 9 (some 11) 543 rfl (xN h63 42 ([(lV none 0 0), (bV false), (sV ByteArray.empty), (sV ByteArray.empty), (iV .i64 0), (iV .i64 0), (iV .i64 0), (lV none 0 0), (bV false)])) ?_
         rintro _ w67 ⟨g67, rfl, h67⟩
         refine ⟨fun _ => ⟨h67.at_ 2 rfl, h67.at_ 1 rfl, trivial⟩, ?_⟩
         refine pR_to 5 (some 70) 575 rfl hs63 (x_two h67 3 4 rfl rfl (by kernel_rfl) 0 rfl 12 [(pt e.sa 0), (aV ([(sV fS.src), (sV fS.dst), (iV .i64 fS.sid), (iV .i64 fS.epoch), (iV .i64 fS.seq), (lV AS fS.box.length cS)]).toArray)] (by kernel_rfl) (sTake_over (h67.at_ 3 rfl) (h67.at_ 4 rfl) (h67.rd 0 rfl) (h67.dis 3 4 _ _ rfl rfl (by decide)) (h67.rdis 0 3 _ _ rfl rfl) (h67.rdis 0 4 _ _ rfl rfl) fS AS cS (hs31 _ hmS) (hs31 _ (hsr _ (hsq _ hT.nil))) (by omega) (by omega) hRI2.bodiesS rfl)) ?_
         rintro _ w68 ⟨F68, G68, L68, ⟨_, rfl, Ac68, cc68, _, rfl, hmc68, rfl⟩, hs68, hx68, h68⟩
         refine ⟨fun _ => ⟨h68.at_ 2 rfl, h68.at_ 1 rfl, trivial⟩, ?_⟩
         refine pR_p 2 [6, 7, 8] [(72, (iV .i64 21)), (71, (aV ([(lV Ac68 0 cc68), (bV false), (sV ByteArray.empty), (sV ByteArray.empty), (iV .i64 0), (iV .i64 0), (iV .i64 0), (lV none 0 0), (bV false)]).toArray)), (64, (Value.tuple #[(aV ([(lV Ac68 0 cc68), (bV false), (sV ByteArray.empty), (sV ByteArray.empty), (iV .i64 0), (iV .i64 0), (iV .i64 0), (lV none 0 0), (bV false)]).toArray), (iV .i64 21)]))] 1023 hs63 ⟨h68.at_ 2 rfl, h68.at_ 1 rfl, trivial⟩ ?_
         refine pR_to 10 none 2047 rfl hs63 (xSs h68 0 42 (.tmp 11) (.tmp 71) 0 ([(lV Ac68 0 cc68), (bV false), (sV ByteArray.empty), (sV ByteArray.empty), (iV .i64 0), (iV .i64 0), (iV .i64 0), (lV none 0 0), (bV false)]) ([(lV Ac68 0 cc68), (bV false), (sV ByteArray.empty), (sV ByteArray.empty), (iV .i64 0), (iV .i64 0), (iV .i64 0), (lV none 0 0), (bV false)])) ?_
         rintro _ w69 h69
         refine ⟨fun _ => ⟨h69.at_ 2 rfl, h69.at_ 1 rfl, trivial⟩, ?_⟩
         refine pR_to 11 (some 12) 4095 rfl hs63 (OpTo.run (iV .i64 21) (pureOp_run (by kernel_rfl) _) (R := fun v w => v = (iV .i64 21) /\ w69 = w) ⟨rfl, rfl⟩) ?_
         rintro _ _ ⟨rfl, rfl⟩
         refine ⟨fun h => absurd h (by decide), ?_⟩
         refine pR_done hs63 ?_ _
         exact hJ33 F68 G68 L68 Ac68 cc68 g67 ((fun p hp => (hs68 _ hp))) _ _ _ (pEq 162) (h69.sel [0, 1, 2, 3, 4, 5, 6, 7, 8, 9, 10] [0, 1, 2, 3, 4, 5, 6] (by kernel_rfl) rfl rfl)
      obtain ⟨s', S', m, hr⟩ := send_ex T.s Sb
      have hsm := hRI.symm.smallS hP1 hTI.pa
      obtain ⟨W2, hSI⟩ := hRI.symm.send hr (by have := hTI.ks; omega) (by have := hsm.sent; omega)
      rcases m with _ | f
      ·
       refine reg_lit ?_
       refine wq_p 3 [(54, (pt p 2)), (53, (pt p 0)), (52, (pt p 0))] (wq_v (some 55) (pt e.sb 0) (eL (hJh25.at_ 0 rfl) 29 (.tmp 54) 2 _) ?_)
       have hql : S'.queue.length = 0 := by rw [hSI.q]; exact List.length_eq_zero_iff.2 (Classical.not_not.1 (of_decide_eq_false (show decide _ = false from hSI.is.symm)))
       refine wq_to (some 56) (x_two hJh25 1 3 rfl rfl (by kernel_rfl) 0 rfl 11 [(pt e.sb 0)] (by kernel_rfl) (send_of (hJh25.at_ 1 rfl) (hJh25.at_ 3 rfl) (hJh25.rd 0 rfl) (hJh25.dis 1 3 _ _ rfl rfl (by decide)) (hJh25.rdis 0 1 _ _ rfl rfl) (hJh25.rdis 0 3 _ _ rfl rfl) hr hsm.q (by have := hsm.sent; omega) (by have := hsm.eo; omega) (by have := hTI.ks; omega) (by have := hTI.bs; omega))) ?_
       rintro _ w71 ⟨F71, G71, L71, ⟨_, rfl, rfl⟩, hs71, hx71, h71⟩
       refine wq_p 3 [(58, (bV false)), (57, (aV ([(sV ByteArray.empty), (sV ByteArray.empty), (iV .i64 0), (iV .i64 0), (iV .i64 0), (lV none 0 0)]).toArray)), (51, (Value.tuple #[(aV ([(sV ByteArray.empty), (sV ByteArray.empty), (iV .i64 0), (iV .i64 0), (iV .i64 0), (lV none 0 0)]).toArray), (bV false)]))] ?_
       refine wq_to (some 9) (xN h71 38 ([(sV ByteArray.empty), (sV ByteArray.empty), (iV .i64 0), (iV .i64 0), (iV .i64 0), (lV none 0 0)])) ?_
       rintro _ w72 ⟨g72, rfl, h72⟩
       refine wq_to none (xSs h72 0 38 (.tmp 9) (.tmp 57) 0 ([(sV ByteArray.empty), (sV ByteArray.empty), (iV .i64 0), (iV .i64 0), (iV .i64 0), (lV none 0 0)]) ([(sV ByteArray.empty), (sV ByteArray.empty), (iV .i64 0), (iV .i64 0), (iV .i64 0), (lV none 0 0)])) ?_
       rintro _ w73 h73
       refine wq_p 1 [(10, (bV false))] ?_
       refine wl_end rfl ?_
       exact hJ29 F71 G71 L71 s' S' ((Frm.mk ByteArray.empty ByteArray.empty 0 0 0 [])) none 0 g72 W2 false ((hs71 _ (hsq _ hT.nil))) ((.inr hql)) hSI.inv.symm ((by have := hSI.ks; have := hTI.ks; omega)) ((by have := hSI.bs; have := hTI.bs; omega)) ((fun p hp => (hs71 _ hp))) _ _ _ (pEq 162) (h73.sel [0, 1, 2, 3, 4, 5, 6, 7, 8, 9] [0, 1, 2, 3, 4] (by kernel_rfl) rfl rfl)
      ·
       refine reg_lit ?_
       refine wq_p 3 [(54, (pt p 2)), (53, (pt p 0)), (52, (pt p 0))] (wq_v (some 55) (pt e.sb 0) (eL (hJh25.at_ 0 rfl) 29 (.tmp 54) 2 _) ?_)
       refine wq_to (some 56) (x_two hJh25 1 3 rfl rfl (by kernel_rfl) 0 rfl 11 [(pt e.sb 0)] (by kernel_rfl) (send_of (hJh25.at_ 1 rfl) (hJh25.at_ 3 rfl) (hJh25.rd 0 rfl) (hJh25.dis 1 3 _ _ rfl rfl (by decide)) (hJh25.rdis 0 1 _ _ rfl rfl) (hJh25.rdis 0 3 _ _ rfl rfl) hr hsm.q (by have := hsm.sent; omega) (by have := hsm.eo; omega) (by have := hTI.ks; omega) (by have := hTI.bs; omega))) ?_
       rintro _ w74 ⟨F74, G74, L74, ⟨_, rfl, Af74, cf74, rfl, hmf74⟩, hs74, hx74, h74⟩
       refine wq_p 3 [(58, (bV true)), (57, (aV ([(sV f.src), (sV f.dst), (iV .i64 f.sid), (iV .i64 f.epoch), (iV .i64 f.seq), (lV Af74 f.box.length cf74)]).toArray)), (51, (Value.tuple #[(aV ([(sV f.src), (sV f.dst), (iV .i64 f.sid), (iV .i64 f.epoch), (iV .i64 f.seq), (lV Af74 f.box.length cf74)]).toArray), (bV true)]))] ?_
       refine wq_to (some 9) (xN h74 38 ([(sV ByteArray.empty), (sV ByteArray.empty), (iV .i64 0), (iV .i64 0), (iV .i64 0), (lV none 0 0)])) ?_
       rintro _ w75 ⟨g75, rfl, h75⟩
       refine wq_to none (xSs h75 0 38 (.tmp 9) (.tmp 57) 0 ([(sV f.src), (sV f.dst), (iV .i64 f.sid), (iV .i64 f.epoch), (iV .i64 f.seq), (lV Af74 f.box.length cf74)]) ([(sV f.src), (sV f.dst), (iV .i64 f.sid), (iV .i64 f.epoch), (iV .i64 f.seq), (lV Af74 f.box.length cf74)])) ?_
       rintro _ w76 h76
       refine wq_p 1 [(10, (bV true))] ?_
       refine wl_end rfl ?_
       exact hJ29 F74 G74 L74 s' S' f Af74 cf74 g75 W2 true hmf74 ((.inl rfl)) hSI.inv.symm ((by have := hSI.ks; have := hTI.ks; omega)) ((by have := hSI.bs; have := hTI.bs; omega)) ((fun p hp => (hs74 _ hp))) _ _ _ (pEq 162) (h76.sel [0, 1, 2, 3, 4, 5, 6, 7, 8, 9] [0, 1, 2, 3, 4] (by kernel_rfl) rfl rfl)
     ·
      refine reg_lit ?_
      refine wq_p 2 [(45, (iV .i64 ((body.length : Int)))), (44, (lV B body.length d))] (wq_v (some 46) (.bool false) (eqI (bV (decide ((body.length : Int) > 2048))) (congrArg bV (by simp; omega))) (wq_p 4 [(50, (bV false)), (49, undef), (48, undef), (47, (bV false))] ?_))
      refine wl_end rfl (seq_n hK26 (cF (wp_skip (seq_n hK22 (wp_seq_k fun K77 hK77 => ?_)))))
      have hJ78 : ∀ (FQ : Nat -> Prop), ∀ (GQ : Nat -> Prop), ∀ (LR : List (Value × Bytes)), ∀ (s' : STab), ∀ (S' : Ses), ∀ (fS : Frm), ∀ (AS : Option Addr), ∀ (cS : Nat), ∀ (gS : Nat), ∀ (W2 : Way), ∀ (oks : Bool), ((lV AS fS.box.length cS, fS.box) ∈ LR) -> (oks = true ∨ S'.queue.length = 0) -> (RecI s' T.a S' Wa W2) -> (s'.keys.length < 100000) -> (s'.boxes.length < 100000) -> (∀ p, p ∈ LQ -> p ∈ LR) -> ∀ (xJ78 : Nat -> Value) (aJ : Act) (wJ78 : World), aJ = patch xJ78 162 [(0, (lV A st.length c)), (1, (lV B body.length d)), (4, (bV false)), (5, (pt p 0)), (8, (iV .i64 er)), (9, (pt gS 0)), (10, (bV oks)), (18, (bV false)), (26, (bV false)), (28, (lV A st.length c)), (29, (iV .i64 ((st.length : Int)))), (30, (iV .i64 ((n : Int)))), (31, (bV (decide ((n : Int) < (st.length : Int))))), (50, (bV false))] -> Hp (fun _ => False) w wJ78 [rF LR, rF LQ, rF LL, rRV 4 A c xs, rSB ((lV B body.length d)) body] [rBlk gS 38 ([(sV fS.src), (sV fS.dst), (iV .i64 fS.sid), (iV .i64 fS.epoch), (iV .i64 fS.seq), (lV AS fS.box.length cS)]), rBlk p 34 ([(pt e.tb 0), (pt e.sa 0), (pt e.sb 0), (lV e.wA T.wire.length e.wc), (lV e.A0 T.sd0.length e.c0), (lV e.A1 T.sd1.length e.c1), (lV e.A2 T.cm0.length e.c2), (lV e.A3 T.cm1.length e.c3), (iV .i64 ((T.k0 : Int))), (iV .i64 ((T.k1 : Int)))]), rTab FQ e.tb s', rS e.Ga e.tb e.sa LL T.a, rS GQ e.tb e.sb LR S', rOV 38 6 ((lV e.wA T.wire.length e.wc)) e.wx, rOV 26 1 ((lV e.A0 T.sd0.length e.c0)) e.x0, rOV 26 1 ((lV e.A1 T.sd1.length e.c1)) e.x1, rOV 26 1 ((lV e.A2 T.cm0.length e.c2)) e.x2, rOV 26 1 ((lV e.A3 T.cm1.length e.c3)) e.x3] -> K77 aJ wJ78 := by
        rintro FQ GQ LR s' S' fS AS cS gS W2 oks hmS hok hRI2 hk2 hb2 hsr xJ78 _ wJ78 rfl hJh78
        refine seq_n hK77 (wp_seq_k fun K79 hK79 => reg_lit ?_)
        refine wq_p 3 [(61, (pt p 1)), (60, (pt p 0)), (59, (pt p 0))] (wq_v (some 62) (pt e.sa 0) (eL (hJh78.at_ 1 rfl) 29 (.tmp 61) 1 _) ?_)
        have hq80 := hJh78.monoS 3 rfl (fun p hp => (hsr _ (hsq _ hp)))
        refine wq_to (some 63) (x_ses hq80 3 rfl 0 rfl 20 [(pt e.sa 0)] (by kernel_rfl) (sClose_any (hq80.at_ 3 rfl) (hq80.rd 0 rfl) (hq80.rdis 0 3 _ _ rfl rfl))) ?_
        rintro _ w80 ⟨G80, L80, rfl, hs80, hx80, h80⟩
        refine wl_end rfl (seq_n hK79 (wp_seq_k fun K81 hK81 => ?_))
        have hJ82 : ∀ (F6 : Nat -> Prop), ∀ (G6 : Nat -> Prop), ∀ (L6 : List (Value × Bytes)), ∀ (A6 : Option Addr), ∀ (c6 : Nat), ∀ (g6 : Nat), (∀ p, p ∈ L80 -> p ∈ L6) -> ∀ (xJ82 : Nat -> Value) (aJ : Act) (wJ82 : World), aJ = patch xJ82 162 [(0, (lV A st.length c)), (1, (lV B body.length d)), (4, (bV false)), (5, (pt p 0)), (8, (iV .i64 er)), (9, (pt gS 0)), (10, (bV oks)), (11, (pt g6 0)), (12, (iV .i64 21)), (18, (bV false)), (26, (bV false)), (28, (lV A st.length c)), (29, (iV .i64 ((st.length : Int)))), (30, (iV .i64 ((n : Int)))), (31, (bV (decide ((n : Int) < (st.length : Int))))), (50, (bV false))] -> Hp (fun _ => False) w wJ82 [rF L6, rF L80, rF LR, rF LQ, rF LL, rRV 4 A c xs, rSB ((lV B body.length d)) body] [rBlk g6 42 ([(lV A6 0 c6), (bV false), (sV ByteArray.empty), (sV ByteArray.empty), (iV .i64 0), (iV .i64 0), (iV .i64 0), (lV none 0 0), (bV false)]), rBlk gS 38 ([(sV fS.src), (sV fS.dst), (iV .i64 fS.sid), (iV .i64 fS.epoch), (iV .i64 fS.seq), (lV AS fS.box.length cS)]), rBlk p 34 ([(pt e.tb 0), (pt e.sa 0), (pt e.sb 0), (lV e.wA T.wire.length e.wc), (lV e.A0 T.sd0.length e.c0), (lV e.A1 T.sd1.length e.c1), (lV e.A2 T.cm0.length e.c2), (lV e.A3 T.cm1.length e.c3), (iV .i64 ((T.k0 : Int))), (iV .i64 ((T.k1 : Int)))]), rTab F6 e.tb s', rS G6 e.tb e.sa L6 (closeR T.a), rS GQ e.tb e.sb LR S', rOV 38 6 ((lV e.wA T.wire.length e.wc)) e.wx, rOV 26 1 ((lV e.A0 T.sd0.length e.c0)) e.x0, rOV 26 1 ((lV e.A1 T.sd1.length e.c1)) e.x1, rOV 26 1 ((lV e.A2 T.cm0.length e.c2)) e.x2, rOV 26 1 ((lV e.A3 T.cm1.length e.c3)) e.x3] -> K81 aJ wJ82 := by
          rintro F6 G6 L6 A6 c6 g6 hs6 xJ82 _ wJ82 rfl hJh82
          refine seq_n hK81 (wp_seq_k fun K83 hK83 => reg_lit ?_)
          refine wq_p 3 [(76, (pt p 1)), (75, (pt p 0)), (74, (pt p 0))] (wq_v (some 77) (pt e.sa 0) (eL (hJh82.at_ 2 rfl) 29 (.tmp 76) 1 _) ?_)
          refine wq_to (some 78) (x_two hJh82 3 4 rfl rfl (by kernel_rfl) 0 rfl 11 [(pt e.sa 0)] (by kernel_rfl) (sSend_over (hJh82.at_ 3 rfl) (hJh82.at_ 4 rfl) (hJh82.rd 0 rfl) (hJh82.dis 3 4 _ _ rfl rfl (by decide)) (hJh82.rdis 0 3 _ _ rfl rfl) (hJh82.rdis 0 4 _ _ rfl rfl) rfl)) ?_
          rintro _ w84 ⟨F84, G84, L84, rfl, hs84, hx84, h84⟩
          refine wq_p 3 [(80, (bV false)), (79, (aV ([(sV ByteArray.empty), (sV ByteArray.empty), (iV .i64 0), (iV .i64 0), (iV .i64 0), (lV none 0 0)]).toArray)), (73, (Value.tuple #[(aV ([(sV ByteArray.empty), (sV ByteArray.empty), (iV .i64 0), (iV .i64 0), (iV .i64 0), (lV none 0 0)]).toArray), (bV false)]))] ?_
          refine wq_to (some 13) (xN h84 38 ([(sV ByteArray.empty), (sV ByteArray.empty), (iV .i64 0), (iV .i64 0), (iV .i64 0), (lV none 0 0)])) ?_
          rintro _ w85 ⟨g85, rfl, h85⟩
          refine wq_to none (xSs h85 0 38 (.tmp 13) (.tmp 79) 0 ([(sV ByteArray.empty), (sV ByteArray.empty), (iV .i64 0), (iV .i64 0), (iV .i64 0), (lV none 0 0)]) ([(sV ByteArray.empty), (sV ByteArray.empty), (iV .i64 0), (iV .i64 0), (iV .i64 0), (lV none 0 0)])) ?_
          rintro _ w86 h86
          refine wq_p 1 [(14, (bV false))] ?_
          refine wl_end rfl (seq_n hK83 (wp_seq_k fun K87 hK87 => wp_seq_k fun K88 hK88 => reg_lit ?_))
          refine wq_p 3 [(83, (pt p 1)), (82, (pt p 0)), (81, (pt p 0))] (wq_v (some 84) (pt e.sa 0) (eL (h86.at_ 3 rfl) 29 (.tmp 83) 1 _) ?_)
          refine wq_to (some 85) (x_slots h86 21 [(pt e.sa 0)] (by kernel_rfl) (slots_any (h86.at_ 5 rfl))) ?_
          rintro _ w89 ⟨g89, rfl, h89⟩
          refine wq_p 2 [(87, (iV .i64 0)), (86, (iV .i64 2))] ?_
          refine wl_end rfl (seq_n hK88 (wp_block ?_))
          refine wp_loopm (fun mM xX aA wL => ∃ (n2 : Nat), (n2 <= 2) /\ mM = 2 - (n2) /\ aA = patch xX 162 [(0, (lV A st.length c)), (1, (lV B body.length d)), (5, (pt p 0)), (8, (iV .i64 er)), (9, (pt gS 0)), (10, (bV oks)), (11, (pt g6 0)), (12, (iV .i64 21)), (14, (bV false)), (18, (bV false)), (26, (bV false)), (28, (lV A st.length c)), (29, (iV .i64 ((st.length : Int)))), (30, (iV .i64 ((n : Int)))), (31, (bV (decide ((n : Int) < (st.length : Int))))), (50, (bV false)), (85, (lV (some ⟨g89, 0, none⟩) 2 2)), (86, (iV .i64 2)), (87, (iV .i64 ((n2 : Int))))] /\ Hp (fun _ => False) w wL [rRV 16 ((some ⟨g89, 0, none⟩)) 2 ([vb zKey, vb zKey]), rF L84, rF L6, rF L80, rF LR, rF LQ, rF LL, rRV 4 A c xs, rSB ((lV B body.length d)) body] [rBlk g85 38 ([(sV ByteArray.empty), (sV ByteArray.empty), (iV .i64 0), (iV .i64 0), (iV .i64 0), (lV none 0 0)]), rBlk g6 42 ([(lV A6 0 c6), (bV false), (sV ByteArray.empty), (sV ByteArray.empty), (iV .i64 0), (iV .i64 0), (iV .i64 0), (lV none 0 0), (bV false)]), rBlk gS 38 ([(sV fS.src), (sV fS.dst), (iV .i64 fS.sid), (iV .i64 fS.epoch), (iV .i64 fS.seq), (lV AS fS.box.length cS)]), rBlk p 34 ([(pt e.tb 0), (pt e.sa 0), (pt e.sb 0), (lV e.wA T.wire.length e.wc), (lV e.A0 T.sd0.length e.c0), (lV e.A1 T.sd1.length e.c1), (lV e.A2 T.cm0.length e.c2), (lV e.A3 T.cm1.length e.c3), (iV .i64 ((T.k0 : Int))), (iV .i64 ((T.k1 : Int)))]), rTab F84 e.tb s', rS G84 e.tb e.sa L84 (closeR T.a), rS GQ e.tb e.sb LR S', rOV 38 6 ((lV e.wA T.wire.length e.wc)) e.wx, rOV 26 1 ((lV e.A0 T.sd0.length e.c0)) e.x0, rOV 26 1 ((lV e.A1 T.sd1.length e.c1)) e.x1, rOV 26 1 ((lV e.A2 T.cm0.length e.c2)) e.x2, rOV 26 1 ((lV e.A3 T.cm1.length e.c3)) e.x3]) ⟨_, 0, (by omega), rfl, (pEq 162), h89.sel [0, 1, 2, 3, 4, 5, 6, 7, 8, 9, 10, 11] [0, 1, 2, 3, 4, 5, 6, 7, 8] (by kernel_rfl) rfl rfl⟩ ?_
          rintro _ x90 _ w90 ⟨n2, hn2, rfl, rfl, h90⟩
          refine wp_seq_k fun K91 hK91 => reg_lit ?_
          refine wq_p 1 [(88, (bV (decide ((n2 : Int) < 2))))] ?_
          refine wl_end rfl (seq_n hK91 (wp_seq_k fun K92 hK92 => ?_))
          refine wp_if ((n2 : Int) < 2) (by kernel_rfl) (fun b93 => ?_) (fun b93 => ?_)
          ·
           refine wp_skip (seq_n hK92 (wp_seq_k fun K94 hK94 => wp_block (wp_seq_k fun K95 hK95 => reg_lit ?_)))
           refine wq_v (some 89) (eAt (some ⟨g89, 0, none⟩) (n2 * 16 + 0)) (eIx (RV.lenIs (n := 2) (h90.rd 0 rfl) rfl).2 n2 2 (RV.lenIs (n := 2) (h90.rd 0 rfl) rfl).1 (by omega) 56 (.tmp 85) (.tmp 87) .i64 59) (wq_v (some 90) (aV (vb zKey).toArray) (e_elemsN (RV.lenIs (n := 2) (h90.rd 0 rfl) rfl).2 n2 0 (vb zKey) (tA _ (by omega)) 59 (.tmp 89) (by kernel_rfl) (vb zKey) (by kernel_rfl) (by kernel_rfl) (by kernel_rfl)) ?_)
           refine wq_to (some 16) (xN h90 59 (vb (List.replicate 16 0))) ?_
           rintro _ w96 ⟨g96, rfl, h96⟩
           refine wq_to none (xSs h96 0 59 (.tmp 16) (.tmp 90) 0 (vb zKey) (vb zKey)) ?_
           rintro _ w97 h97
           refine wl_end rfl (seq_n hK95 (wp_seq_k fun K98 hK98 => reg_lit ?_))
           refine wq_v (some 91) (aV (vb zKey).toArray) (eLs (h97.at_ 0 rfl) 59 (.tmp 16) 0 (vb zKey)) (wq_p 1 [(92, (aV (vb (List.replicate 16 0)).toArray))] (wq_v (some 93) (bV false) (e_kneB zKey (List.replicate 16 0) (by kernel_rfl) (by kernel_rfl) 59 59 (.tmp 91) (.tmp 92) (by kernel_rfl) (by kernel_rfl) (by kernel_rfl) (by kernel_rfl) (by kernel_rfl) false (by simp [zKey]) _) ?_))
           refine wl_end rfl (seq_n hK98 (cF (wp_skip (blk_n (seq_n hK94 (reg_lit ?_))))))
           refine wq_v (some 94) (iV .i64 ((n2 : Int) + 1)) (exec_add _ _ _ _ rfl ((n2 : Int)) 1 (by kernel_rfl) (by kernel_rfl) ((n2 : Int) + 1) rfl (by omega) (by omega) _) (wq_p 1 [(87, (iV .i64 ((n2 : Int) + 1)))] ?_)
           refine wl_end rfl ?_
           refine ⟨2 - (n2 + 1), (by omega), (n2 + 1), (by omega), rfl, (pEq 162), h97.sel [1, 2, 3, 4, 5, 6, 7, 8, 9, 10, 11, 12] [0, 1, 2, 3, 4, 5, 6, 7, 8] (by kernel_rfl) rfl rfl⟩
          ·
           refine wp_exit (seq_e (seq_e (blk_e (seq_n hK87 (wp_seq_k fun K99 hK99 => ?_)))))
           by_cases b100 : oks = true
           ·
            obtain rfl : oks = true := b100
            refine reg_lit ?_
            refine wq_p 3 [(97, (pt p 1)), (96, (pt p 0)), (95, (pt p 0))] (wq_v (some 98) (pt e.sa 0) (eL (h90.at_ 3 rfl) 29 (.tmp 97) 1 _) ?_)
            refine wq_to (some 99) (x_dp h90 19 [(pt e.sa 0)] (by kernel_rfl) (over_any (h90.at_ 5 rfl))) ?_
            rintro _ w101 ⟨rfl, h101⟩
            refine wq_p 6 [(105, (pt g6 1)), (104, (bV true)), (103, (bV true)), (102, (bV true)), (101, (bV false)), (100, (bV true))] (wq_v (some 106) (bV false) (eL (h101.at_ 1 rfl) 4 (.tmp 105) 1 _) (wq_p 4 [(110, (pt g6 8)), (109, (bV true)), (108, (bV true)), (107, (bV true))] (wq_v (some 111) (bV false) (eL (h101.at_ 1 rfl) 4 (.tmp 110) 8 _) ?_)))
            refine wq_p 10 [(121, (pt p 1)), (120, (pt p 0)), (119, (pt p 0)), (118, (bV true)), (117, (bV true)), (116, (bV true)), (115, (iV .i64 21)), (114, (bV true)), (113, (bV true)), (112, (bV true))] (wq_v (some 122) (pt e.sa 0) (eL (h101.at_ 3 rfl) 29 (.tmp 121) 1 _) ?_)
            refine wq_to (some 123) (x_ses h101 5 rfl 1 rfl 9 [(pt e.sa 0), (lV none 0 0)] (by kernel_rfl) (sPs (h101.at_ 5 rfl) (h101.rd 1 rfl) (h101.rdis 1 5 _ _ rfl rfl) [] none 0 (SB.nil _ _ (Nat.zero_le _) _) (fun q hq => absurd rfl hq.1) (by simp) rfl (by show (0 : Nat) <= 8; omega))) ?_
            rintro _ w102 ⟨G102, L102, rfl, hs102, hx102, h102⟩
            refine wq_p 6 [(129, (pt p 1)), (128, (pt p 0)), (127, (pt p 0)), (126, (bV true)), (125, (bV true)), (124, (bV true))] (wq_v (some 130) (pt e.sa 0) (eL (h102.at_ 3 rfl) 29 (.tmp 129) 1 _) ?_)
            refine wq_to (some 131) (x_ses h102 5 rfl 0 rfl 22 [(pt e.sa 0)] (by kernel_rfl) (sRs (h102.at_ 5 rfl) (h102.rd 0 rfl) (h102.rdis 0 5 _ _ rfl rfl) (hs102 _ (hs84 _ (hs6 _ (hs80 _ (hsr _ (hsq _ hT.nil)))))) (by show (0 : Nat) <= 8; omega) rfl)) ?_
            rintro _ w103 ⟨G103, L103, rfl, hs103, hx103, h103⟩
            refine wq_p 6 [(137, (pt p 1)), (136, (pt p 0)), (135, (pt p 0)), (134, (bV true)), (133, (bV true)), (132, (bV true))] (wq_v (some 138) (pt e.sa 0) (eL (h103.at_ 3 rfl) 29 (.tmp 137) 1 _) ?_)
            refine wq_to (some 139) (x_dp h103 10 [(pt e.sa 0)] (by kernel_rfl) (waits_any (h103.at_ 5 rfl))) ?_
            rintro _ w104 ⟨rfl, h104⟩
            refine wq_p 6 [(145, (pt p 1)), (144, (pt p 0)), (143, (pt p 0)), (142, (bV true)), (141, (bV true)), (140, (bV true))] (wq_v (some 146) (pt e.sa 0) (eL (h104.at_ 3 rfl) 29 (.tmp 145) 1 _) ?_)
            refine wq_to (some 147) (x_slots h104 21 [(pt e.sa 0)] (by kernel_rfl) (slots_any (h104.at_ 5 rfl))) ?_
            rintro _ w105 ⟨g105, rfl, h105⟩
            refine wq_p 11 [(158, undef), (157, undef), (156, undef), (155, undef), (154, undef), (153, (bV true)), (152, (bV true)), (151, (bV true)), (150, (bV true)), (149, (bV true)), (148, (iV .i64 2))] (wq_p 1 [(159, undef)] (wq_p 3 [(4, (bV true)), (161, (bV true)), (160, (bV true))] ?_))
            refine wl_end rfl (seq_n hK99 (wp_ret ?_))
            refine post_1 rfl (by kernel_rfl) (rtm (bV true)) ?_
            exact ⟨rfl, h105.below0⟩
           ·
            obtain rfl : oks = false := by simpa using b100
            have hql0 : S'.queue.length = 0 := by simpa using hok
            refine reg_lit ?_
            refine wq_p 3 [(97, (pt p 1)), (96, (pt p 0)), (95, (pt p 0))] (wq_v (some 98) (pt e.sa 0) (eL (h90.at_ 3 rfl) 29 (.tmp 97) 1 _) ?_)
            refine wq_to (some 99) (x_dp h90 19 [(pt e.sa 0)] (by kernel_rfl) (over_any (h90.at_ 5 rfl))) ?_
            rintro _ w106 ⟨rfl, h106⟩
            refine wq_p 6 [(105, (pt g6 1)), (104, (bV true)), (103, (bV true)), (102, (bV true)), (101, (bV false)), (100, (bV true))] (wq_v (some 106) (bV false) (eL (h106.at_ 1 rfl) 4 (.tmp 105) 1 _) (wq_p 4 [(110, (pt g6 8)), (109, (bV true)), (108, (bV true)), (107, (bV true))] (wq_v (some 111) (bV false) (eL (h106.at_ 1 rfl) 4 (.tmp 110) 8 _) ?_)))
            refine wq_p 10 [(121, (pt p 1)), (120, (pt p 0)), (119, (pt p 0)), (118, (bV true)), (117, (bV true)), (116, (bV true)), (115, (iV .i64 21)), (114, (bV true)), (113, (bV true)), (112, (bV true))] (wq_v (some 122) (pt e.sa 0) (eL (h106.at_ 3 rfl) 29 (.tmp 121) 1 _) ?_)
            refine wq_to (some 123) (x_ses h106 5 rfl 1 rfl 9 [(pt e.sa 0), (lV none 0 0)] (by kernel_rfl) (sPs (h106.at_ 5 rfl) (h106.rd 1 rfl) (h106.rdis 1 5 _ _ rfl rfl) [] none 0 (SB.nil _ _ (Nat.zero_le _) _) (fun q hq => absurd rfl hq.1) (by simp) rfl (by show (0 : Nat) <= 8; omega))) ?_
            rintro _ w107 ⟨G107, L107, rfl, hs107, hx107, h107⟩
            refine wq_p 6 [(129, (pt p 1)), (128, (pt p 0)), (127, (pt p 0)), (126, (bV true)), (125, (bV true)), (124, (bV true))] (wq_v (some 130) (pt e.sa 0) (eL (h107.at_ 3 rfl) 29 (.tmp 129) 1 _) ?_)
            refine wq_to (some 131) (x_ses h107 5 rfl 0 rfl 22 [(pt e.sa 0)] (by kernel_rfl) (sRs (h107.at_ 5 rfl) (h107.rd 0 rfl) (h107.rdis 0 5 _ _ rfl rfl) (hs107 _ (hs84 _ (hs6 _ (hs80 _ (hsr _ (hsq _ hT.nil)))))) (by show (0 : Nat) <= 8; omega) rfl)) ?_
            rintro _ w108 ⟨G108, L108, rfl, hs108, hx108, h108⟩
            refine wq_p 6 [(137, (pt p 1)), (136, (pt p 0)), (135, (pt p 0)), (134, (bV true)), (133, (bV true)), (132, (bV true))] (wq_v (some 138) (pt e.sa 0) (eL (h108.at_ 3 rfl) 29 (.tmp 137) 1 _) ?_)
            refine wq_to (some 139) (x_dp h108 10 [(pt e.sa 0)] (by kernel_rfl) (waits_any (h108.at_ 5 rfl))) ?_
            rintro _ w109 ⟨rfl, h109⟩
            refine wq_p 6 [(145, (pt p 1)), (144, (pt p 0)), (143, (pt p 0)), (142, (bV true)), (141, (bV true)), (140, (bV true))] (wq_v (some 146) (pt e.sa 0) (eL (h109.at_ 3 rfl) 29 (.tmp 145) 1 _) ?_)
            refine wq_to (some 147) (x_slots h109 21 [(pt e.sa 0)] (by kernel_rfl) (slots_any (h109.at_ 5 rfl))) ?_
            rintro _ w110 ⟨g110, rfl, h110⟩
            refine wq_p 9 [(156, (pt p 2)), (155, (pt p 0)), (154, (pt p 0)), (153, (bV false)), (152, (bV false)), (151, (bV true)), (150, (bV true)), (149, (bV true)), (148, (iV .i64 2))] (wq_v (some 157) (pt e.sb 0) (eL (h110.at_ 3 rfl) 29 (.tmp 156) 2 _) ?_)
            refine wq_to (some 158) (x_dp h110 10 [(pt e.sb 0)] (by kernel_rfl) (waits_any (h110.at_ 6 rfl))) ?_
            rintro _ w111 ⟨rfl, h111⟩
            refine wq_v (some 159) (.bool true) (eqI (bV (((S'.queue.length : Int)) == 0)) (congrArg bV (by rw [hql0]; rfl))) (wq_p 3 [(4, (bV true)), (161, (bV true)), (160, (bV true))] ?_)
            refine wl_end rfl (seq_n hK99 (wp_ret ?_))
            refine post_1 rfl (by kernel_rfl) (rtm (bV true)) ?_
            exact ⟨rfl, h111.below0⟩
        refine pR_go h80 11 (fun W => (rBlk p 34 ([(pt e.tb 0), (pt e.sa 0), (pt e.sb 0), (lV e.wA T.wire.length e.wc), (lV e.A0 T.sd0.length e.c0), (lV e.A1 T.sd1.length e.c1), (lV e.A2 T.cm0.length e.c2), (lV e.A3 T.cm1.length e.c3), (iV .i64 ((T.k0 : Int))), (iV .i64 ((T.k1 : Int)))])).Φ W /\ (rBlk gS 38 ([(sV fS.src), (sV fS.dst), (iV .i64 fS.sid), (iV .i64 fS.epoch), (iV .i64 fS.seq), (lV AS fS.box.length cS)])).Φ W /\ True) [(66, [5], 0), (67, [65], 1), (68, [66], 2), (69, [67], 4), (70, [9], 0), (71, [68, 69], 24), (65, [70], 32), (72, [64], 64), (73, [64], 64), (12, [], 0), (0, [11, 71], 767), (13, [72], 2047)] rfl (fun _ d _ _ _ h => by cases d <;> exact h) ?_
        intro hs112 w112 h112
        refine pR_p 9 [0, 1, 2] [(67, (pt p 1)), (66, (pt p 0)), (65, (pt p 0))] 7 hs112 ⟨h112.at_ 1 rfl, h112.at_ 0 rfl, trivial⟩ ?_
        refine pR_v 3 (some 68) (pt e.sa 0) 15 rfl hs112 ⟨h112.at_ 1 rfl, h112.at_ 0 rfl, trivial⟩ (fun W hW => eL hW.1 29 (.tmp 67) 1 _) ?_
        refine pR_v 4 (some 69) (aV ([(sV fS.src), (sV fS.dst), (iV .i64 fS.sid), (iV .i64 fS.epoch), (iV .i64 fS.seq), (lV AS fS.box.length cS)]).toArray) 31 rfl hs112 ⟨h112.at_ 1 rfl, h112.at_ 0 rfl, trivial⟩ (fun W hW => eLs hW.2.1 38 (.tmp 9) 0 ([(sV fS.src), (sV fS.dst), (iV .i64 fS.sid), (iV .i64 fS.epoch), (iV .i64 fS.seq), (lV AS fS.box.length cS)])) ?_
        refine pR_or 5 9 hs112 ?_ ?_
        ·
         refine pR_op 5 (some 70) 63 rfl (x_two h112 2 3 rfl rfl (by kernel_rfl) 0 rfl 12 [(pt e.sa 0), (aV ([(sV fS.src), (sV fS.dst), (iV .i64 fS.sid), (iV .i64 fS.epoch), (iV .i64 fS.seq), (lV AS fS.box.length cS)]).toArray)] (by kernel_rfl) (sTake_over (h112.at_ 2 rfl) (h112.at_ 3 rfl) (h112.rd 0 rfl) (h112.dis 2 3 _ _ rfl rfl (by decide)) (h112.rdis 0 2 _ _ rfl rfl) (h112.rdis 0 3 _ _ rfl rfl) fS AS cS (hs80 _ hmS) (hs80 _ (hsr _ (hsq _ hT.nil))) (by omega) (by omega) hRI2.bodiesS rfl)) ?_
         rintro _ w113 ⟨F113, G113, L113, ⟨_, rfl, Ac113, cc113, _, rfl, hmc113, rfl⟩, hs113, hx113, h113⟩
         refine ⟨fun _ => ⟨h113.at_ 1 rfl, h113.at_ 0 rfl, trivial⟩, ?_⟩
         refine pR_p 3 [6, 7, 8] [(72, (iV .i64 21)), (71, (aV ([(lV Ac113 0 cc113), (bV false), (sV ByteArray.empty), (sV ByteArray.empty), (iV .i64 0), (iV .i64 0), (iV .i64 0), (lV none 0 0), (bV false)]).toArray)), (64, (Value.tuple #[(aV ([(lV Ac113 0 cc113), (bV false), (sV ByteArray.empty), (sV ByteArray.empty), (iV .i64 0), (iV .i64 0), (iV .i64 0), (lV none 0 0), (bV false)]).toArray), (iV .i64 21)]))] 511 hs112 ⟨h113.at_ 1 rfl, h113.at_ 0 rfl, trivial⟩ ?_
         refine pR_to 9 (some 11) 1023 rfl hs112 (xN h113 42 ([(lV none 0 0), (bV false), (sV ByteArray.empty), (sV ByteArray.empty), (iV .i64 0), (iV .i64 0), (iV .i64 0), (lV none 0 0), (bV false)])) ?_
         rintro _ w114 ⟨g114, rfl, h114⟩
         refine ⟨fun _ => ⟨h114.at_ 2 rfl, h114.at_ 1 rfl, trivial⟩, ?_⟩
         refine pR_to 10 none 2047 rfl hs112 (xSs h114 0 42 (.tmp 11) (.tmp 71) 0 ([(lV Ac113 0 cc113), (bV false), (sV ByteArray.empty), (sV ByteArray.empty), (iV .i64 0), (iV .i64 0), (iV .i64 0), (lV none 0 0), (bV false)]) ([(lV Ac113 0 cc113), (bV false), (sV ByteArray.empty), (sV ByteArray.empty), (iV .i64 0), (iV .i64 0), (iV .i64 0), (lV none 0 0), (bV false)])) ?_
         rintro _ w115 h115
         refine ⟨fun _ => ⟨h115.at_ 2 rfl, h115.at_ 1 rfl, trivial⟩, ?_⟩
         refine pR_to 11 (some 12) 4095 rfl hs112 (OpTo.run (iV .i64 21) (pureOp_run (by kernel_rfl) _) (R := fun v w => v = (iV .i64 21) /\ w115 = w) ⟨rfl, rfl⟩) ?_
         rintro _ _ ⟨rfl, rfl⟩
         refine ⟨fun h => absurd h (by decide), ?_⟩
         refine pR_done hs112 ?_ _
         exact hJ82 F113 G113 L113 Ac113 cc113 g114 ((fun p hp => (hs113 _ hp))) _ _ _ (pEq 162) (h115.sel [0, 1, 2, 3, 4, 5, 6, 7, 8, 9, 10] [0, 1, 2, 3, 4, 5, 6] (by kernel_rfl) rfl rfl)
        ·
         refine pR_op 9 (some 11) 543 rfl (xN h112 42 ([(lV none 0 0), (bV false), (sV ByteArray.empty), (sV ByteArray.empty), (iV .i64 0), (iV .i64 0), (iV .i64 0), (lV none 0 0), (bV false)])) ?_
         rintro _ w116 ⟨g116, rfl, h116⟩
         refine ⟨fun _ => ⟨h116.at_ 2 rfl, h116.at_ 1 rfl, trivial⟩, ?_⟩
         refine pR_to 5 (some 70) 575 rfl hs112 (x_two h116 3 4 rfl rfl (by kernel_rfl) 0 rfl 12 [(pt e.sa 0), (aV ([(sV fS.src), (sV fS.dst), (iV .i64 fS.sid), (iV .i64 fS.epoch), (iV .i64 fS.seq), (lV AS fS.box.length cS)]).toArray)] (by kernel_rfl) (sTake_over (h116.at_ 3 rfl) (h116.at_ 4 rfl) (h116.rd 0 rfl) (h116.dis 3 4 _ _ rfl rfl (by decide)) (h116.rdis 0 3 _ _ rfl rfl) (h116.rdis 0 4 _ _ rfl rfl) fS AS cS (hs80 _ hmS) (hs80 _ (hsr _ (hsq _ hT.nil))) (by omega) (by omega) hRI2.bodiesS rfl)) ?_
         rintro _ w117 ⟨F117, G117, L117, ⟨_, rfl, Ac117, cc117, _, rfl, hmc117, rfl⟩, hs117, hx117, h117⟩
         refine ⟨fun _ => ⟨h117.at_ 2 rfl, h117.at_ 1 rfl, trivial⟩, ?_⟩
         refine pR_p 2 [6, 7, 8] [(72, (iV .i64 21)), (71, (aV ([(lV Ac117 0 cc117), (bV false), (sV ByteArray.empty), (sV ByteArray.empty), (iV .i64 0), (iV .i64 0), (iV .i64 0), (lV none 0 0), (bV false)]).toArray)), (64, (Value.tuple #[(aV ([(lV Ac117 0 cc117), (bV false), (sV ByteArray.empty), (sV ByteArray.empty), (iV .i64 0), (iV .i64 0), (iV .i64 0), (lV none 0 0), (bV false)]).toArray), (iV .i64 21)]))] 1023 hs112 ⟨h117.at_ 2 rfl, h117.at_ 1 rfl, trivial⟩ ?_
         refine pR_to 10 none 2047 rfl hs112 (xSs h117 0 42 (.tmp 11) (.tmp 71) 0 ([(lV Ac117 0 cc117), (bV false), (sV ByteArray.empty), (sV ByteArray.empty), (iV .i64 0), (iV .i64 0), (iV .i64 0), (lV none 0 0), (bV false)]) ([(lV Ac117 0 cc117), (bV false), (sV ByteArray.empty), (sV ByteArray.empty), (iV .i64 0), (iV .i64 0), (iV .i64 0), (lV none 0 0), (bV false)])) ?_
         rintro _ w118 h118
         refine ⟨fun _ => ⟨h118.at_ 2 rfl, h118.at_ 1 rfl, trivial⟩, ?_⟩
         refine pR_to 11 (some 12) 4095 rfl hs112 (OpTo.run (iV .i64 21) (pureOp_run (by kernel_rfl) _) (R := fun v w => v = (iV .i64 21) /\ w118 = w) ⟨rfl, rfl⟩) ?_
         rintro _ _ ⟨rfl, rfl⟩
         refine ⟨fun h => absurd h (by decide), ?_⟩
         refine pR_done hs112 ?_ _
         exact hJ82 F117 G117 L117 Ac117 cc117 g116 ((fun p hp => (hs117 _ hp))) _ _ _ (pEq 162) (h118.sel [0, 1, 2, 3, 4, 5, 6, 7, 8, 9, 10] [0, 1, 2, 3, 4, 5, 6] (by kernel_rfl) rfl rfl)
      obtain ⟨s', S', m, hr⟩ := send_ex T.s Sb
      have hsm := hRI.symm.smallS hP1 hTI.pa
      obtain ⟨W2, hSI⟩ := hRI.symm.send hr (by have := hTI.ks; omega) (by have := hsm.sent; omega)
      rcases m with _ | f
      ·
       refine reg_lit ?_
       refine wq_p 3 [(54, (pt p 2)), (53, (pt p 0)), (52, (pt p 0))] (wq_v (some 55) (pt e.sb 0) (eL (hJh25.at_ 0 rfl) 29 (.tmp 54) 2 _) ?_)
       have hql : S'.queue.length = 0 := by rw [hSI.q]; exact List.length_eq_zero_iff.2 (Classical.not_not.1 (of_decide_eq_false (show decide _ = false from hSI.is.symm)))
       refine wq_to (some 56) (x_two hJh25 1 3 rfl rfl (by kernel_rfl) 0 rfl 11 [(pt e.sb 0)] (by kernel_rfl) (send_of (hJh25.at_ 1 rfl) (hJh25.at_ 3 rfl) (hJh25.rd 0 rfl) (hJh25.dis 1 3 _ _ rfl rfl (by decide)) (hJh25.rdis 0 1 _ _ rfl rfl) (hJh25.rdis 0 3 _ _ rfl rfl) hr hsm.q (by have := hsm.sent; omega) (by have := hsm.eo; omega) (by have := hTI.ks; omega) (by have := hTI.bs; omega))) ?_
       rintro _ w120 ⟨F120, G120, L120, ⟨_, rfl, rfl⟩, hs120, hx120, h120⟩
       refine wq_p 3 [(58, (bV false)), (57, (aV ([(sV ByteArray.empty), (sV ByteArray.empty), (iV .i64 0), (iV .i64 0), (iV .i64 0), (lV none 0 0)]).toArray)), (51, (Value.tuple #[(aV ([(sV ByteArray.empty), (sV ByteArray.empty), (iV .i64 0), (iV .i64 0), (iV .i64 0), (lV none 0 0)]).toArray), (bV false)]))] ?_
       refine wq_to (some 9) (xN h120 38 ([(sV ByteArray.empty), (sV ByteArray.empty), (iV .i64 0), (iV .i64 0), (iV .i64 0), (lV none 0 0)])) ?_
       rintro _ w121 ⟨g121, rfl, h121⟩
       refine wq_to none (xSs h121 0 38 (.tmp 9) (.tmp 57) 0 ([(sV ByteArray.empty), (sV ByteArray.empty), (iV .i64 0), (iV .i64 0), (iV .i64 0), (lV none 0 0)]) ([(sV ByteArray.empty), (sV ByteArray.empty), (iV .i64 0), (iV .i64 0), (iV .i64 0), (lV none 0 0)])) ?_
       rintro _ w122 h122
       refine wq_p 1 [(10, (bV false))] ?_
       refine wl_end rfl ?_
       exact hJ78 F120 G120 L120 s' S' ((Frm.mk ByteArray.empty ByteArray.empty 0 0 0 [])) none 0 g121 W2 false ((hs120 _ (hsq _ hT.nil))) ((.inr hql)) hSI.inv.symm ((by have := hSI.ks; have := hTI.ks; omega)) ((by have := hSI.bs; have := hTI.bs; omega)) ((fun p hp => (hs120 _ hp))) _ _ _ (pEq 162) (h122.sel [0, 1, 2, 3, 4, 5, 6, 7, 8, 9] [0, 1, 2, 3, 4] (by kernel_rfl) rfl rfl)
      ·
       refine reg_lit ?_
       refine wq_p 3 [(54, (pt p 2)), (53, (pt p 0)), (52, (pt p 0))] (wq_v (some 55) (pt e.sb 0) (eL (hJh25.at_ 0 rfl) 29 (.tmp 54) 2 _) ?_)
       refine wq_to (some 56) (x_two hJh25 1 3 rfl rfl (by kernel_rfl) 0 rfl 11 [(pt e.sb 0)] (by kernel_rfl) (send_of (hJh25.at_ 1 rfl) (hJh25.at_ 3 rfl) (hJh25.rd 0 rfl) (hJh25.dis 1 3 _ _ rfl rfl (by decide)) (hJh25.rdis 0 1 _ _ rfl rfl) (hJh25.rdis 0 3 _ _ rfl rfl) hr hsm.q (by have := hsm.sent; omega) (by have := hsm.eo; omega) (by have := hTI.ks; omega) (by have := hTI.bs; omega))) ?_
       rintro _ w123 ⟨F123, G123, L123, ⟨_, rfl, Af123, cf123, rfl, hmf123⟩, hs123, hx123, h123⟩
       refine wq_p 3 [(58, (bV true)), (57, (aV ([(sV f.src), (sV f.dst), (iV .i64 f.sid), (iV .i64 f.epoch), (iV .i64 f.seq), (lV Af123 f.box.length cf123)]).toArray)), (51, (Value.tuple #[(aV ([(sV f.src), (sV f.dst), (iV .i64 f.sid), (iV .i64 f.epoch), (iV .i64 f.seq), (lV Af123 f.box.length cf123)]).toArray), (bV true)]))] ?_
       refine wq_to (some 9) (xN h123 38 ([(sV ByteArray.empty), (sV ByteArray.empty), (iV .i64 0), (iV .i64 0), (iV .i64 0), (lV none 0 0)])) ?_
       rintro _ w124 ⟨g124, rfl, h124⟩
       refine wq_to none (xSs h124 0 38 (.tmp 9) (.tmp 57) 0 ([(sV f.src), (sV f.dst), (iV .i64 f.sid), (iV .i64 f.epoch), (iV .i64 f.seq), (lV Af123 f.box.length cf123)]) ([(sV f.src), (sV f.dst), (iV .i64 f.sid), (iV .i64 f.epoch), (iV .i64 f.seq), (lV Af123 f.box.length cf123)])) ?_
       rintro _ w125 h125
       refine wq_p 1 [(10, (bV true))] ?_
       refine wl_end rfl ?_
       exact hJ78 F123 G123 L123 s' S' f Af123 cf123 g124 W2 true hmf123 ((.inl rfl)) hSI.inv.symm ((by have := hSI.ks; have := hTI.ks; omega)) ((by have := hSI.bs; have := hTI.bs; omega)) ((fun p hp => (hs123 _ hp))) _ _ _ (pEq 162) (h125.sel [0, 1, 2, 3, 4, 5, 6, 7, 8, 9] [0, 1, 2, 3, 4] (by kernel_rfl) rfl rfl)
   rcases push3 T.b.queue.length body.length hTI.swap.small.q8 with hq | ⟨hb3, hq⟩ | ⟨hb3, hq⟩
   ·
    refine reg_lit ?_
    refine wq_p 3 [(40, (pt p 2)), (39, (pt p 0)), (38, (pt p 0))] (wq_v (some 41) (pt e.sb 0) (eL (h24.at_ 0 rfl) 29 (.tmp 40) 2 _) (wq_p 1 [(42, (lV B body.length d))] ?_))
    refine wq_to (some 43) (x_ses h24 3 rfl 0 rfl 9 [(pt e.sb 0), (lV B body.length d)] (by kernel_rfl) (sPush_long (h24.at_ 3 rfl) (h24.rd 0 rfl) (h24.rdis 0 3 _ _ rfl rfl) body B d hq)) ?_
    rintro _ w127 ⟨G127, L127, rfl, hs127, hx127, h127⟩
    refine wq_p 1 [(8, (iV .i64 20))] ?_
    refine wl_end rfl ?_
    exact hJ25 G127 L127 T.b Wb 20 hTI.inv hTI.pb ((fun p hp => (hs127 _ hp))) ((fun _ => rfl)) _ _ _ (pEq 162) (h127.sel [0, 1, 2, 3, 4, 5, 6, 7, 8] [0, 1, 2, 3] (by kernel_rfl) rfl rfl)
   ·
    refine reg_lit ?_
    refine wq_p 3 [(40, (pt p 2)), (39, (pt p 0)), (38, (pt p 0))] (wq_v (some 41) (pt e.sb 0) (eL (h24.at_ 0 rfl) 29 (.tmp 40) 2 _) (wq_p 1 [(42, (lV B body.length d))] ?_))
    refine wq_to (some 43) (x_ses h24 3 rfl 0 rfl 9 [(pt e.sb 0), (lV B body.length d)] (by kernel_rfl) (sPush_ok (h24.at_ 3 rfl) (h24.rd 0 rfl) (h24.rdis 0 3 _ _ rfl rfl) body B d (h24.rd 2 rfl) (h24.rdis 2 3 _ _ rfl rfl) hb3 hTI.inv.ba.ov hq)) ?_
    rintro _ w128 ⟨G128, L128, rfl, hs128, hx128, h128⟩
    refine wq_p 1 [(8, (iV .i64 0))] ?_
    refine wl_end rfl ?_
    exact hJ25 G128 L128 ({ T.b with queue := T.b.queue ++ [(1, body)] }) (⟨Wb.P ++ [(1, body)], Wb.ks⟩) 0 ((hTI.inv.symm.push hq (.inl rfl) hb3).symm) ((by have := hCn.swap.room hTI.swap (by omega); simp; omega)) ((fun p hp => (hs128 _ hp))) ((fun h => absurd h (by omega))) _ _ _ (pEq 162) (h128.sel [0, 1, 2, 3, 4, 5, 6, 7, 8] [0, 1, 2, 3] (by kernel_rfl) rfl rfl)
   ·
    refine reg_lit ?_
    refine wq_p 3 [(40, (pt p 2)), (39, (pt p 0)), (38, (pt p 0))] (wq_v (some 41) (pt e.sb 0) (eL (h24.at_ 0 rfl) 29 (.tmp 40) 2 _) (wq_p 1 [(42, (lV B body.length d))] ?_))
    refine wq_to (some 43) (x_ses h24 3 rfl 0 rfl 9 [(pt e.sb 0), (lV B body.length d)] (by kernel_rfl) (sPush_full (h24.at_ 3 rfl) (h24.rd 0 rfl) (h24.rdis 0 3 _ _ rfl rfl) body B d (h24.rd 2 rfl) (h24.rdis 2 3 _ _ rfl rfl) hb3 hTI.inv.ba.ov hq)) ?_
    rintro _ w129 ⟨G129, L129, rfl, hs129, hx129, h129⟩
    refine wq_p 1 [(8, (iV .i64 8))] ?_
    refine wl_end rfl ?_
    exact hJ25 G129 L129 T.b Wb 8 hTI.inv hTI.pb ((fun p hp => (hs129 _ hp))) ((fun h => absurd h (by omega))) _ _ _ (pEq 162) (h129.sel [0, 1, 2, 3, 4, 5, 6, 7, 8] [0, 1, 2, 3] (by kernel_rfl) rfl rfl)
 ·
  refine reg_lit ?_
  refine wq_p 1 [(19, (lV A st.length c))] ?_
  have hbr130 : briefR st = true := hb1
  refine wq_to (some 20) (x_dp h4 14 [(lV A st.length c)] (by kernel_rfl) (v := bV true) (by have := tBrief_any hx (h4.rd 1 rfl); rwa [hbr130] at this)) ?_
  rintro _ w130 ⟨rfl, h130⟩
  obtain ⟨hlen, hall⟩ := of_decide_eq_true (show decide _ = true from hbr130)
  refine wq_p 4 [(24, (iV .i64 ((body.length : Int)))), (23, (lV B body.length d)), (22, (bV false)), (21, (bV false))] (wq_v (some 25) (.bool true) (eqI (bV (decide ((body.length : Int) > 5000))) (congrArg bV (by simp; omega))) (wq_p 1 [(26, (bV true))] ?_))
  refine wl_end rfl (seq_n hK6 (cT (wp_seq_k fun K131 hK131 => reg_lit ?_)))
  refine wq_p 1 [(4, (bV true))] ?_
  refine wl_end rfl (seq_n hK131 (wp_ret (seq_r ?_)))
  refine post_1 rfl (by kernel_rfl) (rtm (bV true)) ?_
  exact ⟨rfl, h130.below0⟩
 ·
  refine reg_lit ?_
  refine wq_p 1 [(19, (lV A st.length c))] ?_
  have hbr132 : briefR st = false := by simpa using hb1
  refine wq_to (some 20) (x_dp h4 14 [(lV A st.length c)] (by kernel_rfl) (v := bV false) (by have := tBrief_any hx (h4.rd 1 rfl); rwa [hbr132] at this)) ?_
  rintro _ w132 ⟨rfl, h132⟩
  refine wq_p 4 [(24, undef), (23, undef), (22, (bV true)), (21, (bV true))] (wq_p 1 [(25, undef)] (wq_p 1 [(26, (bV true))] ?_))
  refine wl_end rfl (seq_n hK6 (cT (wp_seq_k fun K133 hK133 => reg_lit ?_)))
  refine wq_p 1 [(4, (bV true))] ?_
  refine wl_end rfl (seq_n hK133 (wp_ret (seq_r ?_)))
  refine post_1 rfl (by kernel_rfl) (rtm (bV true)) ?_
  exact ⟨rfl, h132.below0⟩
 ·
  refine reg_lit ?_
  refine wq_p 1 [(19, (lV A st.length c))] ?_
  have hbr134 : briefR st = false := by simpa using hb1
  refine wq_to (some 20) (x_dp h4 14 [(lV A st.length c)] (by kernel_rfl) (v := bV false) (by have := tBrief_any hx (h4.rd 1 rfl); rwa [hbr134] at this)) ?_
  rintro _ w134 ⟨rfl, h134⟩
  refine wq_p 4 [(24, undef), (23, undef), (22, (bV true)), (21, (bV true))] (wq_p 1 [(25, undef)] (wq_p 1 [(26, (bV true))] ?_))
  refine wl_end rfl (seq_n hK6 (cT (wp_seq_k fun K135 hK135 => reg_lit ?_)))
  refine wq_p 1 [(4, (bV true))] ?_
  refine wl_end rfl (seq_n hK135 (wp_ret (seq_r ?_)))
  refine post_1 rfl (by kernel_rfl) (rtm (bV true)) ?_
  exact ⟨rfl, h134.below0⟩
theorem rcV {L : List (Value × Bytes)} {w : World} (hL : (rF L).Φ w) (hnil : (lV none 0 0, ([] : Bytes)) ∈ L) {A : Option Addr} {c : Nat} {xs : List (List Value)} {st : List Stp} (hx : RowOk (StAt L) xs st) (hrx : RV w 4 A c xs) {v : Value} {body : Bytes} (hbody : SB w v body) :
   Calls Try.prog 6 #[.slice A st.length c, v] w fun e w' => e = .returned (.bool true) /\ Below w.heap.size w w' := by
 obtain ⟨B, d, rfl, _⟩ := id hbody
 exact rcA hL hnil hx hrx hbody
end
section
open Go.ChangeShapes Go.WideShapes Go.ChangeAt Go.RowKit
theorem recordCloses_lifted (os : Os) (started : os.Started) (H : Type) (enc : TypeId × Value -> H) :
   ReturnsInHanded {} Try.checked os 6 .any (Rows.recordClosesSpec.pre6 enc Try.prog Try.f6 Rows.recordClosesRow.domain false) (Rows.recordClosesSpec.post enc Try.prog Try.f6 false true false false) := by
 refine returnsInHanded_of_change (C := Try.checked) Try.own started (by kernel_rfl) Try.func6
   (ChangeSpec.witness6 (enc := enc) (C := Try.checked) false ⟨#[], #[.slice none 0 0, .slice none 0 0], []⟩ 8 (by kernel_rfl) (by kernel_rfl) (by kernel_rfl) (by kernel_rfl)) ?_
 intro W base args ds gs before hval0 hW hcnd _
 have hval : ∀ (j : Nat) t v, Try.f6.params[j]? = some t -> args[j]? = some v -> Value.okWide Try.prog W .any base t v := hval0
 have hpost : ∀ W', Below W.heap.size W W' -> Rows.recordClosesSpec.post enc Try.prog Try.f6 false true false false W args (.bool true) W' := fun W' hb =>
   law_post Try.laidOut (by kernel_rfl) Try.underlying4 rfl rfl (fun ds hds => by
     have hn : ds.length = 2 := hds
     match ds, hn with
     | [_, _], _ => rfl) hW hb
 obtain ⟨p, q, hA0, hV, rfl, hfz, hnd⟩ := hW
 have hA : DataW.TrodAll enc Try.prog W 0 (fun _ => true) true Try.f6.params.toList args.toList ds p := hA0
 rw [Try.params6] at hA hval
 clear hA0 hval0
 obtain ⟨v0, v1, d0, d1, p0, p1, rfl, rfl, rfl, h0, h1⟩ := trodAll_two hA
 obtain ⟨A0, c0, xs0, st0, L0, rfl, hr0, hx0, hL0, hn0⟩ := open_stps (hval 0 47 v0 rfl rfl) h0
 obtain ⟨b1, hb1⟩ := open_bs (hval 1 26 v1 rfl rfl) h1
 refine (rcV hL0 hn0 hx0 hr0 hb1).mono fun e W' ⟨he, hw⟩ => ?_
 subst he
 exact ⟨_, rfl, hpost W' hw⟩
theorem recordCloses_holds : Rows.RecordClosesSaid :=
 OpenClaim.holds_of_wide 6 Try.f6 rfl rfl rfl rfl rfl rfl rfl ⟨rfl, rfl, rfl, rfl, rfl⟩ rfl rfl rfl rfl rfl (by kernel_rfl) Try.func6 (by kernel_rfl)
   (of_decide_eq_true (by kernel_rfl)) (by unfold Func.isWrapper; first | (rw [if_pos (by decide +kernel)]; kernel_rfl) | (rw [if_neg (by decide +kernel)]; exact ⟨rfl, rfl⟩))
   (fun os started H enc _ => recordCloses_lifted os started H enc)
end
end Go.Proofs.Ytjalodhdjollhaa
