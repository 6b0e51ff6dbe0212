/- The row of RecordComes: for every input the law returns true and what came in reads as it did. -/
import Derived.ChangeMaps5
import Derived.Test.YtjalodhdjollhaaCA18
set_option maxRecDepth 100000
set_option maxHeartbeats 4000000
namespace Go.Proofs.Ytjalodhdjollhaa
section
def ones (sd : List Bytes) : List (Nat × Bytes) := sd.map fun b => (1, b)
structure Bnd (s : STab) (S : Ses) : Prop where
 sm : SmlS S
 ks : s.keys.length <= 3000
 bs : s.boxes.length <= 3000
 bd : ∀ x ∈ s.boxes, x.body.length <= 1000000
section
variable {s : STab} {a b : Ses} {Wa Wb : Way} {sd : List Bytes} {i : Nat} {c : Bytes}
end
end
section
/-- Half a round: a frame goes out, comes, and its mark comes back. -/
structure HalfI (p q : ByteArray) (n : Nat) (T : Tk) (Wb : Way) (s1 : STab) (a1 : Ses) (f : Frm) (r3 : Option (Nat × Nat × Bytes)) (s3 : STab) (b3 : Ses) (m : Option Bytes) (g : Frm) (e3 : Int) (r5 : Option (Nat × Nat × Bytes)) (s5 : STab) (a5 : Ses) (e5 : Int) (W1 : Way) : Prop where
 said3 : Said s1 T.b f r3
 take3 : TakeR s1 T.b f r3 s3 b3 m (some g) e3
 said5 : Said s3 a1 g r5
 take5 : TakeR s3 a1 g r5 s5 a5 none none e5
 n1 : Bnd T.s T.a
 n3 : Bnd s1 T.b
 n4 : Bnd s3 a1
 ti : TI p q (n + 3) { T with s := s5, a := a5, b := b3, cm1 := T.cm1 ++ m.toList } W1 Wb
 qb : b3.queue = T.b.queue
 qa : a5.queue.length <= T.a.queue.length
 del : b3.got = a5.sent + a5.fn
 go : a5.queue.length + 1 <= T.a.queue.length ∨ b3.queue ≠ []
 sure : T.a.got = T.b.sent + T.b.fn -> a5.queue.length + 1 <= T.a.queue.length
section
variable {p q : ByteArray} {n n' : Nat} {T T' : Tk} {Wa Wb Wa' Wb' : Way} {s1 s' : STab} {a1 a' : Ses} {f : Frm} {w : List Frm} {m' : Option Frm}
theorem TI.weaken (h : TI p q n T Wa Wb) (hn : n <= n') : TI p q n' T Wa Wb :=
 ⟨h.inv, h.am, h.ap, h.bm, h.bp, h.asid, h.bsid, h.sd0, h.sd1, h.cm0, h.cm1, h.k0, h.k1, h.pa, h.pb, by have := h.ks; omega, by have := h.bs; omega, by have := h.wl; omega, h.wi⟩
theorem TI.rewire (h : TI p q n { T with wire := w } Wa Wb) (h0 : TI p q n' T' Wa' Wb') (hw : T.wire = T'.wire) (hn : n' <= n) : TI p q n T Wa Wb :=
 ⟨h.inv, h.am, h.ap, h.bm, h.bp, h.asid, h.bsid, h.sd0, h.sd1, h.cm0, h.cm1, h.k0, h.k1, h.pa, h.pb, h.ks, h.bs, by rw [hw]; have := h0.wl; omega, by rw [hw]; exact h0.wi⟩
theorem TI.bnd (h : TI p q n T Wa Wb) (hn : n <= 700) : Bnd T.s T.a := ⟨h.inv.smallS h.pa h.pb, by have := h.ks; omega, by have := h.bs; omega, h.inv.bodiesS⟩
theorem TI.pend (h : TI p q n T Wa Wb) : T.a.queue.length = Wa.P.length - T.a.sent := by rw [h.inv.ab.q, List.length_drop]
/-- Nothing waits, so nothing is sent, and all has come. -/
theorem TI.still (h : TI p q n T Wa Wb) (hr : SendR T.s T.a s1 a1 none) : T.a.queue = [] /\ T.b.got = T.a.sent + T.a.fn /\ s1 = T.s /\ a1 = T.a := by
 have hw := h.inv.ab
 cases hr with
 | over ho => exact absurd ho (by rw [hw.ov]; decide)
 | none ho hf hq =>
   have h1 := hw.g1
   have h2 := hw.g2
   rw [fn_none hf] at h2 ⊢
   exact ⟨hq, by omega, rfl, rfl⟩
theorem TI.half (h : TI p q n T Wa Wb) (hn : n <= 600) (hr : SendR T.s T.a s1 a1 (some f)) : ∃ r3 s3 b3 m g e3 r5 s5 a5 e5 W1, HalfI p q n T Wb s1 a1 f r3 s3 b3 m g e3 r5 s5 a5 e5 W1 := by
 obtain ⟨W1, hT1, hS, _⟩ := h.send hr (by omega)
 have hT1 : TI p q (n + 1) { T with s := s1, a := a1 } W1 Wb := hT1.rewire h rfl (by omega)
 have hf1 : a1.frame = some f := hS.fr f rfl
 have hR1 : RecI s1 a1 T.b W1 Wb := hS.inv
 have hb1 := hT1.bnd (by omega)
 have hks1 : s1.keys.length <= 3000 := hb1.ks
 have hbs1 : s1.boxes.length <= 3000 := hb1.bs
 have hsm1 : a1.sent <= 60 := hb1.sm.sent
 have am : a1.me = p := hS.me.trans h.am
 have ap : a1.peer = q := hS.peer.trans h.ap
 have asid : a1.sid = 7 := hS.sid.trans h.asid
 obtain ⟨s3, b3, r3, m, g, e3, hE⟩ := hR1.exch (by omega) (by omega) (by omega) hf1 (am.trans h.bp.symm) (ap.trans h.bm.symm) (asid.trans h.bsid.symm)
 obtain ⟨hT3, hK3, _⟩ := hT1.swap.take hE.take hE.told (by omega)
 have hT3 : TI q p (n + 2) { T.swap with s := s3, a := b3, b := a1, cm0 := T.cm1 ++ m.toList } Wb W1 := hT3.rewire h.swap rfl (by omega)
 have hR3 : RecI s3 a1 b3 W1 Wb := hK3.inv.symm
 have hb3 := hT3.swap.bnd (by omega)
 have hks3 : s3.keys.length <= 3000 := hb3.ks
 have hsm3 : a1.sent <= 60 := hb3.sm.sent
 have bm : b3.me = q := hK3.me.trans h.bm
 have bp : b3.peer = p := hK3.peer.trans h.bp
 have bsid : b3.sid = 7 := hK3.sid.trans h.bsid
 have hback := hR3.back hf1 hE.mark (by omega) (by omega) hE.got (bm.trans ap.symm) (bp.trans am.symm) (bsid.trans asid.symm)
 have hq1 : a1.queue = T.a.queue := hS.q
 have hqn : T.a.queue ≠ [] := by
   have := hS.is
   exact of_decide_eq_true (show decide _ = true from this.symm)
 have hg1 : a1.got = T.a.got := hS.got
 have hbq : b3.queue = T.b.queue := by
   have h1 := hR3.ba.q
   have h2 := h.inv.ba.q
   have h3 : b3.sent = T.b.sent := by
     have := hE.take
     cases this <;> rfl
   rw [h1, h2, h3]
 have hfn : b3.sent + b3.fn = T.b.sent + T.b.fn := hK3.fn
 have hb2 : Bnd s1 T.b := hT1.swap.bnd (by omega)
 by_cases he : a1.ei = b3.eo
 · obtain ⟨r5, hsd, htd, hr5⟩ := hback.1 he
   obtain ⟨hT5, hK5, _⟩ := hT3.swap.take hr5 htd (by omega)
   have hT5 : TI p q (n + 3) { T with s := openT s3 a1, a := markR a1, b := b3, cm1 := T.cm1 ++ m.toList } W1 Wb := by
     have h6 : TI p q (n + 3) { T with s := openT s3 a1, a := markR a1, b := b3, cm0 := T.cm0 ++ [], cm1 := T.cm1 ++ m.toList } W1 Wb := TI.rewire hT5 h rfl (by omega)
     rw [List.append_nil] at h6
     exact h6
   have hlt : (markR a1).queue.length + 1 <= T.a.queue.length := by
     show a1.queue.tail.length + 1 <= _
     rw [hq1, List.length_tail]
     have := List.length_pos_iff.2 hqn
     omega
   exact ⟨r3, s3, b3, m, g, e3, r5, _, _, _, W1, hE.said, hE.take, hsd, hr5, h.bnd (by omega), hb2, hb3, hT5, hbq, by omega, by rw [hE.got]; rfl, .inl hlt, fun _ => hlt⟩
 · obtain ⟨r5, hsd, htd, hr5⟩ := hback.2 he
   obtain ⟨hT5, hK5, _⟩ := hT3.swap.take hr5 htd (by omega)
   have hT5 : TI p q (n + 3) { T with s := s3, a := a1, b := b3, cm1 := T.cm1 ++ m.toList } W1 Wb := by
     have h6 : TI p q (n + 3) { T with s := s3, a := a1, b := b3, cm0 := T.cm0 ++ [], cm1 := T.cm1 ++ m.toList } W1 Wb := TI.rewire hT5 h rfl (by omega)
     rw [List.append_nil] at h6
     exact h6
   have hne : T.a.got ≠ T.b.sent + T.b.fn := fun e => he (by
     rw [hR3.ba.ei, hR3.ba.eo, hg1, e, hfn])
   have hbn : b3.queue ≠ [] := by
     have h1 := h.inv.ba.g1
     have h2 := h.inv.ba.g2
     cases hf : T.b.frame with
     | none => rw [fn_none hf] at h2 hne; omega
     | some x =>
       rw [hbq]
       exact h.inv.ba.fresh hf
   exact ⟨r3, s3, b3, m, g, e3, r5, _, _, _, W1, hE.said, hE.take, hsd, hr5, h.bnd (by omega), hb2, hb3, hT5, hbq, by rw [hq1]; exact Nat.le_refl _, by rw [hE.got, fn_some hf1], .inr hbn, fun e => absurd e hne⟩
/-- Nothing waits any more: all has come, and both keys have gone on as often as they were let. -/
theorem TI.done (h : TI p q n T Wa Wb) (ha : T.a.queue = []) (hb : T.b.queue = []) : T.a.eo = T.k0 /\ T.a.ei = T.k1 /\ T.cm1 = T.sd0 /\ T.cm0 = T.sd1 := by
 have hp := h.pend
 have hp2 : T.b.queue.length = Wb.P.length - T.b.sent := h.swap.pend
 rw [ha] at hp
 rw [hb] at hp2
 simp only [List.length_nil] at hp hp2
 have hw := h.inv.ab
 have hv := h.inv.ba
 have h1 := hw.sl
 have h2 := hv.sl
 have h3 := hw.g1
 have h4 := hw.g2
 have h5 := hv.g1
 have h6 := hv.g2
 have e1 : T.a.sent + T.a.fn = Wa.P.length := by omega
 have e2 : T.b.got = Wa.P.length := by omega
 have e3 : T.a.got = Wb.P.length := by omega
 refine ⟨?_, ?_, ?_, ?_⟩
 · rw [hw.eo, e1, List.take_length, h.k0]
 · rw [hv.ei, e3, List.take_length, h.k1]
 · rw [h.cm1, h.sd0, e2, List.take_length]
 · rw [h.cm0, h.sd1, e3, List.take_length]
end
end
section
open Go.Value renaming int -> iV, slice -> lV, string -> sV, bool -> bV, agg -> aV
open Go.RowKit Go.QT
/-- How many parts wait. -/
def pendT (T : Tk) : Nat := T.a.queue.length + T.b.queue.length
theorem recordComes_any {L : List (Value × Bytes)} {w : World} (hL : (rF L).Φ w) (hnil : (lV none 0 0, ([] : Bytes)) ∈ L) {A : Option Addr} {c : Nat} {xs : List (List Value)} {st : List Stp} (hx : RowOk (StAt L) xs st) (hrx : RV w 4 A c xs) :
   Calls Try.prog 5 #[.slice A st.length c] w fun e w' => e = .returned (.bool true) /\ Below w.heap.size w w' := by
 have hcap : st.length <= 9223372036854775807 := by have h1 := hrx.le; have h2 := hrx.cap; have h3 := hx.1; unfold maxLen at h2; omega
 have h0 := (Hp.ro1 (rF L) hL).addR (rRV 4 A c xs) hrx (by simp)
 refine enter 227 Try.func5 rfl rfl ?_
 refine wp_reset 228 [(0, (lV A st.length c))] (fun x0 => ?_)
 refine wp_seq_k fun K1 hK1 => reg_lit ?_
 refine wq_p 1 [(2, (bV false))] ?_
 refine wl_end rfl (seq_n hK1 (wp_seq_k fun K2 hK2 => wp_seq_k fun K3 hK3 => reg_lit ?_))
 refine wq_to (some 13) (OpTo.enter 7 [] (by kernel_rfl) (alive20_any _) (R := fun u w' => u = bV true /\ Below w.heap.size w w') (fun e w' hq => ⟨_, hq.1, rfl, hq.2⟩)) ?_
 rintro _ w4 ⟨rfl, hb4⟩
 have h4 := h0.below hb4
 refine wq_p 1 [(14, (bV false))] ?_
 refine wl_end rfl (seq_n hK3 (cF (wp_skip (seq_n hK2 (wp_seq_k fun K5 hK5 => wp_seq_k fun K6 hK6 => ?_)))))
 by_cases b7 : briefR st = true
 ·
  refine reg_lit ?_
  refine wq_p 1 [(15, (lV A st.length c))] ?_
  have hbr8 : briefR st = true := b7
  refine wq_to (some 16) (x_dp h4 14 [(lV A st.length c)] (by kernel_rfl) (v := bV true) (by have := tBrief_any hx (h4.rd 0 rfl); rwa [hbr8] at this)) ?_
  rintro _ w8 ⟨rfl, h8⟩
  obtain ⟨hlen, hall⟩ := of_decide_eq_true (show decide _ = true from hbr8)
  refine wq_p 1 [(17, (bV false))] ?_
  refine wl_end rfl (seq_n hK6 (cF (wp_skip (seq_n hK5 (wp_seq_k fun K9 hK9 => reg_lit ?_)))))
  refine wq_to (some 18) (x_topen h8 8 (by kernel_rfl) (tOpen_any hnil _)) ?_
  rintro _ w10 ⟨p, G0, rfl, h10⟩
  refine wq_p 1 [(3, (pt p 0))] ?_
  refine wl_end rfl (seq_n hK9 (wp_seq_k fun K11 hK11 => wp_seq_k fun K12 hK12 => reg_lit ?_))
  refine wq_p 3 [(21, (iV .i64 0)), (20, (iV .i64 ((st.length : Int)))), (19, (lV A st.length c))] ?_
  refine wl_end rfl (seq_n hK12 (wp_block ?_))
  refine wp_loopm (fun mM xX aA wL => ∃ (n : Nat) (G : Nat -> Prop) (LL : List (Value × Bytes)) (T : Tk) (Wa : Way) (Wb : Way), (n <= st.length) /\ (TI sAnn sBob n T Wa Wb) /\ (Cnt n T Wa Wb) /\ (∀ p, p ∈ L -> p ∈ LL) /\ mM = st.length - (n) /\ aA = patch xX 228 [(0, (lV A st.length c)), (2, (bV false)), (3, (pt p 0)), (14, (bV false)), (17, (bV false)), (19, (lV A st.length c)), (20, (iV .i64 ((st.length : Int)))), (21, (iV .i64 ((n : Int))))] /\ Hp (fun _ => False) w wL [rF LL, rRV 4 A c xs] [rT G p LL T]) ⟨_, 0, G0, L, tk0, (⟨[], [sA0.ko]⟩), (⟨[], [sA0.ki]⟩), (by omega), ti0, (cnt0 rfl rfl), (fun p hp => hp), rfl, (pEq 228), h10.sel [0] [1, 0] (by kernel_rfl) rfl rfl⟩ ?_
  rintro _ x13 _ w13 ⟨n, G, LL, T, Wa, Wb, hn, hTI, hCn, hsub, rfl, rfl, h13⟩
  refine wp_seq_k fun K14 hK14 => reg_lit ?_
  refine wq_p 1 [(22, (bV (decide ((n : Int) < (st.length : Int)))))] ?_
  refine wl_end rfl (seq_n hK14 (wp_seq_k fun K15 hK15 => ?_))
  refine wp_if ((n : Int) < (st.length : Int)) (by kernel_rfl) (fun b16 => ?_) (fun b16 => ?_)
  ·
   refine wp_skip (seq_n hK15 (wp_seq_k fun K17 hK17 => wp_block (wp_seq_k fun K18 hK18 => ?_)))
   obtain ⟨z, hz0⟩ : ∃ z, st[n]? = some z := ⟨_, List.getElem?_eq_getElem (by omega)⟩
   obtain ⟨x1, hx1, A1, c1, rfl, hm1⟩ := hx.get hz0
   have hzl := hall z (List.mem_of_getElem? hz0)
   refine reg_lit ?_
   refine wq_v (some 23) (eAt A (n * 4 + 0)) (eIx (RV.lenIs (n := st.length) (h13.rd 1 rfl) hx.1).2 n st.length (RV.lenIs (n := st.length) (h13.rd 1 rfl) hx.1).1 (by omega) 47 (.tmp 19) (.tmp 21) .i64 50) (wq_v (some 24) (aV ([(iV .i64 z.kind), (iV .i64 z.at_), (iV .i64 z.turn), (lV A1 z.body.length c1)]).toArray) (e_elemsN (RV.lenIs (n := st.length) (h13.rd 1 rfl) hx.1).2 n 0 ([(iV .i64 z.kind), (iV .i64 z.at_), (iV .i64 z.turn), (lV A1 z.body.length c1)]) hx1 50 (.tmp 23) (by kernel_rfl) ([(iV .i64 z.kind), (iV .i64 z.at_), (iV .i64 z.turn), (lV A1 z.body.length c1)]) (by kernel_rfl) (by kernel_rfl) (by kernel_rfl)) ?_)
   refine wq_to (some 5) (xN h13 50 ([(iV .i64 0), (iV .i64 0), (iV .i64 0), (lV none 0 0)])) ?_
   rintro _ w19 ⟨g19, rfl, h19⟩
   refine wq_to none (xSs h19 0 50 (.tmp 5) (.tmp 24) 0 ([(iV .i64 z.kind), (iV .i64 z.at_), (iV .i64 z.turn), (lV A1 z.body.length c1)]) ([(iV .i64 z.kind), (iV .i64 z.at_), (iV .i64 z.turn), (lV A1 z.body.length c1)])) ?_
   rintro _ w20 h20
   refine wl_end rfl (seq_n hK18 (reg_lit ?_))
   refine wq_p 1 [(25, (pt p 0))] (wq_v (some 26) (aV ([(iV .i64 z.kind), (iV .i64 z.at_), (iV .i64 z.turn), (lV A1 z.body.length c1)]).toArray) (eLs (h20.at_ 0 rfl) 50 (.tmp 5) 0 ([(iV .i64 z.kind), (iV .i64 z.at_), (iV .i64 z.turn), (lV A1 z.body.length c1)])) ?_)
   refine wq_to (some 27) (x_tstep h20 1 rfl 0 rfl 15 [(pt p 0), (aV ([(iV .i64 z.kind), (iV .i64 z.at_), (iV .i64 z.turn), (lV A1 z.body.length c1)]).toArray)] (by kernel_rfl) (tStep_any hTI hCn (by omega) (h20.at_ 1 rfl) (h20.rd 0 rfl) (h20.rdis 0 1 _ _ rfl rfl) z hzl A1 c1 (hsub _ hm1))) ?_
   rintro _ w21 ⟨rfl, G21, L21, T, Wa, Wb, hTI, hCn, hsS21, h21⟩
   refine wl_end rfl (blk_n (seq_n hK17 (reg_lit ?_)))
   refine wq_v (some 28) (iV .i64 ((n : Int) + 1)) (exec_add _ _ _ _ rfl ((n : Int)) 1 (by kernel_rfl) (by kernel_rfl) ((n : Int) + 1) rfl (by omega) (by omega) _) (wq_p 1 [(21, (iV .i64 ((n : Int) + 1)))] ?_)
   refine wl_end rfl ?_
   refine ⟨st.length - (n + 1), (by omega), (n + 1), G21, L21, T, Wa, Wb, (by omega), hTI, hCn, (fun p hp => hsS21 p (hsub p hp)), rfl, (pEq 228), h21.sel [1] [0, 2] (by kernel_rfl) rfl rfl⟩
  ·
   refine wp_exit (seq_e (seq_e (blk_e (seq_n hK11 (wp_seq_k fun K22 hK22 => wp_seq_k fun K23 hK23 => ?_)))))
   have hT2 : TI sAnn sBob (200 + 6 * 0 + 3 * 0) T Wa Wb := hTI.weaken (by omega)
   have hqa0 := hTI.small.q8
   have hqb0 : T.b.queue.length <= 8 := hTI.swap.small.q8
   obtain ⟨e, hT, h24⟩ := h13.openT 0 rfl
   refine pR_go h24 13 (fun W => (rBlk p 34 ([(pt e.tb 0), (pt e.sa 0), (pt e.sb 0), (lV e.wA T.wire.length e.wc), (lV e.A0 T.sd0.length e.c0), (lV e.A1 T.sd1.length e.c1), (lV e.A2 T.cm0.length e.c2), (lV e.A3 T.cm1.length e.c3), (iV .i64 ((T.k0 : Int))), (iV .i64 ((T.k1 : Int)))])).Φ W /\ True) [(30, [3], 0), (31, [29], 1), (32, [30], 2), (33, [31], 4), (34, [32], 8), (35, [3], 0), (36, [34], 32), (37, [35], 64), (38, [36], 128), (39, [37], 272), (40, [33, 38], 528), (41, [39], 1024), (42, [], 0)] rfl (fun _ d _ _ _ h => by cases d <;> exact h) ?_
   intro hs25 w25 h25
   refine pR_p 6 [0, 1, 2, 5, 6, 7, 12] [(41, (iV .i64 0)), (36, (pt p 2)), (35, (pt p 0)), (34, (pt p 0)), (31, (pt p 1)), (30, (pt p 0)), (29, (pt p 0))] 4327 hs25 ⟨h25.at_ 0 rfl, trivial⟩ ?_
   refine pR_v 3 (some 32) (pt e.sa 0) 4335 rfl hs25 ⟨h25.at_ 0 rfl, trivial⟩ (fun W hW => eL hW.1 29 (.tmp 31) 1 _) ?_
   refine pR_v 8 (some 37) (pt e.sb 0) 4591 rfl hs25 ⟨h25.at_ 0 rfl, trivial⟩ (fun W hW => eL hW.1 29 (.tmp 36) 2 _) ?_
   refine pR_to 4 (some 33) 4607 rfl hs25 (x_dp h25 10 [(pt e.sa 0)] (by kernel_rfl) (waits_any (h25.at_ 2 rfl))) ?_
   rintro _ w26 ⟨rfl, h26⟩
   refine ⟨fun _ => ⟨h26.at_ 0 rfl, trivial⟩, ?_⟩
   refine pR_to 9 (some 38) 5119 rfl hs25 (x_dp h26 10 [(pt e.sb 0)] (by kernel_rfl) (waits_any (h26.at_ 3 rfl))) ?_
   rintro _ w27 ⟨rfl, h27⟩
   refine ⟨fun _ => ⟨h27.at_ 0 rfl, trivial⟩, ?_⟩
   refine pR_v 10 (some 39) (iV .i64 (((T.a.queue.length + T.b.queue.length : Nat) : Int))) 6143 rfl hs25 ⟨h27.at_ 0 rfl, trivial⟩ (fun W hW => exec_add _ _ _ _ rfl ((T.a.queue.length : Int)) ((T.b.queue.length : Int)) (by kernel_rfl) (by kernel_rfl) (((T.a.queue.length + T.b.queue.length : Nat) : Int)) (by omega) (by omega) (by omega) _) ?_
   refine pR_v 11 (some 40) (iV .i64 (((T.a.queue.length + T.b.queue.length + 2 : Nat) : Int))) 8191 rfl hs25 ⟨h27.at_ 0 rfl, trivial⟩ (fun W hW => exec_add _ _ _ _ rfl (((T.a.queue.length + T.b.queue.length : Nat) : Int)) 2 (by kernel_rfl) (by kernel_rfl) (((T.a.queue.length + T.b.queue.length + 2 : Nat) : Int)) (by omega) (by omega) (by omega) _) ?_
   refine pR_done hs25 ?_ _
   refine seq_n hK23 (wp_block ?_)
   have h28 := (show Hp _ _ _ _ (lT p LL e T ++ []) from h27.sel [0, 1, 2, 3, 4, 5, 6, 7, 8] [0, 1] rfl rfl rfl).closeT hT
   obtain ⟨W0, hW0⟩ : ∃ W0, W0 = T.a.queue.length + T.b.queue.length := ⟨_, rfl⟩
   have hW8 : W0 <= 16 := by omega
   rw [← hW0]
   refine wp_loopm (fun mM xX aA wL => ∃ (k : Nat) (G : Nat -> Prop) (LL : List (Value × Bytes)) (T : Tk) (Wa : Way) (Wb : Way), (k <= W0 + 2) /\ (TI sAnn sBob (200 + 6 * k + 3 * 0) T Wa Wb) /\ (pendT T <= W0 - k) /\ mM = W0 + 2 - (k) /\ aA = patch xX 228 [(0, (lV A st.length c)), (3, (pt p 0)), (14, (bV false)), (17, (bV false)), (19, (lV A st.length c)), (20, (iV .i64 ((st.length : Int)))), (21, (iV .i64 ((n : Int)))), (22, (bV (decide ((n : Int) < (st.length : Int))))), (40, (iV .i64 (((W0 + 2 : Nat) : Int)))), (41, (iV .i64 ((k : Int))))] /\ Hp (fun _ => False) w wL [rF LL] [rT G p LL T]) ⟨_, 0, ((rStar (lT p LL e T)).F), LL, T, Wa, Wb, (by omega), hT2, (by unfold pendT; omega), rfl, (pEq 228), h28.sel [0] [0] (by kernel_rfl) rfl rfl⟩ ?_
   rintro _ x29 _ w29 ⟨k, G, LL, T, Wa, Wb, hk, hTI, hpd, rfl, rfl, h29⟩
   refine wp_seq_k fun K30 hK30 => reg_lit ?_
   refine wq_p 1 [(42, (bV (decide ((k : Int) < ((W0 + 2 : Nat) : Int)))))] ?_
   refine wl_end rfl (seq_n hK30 (wp_seq_k fun K31 hK31 => ?_))
   refine wp_if ((k : Int) < ((W0 + 2 : Nat) : Int)) (by kernel_rfl) (fun b32 => ?_) (fun b32 => ?_)
   ·
    refine wp_skip (seq_n hK31 (wp_seq_k fun K33 hK33 => wp_block (wp_seq_k fun K34 hK34 => reg_lit ?_)))
    refine wq_p 1 [(43, (iV .i64 0))] ?_
    refine wl_end rfl (seq_n hK34 (wp_block ?_))
    obtain ⟨P0, hP0⟩ : ∃ P0, P0 = pendT T := ⟨_, rfl⟩
    refine wp_loopm (fun mM xX aA wL => ∃ (i : Nat) (G : Nat -> Prop) (LL : List (Value × Bytes)) (T : Tk) (Wa : Way) (Wb : Way), (i <= 2) /\ (TI sAnn sBob (200 + 6 * k + 3 * i) T Wa Wb) /\ (pendT T <= P0) /\ ((i = 1 -> pendT T + 1 <= P0 ∨ P0 = 0 ∨ ((Tk.b T).got = (Tk.a T).sent + (Tk.a T).fn /\ (Tk.b T).queue ≠ [])) /\ (i = 2 -> pendT T + 1 <= P0 ∨ P0 = 0)) /\ mM = 2 - (i) /\ aA = patch xX 228 [(0, (lV A st.length c)), (3, (pt p 0)), (14, (bV false)), (17, (bV false)), (19, (lV A st.length c)), (20, (iV .i64 ((st.length : Int)))), (21, (iV .i64 ((n : Int)))), (22, (bV (decide ((n : Int) < (st.length : Int))))), (40, (iV .i64 (((W0 + 2 : Nat) : Int)))), (41, (iV .i64 ((k : Int)))), (42, (bV (decide ((k : Int) < ((W0 + 2 : Nat) : Int))))), (43, (iV .i64 ((i : Int))))] /\ Hp (fun _ => False) w wL [rF LL] [rT G p LL T]) ⟨_, 0, G, LL, T, Wa, Wb, (by omega), (hTI.weaken (by omega)), (by omega), ⟨fun h => absurd h (by decide), fun h => absurd h (by decide)⟩, rfl, (pEq 228), h29.sel [0] [0] (by kernel_rfl) rfl rfl⟩ ?_
    rintro _ x35 _ w35 ⟨i, G, LL, T, Wa, Wb, hi, hTI, hpl, hpm, rfl, rfl, h35⟩
    refine wp_seq_k fun K36 hK36 => reg_lit ?_
    refine wq_p 1 [(44, (bV (decide ((i : Int) < 2))))] ?_
    refine wl_end rfl (seq_n hK36 (wp_seq_k fun K37 hK37 => ?_))
    refine wp_if ((i : Int) < 2) (by kernel_rfl) (fun b38 => ?_) (fun b38 => ?_)
    ·
     refine wp_skip (seq_n hK37 (wp_seq_k fun K39 hK39 => wp_block (wp_seq_k fun K40 hK40 => ?_)))
     obtain rfl | rfl : i = 0 ∨ i = 1 := by omega
     ·
      refine reg_lit ?_
      refine wq_p 2 [(6, (iV .i64 0)), (45, (iV .i64 0))] ?_
      refine wl_end rfl (seq_n hK40 (wp_seq_k fun K42 hK42 => ?_))
      obtain ⟨s1, a1, mm, hr⟩ := send_ex T.s T.a
      have hbn : Bnd T.s T.a := hTI.bnd (by omega)
      rcases mm with _ | f
      ·
       obtain ⟨e, hT, h44⟩ := h35.openT 0 rfl
       obtain ⟨hqe, hdel, rfl, rfl⟩ := hTI.still hr
       have hqe : T.a.queue = [] := hqe
       refine reg_lit ?_
       refine wq_p 2 [(48, (iV .i64 0)), (47, (pt p 0))] ?_
       refine wq_to (some 49) (x_dp h44 18 [(pt p 0), (iV .i64 0)] (by kernel_rfl) (tEnd_0 (h44.at_ 0 rfl))) ?_
       rintro _ w45 ⟨rfl, h45⟩
       refine wq_to (some 50) (x_two h45 1 2 rfl rfl (by kernel_rfl) 0 rfl 11 [(pt e.sa 0)] (by kernel_rfl) (send_of (h45.at_ 1 rfl) (h45.at_ 2 rfl) (h45.rd 0 rfl) (h45.dis 1 2 _ _ rfl rfl (by decide)) (h45.rdis 0 1 _ _ rfl rfl) (h45.rdis 0 2 _ _ rfl rfl) hr hbn.sm.q (by have := hbn.sm.sent; omega) (by have := hbn.sm.eo; omega) (by have := hbn.ks; omega) (by have := hbn.bs; omega))) ?_
       rintro _ w46 ⟨F46, G46, L46, ⟨_, rfl, rfl⟩, hs46, hx46, h46⟩
       refine wq_p 3 [(52, (bV false)), (51, (aV ([(sV ByteArray.empty), (sV ByteArray.empty), (iV .i64 0), (iV .i64 0), (iV .i64 0), (lV none 0 0)]).toArray)), (46, (Value.tuple #[(aV ([(sV ByteArray.empty), (sV ByteArray.empty), (iV .i64 0), (iV .i64 0), (iV .i64 0), (lV none 0 0)]).toArray), (bV false)]))] ?_
       refine wq_to (some 7) (xN h46 38 ([(sV ByteArray.empty), (sV ByteArray.empty), (iV .i64 0), (iV .i64 0), (iV .i64 0), (lV none 0 0)])) ?_
       rintro _ w47 ⟨g47, rfl, h47⟩
       refine wq_to none (xSs h47 0 38 (.tmp 7) (.tmp 51) 0 ([(sV ByteArray.empty), (sV ByteArray.empty), (iV .i64 0), (iV .i64 0), (iV .i64 0), (lV none 0 0)]) ([(sV ByteArray.empty), (sV ByteArray.empty), (iV .i64 0), (iV .i64 0), (iV .i64 0), (lV none 0 0)])) ?_
       rintro _ w48 h48
       refine wq_p 1 [(8, (bV false))] ?_
       refine wl_end rfl (seq_n hK42 (wp_seq_k fun K49 hK49 => wp_seq_k fun K50 hK50 => reg_lit ?_))
       refine wq_p 2 [(54, (bV true)), (53, (bV false))] ?_
       refine wl_end rfl (seq_n hK50 (cT (wp_exit (seq_e (blk_e (seq_n hK39 ?_))))))
       refine wp_reset 228 [(0, (lV A st.length c)), (3, (pt p 0)), (6, (iV .i64 0)), (7, (pt g47 0)), (8, (bV false)), (14, (bV false)), (17, (bV false)), (19, (lV A st.length c)), (20, (iV .i64 ((st.length : Int)))), (21, (iV .i64 ((n : Int)))), (22, (bV (decide ((n : Int) < (st.length : Int))))), (40, (iV .i64 (((W0 + 2 : Nat) : Int)))), (41, (iV .i64 ((k : Int)))), (42, (bV (decide ((k : Int) < ((W0 + 2 : Nat) : Int))))), (43, (iV .i64 0)), (44, (bV (decide ((0 : Int) < 2)))), (54, (bV true))] (fun x51 => ?_)
       have hq52 := h48.monoS 4 rfl (fun p hp => (hs46 _ hp))
       have h53 := (show Hp _ _ _ _ (lT p L46 (TEnv.mk e.tb e.sa e.sb F46 G46 e.Gb e.wA e.wc e.wx e.A0 e.c0 e.x0 e.A1 e.c1 e.x1 e.A2 e.c2 e.x2 e.A3 e.c3 e.x3) T ++ [rBlk g47 38 ([(sV ByteArray.empty), (sV ByteArray.empty), (iV .i64 0), (iV .i64 0), (iV .i64 0), (lV none 0 0)])]) from hq52.sel [1, 2, 3, 4, 5, 6, 7, 8, 9, 0] [0, 1] rfl rfl rfl).closeT ⟨(hT.w.mono (fun _ _ h => h.mono (fun p hp => (hs46 _ hp)))), (hT.x0.mono (fun _ _ h => h.mono (fun p hp => (hs46 _ hp)))), (hT.x1.mono (fun _ _ h => h.mono (fun p hp => (hs46 _ hp)))), (hT.x2.mono (fun _ _ h => h.mono (fun p hp => (hs46 _ hp)))), (hT.x3.mono (fun _ _ h => h.mono (fun p hp => (hs46 _ hp)))), (hs46 _ hT.nil)⟩
       have hqz : T.a.queue.length = 0 := by rw [hqe]; rfl
       have hpm1 : pendT T + 1 <= P0 ∨ P0 = 0 ∨ (T.b.got = T.a.sent + T.a.fn /\ T.b.queue ≠ []) := by
         by_cases h0 : T.b.queue = []
         · rcases Nat.eq_zero_or_pos P0 with h1 | h1
           · exact .inr (.inl h1)
           · exact .inl (by unfold pendT; rw [hqe, h0]; simp; omega)
         · exact .inr (.inr ⟨hdel, h0⟩)
       refine reg_lit ?_
       refine wq_p 2 [(43, (iV .i64 1)), (104, (iV .i64 1))] ?_
       refine wl_end rfl ?_
       refine ⟨2 - (1), (by omega), 1, ((rStar (lT p L46 (TEnv.mk e.tb e.sa e.sb F46 G46 e.Gb e.wA e.wc e.wx e.A0 e.c0 e.x0 e.A1 e.c1 e.x1 e.A2 e.c2 e.x2 e.A3 e.c3 e.x3) T)).F), L46, T, Wa, Wb, (by omega), (hTI.weaken (by omega)), hpl, ⟨fun _ => hpm1, fun h => absurd h (by decide)⟩, rfl, (pEq 228), h53.sel [0] [0] (by kernel_rfl) rfl rfl⟩
      ·
       obtain ⟨e, hT, h54⟩ := h35.openT 0 rfl
       refine reg_lit ?_
       refine wq_p 2 [(48, (iV .i64 0)), (47, (pt p 0))] ?_
       refine wq_to (some 49) (x_dp h54 18 [(pt p 0), (iV .i64 0)] (by kernel_rfl) (tEnd_0 (h54.at_ 0 rfl))) ?_
       rintro _ w55 ⟨rfl, h55⟩
       refine wq_to (some 50) (x_two h55 1 2 rfl rfl (by kernel_rfl) 0 rfl 11 [(pt e.sa 0)] (by kernel_rfl) (send_of (h55.at_ 1 rfl) (h55.at_ 2 rfl) (h55.rd 0 rfl) (h55.dis 1 2 _ _ rfl rfl (by decide)) (h55.rdis 0 1 _ _ rfl rfl) (h55.rdis 0 2 _ _ rfl rfl) hr hbn.sm.q (by have := hbn.sm.sent; omega) (by have := hbn.sm.eo; omega) (by have := hbn.ks; omega) (by have := hbn.bs; omega))) ?_
       rintro _ w56 ⟨F56, G56, L56, ⟨_, rfl, Af56, cf56, rfl, hmf56⟩, hs56, hx56, h56⟩
       refine wq_p 3 [(52, (bV true)), (51, (aV ([(sV f.src), (sV f.dst), (iV .i64 f.sid), (iV .i64 f.epoch), (iV .i64 f.seq), (lV Af56 f.box.length cf56)]).toArray)), (46, (Value.tuple #[(aV ([(sV f.src), (sV f.dst), (iV .i64 f.sid), (iV .i64 f.epoch), (iV .i64 f.seq), (lV Af56 f.box.length cf56)]).toArray), (bV true)]))] ?_
       refine wq_to (some 7) (xN h56 38 ([(sV ByteArray.empty), (sV ByteArray.empty), (iV .i64 0), (iV .i64 0), (iV .i64 0), (lV none 0 0)])) ?_
       rintro _ w57 ⟨g57, rfl, h57⟩
       refine wq_to none (xSs h57 0 38 (.tmp 7) (.tmp 51) 0 ([(sV f.src), (sV f.dst), (iV .i64 f.sid), (iV .i64 f.epoch), (iV .i64 f.seq), (lV Af56 f.box.length cf56)]) ([(sV f.src), (sV f.dst), (iV .i64 f.sid), (iV .i64 f.epoch), (iV .i64 f.seq), (lV Af56 f.box.length cf56)])) ?_
       rintro _ w58 h58
       refine wq_p 1 [(8, (bV true))] ?_
       refine wl_end rfl (seq_n hK42 (wp_seq_k fun K59 hK59 => wp_seq_k fun K60 hK60 => reg_lit ?_))
       refine wq_p 2 [(54, (bV false)), (53, (bV true))] ?_
       refine wl_end rfl (seq_n hK60 (cF (wp_skip (seq_n hK59 (wp_seq_k fun K61 hK61 => ?_)))))
       obtain ⟨r3, s3, b3, m, g, e3, r5, s5, a5, e5, W1, hH⟩ := hTI.half (by omega) hr
       have hn3 : Bnd s1 T.b := hH.n3
       have hJ62 : ∀ (FH : Nat -> Prop), ∀ (GH : Nat -> Prop), ∀ (LH : List (Value × Bytes)), ∀ (AcH : Option Addr), ∀ (ccH : Nat), ∀ (AgH : Option Addr), ∀ (cgH : Nat), ∀ (gH : Nat), ((lV AcH (m.getD []).length ccH, (m.getD [])) ∈ LH) -> ((lV AgH g.box.length cgH, g.box) ∈ LH) -> (∀ p, p ∈ L56 -> p ∈ LH) -> ∀ (xJ62 : Nat -> Value) (aJ : Act) (wJ62 : World), aJ = patch xJ62 228 [(0, (lV A st.length c)), (3, (pt p 0)), (6, (iV .i64 0)), (7, (pt g57 0)), (8, (bV true)), (9, (pt gH 0)), (10, (iV .i64 e3)), (14, (bV false)), (17, (bV false)), (19, (lV A st.length c)), (20, (iV .i64 ((st.length : Int)))), (21, (iV .i64 ((n : Int)))), (22, (bV (decide ((n : Int) < (st.length : Int))))), (40, (iV .i64 (((W0 + 2 : Nat) : Int)))), (41, (iV .i64 ((k : Int)))), (42, (bV (decide ((k : Int) < ((W0 + 2 : Nat) : Int))))), (43, (iV .i64 0)), (44, (bV (decide ((0 : Int) < 2)))), (54, (bV false))] -> Hp (fun _ => False) w wJ62 [rF LH, rF L56, rF LL] [rBlk gH 42 ([(lV AcH ((m.getD []).length) ccH), (bV m.isSome), (sV g.src), (sV g.dst), (iV .i64 g.sid), (iV .i64 g.epoch), (iV .i64 g.seq), (lV AgH g.box.length cgH), (bV true)]), rBlk g57 38 ([(sV f.src), (sV f.dst), (iV .i64 f.sid), (iV .i64 f.epoch), (iV .i64 f.seq), (lV Af56 f.box.length cf56)]), rBlk p 34 ([(pt e.tb 0), (pt e.sa 0), (pt e.sb 0), (lV e.wA T.wire.length e.wc), (lV e.A0 T.sd0.length e.c0), (lV e.A1 T.sd1.length e.c1), (lV e.A2 T.cm0.length e.c2), (lV e.A3 T.cm1.length e.c3), (iV .i64 ((T.k0 : Int))), (iV .i64 ((T.k1 : Int)))]), rTab FH e.tb s3, rS G56 e.tb e.sa L56 a1, rS GH e.tb e.sb LH b3, rOV 38 6 ((lV e.wA T.wire.length e.wc)) e.wx, rOV 26 1 ((lV e.A0 T.sd0.length e.c0)) e.x0, rOV 26 1 ((lV e.A1 T.sd1.length e.c1)) e.x1, rOV 26 1 ((lV e.A2 T.cm0.length e.c2)) e.x2, rOV 26 1 ((lV e.A3 T.cm1.length e.c3)) e.x3] -> K61 aJ wJ62 := by
         rintro FH GH LH AcH ccH AgH cgH gH hmcH hmgH hsH xJ62 _ wJ62 rfl hJh62
         refine seq_n hK61 (wp_seq_k fun K63 hK63 => wp_seq_k fun K64 hK64 => reg_lit ?_)
         refine wq_p 1 [(64, (pt gH 1))] (wq_v (some 65) (bV m.isSome) (eL (hJh62.at_ 0 rfl) 4 (.tmp 64) 1 _) ?_)
         refine wl_end rfl (seq_n hK64 ?_)
         have hJ65 : ∀ (AV : Option Addr), ∀ (cV : Nat), ∀ (xv : List (List Value)), ∀ (cmv : List Bytes), (RowOk (BAt LH) xv cmv) -> (cmv = T.cm1 ++ m.toList) -> ∀ (xJ65 : Nat -> Value) (aJ : Act) (wJ65 : World), aJ = patch xJ65 228 [(0, (lV A st.length c)), (3, (pt p 0)), (6, (iV .i64 0)), (7, (pt g57 0)), (8, (bV true)), (9, (pt gH 0)), (14, (bV false)), (17, (bV false)), (19, (lV A st.length c)), (20, (iV .i64 ((st.length : Int)))), (21, (iV .i64 ((n : Int)))), (22, (bV (decide ((n : Int) < (st.length : Int))))), (40, (iV .i64 (((W0 + 2 : Nat) : Int)))), (41, (iV .i64 ((k : Int)))), (42, (bV (decide ((k : Int) < ((W0 + 2 : Nat) : Int))))), (43, (iV .i64 0)), (44, (bV (decide ((0 : Int) < 2)))), (54, (bV false)), (65, (bV m.isSome))] -> Hp (fun _ => False) w wJ65 [rF LH, rF L56, rF LL] [rBlk gH 42 ([(lV AcH ((m.getD []).length) ccH), (bV m.isSome), (sV g.src), (sV g.dst), (iV .i64 g.sid), (iV .i64 g.epoch), (iV .i64 g.seq), (lV AgH g.box.length cgH), (bV true)]), rBlk g57 38 ([(sV f.src), (sV f.dst), (iV .i64 f.sid), (iV .i64 f.epoch), (iV .i64 f.seq), (lV Af56 f.box.length cf56)]), rBlk p 34 ([(pt e.tb 0), (pt e.sa 0), (pt e.sb 0), (lV e.wA T.wire.length e.wc), (lV e.A0 T.sd0.length e.c0), (lV e.A1 T.sd1.length e.c1), (lV e.A2 T.cm0.length e.c2), (lV AV cmv.length cV), (iV .i64 ((T.k0 : Int))), (iV .i64 ((T.k1 : Int)))]), rTab FH e.tb s3, rS G56 e.tb e.sa L56 a1, rS GH e.tb e.sb LH b3, rOV 38 6 ((lV e.wA T.wire.length e.wc)) e.wx, rOV 26 1 ((lV e.A0 T.sd0.length e.c0)) e.x0, rOV 26 1 ((lV e.A1 T.sd1.length e.c1)) e.x1, rOV 26 1 ((lV e.A2 T.cm0.length e.c2)) e.x2, rOV 26 1 ((lV AV cmv.length cV)) xv] -> K63 aJ wJ65 := by
           rintro AV cV xv cmv hcv hcm xJ65 _ wJ65 rfl hJh65
           refine seq_n hK63 (wp_seq_k fun K66 hK66 => wp_seq_k fun K67 hK67 => reg_lit ?_)
           refine wq_p 1 [(83, (pt gH 8))] (wq_v (some 84) (bV true) (eL (hJh65.at_ 0 rfl) 4 (.tmp 83) 8 _) (wq_p 1 [(85, (bV false))] ?_))
           refine wl_end rfl (seq_n hK67 (cF (wp_skip (seq_n hK66 ?_))))
           refine pR_go hJh65 6 (fun W => (rBlk gH 42 ([(lV AcH ((m.getD []).length) ccH), (bV m.isSome), (sV g.src), (sV g.dst), (iV .i64 g.sid), (iV .i64 g.epoch), (iV .i64 g.seq), (lV AgH g.box.length cgH), (bV true)])).Φ W /\ True) [(99, [3], 0), (100, [6], 0), (101, [98, 99], 3), (102, [9], 0), (103, [101], 8), (104, [100, 102], 20)] rfl (fun _ d _ _ _ h => by cases d <;> exact h) ?_
           intro hs68 w68 h68
           refine pR_p 3 [0, 1, 3] [(101, (pt gH 2)), (99, (iV .i64 0)), (98, (pt p 0))] 11 hs68 ⟨h68.at_ 0 rfl, trivial⟩ ?_
           refine pR_v 4 (some 102) (aV ([(sV g.src), (sV g.dst), (iV .i64 g.sid), (iV .i64 g.epoch), (iV .i64 g.seq), (lV AgH g.box.length cgH)]).toArray) 27 rfl hs68 ⟨h68.at_ 0 rfl, trivial⟩ (fun W hW => eLs hW.1 38 (.tmp 101) 2 ([(sV g.src), (sV g.dst), (iV .i64 g.sid), (iV .i64 g.epoch), (iV .i64 g.seq), (lV AgH g.box.length cgH)])) ?_
           refine pR_to 2 (some 100) 31 rfl hs68 (x_dp h68 18 [(pt p 0), (iV .i64 0)] (by kernel_rfl) (tEnd_0 (h68.at_ 2 rfl))) ?_
           rintro _ w69 ⟨rfl, h69⟩
           refine ⟨fun _ => ⟨h69.at_ 0 rfl, trivial⟩, ?_⟩
           have hq70 := h69.monoS 4 rfl (fun p hp => (hsH _ hp))
           refine pR_to 5 (some 103) 63 rfl hs68 (x_two hq70 3 4 rfl rfl (by kernel_rfl) 0 rfl 12 [(pt e.sa 0), (aV ([(sV g.src), (sV g.dst), (iV .i64 g.sid), (iV .i64 g.epoch), (iV .i64 g.seq), (lV AgH g.box.length cgH)]).toArray)] (by kernel_rfl) (take_of (hq70.at_ 3 rfl) (hq70.at_ 4 rfl) (hq70.rd 0 rfl) (hq70.dis 3 4 _ _ rfl rfl (by decide)) (hq70.rdis 0 3 _ _ rfl rfl) (hq70.rdis 0 4 _ _ rfl rfl) hH.take5 AgH cgH hmgH (hsH _ (hs56 _ hT.nil)) hH.said5 (by have := hH.n4.ks; omega) (by have := hH.n4.bs; omega) hH.n4.bd (by have := hH.n4.sm.sent; omega) (by have := hH.n4.sm.got; omega) (by have := hH.n4.sm.ei; omega) hH.n4.sm.fq)) ?_
           rintro _ w71 ⟨F71, G71, L71, ⟨_, rfl, Ac71, cc71, _, rfl, hmc71, rfl⟩, hs71, hx71, h71⟩
           refine ⟨fun _ => ⟨h71.at_ 0 rfl, trivial⟩, ?_⟩
           refine pR_done hs68 ?_ _
           refine blk_n (seq_n hK39 ?_)
           have hq72 := h71.monoS 5 rfl (fun p hp => (hs71 _ hp))
           have h73 := (show Hp _ _ _ _ (lT p L71 (TEnv.mk e.tb e.sa e.sb F71 G71 GH e.wA e.wc e.wx e.A0 e.c0 e.x0 e.A1 e.c1 e.x1 e.A2 e.c2 e.x2 AV cV xv) { T with s := s5, a := a5, b := b3, cm1 := cmv } ++ [rBlk gH 42 ([(lV AcH ((m.getD []).length) ccH), (bV m.isSome), (sV g.src), (sV g.dst), (iV .i64 g.sid), (iV .i64 g.epoch), (iV .i64 g.seq), (lV AgH g.box.length cgH), (bV true)]), rBlk g57 38 ([(sV f.src), (sV f.dst), (iV .i64 f.sid), (iV .i64 f.epoch), (iV .i64 f.seq), (lV Af56 f.box.length cf56)])]) from hq72.sel [2, 3, 4, 5, 6, 7, 8, 9, 10, 0, 1] [0, 1, 2, 3] rfl rfl rfl).closeT ⟨(hT.w.mono (fun _ _ h => h.mono (fun p hp => (hs71 _ (hsH _ (hs56 _ hp)))))), (hT.x0.mono (fun _ _ h => h.mono (fun p hp => (hs71 _ (hsH _ (hs56 _ hp)))))), (hT.x1.mono (fun _ _ h => h.mono (fun p hp => (hs71 _ (hsH _ (hs56 _ hp)))))), (hT.x2.mono (fun _ _ h => h.mono (fun p hp => (hs71 _ (hsH _ (hs56 _ hp)))))), (hcv.mono (fun _ _ h => h.mono (fun p hp => (hs71 _ hp)))), (hs71 _ (hsH _ (hs56 _ hT.nil)))⟩
           have hti := hH.ti
           rw [← (show cmv = T.cm1 ++ m.toList from hcm)] at hti
           have hqa := hH.qa
           have hqb := hH.qb
           have hgo := hH.go
           have hpn : pendT { T with s := s5, a := a5, b := b3, cm1 := cmv } <= P0 := by
             have : pendT T <= P0 := hpl
             unfold pendT at this ⊢
             show a5.queue.length + b3.queue.length <= P0
             rw [hqb]; omega
           have hpm1 : pendT { T with s := s5, a := a5, b := b3, cm1 := cmv } + 1 <= P0 ∨ P0 = 0 ∨ (b3.got = a5.sent + a5.fn /\ b3.queue ≠ []) := by
             have : pendT T <= P0 := hpl
             rcases hgo with h1 | h1
             · refine .inl ?_
               unfold pendT at this ⊢
               show a5.queue.length + b3.queue.length + 1 <= P0
               rw [hqb]; omega
             · exact .inr (.inr ⟨hH.del, h1⟩)
           refine reg_lit ?_
           refine wq_p 2 [(43, (iV .i64 1)), (104, (iV .i64 1))] ?_
           refine wl_end rfl ?_
           refine ⟨2 - (1), (by omega), 1, ((rStar (lT p L71 (TEnv.mk e.tb e.sa e.sb F71 G71 GH e.wA e.wc e.wx e.A0 e.c0 e.x0 e.A1 e.c1 e.x1 e.A2 e.c2 e.x2 AV cV xv) { T with s := s5, a := a5, b := b3, cm1 := cmv })).F), L71, ({ T with s := s5, a := a5, b := b3, cm1 := cmv }), W1, Wb, (by omega), (TI.weaken hti (by omega)), hpn, ⟨fun _ => hpm1, fun h => absurd h (by decide)⟩, rfl, (pEq 228), h73.sel [0] [0] (by kernel_rfl) rfl rfl⟩
         refine wp_cond_split (t := m.isSome) (by kernel_rfl) (fun b74 => ?_) (fun b74 => ?_)
         ·
          obtain ⟨bd, rfl⟩ := Option.isSome_iff_exists.1 b74
          refine pR_go hJh62 18 (fun W => (rBlk gH 42 ([(lV AcH (((some bd).getD []).length) ccH), (bV ((some bd).isSome)), (sV g.src), (sV g.dst), (iV .i64 g.sid), (iV .i64 g.epoch), (iV .i64 g.seq), (lV AgH g.box.length cgH), (bV true)])).Φ W /\ True) [(67, [3], 0), (68, [6], 0), (69, [67], 2), (70, [3], 0), (71, [6], 0), (72, [70], 16), (73, [69], 8), (74, [72], 64), (75, [73, 71], 160), (76, [74], 256), (77, [9], 0), (78, [76], 1024), (79, [77], 2048), (80, [75, 78], 4608), (81, [66], 1), (82, [80], 16384), (83, [81, 68], 49151), (0, [82, 79], 81919)] rfl (fun _ d _ _ _ h => by cases d <;> exact h) ?_
          intro hs75 w75 h75
          refine pR_p 7 [0, 1, 2, 3, 4, 5, 6, 7, 10, 14, 15] [(81, (pt p 6)), (80, (pt p 0)), (76, (pt gH 0)), (73, (pt p 6)), (72, (pt p 0)), (71, (iV .i64 1)), (70, (iV .i64 0)), (69, (pt p 0)), (68, (iV .i64 1)), (67, (iV .i64 0)), (66, (pt p 0))] 50431 hs75 ⟨h75.at_ 0 rfl, trivial⟩ ?_
          refine pR_v 8 (some 74) (pt p 7) 50687 rfl hs75 ⟨h75.at_ 0 rfl, trivial⟩ (fun W hW => eIa 31 (.tmp 73) (.tmp 71) .i64 p 6 1 2 22 7) ?_
          refine pR_v 11 (some 77) (lV AcH (((some bd).getD []).length) ccH) 52735 rfl hs75 ⟨h75.at_ 0 rfl, trivial⟩ (fun W hW => eL hW.1 26 (.tmp 76) 0 _) ?_
          refine pR_or 9 12 hs75 ?_ ?_
          ·
           refine pR_op 9 (some 75) 53247 rfl (OpTo.run (lV e.A3 T.cm1.length e.c3) (eL (h75.at_ 2 rfl) 22 (.tmp 74) 7 (lV e.A3 T.cm1.length e.c3)) (R := fun v w => v = (lV e.A3 T.cm1.length e.c3) /\ w75 = w) ⟨rfl, rfl⟩) ?_
           rintro _ _ ⟨rfl, rfl⟩
           refine ⟨fun _ => ⟨h75.at_ 0 rfl, trivial⟩, ?_⟩
           refine pR_to 12 (some 78) 57343 rfl hs75 (x_bs h75 26 ([(lV AcH (((some bd).getD []).length) ccH)]) 1 (by kernel_rfl)) ?_
           rintro _ w76 ⟨g76, rfl, h76⟩
           refine ⟨fun _ => ⟨h76.at_ 1 rfl, trivial⟩, ?_⟩
           refine pR_to 13 (some 79) 65535 rfl hs75 (xPu h76 11 0 rfl rfl (.tmp 75) (.tmp 78) 22 24 (lV none 0 0) (by have := hTI.rows; have h1 := this.d2; have h2 := this.d3; have h3 := hT.x2.1; have h4 := hT.x3.1; omega) (by have := hTI.rows; have h1 := this.d2; have h2 := this.d3; have h3 := hT.x2.1; have h4 := hT.x3.1; unfold maxLen; omega) (e.x3 ++ [[(lV AcH (((some bd).getD []).length) ccH)]]) ((T.cm1 ++ [bd]).length) (hyn := (by rw [List.length_append, List.length_append, hT.x3.1]; rfl))) ?_
           rintro _ w77 ⟨A77, c77, rfl, h77⟩
           refine ⟨fun _ => ⟨h77.at_ 1 rfl, trivial⟩, ?_⟩
           refine pR_v 16 (some 82) (pt p 7) 131071 rfl hs75 ⟨h77.at_ 1 rfl, trivial⟩ (fun W hW => eIa 31 (.tmp 81) (.tmp 68) .i64 p 6 1 2 22 7) ?_
           refine pR_to 17 none 262143 rfl hs75 (xSt h77 3 22 (.tmp 82) (.tmp 79) 7 (lV A77 ((T.cm1 ++ [bd]).length) c77) ([(pt e.tb 0), (pt e.sa 0), (pt e.sb 0), (lV e.wA T.wire.length e.wc), (lV e.A0 T.sd0.length e.c0), (lV e.A1 T.sd1.length e.c1), (lV e.A2 T.cm0.length e.c2), (lV A77 ((T.cm1 ++ [bd]).length) c77), (iV .i64 ((T.k0 : Int))), (iV .i64 ((T.k1 : Int)))])) ?_
           rintro _ w78 h78
           refine ⟨fun _ => ⟨h78.at_ 1 rfl, trivial⟩, ?_⟩
           refine pR_done hs75 ?_ _
           exact hJ65 A77 c77 (e.x3 ++ [[(lV AcH (((some bd).getD []).length) ccH)]]) (T.cm1 ++ [bd]) (((hT.x3.mono (fun _ _ h => h.mono (fun p hp => (hsH _ (hs56 _ hp))))).push ⟨AcH, ccH, rfl, hmcH⟩)) rfl _ _ _ (pEq 228) (h78.sel [1, 2, 3, 4, 5, 6, 7, 8, 9, 10, 11] [0, 1, 2] (by kernel_rfl) rfl rfl)
          ·
           refine pR_op 12 (some 78) 56831 rfl (x_bs h75 26 ([(lV AcH (((some bd).getD []).length) ccH)]) 1 (by kernel_rfl)) ?_
           rintro _ w79 ⟨g79, rfl, h79⟩
           refine ⟨fun _ => ⟨h79.at_ 1 rfl, trivial⟩, ?_⟩
           refine pR_to 9 (some 75) 57343 rfl hs75 (OpTo.run (lV e.A3 T.cm1.length e.c3) (eL (h79.at_ 3 rfl) 22 (.tmp 74) 7 (lV e.A3 T.cm1.length e.c3)) (R := fun v w => v = (lV e.A3 T.cm1.length e.c3) /\ w79 = w) ⟨rfl, rfl⟩) ?_
           rintro _ _ ⟨rfl, rfl⟩
           refine ⟨fun _ => ⟨h79.at_ 1 rfl, trivial⟩, ?_⟩
           refine pR_to 13 (some 79) 65535 rfl hs75 (xPu h79 11 0 rfl rfl (.tmp 75) (.tmp 78) 22 24 (lV none 0 0) (by have := hTI.rows; have h1 := this.d2; have h2 := this.d3; have h3 := hT.x2.1; have h4 := hT.x3.1; omega) (by have := hTI.rows; have h1 := this.d2; have h2 := this.d3; have h3 := hT.x2.1; have h4 := hT.x3.1; unfold maxLen; omega) (e.x3 ++ [[(lV AcH (((some bd).getD []).length) ccH)]]) ((T.cm1 ++ [bd]).length) (hyn := (by rw [List.length_append, List.length_append, hT.x3.1]; rfl))) ?_
           rintro _ w80 ⟨A80, c80, rfl, h80⟩
           refine ⟨fun _ => ⟨h80.at_ 1 rfl, trivial⟩, ?_⟩
           refine pR_v 16 (some 82) (pt p 7) 131071 rfl hs75 ⟨h80.at_ 1 rfl, trivial⟩ (fun W hW => eIa 31 (.tmp 81) (.tmp 68) .i64 p 6 1 2 22 7) ?_
           refine pR_to 17 none 262143 rfl hs75 (xSt h80 3 22 (.tmp 82) (.tmp 79) 7 (lV A80 ((T.cm1 ++ [bd]).length) c80) ([(pt e.tb 0), (pt e.sa 0), (pt e.sb 0), (lV e.wA T.wire.length e.wc), (lV e.A0 T.sd0.length e.c0), (lV e.A1 T.sd1.length e.c1), (lV e.A2 T.cm0.length e.c2), (lV A80 ((T.cm1 ++ [bd]).length) c80), (iV .i64 ((T.k0 : Int))), (iV .i64 ((T.k1 : Int)))])) ?_
           rintro _ w81 h81
           refine ⟨fun _ => ⟨h81.at_ 1 rfl, trivial⟩, ?_⟩
           refine pR_done hs75 ?_ _
           exact hJ65 A80 c80 (e.x3 ++ [[(lV AcH (((some bd).getD []).length) ccH)]]) (T.cm1 ++ [bd]) (((hT.x3.mono (fun _ _ h => h.mono (fun p hp => (hsH _ (hs56 _ hp))))).push ⟨AcH, ccH, rfl, hmcH⟩)) rfl _ _ _ (pEq 228) (h81.sel [1, 2, 3, 4, 5, 6, 7, 8, 9, 10, 11] [0, 1, 2] (by kernel_rfl) rfl rfl)
         ·
          obtain rfl : m = none := by simpa using b74
          refine wp_skip ?_
          exact hJ65 e.A3 e.c3 e.x3 T.cm1 ((hT.x3.mono (fun _ _ h => h.mono (fun p hp => (hsH _ (hs56 _ hp)))))) ((by simp)) _ _ _ (pEq 228) (hJh62.sel [0, 1, 2, 3, 4, 5, 6, 7, 8, 9, 10] [0, 1, 2] (by kernel_rfl) rfl rfl)
       refine pR_go h58 11 (fun W => (rBlk g57 38 ([(sV f.src), (sV f.dst), (iV .i64 f.sid), (iV .i64 f.epoch), (iV .i64 f.seq), (lV Af56 f.box.length cf56)])).Φ W /\ True) [(57, [3], 0), (58, [6], 0), (59, [57], 2), (60, [56, 58], 5), (61, [7], 0), (62, [59, 60], 24), (56, [61], 32), (63, [55], 64), (64, [55], 64), (10, [], 0), (0, [9, 62], 767), (11, [63], 2047)] rfl (fun _ d _ _ _ h => by cases d <;> exact h) ?_
       intro hs82 w82 h82
       refine pR_p 9 [0, 1, 2] [(58, (iV .i64 1)), (57, (iV .i64 0)), (56, (pt p 0))] 7 hs82 ⟨h82.at_ 0 rfl, trivial⟩ ?_
       refine pR_v 4 (some 60) (aV ([(sV f.src), (sV f.dst), (iV .i64 f.sid), (iV .i64 f.epoch), (iV .i64 f.seq), (lV Af56 f.box.length cf56)]).toArray) 23 rfl hs82 ⟨h82.at_ 0 rfl, trivial⟩ (fun W hW => eLs hW.1 38 (.tmp 7) 0 ([(sV f.src), (sV f.dst), (iV .i64 f.sid), (iV .i64 f.epoch), (iV .i64 f.seq), (lV Af56 f.box.length cf56)])) ?_
       refine pR_or 3 9 hs82 ?_ ?_
       ·
        refine pR_op 3 (some 59) 31 rfl (x_dp h82 18 [(pt p 0), (iV .i64 1)] (by kernel_rfl) (tEnd_1 (h82.at_ 1 rfl))) ?_
        rintro _ w83 ⟨rfl, h83⟩
        refine ⟨fun _ => ⟨h83.at_ 0 rfl, trivial⟩, ?_⟩
        refine pR_or 5 9 hs82 ?_ ?_
        ·
         have hq84 := h83.monoS 4 rfl (fun p hp => (hs56 _ hp))
         refine pR_op 5 (some 61) 63 rfl (x_two hq84 2 4 rfl rfl (by kernel_rfl) 0 rfl 12 [(pt e.sb 0), (aV ([(sV f.src), (sV f.dst), (iV .i64 f.sid), (iV .i64 f.epoch), (iV .i64 f.seq), (lV Af56 f.box.length cf56)]).toArray)] (by kernel_rfl) (take_of (hq84.at_ 2 rfl) (hq84.at_ 4 rfl) (hq84.rd 0 rfl) (hq84.dis 2 4 _ _ rfl rfl (by decide)) (hq84.rdis 0 2 _ _ rfl rfl) (hq84.rdis 0 4 _ _ rfl rfl) hH.take3 Af56 cf56 hmf56 (hs56 _ hT.nil) hH.said3 (by have := hn3.ks; omega) (by have := hn3.bs; omega) hn3.bd (by have := hn3.sm.sent; omega) (by have := hn3.sm.got; omega) (by have := hn3.sm.ei; omega) hn3.sm.fq)) ?_
         rintro _ w85 ⟨F85, G85, L85, ⟨_, rfl, Ac85, cc85, _, rfl, hmc85, Ag85, cg85, rfl, hmg85⟩, hs85, hx85, h85⟩
         refine ⟨fun _ => ⟨h85.at_ 0 rfl, trivial⟩, ?_⟩
         refine pR_p 3 [6, 7, 8] [(63, (iV .i64 e3)), (62, (aV ([(lV Ac85 ((m.getD []).length) cc85), (bV m.isSome), (sV g.src), (sV g.dst), (iV .i64 g.sid), (iV .i64 g.epoch), (iV .i64 g.seq), (lV Ag85 g.box.length cg85), (bV true)]).toArray)), (55, (Value.tuple #[(aV ([(lV Ac85 ((m.getD []).length) cc85), (bV m.isSome), (sV g.src), (sV g.dst), (iV .i64 g.sid), (iV .i64 g.epoch), (iV .i64 g.seq), (lV Ag85 g.box.length cg85), (bV true)]).toArray), (iV .i64 e3)]))] 511 hs82 ⟨h85.at_ 0 rfl, trivial⟩ ?_
         refine pR_to 9 (some 9) 1023 rfl hs82 (xN h85 42 ([(lV none 0 0), (bV false), (sV ByteArray.empty), (sV ByteArray.empty), (iV .i64 0), (iV .i64 0), (iV .i64 0), (lV none 0 0), (bV false)])) ?_
         rintro _ w86 ⟨g86, rfl, h86⟩
         refine ⟨fun _ => ⟨h86.at_ 1 rfl, trivial⟩, ?_⟩
         refine pR_to 10 none 2047 rfl hs82 (xSs h86 0 42 (.tmp 9) (.tmp 62) 0 ([(lV Ac85 ((m.getD []).length) cc85), (bV m.isSome), (sV g.src), (sV g.dst), (iV .i64 g.sid), (iV .i64 g.epoch), (iV .i64 g.seq), (lV Ag85 g.box.length cg85), (bV true)]) ([(lV Ac85 ((m.getD []).length) cc85), (bV m.isSome), (sV g.src), (sV g.dst), (iV .i64 g.sid), (iV .i64 g.epoch), (iV .i64 g.seq), (lV Ag85 g.box.length cg85), (bV true)])) ?_
         rintro _ w87 h87
         refine ⟨fun _ => ⟨h87.at_ 1 rfl, trivial⟩, ?_⟩
         refine pR_to 11 (some 10) 4095 rfl hs82 (OpTo.run (iV .i64 e3) (pureOp_run (by kernel_rfl) _) (R := fun v w => v = (iV .i64 e3) /\ w87 = w) ⟨rfl, rfl⟩) ?_
         rintro _ _ ⟨rfl, rfl⟩
         refine ⟨fun h => absurd h (by decide), ?_⟩
         refine pR_done hs82 ?_ _
         exact hJ62 F85 G85 L85 Ac85 cc85 Ag85 cg85 g86 hmc85 hmg85 ((fun p hp => (hs85 _ hp))) _ _ _ (pEq 228) (h87.sel [0, 1, 2, 3, 4, 5, 6, 7, 8, 9, 10] [0, 1, 2] (by kernel_rfl) rfl rfl)
        ·
         refine pR_op 9 (some 9) 543 rfl (xN h83 42 ([(lV none 0 0), (bV false), (sV ByteArray.empty), (sV ByteArray.empty), (iV .i64 0), (iV .i64 0), (iV .i64 0), (lV none 0 0), (bV false)])) ?_
         rintro _ w88 ⟨g88, rfl, h88⟩
         refine ⟨fun _ => ⟨h88.at_ 1 rfl, trivial⟩, ?_⟩
         have hq89 := h88.monoS 5 rfl (fun p hp => (hs56 _ hp))
         refine pR_to 5 (some 61) 575 rfl hs82 (x_two hq89 3 5 rfl rfl (by kernel_rfl) 0 rfl 12 [(pt e.sb 0), (aV ([(sV f.src), (sV f.dst), (iV .i64 f.sid), (iV .i64 f.epoch), (iV .i64 f.seq), (lV Af56 f.box.length cf56)]).toArray)] (by kernel_rfl) (take_of (hq89.at_ 3 rfl) (hq89.at_ 5 rfl) (hq89.rd 0 rfl) (hq89.dis 3 5 _ _ rfl rfl (by decide)) (hq89.rdis 0 3 _ _ rfl rfl) (hq89.rdis 0 5 _ _ rfl rfl) hH.take3 Af56 cf56 hmf56 (hs56 _ hT.nil) hH.said3 (by have := hn3.ks; omega) (by have := hn3.bs; omega) hn3.bd (by have := hn3.sm.sent; omega) (by have := hn3.sm.got; omega) (by have := hn3.sm.ei; omega) hn3.sm.fq)) ?_
         rintro _ w90 ⟨F90, G90, L90, ⟨_, rfl, Ac90, cc90, _, rfl, hmc90, Ag90, cg90, rfl, hmg90⟩, hs90, hx90, h90⟩
         refine ⟨fun _ => ⟨h90.at_ 1 rfl, trivial⟩, ?_⟩
         refine pR_p 2 [6, 7, 8] [(63, (iV .i64 e3)), (62, (aV ([(lV Ac90 ((m.getD []).length) cc90), (bV m.isSome), (sV g.src), (sV g.dst), (iV .i64 g.sid), (iV .i64 g.epoch), (iV .i64 g.seq), (lV Ag90 g.box.length cg90), (bV true)]).toArray)), (55, (Value.tuple #[(aV ([(lV Ac90 ((m.getD []).length) cc90), (bV m.isSome), (sV g.src), (sV g.dst), (iV .i64 g.sid), (iV .i64 g.epoch), (iV .i64 g.seq), (lV Ag90 g.box.length cg90), (bV true)]).toArray), (iV .i64 e3)]))] 1023 hs82 ⟨h90.at_ 1 rfl, trivial⟩ ?_
         refine pR_to 10 none 2047 rfl hs82 (xSs h90 0 42 (.tmp 9) (.tmp 62) 0 ([(lV Ac90 ((m.getD []).length) cc90), (bV m.isSome), (sV g.src), (sV g.dst), (iV .i64 g.sid), (iV .i64 g.epoch), (iV .i64 g.seq), (lV Ag90 g.box.length cg90), (bV true)]) ([(lV Ac90 ((m.getD []).length) cc90), (bV m.isSome), (sV g.src), (sV g.dst), (iV .i64 g.sid), (iV .i64 g.epoch), (iV .i64 g.seq), (lV Ag90 g.box.length cg90), (bV true)])) ?_
         rintro _ w91 h91
         refine ⟨fun _ => ⟨h91.at_ 1 rfl, trivial⟩, ?_⟩
         refine pR_to 11 (some 10) 4095 rfl hs82 (OpTo.run (iV .i64 e3) (pureOp_run (by kernel_rfl) _) (R := fun v w => v = (iV .i64 e3) /\ w91 = w) ⟨rfl, rfl⟩) ?_
         rintro _ _ ⟨rfl, rfl⟩
         refine ⟨fun h => absurd h (by decide), ?_⟩
         refine pR_done hs82 ?_ _
         exact hJ62 F90 G90 L90 Ac90 cc90 Ag90 cg90 g88 hmc90 hmg90 ((fun p hp => (hs90 _ hp))) _ _ _ (pEq 228) (h91.sel [0, 1, 2, 3, 4, 5, 6, 7, 8, 9, 10] [0, 1, 2] (by kernel_rfl) rfl rfl)
       ·
        refine pR_op 9 (some 9) 535 rfl (xN h82 42 ([(lV none 0 0), (bV false), (sV ByteArray.empty), (sV ByteArray.empty), (iV .i64 0), (iV .i64 0), (iV .i64 0), (lV none 0 0), (bV false)])) ?_
        rintro _ w92 ⟨g92, rfl, h92⟩
        refine ⟨fun _ => ⟨h92.at_ 1 rfl, trivial⟩, ?_⟩
        refine pR_to 3 (some 59) 543 rfl hs82 (x_dp h92 18 [(pt p 0), (iV .i64 1)] (by kernel_rfl) (tEnd_1 (h92.at_ 2 rfl))) ?_
        rintro _ w93 ⟨rfl, h93⟩
        refine ⟨fun _ => ⟨h93.at_ 1 rfl, trivial⟩, ?_⟩
        have hq94 := h93.monoS 5 rfl (fun p hp => (hs56 _ hp))
        refine pR_to 5 (some 61) 575 rfl hs82 (x_two hq94 3 5 rfl rfl (by kernel_rfl) 0 rfl 12 [(pt e.sb 0), (aV ([(sV f.src), (sV f.dst), (iV .i64 f.sid), (iV .i64 f.epoch), (iV .i64 f.seq), (lV Af56 f.box.length cf56)]).toArray)] (by kernel_rfl) (take_of (hq94.at_ 3 rfl) (hq94.at_ 5 rfl) (hq94.rd 0 rfl) (hq94.dis 3 5 _ _ rfl rfl (by decide)) (hq94.rdis 0 3 _ _ rfl rfl) (hq94.rdis 0 5 _ _ rfl rfl) hH.take3 Af56 cf56 hmf56 (hs56 _ hT.nil) hH.said3 (by have := hn3.ks; omega) (by have := hn3.bs; omega) hn3.bd (by have := hn3.sm.sent; omega) (by have := hn3.sm.got; omega) (by have := hn3.sm.ei; omega) hn3.sm.fq)) ?_
        rintro _ w95 ⟨F95, G95, L95, ⟨_, rfl, Ac95, cc95, _, rfl, hmc95, Ag95, cg95, rfl, hmg95⟩, hs95, hx95, h95⟩
        refine ⟨fun _ => ⟨h95.at_ 1 rfl, trivial⟩, ?_⟩
        refine pR_p 2 [6, 7, 8] [(63, (iV .i64 e3)), (62, (aV ([(lV Ac95 ((m.getD []).length) cc95), (bV m.isSome), (sV g.src), (sV g.dst), (iV .i64 g.sid), (iV .i64 g.epoch), (iV .i64 g.seq), (lV Ag95 g.box.length cg95), (bV true)]).toArray)), (55, (Value.tuple #[(aV ([(lV Ac95 ((m.getD []).length) cc95), (bV m.isSome), (sV g.src), (sV g.dst), (iV .i64 g.sid), (iV .i64 g.epoch), (iV .i64 g.seq), (lV Ag95 g.box.length cg95), (bV true)]).toArray), (iV .i64 e3)]))] 1023 hs82 ⟨h95.at_ 1 rfl, trivial⟩ ?_
        refine pR_to 10 none 2047 rfl hs82 (xSs h95 0 42 (.tmp 9) (.tmp 62) 0 ([(lV Ac95 ((m.getD []).length) cc95), (bV m.isSome), (sV g.src), (sV g.dst), (iV .i64 g.sid), (iV .i64 g.epoch), (iV .i64 g.seq), (lV Ag95 g.box.length cg95), (bV true)]) ([(lV Ac95 ((m.getD []).length) cc95), (bV m.isSome), (sV g.src), (sV g.dst), (iV .i64 g.sid), (iV .i64 g.epoch), (iV .i64 g.seq), (lV Ag95 g.box.length cg95), (bV true)])) ?_
        rintro _ w96 h96
        refine ⟨fun _ => ⟨h96.at_ 1 rfl, trivial⟩, ?_⟩
        refine pR_to 11 (some 10) 4095 rfl hs82 (OpTo.run (iV .i64 e3) (pureOp_run (by kernel_rfl) _) (R := fun v w => v = (iV .i64 e3) /\ w96 = w) ⟨rfl, rfl⟩) ?_
        rintro _ _ ⟨rfl, rfl⟩
        refine ⟨fun h => absurd h (by decide), ?_⟩
        refine pR_done hs82 ?_ _
        exact hJ62 F95 G95 L95 Ac95 cc95 Ag95 cg95 g92 hmc95 hmg95 ((fun p hp => (hs95 _ hp))) _ _ _ (pEq 228) (h96.sel [0, 1, 2, 3, 4, 5, 6, 7, 8, 9, 10] [0, 1, 2] (by kernel_rfl) rfl rfl)
     ·
      refine reg_lit ?_
      refine wq_p 2 [(6, (iV .i64 1)), (45, (iV .i64 1))] ?_
      refine wl_end rfl (seq_n hK40 (wp_seq_k fun K97 hK97 => ?_))
      obtain ⟨s1, a1, mm, hr⟩ := send_ex T.s T.b
      have hbn : Bnd T.s T.b := hTI.swap.bnd (by omega)
      rcases mm with _ | f
      ·
       obtain ⟨e, hT, h99⟩ := h35.openT 0 rfl
       obtain ⟨hqe, hdel, rfl, rfl⟩ := hTI.swap.still hr
       have hqe : T.b.queue = [] := hqe
       refine reg_lit ?_
       refine wq_p 2 [(48, (iV .i64 1)), (47, (pt p 0))] ?_
       refine wq_to (some 49) (x_dp h99 18 [(pt p 0), (iV .i64 1)] (by kernel_rfl) (tEnd_1 (h99.at_ 0 rfl))) ?_
       rintro _ w100 ⟨rfl, h100⟩
       refine wq_to (some 50) (x_two h100 1 3 rfl rfl (by kernel_rfl) 0 rfl 11 [(pt e.sb 0)] (by kernel_rfl) (send_of (h100.at_ 1 rfl) (h100.at_ 3 rfl) (h100.rd 0 rfl) (h100.dis 1 3 _ _ rfl rfl (by decide)) (h100.rdis 0 1 _ _ rfl rfl) (h100.rdis 0 3 _ _ rfl rfl) hr hbn.sm.q (by have := hbn.sm.sent; omega) (by have := hbn.sm.eo; omega) (by have := hbn.ks; omega) (by have := hbn.bs; omega))) ?_
       rintro _ w101 ⟨F101, G101, L101, ⟨_, rfl, rfl⟩, hs101, hx101, h101⟩
       refine wq_p 3 [(52, (bV false)), (51, (aV ([(sV ByteArray.empty), (sV ByteArray.empty), (iV .i64 0), (iV .i64 0), (iV .i64 0), (lV none 0 0)]).toArray)), (46, (Value.tuple #[(aV ([(sV ByteArray.empty), (sV ByteArray.empty), (iV .i64 0), (iV .i64 0), (iV .i64 0), (lV none 0 0)]).toArray), (bV false)]))] ?_
       refine wq_to (some 7) (xN h101 38 ([(sV ByteArray.empty), (sV ByteArray.empty), (iV .i64 0), (iV .i64 0), (iV .i64 0), (lV none 0 0)])) ?_
       rintro _ w102 ⟨g102, rfl, h102⟩
       refine wq_to none (xSs h102 0 38 (.tmp 7) (.tmp 51) 0 ([(sV ByteArray.empty), (sV ByteArray.empty), (iV .i64 0), (iV .i64 0), (iV .i64 0), (lV none 0 0)]) ([(sV ByteArray.empty), (sV ByteArray.empty), (iV .i64 0), (iV .i64 0), (iV .i64 0), (lV none 0 0)])) ?_
       rintro _ w103 h103
       refine wq_p 1 [(8, (bV false))] ?_
       refine wl_end rfl (seq_n hK97 (wp_seq_k fun K104 hK104 => wp_seq_k fun K105 hK105 => reg_lit ?_))
       refine wq_p 2 [(54, (bV true)), (53, (bV false))] ?_
       refine wl_end rfl (seq_n hK105 (cT (wp_exit (seq_e (blk_e (seq_n hK39 ?_))))))
       refine wp_reset 228 [(0, (lV A st.length c)), (3, (pt p 0)), (6, (iV .i64 1)), (7, (pt g102 0)), (8, (bV false)), (14, (bV false)), (17, (bV false)), (19, (lV A st.length c)), (20, (iV .i64 ((st.length : Int)))), (21, (iV .i64 ((n : Int)))), (22, (bV (decide ((n : Int) < (st.length : Int))))), (40, (iV .i64 (((W0 + 2 : Nat) : Int)))), (41, (iV .i64 ((k : Int)))), (42, (bV (decide ((k : Int) < ((W0 + 2 : Nat) : Int))))), (43, (iV .i64 1)), (44, (bV (decide ((1 : Int) < 2)))), (54, (bV true))] (fun x106 => ?_)
       have hq107 := h103.monoS 3 rfl (fun p hp => (hs101 _ hp))
       have h108 := (show Hp _ _ _ _ (lT p L101 (TEnv.mk e.tb e.sa e.sb F101 e.Ga G101 e.wA e.wc e.wx e.A0 e.c0 e.x0 e.A1 e.c1 e.x1 e.A2 e.c2 e.x2 e.A3 e.c3 e.x3) T ++ [rBlk g102 38 ([(sV ByteArray.empty), (sV ByteArray.empty), (iV .i64 0), (iV .i64 0), (iV .i64 0), (lV none 0 0)])]) from hq107.sel [1, 2, 3, 4, 5, 6, 7, 8, 9, 0] [0, 1] rfl rfl rfl).closeT ⟨(hT.w.mono (fun _ _ h => h.mono (fun p hp => (hs101 _ hp)))), (hT.x0.mono (fun _ _ h => h.mono (fun p hp => (hs101 _ hp)))), (hT.x1.mono (fun _ _ h => h.mono (fun p hp => (hs101 _ hp)))), (hT.x2.mono (fun _ _ h => h.mono (fun p hp => (hs101 _ hp)))), (hT.x3.mono (fun _ _ h => h.mono (fun p hp => (hs101 _ hp)))), (hs101 _ hT.nil)⟩
       have hqz : T.b.queue.length = 0 := by rw [hqe]; rfl
       have hpm2 : pendT T + 1 <= P0 ∨ P0 = 0 := by
         rcases hpm.1 rfl with h1 | h1 | ⟨h1, h2⟩
         · exact .inl h1
         · exact .inr h1
         · exact absurd hqe h2
       refine reg_lit ?_
       refine wq_p 2 [(43, (iV .i64 2)), (104, (iV .i64 2))] ?_
       refine wl_end rfl ?_
       refine ⟨2 - (2), (by omega), 2, ((rStar (lT p L101 (TEnv.mk e.tb e.sa e.sb F101 e.Ga G101 e.wA e.wc e.wx e.A0 e.c0 e.x0 e.A1 e.c1 e.x1 e.A2 e.c2 e.x2 e.A3 e.c3 e.x3) T)).F), L101, T, Wa, Wb, (by omega), (hTI.weaken (by omega)), hpl, ⟨fun h => absurd h (by decide), fun _ => hpm2⟩, rfl, (pEq 228), h108.sel [0] [0] (by kernel_rfl) rfl rfl⟩
      ·
       obtain ⟨e, hT, h109⟩ := h35.openT 0 rfl
       refine reg_lit ?_
       refine wq_p 2 [(48, (iV .i64 1)), (47, (pt p 0))] ?_
       refine wq_to (some 49) (x_dp h109 18 [(pt p 0), (iV .i64 1)] (by kernel_rfl) (tEnd_1 (h109.at_ 0 rfl))) ?_
       rintro _ w110 ⟨rfl, h110⟩
       refine wq_to (some 50) (x_two h110 1 3 rfl rfl (by kernel_rfl) 0 rfl 11 [(pt e.sb 0)] (by kernel_rfl) (send_of (h110.at_ 1 rfl) (h110.at_ 3 rfl) (h110.rd 0 rfl) (h110.dis 1 3 _ _ rfl rfl (by decide)) (h110.rdis 0 1 _ _ rfl rfl) (h110.rdis 0 3 _ _ rfl rfl) hr hbn.sm.q (by have := hbn.sm.sent; omega) (by have := hbn.sm.eo; omega) (by have := hbn.ks; omega) (by have := hbn.bs; omega))) ?_
       rintro _ w111 ⟨F111, G111, L111, ⟨_, rfl, Af111, cf111, rfl, hmf111⟩, hs111, hx111, h111⟩
       refine wq_p 3 [(52, (bV true)), (51, (aV ([(sV f.src), (sV f.dst), (iV .i64 f.sid), (iV .i64 f.epoch), (iV .i64 f.seq), (lV Af111 f.box.length cf111)]).toArray)), (46, (Value.tuple #[(aV ([(sV f.src), (sV f.dst), (iV .i64 f.sid), (iV .i64 f.epoch), (iV .i64 f.seq), (lV Af111 f.box.length cf111)]).toArray), (bV true)]))] ?_
       refine wq_to (some 7) (xN h111 38 ([(sV ByteArray.empty), (sV ByteArray.empty), (iV .i64 0), (iV .i64 0), (iV .i64 0), (lV none 0 0)])) ?_
       rintro _ w112 ⟨g112, rfl, h112⟩
       refine wq_to none (xSs h112 0 38 (.tmp 7) (.tmp 51) 0 ([(sV f.src), (sV f.dst), (iV .i64 f.sid), (iV .i64 f.epoch), (iV .i64 f.seq), (lV Af111 f.box.length cf111)]) ([(sV f.src), (sV f.dst), (iV .i64 f.sid), (iV .i64 f.epoch), (iV .i64 f.seq), (lV Af111 f.box.length cf111)])) ?_
       rintro _ w113 h113
       refine wq_p 1 [(8, (bV true))] ?_
       refine wl_end rfl (seq_n hK97 (wp_seq_k fun K114 hK114 => wp_seq_k fun K115 hK115 => reg_lit ?_))
       refine wq_p 2 [(54, (bV false)), (53, (bV true))] ?_
       refine wl_end rfl (seq_n hK115 (cF (wp_skip (seq_n hK114 (wp_seq_k fun K116 hK116 => ?_)))))
       obtain ⟨r3, s3, b3, m, g, e3, r5, s5, a5, e5, W1, hH⟩ := hTI.swap.half (by omega) hr
       have hn3 : Bnd s1 T.a := hH.n3
       have hJ117 : ∀ (FH : Nat -> Prop), ∀ (GH : Nat -> Prop), ∀ (LH : List (Value × Bytes)), ∀ (AcH : Option Addr), ∀ (ccH : Nat), ∀ (AgH : Option Addr), ∀ (cgH : Nat), ∀ (gH : Nat), ((lV AcH (m.getD []).length ccH, (m.getD [])) ∈ LH) -> ((lV AgH g.box.length cgH, g.box) ∈ LH) -> (∀ p, p ∈ L111 -> p ∈ LH) -> ∀ (xJ117 : Nat -> Value) (aJ : Act) (wJ117 : World), aJ = patch xJ117 228 [(0, (lV A st.length c)), (3, (pt p 0)), (6, (iV .i64 1)), (7, (pt g112 0)), (8, (bV true)), (9, (pt gH 0)), (10, (iV .i64 e3)), (14, (bV false)), (17, (bV false)), (19, (lV A st.length c)), (20, (iV .i64 ((st.length : Int)))), (21, (iV .i64 ((n : Int)))), (22, (bV (decide ((n : Int) < (st.length : Int))))), (40, (iV .i64 (((W0 + 2 : Nat) : Int)))), (41, (iV .i64 ((k : Int)))), (42, (bV (decide ((k : Int) < ((W0 + 2 : Nat) : Int))))), (43, (iV .i64 1)), (44, (bV (decide ((1 : Int) < 2)))), (54, (bV false))] -> Hp (fun _ => False) w wJ117 [rF LH, rF L111, rF LL] [rBlk gH 42 ([(lV AcH ((m.getD []).length) ccH), (bV m.isSome), (sV g.src), (sV g.dst), (iV .i64 g.sid), (iV .i64 g.epoch), (iV .i64 g.seq), (lV AgH g.box.length cgH), (bV true)]), rBlk g112 38 ([(sV f.src), (sV f.dst), (iV .i64 f.sid), (iV .i64 f.epoch), (iV .i64 f.seq), (lV Af111 f.box.length cf111)]), rBlk p 34 ([(pt e.tb 0), (pt e.sa 0), (pt e.sb 0), (lV e.wA T.wire.length e.wc), (lV e.A0 T.sd0.length e.c0), (lV e.A1 T.sd1.length e.c1), (lV e.A2 T.cm0.length e.c2), (lV e.A3 T.cm1.length e.c3), (iV .i64 ((T.k0 : Int))), (iV .i64 ((T.k1 : Int)))]), rTab FH e.tb s3, rS GH e.tb e.sa LH b3, rS G111 e.tb e.sb L111 a1, rOV 38 6 ((lV e.wA T.wire.length e.wc)) e.wx, rOV 26 1 ((lV e.A0 T.sd0.length e.c0)) e.x0, rOV 26 1 ((lV e.A1 T.sd1.length e.c1)) e.x1, rOV 26 1 ((lV e.A2 T.cm0.length e.c2)) e.x2, rOV 26 1 ((lV e.A3 T.cm1.length e.c3)) e.x3] -> K116 aJ wJ117 := by
         rintro FH GH LH AcH ccH AgH cgH gH hmcH hmgH hsH xJ117 _ wJ117 rfl hJh117
         refine seq_n hK116 (wp_seq_k fun K118 hK118 => wp_seq_k fun K119 hK119 => reg_lit ?_)
         refine wq_p 1 [(64, (pt gH 1))] (wq_v (some 65) (bV m.isSome) (eL (hJh117.at_ 0 rfl) 4 (.tmp 64) 1 _) ?_)
         refine wl_end rfl (seq_n hK119 ?_)
         have hJ120 : ∀ (AV : Option Addr), ∀ (cV : Nat), ∀ (xv : List (List Value)), ∀ (cmv : List Bytes), (RowOk (BAt LH) xv cmv) -> (cmv = T.cm0 ++ m.toList) -> ∀ (xJ120 : Nat -> Value) (aJ : Act) (wJ120 : World), aJ = patch xJ120 228 [(0, (lV A st.length c)), (3, (pt p 0)), (6, (iV .i64 1)), (7, (pt g112 0)), (8, (bV true)), (9, (pt gH 0)), (14, (bV false)), (17, (bV false)), (19, (lV A st.length c)), (20, (iV .i64 ((st.length : Int)))), (21, (iV .i64 ((n : Int)))), (22, (bV (decide ((n : Int) < (st.length : Int))))), (40, (iV .i64 (((W0 + 2 : Nat) : Int)))), (41, (iV .i64 ((k : Int)))), (42, (bV (decide ((k : Int) < ((W0 + 2 : Nat) : Int))))), (43, (iV .i64 1)), (44, (bV (decide ((1 : Int) < 2)))), (54, (bV false)), (65, (bV m.isSome))] -> Hp (fun _ => False) w wJ120 [rF LH, rF L111, rF LL] [rBlk gH 42 ([(lV AcH ((m.getD []).length) ccH), (bV m.isSome), (sV g.src), (sV g.dst), (iV .i64 g.sid), (iV .i64 g.epoch), (iV .i64 g.seq), (lV AgH g.box.length cgH), (bV true)]), rBlk g112 38 ([(sV f.src), (sV f.dst), (iV .i64 f.sid), (iV .i64 f.epoch), (iV .i64 f.seq), (lV Af111 f.box.length cf111)]), rBlk p 34 ([(pt e.tb 0), (pt e.sa 0), (pt e.sb 0), (lV e.wA T.wire.length e.wc), (lV e.A0 T.sd0.length e.c0), (lV e.A1 T.sd1.length e.c1), (lV AV cmv.length cV), (lV e.A3 T.cm1.length e.c3), (iV .i64 ((T.k0 : Int))), (iV .i64 ((T.k1 : Int)))]), rTab FH e.tb s3, rS GH e.tb e.sa LH b3, rS G111 e.tb e.sb L111 a1, rOV 38 6 ((lV e.wA T.wire.length e.wc)) e.wx, rOV 26 1 ((lV e.A0 T.sd0.length e.c0)) e.x0, rOV 26 1 ((lV e.A1 T.sd1.length e.c1)) e.x1, rOV 26 1 ((lV AV cmv.length cV)) xv, rOV 26 1 ((lV e.A3 T.cm1.length e.c3)) e.x3] -> K118 aJ wJ120 := by
           rintro AV cV xv cmv hcv hcm xJ120 _ wJ120 rfl hJh120
           refine seq_n hK118 (wp_seq_k fun K121 hK121 => wp_seq_k fun K122 hK122 => reg_lit ?_)
           refine wq_p 1 [(83, (pt gH 8))] (wq_v (some 84) (bV true) (eL (hJh120.at_ 0 rfl) 4 (.tmp 83) 8 _) (wq_p 1 [(85, (bV false))] ?_))
           refine wl_end rfl (seq_n hK122 (cF (wp_skip (seq_n hK121 ?_))))
           refine pR_go hJh120 6 (fun W => (rBlk gH 42 ([(lV AcH ((m.getD []).length) ccH), (bV m.isSome), (sV g.src), (sV g.dst), (iV .i64 g.sid), (iV .i64 g.epoch), (iV .i64 g.seq), (lV AgH g.box.length cgH), (bV true)])).Φ W /\ True) [(99, [3], 0), (100, [6], 0), (101, [98, 99], 3), (102, [9], 0), (103, [101], 8), (104, [100, 102], 20)] rfl (fun _ d _ _ _ h => by cases d <;> exact h) ?_
           intro hs123 w123 h123
           refine pR_p 3 [0, 1, 3] [(101, (pt gH 2)), (99, (iV .i64 1)), (98, (pt p 0))] 11 hs123 ⟨h123.at_ 0 rfl, trivial⟩ ?_
           refine pR_v 4 (some 102) (aV ([(sV g.src), (sV g.dst), (iV .i64 g.sid), (iV .i64 g.epoch), (iV .i64 g.seq), (lV AgH g.box.length cgH)]).toArray) 27 rfl hs123 ⟨h123.at_ 0 rfl, trivial⟩ (fun W hW => eLs hW.1 38 (.tmp 101) 2 ([(sV g.src), (sV g.dst), (iV .i64 g.sid), (iV .i64 g.epoch), (iV .i64 g.seq), (lV AgH g.box.length cgH)])) ?_
           refine pR_to 2 (some 100) 31 rfl hs123 (x_dp h123 18 [(pt p 0), (iV .i64 1)] (by kernel_rfl) (tEnd_1 (h123.at_ 2 rfl))) ?_
           rintro _ w124 ⟨rfl, h124⟩
           refine ⟨fun _ => ⟨h124.at_ 0 rfl, trivial⟩, ?_⟩
           have hq125 := h124.monoS 5 rfl (fun p hp => (hsH _ hp))
           refine pR_to 5 (some 103) 63 rfl hs123 (x_two hq125 3 5 rfl rfl (by kernel_rfl) 0 rfl 12 [(pt e.sb 0), (aV ([(sV g.src), (sV g.dst), (iV .i64 g.sid), (iV .i64 g.epoch), (iV .i64 g.seq), (lV AgH g.box.length cgH)]).toArray)] (by kernel_rfl) (take_of (hq125.at_ 3 rfl) (hq125.at_ 5 rfl) (hq125.rd 0 rfl) (hq125.dis 3 5 _ _ rfl rfl (by decide)) (hq125.rdis 0 3 _ _ rfl rfl) (hq125.rdis 0 5 _ _ rfl rfl) hH.take5 AgH cgH hmgH (hsH _ (hs111 _ hT.nil)) hH.said5 (by have := hH.n4.ks; omega) (by have := hH.n4.bs; omega) hH.n4.bd (by have := hH.n4.sm.sent; omega) (by have := hH.n4.sm.got; omega) (by have := hH.n4.sm.ei; omega) hH.n4.sm.fq)) ?_
           rintro _ w126 ⟨F126, G126, L126, ⟨_, rfl, Ac126, cc126, _, rfl, hmc126, rfl⟩, hs126, hx126, h126⟩
           refine ⟨fun _ => ⟨h126.at_ 0 rfl, trivial⟩, ?_⟩
           refine pR_done hs123 ?_ _
           refine blk_n (seq_n hK39 ?_)
           have hq127 := h126.monoS 4 rfl (fun p hp => (hs126 _ hp))
           have h128 := (show Hp _ _ _ _ (lT p L126 (TEnv.mk e.tb e.sa e.sb F126 GH G126 e.wA e.wc e.wx e.A0 e.c0 e.x0 e.A1 e.c1 e.x1 AV cV xv e.A3 e.c3 e.x3) { T with s := s5, b := a5, a := b3, cm0 := cmv } ++ [rBlk gH 42 ([(lV AcH ((m.getD []).length) ccH), (bV m.isSome), (sV g.src), (sV g.dst), (iV .i64 g.sid), (iV .i64 g.epoch), (iV .i64 g.seq), (lV AgH g.box.length cgH), (bV true)]), rBlk g112 38 ([(sV f.src), (sV f.dst), (iV .i64 f.sid), (iV .i64 f.epoch), (iV .i64 f.seq), (lV Af111 f.box.length cf111)])]) from hq127.sel [2, 3, 4, 5, 6, 7, 8, 9, 10, 0, 1] [0, 1, 2, 3] rfl rfl rfl).closeT ⟨(hT.w.mono (fun _ _ h => h.mono (fun p hp => (hs126 _ (hsH _ (hs111 _ hp)))))), (hT.x0.mono (fun _ _ h => h.mono (fun p hp => (hs126 _ (hsH _ (hs111 _ hp)))))), (hT.x1.mono (fun _ _ h => h.mono (fun p hp => (hs126 _ (hsH _ (hs111 _ hp)))))), (hcv.mono (fun _ _ h => h.mono (fun p hp => (hs126 _ hp)))), (hT.x3.mono (fun _ _ h => h.mono (fun p hp => (hs126 _ (hsH _ (hs111 _ hp)))))), (hs126 _ (hsH _ (hs111 _ hT.nil)))⟩
           have hti := hH.ti
           rw [← (show cmv = T.swap.cm1 ++ m.toList from hcm)] at hti
           have hqa := hH.qa
           have hqb := hH.qb
           have hgo := hH.go
           have hqa : a5.queue.length <= T.b.queue.length := hqa
           have hqb : b3.queue = T.a.queue := hqb
           have hpn : pendT { T with s := s5, b := a5, a := b3, cm0 := cmv } <= P0 := by
             have : pendT T <= P0 := hpl
             unfold pendT at this ⊢
             show b3.queue.length + a5.queue.length <= P0
             rw [hqb]; omega
           have hpm2 : pendT { T with s := s5, b := a5, a := b3, cm0 := cmv } + 1 <= P0 ∨ P0 = 0 := by
             have h0 : pendT T <= P0 := hpl
             rcases hpm.1 rfl with h1 | h1 | ⟨h1, _⟩
             · refine .inl ?_
               unfold pendT at h1 ⊢
               show b3.queue.length + a5.queue.length + 1 <= P0
               rw [hqb]; omega
             · exact .inr h1
             · have h2 : a5.queue.length + 1 <= T.b.queue.length := hH.sure h1
               refine .inl ?_
               unfold pendT at h0 ⊢
               show b3.queue.length + a5.queue.length + 1 <= P0
               rw [hqb]; omega
           refine reg_lit ?_
           refine wq_p 2 [(43, (iV .i64 2)), (104, (iV .i64 2))] ?_
           refine wl_end rfl ?_
           refine ⟨2 - (2), (by omega), 2, ((rStar (lT p L126 (TEnv.mk e.tb e.sa e.sb F126 GH G126 e.wA e.wc e.wx e.A0 e.c0 e.x0 e.A1 e.c1 e.x1 AV cV xv e.A3 e.c3 e.x3) { T with s := s5, b := a5, a := b3, cm0 := cmv })).F), L126, ({ T with s := s5, b := a5, a := b3, cm0 := cmv }), Wa, W1, (by omega), (TI.weaken (TI.swap hti) (by omega)), hpn, ⟨fun h => absurd h (by decide), fun _ => hpm2⟩, rfl, (pEq 228), h128.sel [0] [0] (by kernel_rfl) rfl rfl⟩
         refine wp_cond_split (t := m.isSome) (by kernel_rfl) (fun b129 => ?_) (fun b129 => ?_)
         ·
          obtain ⟨bd, rfl⟩ := Option.isSome_iff_exists.1 b129
          refine pR_go hJh117 18 (fun W => (rBlk gH 42 ([(lV AcH (((some bd).getD []).length) ccH), (bV ((some bd).isSome)), (sV g.src), (sV g.dst), (iV .i64 g.sid), (iV .i64 g.epoch), (iV .i64 g.seq), (lV AgH g.box.length cgH), (bV true)])).Φ W /\ True) [(67, [3], 0), (68, [6], 0), (69, [67], 2), (70, [3], 0), (71, [6], 0), (72, [70], 16), (73, [69], 8), (74, [72], 64), (75, [73, 71], 160), (76, [74], 256), (77, [9], 0), (78, [76], 1024), (79, [77], 2048), (80, [75, 78], 4608), (81, [66], 1), (82, [80], 16384), (83, [81, 68], 49151), (0, [82, 79], 81919)] rfl (fun _ d _ _ _ h => by cases d <;> exact h) ?_
          intro hs130 w130 h130
          refine pR_p 7 [0, 1, 2, 3, 4, 5, 6, 7, 10, 14, 15] [(81, (pt p 6)), (80, (pt p 0)), (76, (pt gH 0)), (73, (pt p 6)), (72, (pt p 0)), (71, (iV .i64 0)), (70, (iV .i64 1)), (69, (pt p 0)), (68, (iV .i64 0)), (67, (iV .i64 1)), (66, (pt p 0))] 50431 hs130 ⟨h130.at_ 0 rfl, trivial⟩ ?_
          refine pR_v 8 (some 74) (pt p 6) 50687 rfl hs130 ⟨h130.at_ 0 rfl, trivial⟩ (fun W hW => eIa 31 (.tmp 73) (.tmp 71) .i64 p 6 0 2 22 6) ?_
          refine pR_v 11 (some 77) (lV AcH (((some bd).getD []).length) ccH) 52735 rfl hs130 ⟨h130.at_ 0 rfl, trivial⟩ (fun W hW => eL hW.1 26 (.tmp 76) 0 _) ?_
          refine pR_or 9 12 hs130 ?_ ?_
          ·
           refine pR_op 9 (some 75) 53247 rfl (OpTo.run (lV e.A2 T.cm0.length e.c2) (eL (h130.at_ 2 rfl) 22 (.tmp 74) 6 (lV e.A2 T.cm0.length e.c2)) (R := fun v w => v = (lV e.A2 T.cm0.length e.c2) /\ w130 = w) ⟨rfl, rfl⟩) ?_
           rintro _ _ ⟨rfl, rfl⟩
           refine ⟨fun _ => ⟨h130.at_ 0 rfl, trivial⟩, ?_⟩
           refine pR_to 12 (some 78) 57343 rfl hs130 (x_bs h130 26 ([(lV AcH (((some bd).getD []).length) ccH)]) 1 (by kernel_rfl)) ?_
           rintro _ w131 ⟨g131, rfl, h131⟩
           refine ⟨fun _ => ⟨h131.at_ 1 rfl, trivial⟩, ?_⟩
           refine pR_to 13 (some 79) 65535 rfl hs130 (xPu h131 10 0 rfl rfl (.tmp 75) (.tmp 78) 22 24 (lV none 0 0) (by have := hTI.rows; have h1 := this.d2; have h2 := this.d3; have h3 := hT.x2.1; have h4 := hT.x3.1; omega) (by have := hTI.rows; have h1 := this.d2; have h2 := this.d3; have h3 := hT.x2.1; have h4 := hT.x3.1; unfold maxLen; omega) (e.x2 ++ [[(lV AcH (((some bd).getD []).length) ccH)]]) ((T.cm0 ++ [bd]).length) (hyn := (by rw [List.length_append, List.length_append, hT.x2.1]; rfl))) ?_
           rintro _ w132 ⟨A132, c132, rfl, h132⟩
           refine ⟨fun _ => ⟨h132.at_ 1 rfl, trivial⟩, ?_⟩
           refine pR_v 16 (some 82) (pt p 6) 131071 rfl hs130 ⟨h132.at_ 1 rfl, trivial⟩ (fun W hW => eIa 31 (.tmp 81) (.tmp 68) .i64 p 6 0 2 22 6) ?_
           refine pR_to 17 none 262143 rfl hs130 (xSt h132 3 22 (.tmp 82) (.tmp 79) 6 (lV A132 ((T.cm0 ++ [bd]).length) c132) ([(pt e.tb 0), (pt e.sa 0), (pt e.sb 0), (lV e.wA T.wire.length e.wc), (lV e.A0 T.sd0.length e.c0), (lV e.A1 T.sd1.length e.c1), (lV A132 ((T.cm0 ++ [bd]).length) c132), (lV e.A3 T.cm1.length e.c3), (iV .i64 ((T.k0 : Int))), (iV .i64 ((T.k1 : Int)))])) ?_
           rintro _ w133 h133
           refine ⟨fun _ => ⟨h133.at_ 1 rfl, trivial⟩, ?_⟩
           refine pR_done hs130 ?_ _
           exact hJ120 A132 c132 (e.x2 ++ [[(lV AcH (((some bd).getD []).length) ccH)]]) (T.cm0 ++ [bd]) (((hT.x2.mono (fun _ _ h => h.mono (fun p hp => (hsH _ (hs111 _ hp))))).push ⟨AcH, ccH, rfl, hmcH⟩)) rfl _ _ _ (pEq 228) (h133.sel [1, 2, 3, 4, 5, 6, 7, 8, 9, 10, 11] [0, 1, 2] (by kernel_rfl) rfl rfl)
          ·
           refine pR_op 12 (some 78) 56831 rfl (x_bs h130 26 ([(lV AcH (((some bd).getD []).length) ccH)]) 1 (by kernel_rfl)) ?_
           rintro _ w134 ⟨g134, rfl, h134⟩
           refine ⟨fun _ => ⟨h134.at_ 1 rfl, trivial⟩, ?_⟩
           refine pR_to 9 (some 75) 57343 rfl hs130 (OpTo.run (lV e.A2 T.cm0.length e.c2) (eL (h134.at_ 3 rfl) 22 (.tmp 74) 6 (lV e.A2 T.cm0.length e.c2)) (R := fun v w => v = (lV e.A2 T.cm0.length e.c2) /\ w134 = w) ⟨rfl, rfl⟩) ?_
           rintro _ _ ⟨rfl, rfl⟩
           refine ⟨fun _ => ⟨h134.at_ 1 rfl, trivial⟩, ?_⟩
           refine pR_to 13 (some 79) 65535 rfl hs130 (xPu h134 10 0 rfl rfl (.tmp 75) (.tmp 78) 22 24 (lV none 0 0) (by have := hTI.rows; have h1 := this.d2; have h2 := this.d3; have h3 := hT.x2.1; have h4 := hT.x3.1; omega) (by have := hTI.rows; have h1 := this.d2; have h2 := this.d3; have h3 := hT.x2.1; have h4 := hT.x3.1; unfold maxLen; omega) (e.x2 ++ [[(lV AcH (((some bd).getD []).length) ccH)]]) ((T.cm0 ++ [bd]).length) (hyn := (by rw [List.length_append, List.length_append, hT.x2.1]; rfl))) ?_
           rintro _ w135 ⟨A135, c135, rfl, h135⟩
           refine ⟨fun _ => ⟨h135.at_ 1 rfl, trivial⟩, ?_⟩
           refine pR_v 16 (some 82) (pt p 6) 131071 rfl hs130 ⟨h135.at_ 1 rfl, trivial⟩ (fun W hW => eIa 31 (.tmp 81) (.tmp 68) .i64 p 6 0 2 22 6) ?_
           refine pR_to 17 none 262143 rfl hs130 (xSt h135 3 22 (.tmp 82) (.tmp 79) 6 (lV A135 ((T.cm0 ++ [bd]).length) c135) ([(pt e.tb 0), (pt e.sa 0), (pt e.sb 0), (lV e.wA T.wire.length e.wc), (lV e.A0 T.sd0.length e.c0), (lV e.A1 T.sd1.length e.c1), (lV A135 ((T.cm0 ++ [bd]).length) c135), (lV e.A3 T.cm1.length e.c3), (iV .i64 ((T.k0 : Int))), (iV .i64 ((T.k1 : Int)))])) ?_
           rintro _ w136 h136
           refine ⟨fun _ => ⟨h136.at_ 1 rfl, trivial⟩, ?_⟩
           refine pR_done hs130 ?_ _
           exact hJ120 A135 c135 (e.x2 ++ [[(lV AcH (((some bd).getD []).length) ccH)]]) (T.cm0 ++ [bd]) (((hT.x2.mono (fun _ _ h => h.mono (fun p hp => (hsH _ (hs111 _ hp))))).push ⟨AcH, ccH, rfl, hmcH⟩)) rfl _ _ _ (pEq 228) (h136.sel [1, 2, 3, 4, 5, 6, 7, 8, 9, 10, 11] [0, 1, 2] (by kernel_rfl) rfl rfl)
         ·
          obtain rfl : m = none := by simpa using b129
          refine wp_skip ?_
          exact hJ120 e.A2 e.c2 e.x2 T.cm0 ((hT.x2.mono (fun _ _ h => h.mono (fun p hp => (hsH _ (hs111 _ hp)))))) ((by simp)) _ _ _ (pEq 228) (hJh117.sel [0, 1, 2, 3, 4, 5, 6, 7, 8, 9, 10] [0, 1, 2] (by kernel_rfl) rfl rfl)
       refine pR_go h113 11 (fun W => (rBlk g112 38 ([(sV f.src), (sV f.dst), (iV .i64 f.sid), (iV .i64 f.epoch), (iV .i64 f.seq), (lV Af111 f.box.length cf111)])).Φ W /\ True) [(57, [3], 0), (58, [6], 0), (59, [57], 2), (60, [56, 58], 5), (61, [7], 0), (62, [59, 60], 24), (56, [61], 32), (63, [55], 64), (64, [55], 64), (10, [], 0), (0, [9, 62], 767), (11, [63], 2047)] rfl (fun _ d _ _ _ h => by cases d <;> exact h) ?_
       intro hs137 w137 h137
       refine pR_p 9 [0, 1, 2] [(58, (iV .i64 0)), (57, (iV .i64 1)), (56, (pt p 0))] 7 hs137 ⟨h137.at_ 0 rfl, trivial⟩ ?_
       refine pR_v 4 (some 60) (aV ([(sV f.src), (sV f.dst), (iV .i64 f.sid), (iV .i64 f.epoch), (iV .i64 f.seq), (lV Af111 f.box.length cf111)]).toArray) 23 rfl hs137 ⟨h137.at_ 0 rfl, trivial⟩ (fun W hW => eLs hW.1 38 (.tmp 7) 0 ([(sV f.src), (sV f.dst), (iV .i64 f.sid), (iV .i64 f.epoch), (iV .i64 f.seq), (lV Af111 f.box.length cf111)])) ?_
       refine pR_or 3 9 hs137 ?_ ?_
       ·
        refine pR_op 3 (some 59) 31 rfl (x_dp h137 18 [(pt p 0), (iV .i64 0)] (by kernel_rfl) (tEnd_0 (h137.at_ 1 rfl))) ?_
        rintro _ w138 ⟨rfl, h138⟩
        refine ⟨fun _ => ⟨h138.at_ 0 rfl, trivial⟩, ?_⟩
        refine pR_or 5 9 hs137 ?_ ?_
        ·
         have hq139 := h138.monoS 3 rfl (fun p hp => (hs111 _ hp))
         refine pR_op 5 (some 61) 63 rfl (x_two hq139 2 3 rfl rfl (by kernel_rfl) 0 rfl 12 [(pt e.sa 0), (aV ([(sV f.src), (sV f.dst), (iV .i64 f.sid), (iV .i64 f.epoch), (iV .i64 f.seq), (lV Af111 f.box.length cf111)]).toArray)] (by kernel_rfl) (take_of (hq139.at_ 2 rfl) (hq139.at_ 3 rfl) (hq139.rd 0 rfl) (hq139.dis 2 3 _ _ rfl rfl (by decide)) (hq139.rdis 0 2 _ _ rfl rfl) (hq139.rdis 0 3 _ _ rfl rfl) hH.take3 Af111 cf111 hmf111 (hs111 _ hT.nil) hH.said3 (by have := hn3.ks; omega) (by have := hn3.bs; omega) hn3.bd (by have := hn3.sm.sent; omega) (by have := hn3.sm.got; omega) (by have := hn3.sm.ei; omega) hn3.sm.fq)) ?_
         rintro _ w140 ⟨F140, G140, L140, ⟨_, rfl, Ac140, cc140, _, rfl, hmc140, Ag140, cg140, rfl, hmg140⟩, hs140, hx140, h140⟩
         refine ⟨fun _ => ⟨h140.at_ 0 rfl, trivial⟩, ?_⟩
         refine pR_p 3 [6, 7, 8] [(63, (iV .i64 e3)), (62, (aV ([(lV Ac140 ((m.getD []).length) cc140), (bV m.isSome), (sV g.src), (sV g.dst), (iV .i64 g.sid), (iV .i64 g.epoch), (iV .i64 g.seq), (lV Ag140 g.box.length cg140), (bV true)]).toArray)), (55, (Value.tuple #[(aV ([(lV Ac140 ((m.getD []).length) cc140), (bV m.isSome), (sV g.src), (sV g.dst), (iV .i64 g.sid), (iV .i64 g.epoch), (iV .i64 g.seq), (lV Ag140 g.box.length cg140), (bV true)]).toArray), (iV .i64 e3)]))] 511 hs137 ⟨h140.at_ 0 rfl, trivial⟩ ?_
         refine pR_to 9 (some 9) 1023 rfl hs137 (xN h140 42 ([(lV none 0 0), (bV false), (sV ByteArray.empty), (sV ByteArray.empty), (iV .i64 0), (iV .i64 0), (iV .i64 0), (lV none 0 0), (bV false)])) ?_
         rintro _ w141 ⟨g141, rfl, h141⟩
         refine ⟨fun _ => ⟨h141.at_ 1 rfl, trivial⟩, ?_⟩
         refine pR_to 10 none 2047 rfl hs137 (xSs h141 0 42 (.tmp 9) (.tmp 62) 0 ([(lV Ac140 ((m.getD []).length) cc140), (bV m.isSome), (sV g.src), (sV g.dst), (iV .i64 g.sid), (iV .i64 g.epoch), (iV .i64 g.seq), (lV Ag140 g.box.length cg140), (bV true)]) ([(lV Ac140 ((m.getD []).length) cc140), (bV m.isSome), (sV g.src), (sV g.dst), (iV .i64 g.sid), (iV .i64 g.epoch), (iV .i64 g.seq), (lV Ag140 g.box.length cg140), (bV true)])) ?_
         rintro _ w142 h142
         refine ⟨fun _ => ⟨h142.at_ 1 rfl, trivial⟩, ?_⟩
         refine pR_to 11 (some 10) 4095 rfl hs137 (OpTo.run (iV .i64 e3) (pureOp_run (by kernel_rfl) _) (R := fun v w => v = (iV .i64 e3) /\ w142 = w) ⟨rfl, rfl⟩) ?_
         rintro _ _ ⟨rfl, rfl⟩
         refine ⟨fun h => absurd h (by decide), ?_⟩
         refine pR_done hs137 ?_ _
         exact hJ117 F140 G140 L140 Ac140 cc140 Ag140 cg140 g141 hmc140 hmg140 ((fun p hp => (hs140 _ hp))) _ _ _ (pEq 228) (h142.sel [0, 1, 2, 3, 4, 5, 6, 7, 8, 9, 10] [0, 1, 2] (by kernel_rfl) rfl rfl)
        ·
         refine pR_op 9 (some 9) 543 rfl (xN h138 42 ([(lV none 0 0), (bV false), (sV ByteArray.empty), (sV ByteArray.empty), (iV .i64 0), (iV .i64 0), (iV .i64 0), (lV none 0 0), (bV false)])) ?_
         rintro _ w143 ⟨g143, rfl, h143⟩
         refine ⟨fun _ => ⟨h143.at_ 1 rfl, trivial⟩, ?_⟩
         have hq144 := h143.monoS 4 rfl (fun p hp => (hs111 _ hp))
         refine pR_to 5 (some 61) 575 rfl hs137 (x_two hq144 3 4 rfl rfl (by kernel_rfl) 0 rfl 12 [(pt e.sa 0), (aV ([(sV f.src), (sV f.dst), (iV .i64 f.sid), (iV .i64 f.epoch), (iV .i64 f.seq), (lV Af111 f.box.length cf111)]).toArray)] (by kernel_rfl) (take_of (hq144.at_ 3 rfl) (hq144.at_ 4 rfl) (hq144.rd 0 rfl) (hq144.dis 3 4 _ _ rfl rfl (by decide)) (hq144.rdis 0 3 _ _ rfl rfl) (hq144.rdis 0 4 _ _ rfl rfl) hH.take3 Af111 cf111 hmf111 (hs111 _ hT.nil) hH.said3 (by have := hn3.ks; omega) (by have := hn3.bs; omega) hn3.bd (by have := hn3.sm.sent; omega) (by have := hn3.sm.got; omega) (by have := hn3.sm.ei; omega) hn3.sm.fq)) ?_
         rintro _ w145 ⟨F145, G145, L145, ⟨_, rfl, Ac145, cc145, _, rfl, hmc145, Ag145, cg145, rfl, hmg145⟩, hs145, hx145, h145⟩
         refine ⟨fun _ => ⟨h145.at_ 1 rfl, trivial⟩, ?_⟩
         refine pR_p 2 [6, 7, 8] [(63, (iV .i64 e3)), (62, (aV ([(lV Ac145 ((m.getD []).length) cc145), (bV m.isSome), (sV g.src), (sV g.dst), (iV .i64 g.sid), (iV .i64 g.epoch), (iV .i64 g.seq), (lV Ag145 g.box.length cg145), (bV true)]).toArray)), (55, (Value.tuple #[(aV ([(lV Ac145 ((m.getD []).length) cc145), (bV m.isSome), (sV g.src), (sV g.dst), (iV .i64 g.sid), (iV .i64 g.epoch), (iV .i64 g.seq), (lV Ag145 g.box.length cg145), (bV true)]).toArray), (iV .i64 e3)]))] 1023 hs137 ⟨h145.at_ 1 rfl, trivial⟩ ?_
         refine pR_to 10 none 2047 rfl hs137 (xSs h145 0 42 (.tmp 9) (.tmp 62) 0 ([(lV Ac145 ((m.getD []).length) cc145), (bV m.isSome), (sV g.src), (sV g.dst), (iV .i64 g.sid), (iV .i64 g.epoch), (iV .i64 g.seq), (lV Ag145 g.box.length cg145), (bV true)]) ([(lV Ac145 ((m.getD []).length) cc145), (bV m.isSome), (sV g.src), (sV g.dst), (iV .i64 g.sid), (iV .i64 g.epoch), (iV .i64 g.seq), (lV Ag145 g.box.length cg145), (bV true)])) ?_
         rintro _ w146 h146
         refine ⟨fun _ => ⟨h146.at_ 1 rfl, trivial⟩, ?_⟩
         refine pR_to 11 (some 10) 4095 rfl hs137 (OpTo.run (iV .i64 e3) (pureOp_run (by kernel_rfl) _) (R := fun v w => v = (iV .i64 e3) /\ w146 = w) ⟨rfl, rfl⟩) ?_
         rintro _ _ ⟨rfl, rfl⟩
         refine ⟨fun h => absurd h (by decide), ?_⟩
         refine pR_done hs137 ?_ _
         exact hJ117 F145 G145 L145 Ac145 cc145 Ag145 cg145 g143 hmc145 hmg145 ((fun p hp => (hs145 _ hp))) _ _ _ (pEq 228) (h146.sel [0, 1, 2, 3, 4, 5, 6, 7, 8, 9, 10] [0, 1, 2] (by kernel_rfl) rfl rfl)
       ·
        refine pR_op 9 (some 9) 535 rfl (xN h137 42 ([(lV none 0 0), (bV false), (sV ByteArray.empty), (sV ByteArray.empty), (iV .i64 0), (iV .i64 0), (iV .i64 0), (lV none 0 0), (bV false)])) ?_
        rintro _ w147 ⟨g147, rfl, h147⟩
        refine ⟨fun _ => ⟨h147.at_ 1 rfl, trivial⟩, ?_⟩
        refine pR_to 3 (some 59) 543 rfl hs137 (x_dp h147 18 [(pt p 0), (iV .i64 0)] (by kernel_rfl) (tEnd_0 (h147.at_ 2 rfl))) ?_
        rintro _ w148 ⟨rfl, h148⟩
        refine ⟨fun _ => ⟨h148.at_ 1 rfl, trivial⟩, ?_⟩
        have hq149 := h148.monoS 4 rfl (fun p hp => (hs111 _ hp))
        refine pR_to 5 (some 61) 575 rfl hs137 (x_two hq149 3 4 rfl rfl (by kernel_rfl) 0 rfl 12 [(pt e.sa 0), (aV ([(sV f.src), (sV f.dst), (iV .i64 f.sid), (iV .i64 f.epoch), (iV .i64 f.seq), (lV Af111 f.box.length cf111)]).toArray)] (by kernel_rfl) (take_of (hq149.at_ 3 rfl) (hq149.at_ 4 rfl) (hq149.rd 0 rfl) (hq149.dis 3 4 _ _ rfl rfl (by decide)) (hq149.rdis 0 3 _ _ rfl rfl) (hq149.rdis 0 4 _ _ rfl rfl) hH.take3 Af111 cf111 hmf111 (hs111 _ hT.nil) hH.said3 (by have := hn3.ks; omega) (by have := hn3.bs; omega) hn3.bd (by have := hn3.sm.sent; omega) (by have := hn3.sm.got; omega) (by have := hn3.sm.ei; omega) hn3.sm.fq)) ?_
        rintro _ w150 ⟨F150, G150, L150, ⟨_, rfl, Ac150, cc150, _, rfl, hmc150, Ag150, cg150, rfl, hmg150⟩, hs150, hx150, h150⟩
        refine ⟨fun _ => ⟨h150.at_ 1 rfl, trivial⟩, ?_⟩
        refine pR_p 2 [6, 7, 8] [(63, (iV .i64 e3)), (62, (aV ([(lV Ac150 ((m.getD []).length) cc150), (bV m.isSome), (sV g.src), (sV g.dst), (iV .i64 g.sid), (iV .i64 g.epoch), (iV .i64 g.seq), (lV Ag150 g.box.length cg150), (bV true)]).toArray)), (55, (Value.tuple #[(aV ([(lV Ac150 ((m.getD []).length) cc150), (bV m.isSome), (sV g.src), (sV g.dst), (iV .i64 g.sid), (iV .i64 g.epoch), (iV .i64 g.seq), (lV Ag150 g.box.length cg150), (bV true)]).toArray), (iV .i64 e3)]))] 1023 hs137 ⟨h150.at_ 1 rfl, trivial⟩ ?_
        refine pR_to 10 none 2047 rfl hs137 (xSs h150 0 42 (.tmp 9) (.tmp 62) 0 ([(lV Ac150 ((m.getD []).length) cc150), (bV m.isSome), (sV g.src), (sV g.dst), (iV .i64 g.sid), (iV .i64 g.epoch), (iV .i64 g.seq), (lV Ag150 g.box.length cg150), (bV true)]) ([(lV Ac150 ((m.getD []).length) cc150), (bV m.isSome), (sV g.src), (sV g.dst), (iV .i64 g.sid), (iV .i64 g.epoch), (iV .i64 g.seq), (lV Ag150 g.box.length cg150), (bV true)])) ?_
        rintro _ w151 h151
        refine ⟨fun _ => ⟨h151.at_ 1 rfl, trivial⟩, ?_⟩
        refine pR_to 11 (some 10) 4095 rfl hs137 (OpTo.run (iV .i64 e3) (pureOp_run (by kernel_rfl) _) (R := fun v w => v = (iV .i64 e3) /\ w151 = w) ⟨rfl, rfl⟩) ?_
        rintro _ _ ⟨rfl, rfl⟩
        refine ⟨fun h => absurd h (by decide), ?_⟩
        refine pR_done hs137 ?_ _
        exact hJ117 F150 G150 L150 Ac150 cc150 Ag150 cg150 g147 hmc150 hmg150 ((fun p hp => (hs150 _ hp))) _ _ _ (pEq 228) (h151.sel [0, 1, 2, 3, 4, 5, 6, 7, 8, 9, 10] [0, 1, 2] (by kernel_rfl) rfl rfl)
    ·
     refine wp_exit (seq_e (seq_e (blk_e (blk_n (seq_n hK33 ?_)))))
     obtain rfl : i = 2 := by omega
     have hpe := hpm.2 rfl
     refine reg_lit ?_
     refine wq_v (some 105) (iV .i64 ((k : Int) + 1)) (exec_add _ _ _ _ rfl ((k : Int)) 1 (by kernel_rfl) (by kernel_rfl) ((k : Int) + 1) rfl (by omega) (by omega) _) (wq_p 1 [(41, (iV .i64 ((k : Int) + 1)))] ?_)
     refine wl_end rfl ?_
     refine ⟨W0 + 2 - (k + 1), (by omega), (k + 1), G, LL, T, Wa, Wb, (by omega), (hTI.weaken (by omega)), (by omega), rfl, (pEq 228), h35.sel [0] [0] (by kernel_rfl) rfl rfl⟩
   ·
    refine wp_exit (seq_e (seq_e (blk_e (seq_n hK22 (wp_seq_k fun K152 hK152 => wp_seq_k fun K153 hK153 => ?_)))))
    have hz : pendT T = 0 := by omega
    have hza : T.a.queue = [] := List.length_eq_zero_iff.1 (by unfold pendT at hz; omega)
    have hzb : T.b.queue = [] := List.length_eq_zero_iff.1 (by unfold pendT at hz; omega)
    obtain ⟨hd1, hd2, hd3, hd4⟩ := hTI.done hza hzb
    have hrows := hTI.rows
    obtain ⟨e, hT, h154⟩ := h29.openT 0 rfl
    have hova := hTI.inv.ab.ov
    have hovb := hTI.inv.ba.ov
    refine reg_lit ?_
    refine wq_p 3 [(108, (pt p 1)), (107, (pt p 0)), (106, (pt p 0))] (wq_v (some 109) (pt e.sa 0) (eL (h154.at_ 0 rfl) 29 (.tmp 108) 1 _) ?_)
    refine wq_to (some 110) (x_dp h154 19 [(pt e.sa 0)] (by kernel_rfl) (v := bV false) (by have := over_any (h154.at_ 2 rfl); rwa [hova] at this)) ?_
    rintro _ w155 ⟨rfl, h155⟩
    refine wq_p 4 [(114, (pt p 2)), (113, (pt p 0)), (112, (pt p 0)), (111, (bV false))] (wq_v (some 115) (pt e.sb 0) (eL (h155.at_ 0 rfl) 29 (.tmp 114) 2 _) ?_)
    refine wq_to (some 116) (x_dp h155 19 [(pt e.sb 0)] (by kernel_rfl) (v := bV false) (by have := over_any (h155.at_ 3 rfl); rwa [hovb] at this)) ?_
    rintro _ w156 ⟨rfl, h156⟩
    refine wq_p 1 [(117, (bV false))] ?_
    refine wl_end rfl (seq_n hK153 (cF (wp_skip (seq_n hK152 (wp_seq_k fun K157 hK157 => reg_lit ?_)))))
    refine wq_p 3 [(135, (pt p 1)), (134, (pt p 0)), (133, (pt p 0))] (wq_v (some 136) (pt e.sa 0) (eL (h156.at_ 0 rfl) 29 (.tmp 135) 1 _) ?_)
    refine wq_to (some 137) (x_dp h156 17 [(pt e.sa 0)] (by kernel_rfl) (epochs_any (h156.at_ 2 rfl))) ?_
    rintro _ w158 ⟨rfl, h158⟩
    refine wq_p 5 [(12, (iV .i64 ((T.a.ei : Int)))), (11, (iV .i64 ((T.a.eo : Int)))), (139, (iV .i64 ((T.a.ei : Int)))), (138, (iV .i64 ((T.a.eo : Int)))), (132, (Value.tuple #[(iV .i64 ((T.a.eo : Int))), (iV .i64 ((T.a.ei : Int)))]))] ?_
    refine wl_end rfl (seq_n hK157 (wp_seq_k fun K159 hK159 => ?_))
    refine pR_go h158 88 (fun W => (rBlk p 34 ([(pt e.tb 0), (pt e.sa 0), (pt e.sb 0), (lV e.wA T.wire.length e.wc), (lV e.A0 T.sd0.length e.c0), (lV e.A1 T.sd1.length e.c1), (lV e.A2 T.cm0.length e.c2), (lV e.A3 T.cm1.length e.c3), (iV .i64 ((T.k0 : Int))), (iV .i64 ((T.k1 : Int)))])).Φ W /\ True) [(141, [3], 0), (142, [140], 1), (143, [141], 2), (144, [142], 4), (145, [143], 8), (146, [144], 16), (147, [145], 48), (148, [3, 146], 64), (149, [147, 146], 192), (150, [148, 146], 320), (151, [149, 146], 576), (152, [150, 146], 1088), (153, [151, 146], 2112), (154, [146, 152], 4160), (155, [153], 10240), (156, [3, 154], 16384), (157, [155, 154], 49152), (158, [156, 154], 81920), (159, [157, 154], 147456), (160, [158, 154], 278528), (161, [159, 154], 540672), (162, [3, 154], 16384), (163, [161, 154], 2113536), (164, [162, 154], 4210688), (165, [163, 154], 8404992), (166, [164, 154], 16793600), (167, [165, 154], 33570816), (168, [160, 166, 154], 68173824), (169, [154, 167], 134234112), (170, [168], 268451840), (171, [3, 169], 536870912), (172, [170, 169], 1610612736), (173, [171, 169], 2684354560), (174, [172, 169], 4831838208), (175, [173, 169], 9126805504), (176, [174, 169], 17716740096), (177, [3, 169], 536870912), (178, [176, 169], 69256347648), (179, [177, 169], 137975824384), (180, [178, 169], 275414777856), (181, [179, 169], 550292684800), (182, [180, 169], 1100048498688), (183, [175, 181, 169], 2233919864832), (184, [169, 182], 4398583382016), (185, [183], 8796629893120), (186, [3, 184], 17592186044416), (187, [185, 184], 52776558133248), (188, [186, 184], 87960930222080), (189, [187, 184], 158329674399744), (190, [188, 184], 299067162755072), (191, [3, 184], 17592186044416), (192, [190, 184], 1143492092887040), (193, [191, 184], 2269391999729664), (194, [192, 184], 4521191813414912), (195, [193, 184], 9024791440785408), (196, [189, 194, 184], 18594940648947712), (197, [184, 195], 36046389205008384), (198, [196], 108086391056891904), (199, [3, 197], 144115188075855872), (200, [198, 197], 432345564227567616), (201, [199, 197], 720575940379279360), (202, [200, 197], 1297036692682702848), (203, [201, 197], 2449958197289549824), (204, [3, 197], 144115188075855872), (205, [203, 197], 9367487224930631680), (206, [204, 197], 18590859261785407488), (207, [205, 197], 37037603335494959104), (208, [206, 197], 73931091482914062336), (209, [202, 207, 197], 152329753796179656704), (210, [197, 208], 295292020367428681728), (211, [209], 885443715538058477568), (212, [11, 210], 1180591620717411303424), (213, [3, 210], 1180591620717411303424), (214, [212, 210], 5902958103587056517120), (215, [213, 210], 10625324586456701730816), (216, [214, 210], 20070057552195992158208), (217, [215, 210], 38959523483674573012992), (218, [211, 216, 210], 79099638588066557329408), (219, [210, 217], 152296319072546058141696), (220, [218], 303412046524374704979968), (221, [12, 219], 604462909807314587353088), (222, [3, 219], 604462909807314587353088), (223, [221, 219], 3022314549036572936765440), (224, [222, 219], 5440166188265831286177792), (225, [223, 219], 10275869466724347985002496), (226, [224, 219], 19947276023641381382651904), (227, [220, 225, 219], 40499014957090077352656896), (228, [219, 226], 77975715365143581768548352), (3, [227], 309485009821345068724781055)] rfl (fun _ d _ _ _ h => by cases d <;> exact h) ?_
    intro hs160 w160 h160
    refine pR_p 86 [0, 1, 2] [(142, (pt p 1)), (141, (pt p 0)), (140, (pt p 0))] 7 hs160 ⟨h160.at_ 0 rfl, trivial⟩ ?_
    refine pR_v 3 (some 143) (pt e.sa 0) 15 rfl hs160 ⟨h160.at_ 0 rfl, trivial⟩ (fun W hW => eL hW.1 29 (.tmp 142) 1 _) ?_
    refine pR_to 4 (some 144) 31 rfl hs160 (x_dp h160 10 [(pt e.sa 0)] (by kernel_rfl) (waits_any (h160.at_ 2 rfl))) ?_
    rintro _ w161 ⟨rfl, h161⟩
    refine ⟨fun _ => ⟨h161.at_ 0 rfl, trivial⟩, ?_⟩
    refine pR_v 5 (some 145) (bV true) 63 rfl hs160 ⟨h161.at_ 0 rfl, trivial⟩ (fun W hW => eqI (bV (((T.a.queue.length : Int)) == 0)) (congrArg bV (by rw [hza]; rfl))) ?_
    refine pR_p 79 [6, 7, 8, 9] [(149, (pt p 2)), (148, (pt p 0)), (147, (pt p 0)), (146, (bV true))] 1023 hs160 ⟨h161.at_ 0 rfl, trivial⟩ ?_
    refine pR_v 10 (some 150) (pt e.sb 0) 2047 rfl hs160 ⟨h161.at_ 0 rfl, trivial⟩ (fun W hW => eL hW.1 29 (.tmp 149) 2 _) ?_
    refine pR_to 11 (some 151) 4095 rfl hs160 (x_dp h161 10 [(pt e.sb 0)] (by kernel_rfl) (waits_any (h161.at_ 3 rfl))) ?_
    rintro _ w162 ⟨rfl, h162⟩
    refine ⟨fun _ => ⟨h162.at_ 0 rfl, trivial⟩, ?_⟩
    refine pR_v 12 (some 152) (bV true) 8191 rfl hs160 ⟨h162.at_ 0 rfl, trivial⟩ (fun W hW => eqI (bV (((T.b.queue.length : Int)) == 0)) (congrArg bV (by rw [hzb]; rfl))) ?_
    refine pR_p 68 [13, 14, 15, 16, 17, 21, 22, 23] [(163, (pt p 4)), (162, (pt p 0)), (161, (pt p 0)), (157, (pt p 6)), (156, (pt p 0)), (155, (pt p 0)), (154, (bV true)), (153, (bV true))] 14942207 hs160 ⟨h162.at_ 0 rfl, trivial⟩ ?_
    refine pR_v 18 (some 158) (pt p 7) 15204351 rfl hs160 ⟨h162.at_ 0 rfl, trivial⟩ (fun W hW => eIa 31 (.tmp 157) (.const (iV .i64 1)) .i64 p 6 1 2 22 7) ?_
    refine pR_v 24 (some 164) (pt p 4) 31981567 rfl hs160 ⟨h162.at_ 0 rfl, trivial⟩ (fun W hW => eIa 31 (.tmp 163) (.const (iV .i64 0)) .i64 p 4 0 2 22 4) ?_
    refine pR_v 19 (some 159) (lV e.A3 T.cm1.length e.c3) 32505855 rfl hs160 ⟨h162.at_ 0 rfl, trivial⟩ (fun W hW => eL hW.1 22 (.tmp 158) 7 _) ?_
    refine pR_p 64 [20] [(160, (iV .i64 ((T.cm1.length : Int))))] 33554431 hs160 ⟨h162.at_ 0 rfl, trivial⟩ ?_
    refine pR_v 25 (some 165) (lV e.A0 T.sd0.length e.c0) 67108863 rfl hs160 ⟨h162.at_ 0 rfl, trivial⟩ (fun W hW => eL hW.1 22 (.tmp 164) 4 _) ?_
    refine pR_p 62 [26] [(166, (iV .i64 ((T.sd0.length : Int))))] 134217727 hs160 ⟨h162.at_ 0 rfl, trivial⟩ ?_
    refine pR_v 27 (some 167) (bV true) 268435455 rfl hs160 ⟨h162.at_ 0 rfl, trivial⟩ (fun W hW => eqI (bV (((T.cm1.length : Int)) == ((T.sd0.length : Int)))) (congrArg bV (by rw [hd3]; simp))) ?_
    refine pR_p 53 [28, 29, 30, 31, 32, 36, 37, 38] [(178, (pt p 4)), (177, (pt p 0)), (176, (pt p 0)), (172, (pt p 6)), (171, (pt p 0)), (170, (pt p 0)), (169, (bV true)), (168, (bV true))] 489626271743 hs160 ⟨h162.at_ 0 rfl, trivial⟩ ?_
    refine pR_v 33 (some 173) (pt p 6) 498216206335 rfl hs160 ⟨h162.at_ 0 rfl, trivial⟩ (fun W hW => eIa 31 (.tmp 172) (.const (iV .i64 0)) .i64 p 6 0 2 22 6) ?_
    refine pR_v 39 (some 179) (pt p 5) 1047972020223 rfl hs160 ⟨h162.at_ 0 rfl, trivial⟩ (fun W hW => eIa 31 (.tmp 178) (.const (iV .i64 1)) .i64 p 4 1 2 22 5) ?_
    refine pR_v 34 (some 174) (lV e.A2 T.cm0.length e.c2) 1065151889407 rfl hs160 ⟨h162.at_ 0 rfl, trivial⟩ (fun W hW => eL hW.1 22 (.tmp 173) 6 _) ?_
    refine pR_p 49 [35] [(175, (iV .i64 ((T.cm0.length : Int))))] 1099511627775 hs160 ⟨h162.at_ 0 rfl, trivial⟩ ?_
    refine pR_v 40 (some 180) (lV e.A1 T.sd1.length e.c1) 2199023255551 rfl hs160 ⟨h162.at_ 0 rfl, trivial⟩ (fun W hW => eL hW.1 22 (.tmp 179) 5 _) ?_
    refine pR_p 47 [41] [(181, (iV .i64 ((T.sd1.length : Int))))] 4398046511103 hs160 ⟨h162.at_ 0 rfl, trivial⟩ ?_
    refine pR_v 42 (some 182) (bV true) 8796093022207 rfl hs160 ⟨h162.at_ 0 rfl, trivial⟩ (fun W hW => eqI (bV (((T.cm0.length : Int)) == ((T.sd1.length : Int)))) (congrArg bV (by rw [hd4]; simp))) ?_
    refine pR_p 38 [43, 44, 45, 46, 47, 50, 51, 52] [(192, (pt p 4)), (191, (pt p 0)), (190, (pt p 0)), (187, (pt p 6)), (186, (pt p 0)), (185, (pt p 0)), (184, (bV true)), (183, (bV true))] 8162774324609023 hs160 ⟨h162.at_ 0 rfl, trivial⟩ ?_
    refine pR_v 48 (some 188) (pt p 7) 8444249301319679 rfl hs160 ⟨h162.at_ 0 rfl, trivial⟩ (fun W hW => eIa 31 (.tmp 187) (.const (iV .i64 1)) .i64 p 6 1 2 22 7) ?_
    refine pR_v 53 (some 193) (pt p 4) 17451448556060671 rfl hs160 ⟨h162.at_ 0 rfl, trivial⟩ (fun W hW => eIa 31 (.tmp 192) (.const (iV .i64 0)) .i64 p 4 0 2 22 4) ?_
    refine pR_v 49 (some 189) (lV e.A3 T.cm1.length e.c3) 18014398509481983 rfl hs160 ⟨h162.at_ 0 rfl, trivial⟩ (fun W hW => eL hW.1 22 (.tmp 188) 7 _) ?_
    refine pR_v 54 (some 194) (lV e.A0 T.sd0.length e.c0) 36028797018963967 rfl hs160 ⟨h162.at_ 0 rfl, trivial⟩ (fun W hW => eL hW.1 22 (.tmp 193) 4 _) ?_
    refine pR_to 55 (some 195) 72057594037927935 rfl hs160 (x_dp h162 16 [(lV e.A3 T.cm1.length e.c3), (lV e.A0 T.sd0.length e.c0)] (by kernel_rfl) (tPrefix_any (h162.rd 0 rfl) hT.x3 hT.x0 (OV.rvn (h162.at_ 8 rfl)).2 (OV.rvn (h162.at_ 5 rfl)).2 hTI.pre1 (by have := hTI.rows.d0; omega))) ?_
    rintro _ w163 ⟨rfl, h163⟩
    refine ⟨fun _ => ⟨h163.at_ 0 rfl, trivial⟩, ?_⟩
    refine pR_p 25 [56, 57, 58, 59, 60, 63, 64, 65] [(205, (pt p 4)), (204, (pt p 0)), (203, (pt p 0)), (200, (pt p 6)), (199, (pt p 0)), (198, (pt p 0)), (197, (bV true)), (196, (bV true))] 66869447267197124607 hs160 ⟨h163.at_ 0 rfl, trivial⟩ ?_
    refine pR_v 61 (some 201) (pt p 6) 69175290276410818559 rfl hs160 ⟨h163.at_ 0 rfl, trivial⟩ (fun W hW => eIa 31 (.tmp 200) (.const (iV .i64 0)) .i64 p 6 0 2 22 6) ?_
    refine pR_v 66 (some 206) (pt p 5) 142962266571249025023 rfl hs160 ⟨h163.at_ 0 rfl, trivial⟩ (fun W hW => eIa 31 (.tmp 205) (.const (iV .i64 1)) .i64 p 4 1 2 22 5) ?_
    refine pR_v 62 (some 202) (lV e.A2 T.cm0.length e.c2) 147573952589676412927 rfl hs160 ⟨h163.at_ 0 rfl, trivial⟩ (fun W hW => eL hW.1 22 (.tmp 201) 6 _) ?_
    refine pR_v 67 (some 207) (lV e.A1 T.sd1.length e.c1) 295147905179352825855 rfl hs160 ⟨h163.at_ 0 rfl, trivial⟩ (fun W hW => eL hW.1 22 (.tmp 206) 5 _) ?_
    refine pR_to 68 (some 208) 590295810358705651711 rfl hs160 (x_dp h163 16 [(lV e.A2 T.cm0.length e.c2), (lV e.A1 T.sd1.length e.c1)] (by kernel_rfl) (tPrefix_any (h163.rd 0 rfl) hT.x2 hT.x1 (OV.rvn (h163.at_ 7 rfl)).2 (OV.rvn (h163.at_ 6 rfl)).2 hTI.swap.pre1 (by have := hTI.rows.d1; omega))) ?_
    rintro _ w164 ⟨rfl, h164⟩
    refine ⟨fun _ => ⟨h164.at_ 0 rfl, trivial⟩, ?_⟩
    refine pR_p 14 [69, 70, 71, 72, 73, 74] [(214, (pt p 8)), (213, (pt p 0)), (212, (pt p 0)), (211, (iV .i64 ((T.a.eo : Int)))), (210, (bV true)), (209, (bV true))] 37778931862957161709567 hs160 ⟨h164.at_ 0 rfl, trivial⟩ ?_
    refine pR_v 75 (some 215) (pt p 8) 75557863725914323419135 rfl hs160 ⟨h164.at_ 0 rfl, trivial⟩ (fun W hW => eIa 32 (.tmp 214) (.const (iV .i64 0)) .i64 p 8 0 2 3 8) ?_
    refine pR_v 76 (some 216) (iV .i64 ((T.k0 : Int))) 151115727451828646838271 rfl hs160 ⟨h164.at_ 0 rfl, trivial⟩ (fun W hW => eL hW.1 3 (.tmp 215) 8 _) ?_
    refine pR_v 77 (some 217) (bV true) 302231454903657293676543 rfl hs160 ⟨h164.at_ 0 rfl, trivial⟩ (fun W hW => eqI (bV (((T.a.eo : Int)) == ((T.k0 : Int)))) (congrArg bV (by rw [hd1]; simp))) ?_
    refine pR_p 5 [78, 79, 80, 81, 82, 83] [(223, (pt p 8)), (222, (pt p 0)), (221, (pt p 0)), (220, (iV .i64 ((T.a.ei : Int)))), (219, (bV true)), (218, (bV true))] 19342813113834066795298815 hs160 ⟨h164.at_ 0 rfl, trivial⟩ ?_
    refine pR_v 84 (some 224) (pt p 9) 38685626227668133590597631 rfl hs160 ⟨h164.at_ 0 rfl, trivial⟩ (fun W hW => eIa 32 (.tmp 223) (.const (iV .i64 1)) .i64 p 8 1 2 3 9) ?_
    refine pR_v 85 (some 225) (iV .i64 ((T.k1 : Int))) 77371252455336267181195263 rfl hs160 ⟨h164.at_ 0 rfl, trivial⟩ (fun W hW => eL hW.1 3 (.tmp 224) 9 _) ?_
    refine pR_v 86 (some 226) (bV true) 154742504910672534362390527 rfl hs160 ⟨h164.at_ 0 rfl, trivial⟩ (fun W hW => eqI (bV (((T.a.ei : Int)) == ((T.k1 : Int)))) (congrArg bV (by rw [hd2]; simp))) ?_
    refine pR_p 1 [87] [(227, (bV true))] 309485009821345068724781055 hs160 ⟨h164.at_ 0 rfl, trivial⟩ ?_
    refine pR_to 88 (some 2) 618970019642690137449562111 rfl hs160 (OpTo.run (bV true) (pureOp_run (by kernel_rfl) _) (R := fun v w => v = (bV true) /\ w164 = w) ⟨rfl, rfl⟩) ?_
    rintro _ _ ⟨rfl, rfl⟩
    refine ⟨fun h => absurd h (by decide), ?_⟩
    refine pR_done hs160 ?_ _
    refine seq_n hK159 (wp_ret ?_)
    refine post_1 rfl (by kernel_rfl) (rtm (bV true)) ?_
    exact ⟨rfl, h164.below0⟩
 ·
  refine reg_lit ?_
  refine wq_p 1 [(15, (lV A st.length c))] ?_
  have hbr165 : briefR st = false := by simpa using b7
  refine wq_to (some 16) (x_dp h4 14 [(lV A st.length c)] (by kernel_rfl) (v := bV false) (by have := tBrief_any hx (h4.rd 0 rfl); rwa [hbr165] at this)) ?_
  rintro _ w165 ⟨rfl, h165⟩
  refine wq_p 1 [(17, (bV true))] ?_
  refine wl_end rfl (seq_n hK6 (cT (wp_seq_k fun K166 hK166 => reg_lit ?_)))
  refine wq_p 1 [(2, (bV true))] ?_
  refine wl_end rfl (seq_n hK166 (wp_ret (seq_r ?_)))
  refine post_1 rfl (by kernel_rfl) (rtm (bV true)) ?_
  exact ⟨rfl, h165.below0⟩
end
section
open Go.ChangeShapes Go.WideShapes Go.ChangeAt Go.RowKit
theorem recordComes_lifted (os : Os) (started : os.Started) (H : Type) (enc : TypeId × Value -> H) :
   ReturnsInHanded {} Try.checked os 5 .any (Rows.recordComesSpec.pre6 enc Try.prog Try.f5 Rows.recordComesRow.domain false) (Rows.recordComesSpec.post enc Try.prog Try.f5 false true false false) := by
 refine returnsInHanded_of_change (C := Try.checked) Try.own started (by kernel_rfl) Try.func5
   (ChangeSpec.witness6 (enc := enc) (C := Try.checked) false ⟨#[], #[.slice none 0 0], []⟩ 8 (by kernel_rfl) (by kernel_rfl) (by kernel_rfl) (by kernel_rfl)) ?_
 intro W base args ds gs before hval0 hW hcnd _
 have hval : ∀ (j : Nat) t v, Try.f5.params[j]? = some t -> args[j]? = some v -> Value.okWide Try.prog W .any base t v := hval0
 have hpost : ∀ W', Below W.heap.size W W' -> Rows.recordComesSpec.post enc Try.prog Try.f5 false true false false W args (.bool true) W' := fun W' hb =>
   law_post Try.laidOut (by kernel_rfl) Try.underlying4 rfl rfl (fun ds hds => by
     have hn : ds.length = 1 := hds
     match ds, hn with
     | [_], _ => rfl) hW hb
 obtain ⟨p, q, hA0, hV, rfl, hfz, hnd⟩ := hW
 have hA : DataW.TrodAll enc Try.prog W 0 (fun _ => true) true Try.f5.params.toList args.toList ds p := hA0
 rw [Try.params5] at hA hval
 clear hA0 hval0
 obtain ⟨v0, d0, rfl, rfl, h0⟩ := trodAll_one hA
 obtain ⟨A0, c0, xs0, st0, L0, rfl, hr0, hx0, hL0, hn0⟩ := open_stps (hval 0 47 v0 rfl rfl) h0
 refine (recordComes_any hL0 hn0 hx0 hr0).mono fun e W' ⟨he, hw⟩ => ?_
 subst he
 exact ⟨_, rfl, hpost W' hw⟩
theorem recordComes_holds : Rows.RecordComesSaid :=
 OpenClaim.holds_of_wide 5 Try.f5 rfl rfl rfl rfl rfl rfl rfl ⟨rfl, rfl, rfl, rfl, rfl⟩ rfl rfl rfl rfl rfl (by kernel_rfl) Try.func5 (by kernel_rfl)
   (of_decide_eq_true (by kernel_rfl)) (by unfold Func.isWrapper; first | (rw [if_pos (by decide +kernel)]; kernel_rfl) | (rw [if_neg (by decide +kernel)]; exact ⟨rfl, rfl⟩))
   (fun os started H enc _ => recordComes_lifted os started H enc)
end
end Go.Proofs.Ytjalodhdjollhaa
