/- The row of RecordRoom: for every input the law returns true and what came in reads as it did. -/
import Derived.ChangeMaps5
import Derived.Test.YtjalodhdjollhaaCA13
set_option maxRecDepth 100000
set_option maxHeartbeats 4000000
namespace Go.Proofs.Ytjalodhdjollhaa
section
def ones (sd : List Bytes) : List (Nat × Bytes) := sd.map fun b => (1, b)
structure RoomI (s : STab) (a b : Ses) (Wa Wb : Way) (sd : List Bytes) (i : Nat) : Prop where
 inv : RecI s a b Wa Wb
 p : Wa.P = ones sd
 pb : Wb.P = []
 sent : a.sent = i
 fr : a.frame = none
 got : b.got = i
 am : a.me = sAnn
 ap : a.peer = sBob
 bm : b.me = sBob
 bp : b.peer = sAnn
 asid : a.sid = 7
 bsid : b.sid = 7
 ks : s.keys.length <= 3 + 12 * i
 bs : s.boxes.length <= 4 * i
 l8 : sd.length <= 8
 il : i <= sd.length
structure Bnd (s : STab) (S : Ses) : Prop where
 sm : SmlS S
 ks : s.keys.length <= 3000
 bs : s.boxes.length <= 3000
 bd : ∀ x ∈ s.boxes, x.body.length <= 1000000
/-- One round: the frame goes out, is sent again, comes, and its mark comes back. -/
structure RoundI (s : STab) (a b : Ses) (Wb : Way) (sd : List Bytes) (i : Nat) (c : Bytes) (s2 : STab) (a2 : Ses) (f : Frm) (r3 : Option (Nat × Nat × Bytes)) (s3 : STab) (b3 : Ses) (g : Frm) (r5 : Option (Nat × Nat × Bytes)) (s5 : STab) (W2 : Way) : Prop where
 send : SendR s a s2 a2 (some f)
 again : SendR s2 a2 s2 a2 (some f)
 said3 : Said s2 b f r3
 take3 : TakeR s2 b f r3 s3 b3 (some c) (some g) 0
 said5 : Said s3 a2 g r5
 take5 : TakeR s3 a2 g r5 s5 (markR a2) none none 0
 seq : f.seq = ((i + 1 : Nat) : Int)
 n1 : Bnd s a
 n2 : Bnd s2 a2
 n3 : Bnd s2 b
 n4 : Bnd s3 a2
 next : RoomI s5 (markR a2) b3 W2 Wb sd (i + 1)
section
variable {s : STab} {a b : Ses} {Wa Wb : Way} {sd : List Bytes} {i : Nat} {c : Bytes}
theorem ones_len (sd : List Bytes) : (ones sd).length = sd.length := by simp [ones]
theorem ones_at (h : sd[i]? = some c) : (ones sd)[i]? = some (1, c) := by simp [ones, h]
theorem RoomI.pl (h : RoomI s a b Wa Wb sd i) : Wa.P.length <= 60 /\ Wb.P.length <= 60 := by
 rw [h.p, h.pb, ones_len]; have := h.l8; simp; omega
theorem RoomI.bnd (h : RoomI s a b Wa Wb sd i) : Bnd s a := ⟨h.inv.smallS h.pl.1 h.pl.2, by have := h.ks; have := h.l8; have := h.il; omega, by have := h.bs; have := h.l8; have := h.il; omega, h.inv.bodiesS⟩
theorem RoomI.queue (h : RoomI s a b Wa Wb sd i) : a.queue.length = sd.length - i := by
 rw [h.inv.ab.q, List.length_drop, h.p, ones_len, h.sent]
theorem RoomI.push (h : RoomI s a b Wa Wb sd 0) (hl : sd.length < 8) (hc : c.length <= 2048) : RoomI s { a with queue := a.queue ++ [(1, c)] } b ⟨Wa.P ++ [(1, c)], Wa.ks⟩ Wb (sd ++ [c]) 0 :=
 ⟨h.inv.push (by rw [h.queue]; omega) (.inl rfl) hc, by show Wa.P ++ [(1, c)] = _; rw [h.p]; simp [ones], h.pb, h.sent, h.fr, h.got, h.am, h.ap, h.bm, h.bp, h.asid, h.bsid, h.ks, h.bs, by simp; omega, Nat.zero_le _⟩
theorem room0 : RoomI sTab0 sA0 sB0 ⟨[], [sA0.ko]⟩ ⟨[], [sA0.ki]⟩ [] 0 :=
 ⟨ti0.inv, rfl, rfl, rfl, rfl, rfl, rfl, rfl, rfl, rfl, rfl, rfl, by rw [keys0]; decide, by rw [boxes0]; decide, by simp, Nat.le_refl _⟩
theorem RoomI.round (h : RoomI s a b Wa Wb sd i) (hi : sd[i]? = some c) : ∃ s2 a2 f r3 s3 b3 g r5 s5 W2, RoundI s a b Wb sd i c s2 a2 f r3 s3 b3 g r5 s5 W2 := by
 have hil := (List.getElem?_eq_some_iff.1 hi).1
 have hks := h.ks
 have hbs := h.bs
 have h8 := h.l8
 have hpl := h.pl
 obtain ⟨s2, a2, m2, hr2⟩ := send_ex s a
 obtain ⟨W2, hS2⟩ := h.inv.send hr2 (by omega) (by have := h.sent; omega)
 have hqn : a.queue ≠ [] := by
   intro e
   have := h.queue
   rw [e] at this; simp at this; omega
 obtain ⟨f, rfl⟩ : ∃ f, m2 = some f := Option.isSome_iff_exists.1 (hS2.is.trans (decide_eq_true hqn))
 have hf2 : a2.frame = some f := hS2.fr f rfl
 have hR2 : RecI s2 a2 b W2 Wb := hS2.inv
 have hP2 : W2.P = ones sd := hS2.p.trans h.p
 have hse2 : a2.sent = i := hS2.sent.trans h.sent
 have hks2 := hS2.ks
 have hbs2 := hS2.bs
 obtain ⟨s3, b3, r3, m3, g, e3, hE⟩ := hR2.exch (by omega) (by omega) (by omega) hf2 ((hS2.me.trans h.am).trans h.bp.symm) ((hS2.peer.trans h.ap).trans h.bm.symm) ((hS2.sid.trans h.asid).trans h.bsid.symm)
 obtain ⟨k3, c3, hp3, he3, hm3⟩ := hE.new (by rw [h.got, hse2])
 subst he3
 rw [hP2, hse2, ones_at hi] at hp3
 injection hp3 with hp3
 injection hp3 with h1 h2
 subst h1; subst h2
 rw [if_pos rfl] at hm3
 subst hm3
 have hgb := h.got
 have hT3 := hR2.symm.took hE.take hE.told (by omega) (by omega)
 have hR3 : RecI s3 a2 b3 W2 Wb := hT3.inv.symm
 have hks3 := hT3.ks
 have hbs3 := hT3.bs
 have hei : a2.ei = b3.eo := by
   have e1 := hR3.ba.ei
   have e2 := hR3.ba.eo
   rw [h.pb, List.take_nil] at e1 e2
   rw [e1, e2]
 have hi1 : b3.me = a2.peer := (hT3.me.trans h.bm).trans (hS2.peer.trans h.ap).symm
 have hi2 : b3.peer = a2.me := (hT3.peer.trans h.bp).trans (hS2.me.trans h.am).symm
 have hi3 : b3.sid = a2.sid := (hT3.sid.trans h.bsid).trans (hS2.sid.trans h.asid).symm
 obtain ⟨r5, hsd5, htd5, hr5⟩ := (hR3.back hf2 hE.mark (by omega) (by omega) hE.got hi1 hi2 hi3).1 hei
 have hag : a2.got = a.got := hS2.got
 have hsm := h.bnd.sm.got
 have hT5 := hR3.took hr5 htd5 (by omega) (by omega)
 have hks5 := hT5.ks
 have hbs5 := hT5.bs
 have hov : a2.over = false := hR2.ab.ov
 have hpw : W2.P.length <= 60 := by rw [hP2, ones_len]; omega
 have hsq := (hR2.ab.fr f hf2).seq
 rw [hse2] at hsq
 refine ⟨s2, a2, f, r3, s3, b3, g, r5, _, W2, hr2, .frame hov f hf2, hE.said, hE.take, hsd5, hr5, hsq, h.bnd, ⟨hR2.smallS hpw hpl.2, by omega, by omega, hR2.bodiesS⟩, ⟨hR2.symm.smallS hpl.2 hpw, by omega, by omega, hR2.bodiesS⟩, ⟨hR3.smallS hpw hpl.2, by omega, by omega, hR3.bodiesS⟩, ?_⟩
 exact ⟨hT5.inv, hP2, h.pb, by show a2.sent + 1 = i + 1; rw [hse2], rfl, by rw [hE.got, hse2], hS2.me.trans h.am, hS2.peer.trans h.ap, hT3.me.trans h.bm, hT3.peer.trans h.bp, hS2.sid.trans h.asid, hT3.sid.trans h.bsid, by omega, by omega, h8, by omega⟩
end
end
section
open Go.Value renaming int -> iV, slice -> lV, string -> sV, bool -> bV, agg -> aV
open Go.RowKit Go.QT
theorem recordRoom_any {L : List (Value × Bytes)} {w : World} (hL : (rF L).Φ w) (hnil : (lV none 0 0, ([] : Bytes)) ∈ L) {A : Option Addr} {c : Nat} {xs : List (List Value)} {st : List Bytes} (hx : RowOk (BAt L) xs st) (hrx : RV w 1 A c xs) :
   Calls Try.prog 3 #[.slice A st.length c] w fun e w' => e = .returned (.bool true) /\ Below w.heap.size w w' := by
 have hcap : st.length <= 9223372036854775807 := by have h1 := hrx.le; have h2 := hrx.cap; have h3 := hx.1; unfold maxLen at h2; omega
 have h0 := (Hp.ro1 (rF L) hL).addR (rRV 1 A c xs) hrx (by simp)
 refine enter 183 Try.func3 rfl rfl ?_
 refine wp_reset 184 [(0, (lV A st.length c))] (fun x0 => ?_)
 refine wp_seq_k fun K1 hK1 => reg_lit ?_
 refine wq_p 1 [(2, (bV false))] ?_
 refine wl_end rfl (seq_n hK1 (wp_seq_k fun K2 hK2 => wp_seq_k fun K3 hK3 => reg_lit ?_))
 refine wq_to (some 20) (OpTo.enter 7 [] (by kernel_rfl) (alive20_any _) (R := fun u w' => u = bV true /\ Below w.heap.size w w') (fun e w' hq => ⟨_, hq.1, rfl, hq.2⟩)) ?_
 rintro _ w4 ⟨rfl, hb4⟩
 have h4 := h0.below hb4
 refine wq_p 1 [(21, (bV false))] ?_
 refine wl_end rfl (seq_n hK3 (cF (wp_skip (seq_n hK2 (wp_seq_k fun K5 hK5 => wp_seq_k fun K6 hK6 => ?_)))))
 by_cases b7 : 20 < st.length
 ·
  refine reg_lit ?_
  refine wq_p 2 [(23, (iV .i64 ((st.length : Int)))), (22, (lV A st.length c))] (wq_v (some 24) (.bool true) (eqI (bV (decide ((st.length : Int) > 20))) (congrArg bV (by simp; omega))) ?_)
  refine wl_end rfl (seq_n hK6 (cT (wp_seq_k fun K8 hK8 => reg_lit ?_)))
  refine wq_p 1 [(2, (bV true))] ?_
  refine wl_end rfl (seq_n hK8 (wp_ret (seq_r ?_)))
  refine post_1 rfl (by kernel_rfl) (rtm (bV true)) ?_
  exact ⟨rfl, h4.below0⟩
 ·
  refine reg_lit ?_
  refine wq_p 2 [(23, (iV .i64 ((st.length : Int)))), (22, (lV A st.length c))] (wq_v (some 24) (.bool false) (eqI (bV (decide ((st.length : Int) > 20))) (congrArg bV (by simp; omega))) ?_)
  refine wl_end rfl (seq_n hK6 (cF (wp_skip (seq_n hK5 (wp_seq_k fun K9 hK9 => reg_lit ?_)))))
  refine wq_to (some 25) (x_topen h4 8 (by kernel_rfl) (tOpen_any hnil _)) ?_
  rintro _ w10 ⟨p, G0, rfl, h10⟩
  refine wq_p 1 [(3, (pt p 0))] ?_
  refine wl_end rfl (seq_n hK9 (wp_seq_k fun K11 hK11 => ?_))
  obtain ⟨T, hTe⟩ : ∃ T : Tk, T = tk0 := ⟨_, rfl⟩
  have h12 := h10
  rw [← hTe] at h12
  have hR0 : RoomI T.s T.a T.b ⟨[], [sA0.ko]⟩ ⟨[], [sA0.ki]⟩ [] 0 := by rw [hTe]; exact room0
  obtain ⟨e, hT, h13⟩ := h12.openT 0 rfl
  have hcx0 : T.wire.length = 0 := by rw [hTe]; rfl
  refine reg_lit ?_
  refine wq_to (some 26) (x_bs0 h13 26 1 (by kernel_rfl)) ?_
  rintro _ w14 ⟨A14, rfl, h14⟩
  refine wq_p 1 [(4, (lV A14 0 0))] ?_
  refine wl_end rfl (seq_n hK11 (wp_seq_k fun K15 hK15 => wp_seq_k fun K16 hK16 => ?_))
  refine wp_reset 184 [(0, (lV A st.length c)), (2, (bV false)), (3, (pt p 0)), (4, (lV A14 0 0)), (21, (bV false)), (24, (bV false))] (fun x17 => ?_)
  refine reg_lit ?_
  refine wq_p 3 [(29, (iV .i64 0)), (28, (iV .i64 ((st.length : Int)))), (27, (lV A st.length c))] ?_
  refine wl_end rfl (seq_n hK16 (wp_block ?_))
  refine wp_loopm (fun mM xX aA wL => ∃ (n : Nat) (Ga : Nat -> Prop) (LL : List (Value × Bytes)) (Sa : Ses) (sd : List Bytes) (xd : List (List Value)) (Ad : Option Addr) (cd : Nat) (Wa : Way), (n <= st.length) /\ (RoomI T.s Sa T.b Wa ⟨[], [sA0.ki]⟩ sd 0) /\ (RowOk (BAt LL) xd sd) /\ (∀ p, p ∈ L -> p ∈ LL) /\ mM = st.length - (n) /\ aA = patch xX 184 [(0, (lV A st.length c)), (3, (pt p 0)), (4, (lV Ad sd.length cd)), (21, (bV false)), (24, (bV false)), (27, (lV A st.length c)), (28, (iV .i64 ((st.length : Int)))), (29, (iV .i64 ((n : Int))))] /\ Hp (fun _ => False) w wL [rF LL, rRV 1 A c xs] [rOV 26 1 ((lV Ad sd.length cd)) xd, rBlk p 34 ([(pt e.tb 0), (pt e.sa 0), (pt e.sb 0), (lV e.wA T.wire.length e.wc), (lV e.A0 T.sd0.length e.c0), (lV e.A1 T.sd1.length e.c1), (lV e.A2 T.cm0.length e.c2), (lV e.A3 T.cm1.length e.c3), (iV .i64 ((T.k0 : Int))), (iV .i64 ((T.k1 : Int)))]), rTab e.F e.tb T.s, rS Ga e.tb e.sa LL Sa, rS e.Gb e.tb e.sb L T.b, rOV 38 6 ((lV e.wA T.wire.length e.wc)) e.wx, rOV 26 1 ((lV e.A0 T.sd0.length e.c0)) e.x0, rOV 26 1 ((lV e.A1 T.sd1.length e.c1)) e.x1, rOV 26 1 ((lV e.A2 T.cm0.length e.c2)) e.x2, rOV 26 1 ((lV e.A3 T.cm1.length e.c3)) e.x3]) ⟨_, 0, e.Ga, L, T.a, (([] : List Bytes)), (([] : List (List Value))), A14, 0, (⟨[], [sA0.ko]⟩), (by omega), hR0, RowOk.nil, (fun p hp => hp), rfl, (pEq 184), h14.sel [0, 1, 2, 3, 4, 5, 6, 7, 8, 9] [1, 0] (by kernel_rfl) rfl rfl⟩ ?_
  rintro _ x18 _ w18 ⟨n, Ga, LL, Sa, sd, xd, Ad, cd, Wa, hn, hR, hrow, hsub, rfl, rfl, h18⟩
  refine wp_seq_k fun K19 hK19 => reg_lit ?_
  refine wq_p 1 [(30, (bV (decide ((n : Int) < (st.length : Int)))))] ?_
  refine wl_end rfl (seq_n hK19 (wp_seq_k fun K20 hK20 => ?_))
  refine wp_if ((n : Int) < (st.length : Int)) (by kernel_rfl) (fun b21 => ?_) (fun b21 => ?_)
  ·
   refine wp_skip (seq_n hK20 (wp_seq_k fun K22 hK22 => wp_block (wp_seq_k fun K23 hK23 => ?_)))
   obtain ⟨b, hb0⟩ : ∃ b, st[n]? = some b := ⟨_, List.getElem?_eq_getElem (by omega)⟩
   obtain ⟨x1, hx1, A1, c1, rfl, hm1⟩ := hx.get hb0
   refine reg_lit ?_
   refine wq_v (some 31) (eAt A (n * 1 + 0)) (eIx (RV.lenIs (n := st.length) (h18.rd 1 rfl) hx.1).2 n st.length (RV.lenIs (n := st.length) (h18.rd 1 rfl) hx.1).1 (by omega) 22 (.tmp 27) (.tmp 29) .i64 26) (wq_v (some 32) (lV A1 b.length c1) (eEl (RV.lenIs (n := st.length) (h18.rd 1 rfl) hx.1).2 n 0 ([(lV A1 b.length c1)]) hx1 26 (.tmp 31) (lV A1 b.length c1)) (wq_p 1 [(6, (lV A1 b.length c1))] ?_))
   refine wl_end rfl (seq_n hK23 (wp_seq_k fun K24 hK24 => wp_seq_k fun K25 hK25 => ?_))
   by_cases b26 : 40 < b.length
   ·
    refine reg_lit ?_
    refine wq_p 2 [(34, (iV .i64 ((b.length : Int)))), (33, (lV A1 b.length c1))] (wq_v (some 35) (.bool true) (eqI (bV (decide ((b.length : Int) > 40))) (congrArg bV (by simp; omega))) ?_)
    refine wl_end rfl (seq_n hK25 (cT (wp_exit (seq_e (blk_e (seq_n hK22 ?_))))))
    refine reg_lit ?_
    refine wq_v (some 64) (iV .i64 ((n : Int) + 1)) (exec_add _ _ _ _ rfl ((n : Int)) 1 (by kernel_rfl) (by kernel_rfl) ((n : Int) + 1) rfl (by omega) (by omega) _) (wq_p 1 [(29, (iV .i64 ((n : Int) + 1)))] ?_)
    refine wl_end rfl ?_
    refine ⟨st.length - (n + 1), (by omega), (n + 1), Ga, LL, Sa, sd, xd, Ad, cd, Wa, (by omega), hR, (hrow.mono (fun _ _ h => h.mono (fun p hp => hp))), (fun p hp => (hsub p hp)), rfl, (pEq 184), h18.sel [0, 1, 2, 3, 4, 5, 6, 7, 8, 9] [0, 1] (by kernel_rfl) rfl rfl⟩
   ·
    refine reg_lit ?_
    refine wq_p 2 [(34, (iV .i64 ((b.length : Int)))), (33, (lV A1 b.length c1))] (wq_v (some 35) (.bool false) (eqI (bV (decide ((b.length : Int) > 40))) (congrArg bV (by simp; omega))) ?_)
    refine wl_end rfl (seq_n hK25 (cF (wp_skip (seq_n hK24 (wp_seq_k fun K27 hK27 => ?_)))))
    by_cases b28 : sd.length < 8
    ·
     have hql := hR.queue
     have hl8 := hR.l8
     have hq : sd.length < 8 := by omega
     have h29 := h18.roF 0 rfl (hsub _ hm1)
     refine reg_lit ?_
     refine wq_p 3 [(38, (pt p 1)), (37, (pt p 0)), (36, (pt p 0))] (wq_v (some 39) (pt e.sa 0) (eL (h29.at_ 1 rfl) 29 (.tmp 38) 1 _) (wq_p 1 [(40, (lV A1 b.length c1))] ?_))
     refine wq_to (some 41) (x_ses h29 3 rfl 1 rfl 9 [(pt e.sa 0), (lV A1 b.length c1)] (by kernel_rfl) (sPush_ok (h29.at_ 3 rfl) (h29.rd 1 rfl) (h29.rdis 1 3 _ _ rfl rfl) b A1 c1 (h29.rd 0 rfl) (h29.rdis 0 3 _ _ rfl rfl) (by omega) hR.inv.ab.ov (by omega))) ?_
     rintro _ w30 ⟨G30, L30, rfl, hs30, hx30, h30⟩
     refine wq_p 1 [(7, (iV .i64 0))] ?_
     refine wl_end rfl (seq_n hK27 (wp_seq_k fun K31 hK31 => wp_seq_k fun K32 hK32 => ?_))
     refine wp_reset 184 [(0, (lV A st.length c)), (3, (pt p 0)), (4, (lV Ad sd.length cd)), (6, (lV A1 b.length c1)), (7, (iV .i64 0)), (21, (bV false)), (24, (bV false)), (27, (lV A st.length c)), (28, (iV .i64 ((st.length : Int)))), (29, (iV .i64 ((n : Int)))), (30, (bV (decide ((n : Int) < (st.length : Int))))), (35, (bV false))] (fun x33 => ?_)
     refine reg_lit ?_
     refine wq_p 4 [(45, (iV .i64 ((sd.length : Int)))), (44, (lV Ad sd.length cd)), (43, (bV true)), (42, (iV .i64 0))] (wq_v (some 46) (.bool true) (eqI (bV (decide ((sd.length : Int) < 8))) (congrArg bV (by simp; omega))) (wq_p 9 [(55, (bV false)), (54, (bV false)), (53, undef), (52, undef), (51, (bV false)), (50, (bV false)), (49, (iV .i64 0)), (48, (bV false)), (47, (bV false))] ?_))
     refine wl_end rfl (seq_n hK32 (cF (wp_skip (seq_n hK31 (wp_seq_k fun K34 hK34 => reg_lit ?_)))))
     refine wq_p 2 [(57, (bV true)), (56, (iV .i64 0))] ?_
     refine wl_end rfl (seq_n hK34 (cT (reg_lit ?_)))
     refine wq_p 1 [(58, (lV Ad sd.length cd))] ?_
     refine wq_to (some 59) (x_bs0B h30 (by kernel_rfl)) ?_
     rintro _ w35 ⟨A35, rfl, h35⟩
     refine wq_p 1 [(60, (lV A1 b.length c1))] ?_
     refine wq_to (some 61) (x_appG h35 0 rfl (.tmp 59) (.tmp 60) (by kernel_rfl) (lV A1 b.length c1) (by kernel_rfl) (by kernel_rfl) (h35.rd 1 rfl) (by simp; omega) (b) (b.length) rfl rfl) ?_
     rintro _ w36 ⟨A36, c36, rfl, h36⟩
     refine wq_to (some 62) (x_bs h36 26 ([(lV A36 b.length c36)]) 1 (by kernel_rfl)) ?_
     rintro _ w37 ⟨g37, rfl, h37⟩
     refine wq_to (some 63) (xPu h37 2 0 rfl rfl (.tmp 58) (.tmp 62) 22 24 (lV none 0 0) (by have := hrow.1; omega) (by have := hrow.1; unfold maxLen; omega) (xd ++ [[(lV A36 b.length c36)]]) ((sd ++ [b]).length) (hyn := (by rw [List.length_append, List.length_append, hrow.1]; rfl))) ?_
     rintro _ w38 ⟨A38, c38, rfl, h38⟩
     refine wq_p 1 [(4, (lV A38 ((sd ++ [b]).length) c38))] ?_
     refine wl_end rfl (blk_n (seq_n hK22 ?_))
     have hx39 := h38.lext (hx30 _ (LExt.refl (fun _ => False) w LL)) 1 (v := (lV A36 b.length c36)) (b := b) rfl (fun _ hq => hq.2)
     have h39 := h38.freeze 0 rfl 1 (v := (lV A36 b.length c36)) (b := b) rfl (fun hb => OB.sb hb) (fun _ hq => hq.2)
     have hm39 : ((lV A36 b.length c36), b) ∈ (((lV A36 b.length c36), b) :: L30) := List.mem_cons_self
     have hs39 : ∀ p, p ∈ L30 -> p ∈ (((lV A36 b.length c36), b) :: L30) := fun p hp => List.mem_cons_of_mem _ hp
     generalize hL39 : ((lV A36 b.length c36), b) :: L30 = L39 at *
     refine reg_lit ?_
     refine wq_v (some 64) (iV .i64 ((n : Int) + 1)) (exec_add _ _ _ _ rfl ((n : Int)) 1 (by kernel_rfl) (by kernel_rfl) ((n : Int) + 1) rfl (by omega) (by omega) _) (wq_p 1 [(29, (iV .i64 ((n : Int) + 1)))] ?_)
     refine wl_end rfl ?_
     have hq40 := h39.monoS 4 rfl (fun p hp => (hs39 _ hp))
     refine ⟨st.length - (n + 1), (by omega), (n + 1), G30, L39, ({ Sa with queue := Sa.queue ++ [(1, b)] }), ((sd ++ [b])), (xd ++ [[(lV A36 b.length c36)]]), A38, c38, (⟨Wa.P ++ [(1, b)], Wa.ks⟩), (by omega), (hR.push hq (by omega)), ((hrow.mono (fun _ _ h => h.mono (fun p hp => (hs39 _ (hs30 _ hp))))).push ⟨A36, c36, rfl, hm39⟩), (fun p hp => (hs39 _ (hs30 _ (hsub p hp)))), rfl, (pEq 184), hq40.sel [1, 2, 3, 4, 5, 6, 7, 8, 9, 10] [0, 4] (by kernel_rfl) rfl rfl⟩
    ·
     have hql := hR.queue
     have hl8 := hR.l8
     have hq : sd.length = 8 := by omega
     have h41 := h18.roF 0 rfl (hsub _ hm1)
     refine reg_lit ?_
     refine wq_p 3 [(38, (pt p 1)), (37, (pt p 0)), (36, (pt p 0))] (wq_v (some 39) (pt e.sa 0) (eL (h41.at_ 1 rfl) 29 (.tmp 38) 1 _) (wq_p 1 [(40, (lV A1 b.length c1))] ?_))
     refine wq_to (some 41) (x_ses h41 3 rfl 1 rfl 9 [(pt e.sa 0), (lV A1 b.length c1)] (by kernel_rfl) (sPush_full (h41.at_ 3 rfl) (h41.rd 1 rfl) (h41.rdis 1 3 _ _ rfl rfl) b A1 c1 (h41.rd 0 rfl) (h41.rdis 0 3 _ _ rfl rfl) (by omega) hR.inv.ab.ov (by omega))) ?_
     rintro _ w42 ⟨G42, L42, rfl, hs42, hx42, h42⟩
     refine wq_p 1 [(7, (iV .i64 8))] ?_
     refine wl_end rfl (seq_n hK27 (wp_seq_k fun K43 hK43 => wp_seq_k fun K44 hK44 => ?_))
     refine wp_reset 184 [(0, (lV A st.length c)), (3, (pt p 0)), (4, (lV Ad sd.length cd)), (6, (lV A1 b.length c1)), (7, (iV .i64 8)), (21, (bV false)), (24, (bV false)), (27, (lV A st.length c)), (28, (iV .i64 ((st.length : Int)))), (29, (iV .i64 ((n : Int)))), (30, (bV (decide ((n : Int) < (st.length : Int))))), (35, (bV false))] (fun x45 => ?_)
     refine reg_lit ?_
     refine wq_p 4 [(45, (iV .i64 ((sd.length : Int)))), (44, (lV Ad sd.length cd)), (43, (bV false)), (42, (iV .i64 8))] (wq_v (some 46) (.bool false) (eqI (bV (decide ((sd.length : Int) < 8))) (congrArg bV (by simp; omega))) (wq_p 9 [(55, (bV false)), (54, (bV false)), (53, (bV false)), (52, (iV .i64 8)), (51, (bV true)), (50, (bV true)), (49, (iV .i64 8)), (48, (bV false)), (47, (bV false))] ?_))
     refine wl_end rfl (seq_n hK44 (cF (wp_skip (seq_n hK43 (wp_seq_k fun K46 hK46 => reg_lit ?_)))))
     refine wq_p 2 [(57, (bV false)), (56, (iV .i64 8))] ?_
     refine wl_end rfl (seq_n hK46 (cF (wp_skip (blk_n (seq_n hK22 ?_)))))
     refine reg_lit ?_
     refine wq_v (some 64) (iV .i64 ((n : Int) + 1)) (exec_add _ _ _ _ rfl ((n : Int)) 1 (by kernel_rfl) (by kernel_rfl) ((n : Int) + 1) rfl (by omega) (by omega) _) (wq_p 1 [(29, (iV .i64 ((n : Int) + 1)))] ?_)
     refine wl_end rfl ?_
     refine ⟨st.length - (n + 1), (by omega), (n + 1), G42, L42, Sa, sd, xd, Ad, cd, Wa, (by omega), hR, (hrow.mono (fun _ _ h => h.mono (fun p hp => (hs42 _ hp)))), (fun p hp => (hs42 _ (hsub p hp))), rfl, (pEq 184), h42.sel [0, 1, 2, 3, 4, 5, 6, 7, 8, 9] [0, 3] (by kernel_rfl) rfl rfl⟩
  ·
   refine wp_exit (seq_e (seq_e (blk_e (seq_n hK15 (wp_seq_k fun K47 hK47 => wp_seq_k fun K48 hK48 => reg_lit ?_)))))
   refine wq_p 3 [(67, (pt p 1)), (66, (pt p 0)), (65, (pt p 0))] (wq_v (some 68) (pt e.sa 0) (eL (h18.at_ 1 rfl) 29 (.tmp 67) 1 _) ?_)
   refine wq_to (some 69) (x_dp h18 10 [(pt e.sa 0)] (by kernel_rfl) (waits_any (h18.at_ 3 rfl))) ?_
   rintro _ w49 ⟨rfl, h49⟩
   refine wq_p 2 [(71, (iV .i64 ((sd.length : Int)))), (70, (lV Ad sd.length cd))] (wq_v (some 72) (.bool false) (eqI (bV (((Sa.queue.length : Int)) != ((sd.length : Int)))) (congrArg bV (by have := hR.queue; simp; omega))) ?_)
   refine wl_end rfl (seq_n hK48 (cF (wp_skip (seq_n hK47 (wp_seq_k fun K50 hK50 => wp_seq_k fun K51 hK51 => reg_lit ?_)))))
   refine wq_p 3 [(75, (iV .i64 0)), (74, (iV .i64 ((sd.length : Int)))), (73, (lV Ad sd.length cd))] ?_
   refine wl_end rfl (seq_n hK51 (wp_block ?_))
   have hq52 := h49.monoS 4 rfl hsub
   refine wp_loopm (fun mM xX aA wL => ∃ (i : Nat) (F : Nat -> Prop) (s : STab) (Ga : Nat -> Prop) (Gb : Nat -> Prop) (LK : List (Value × Bytes)) (Sa : Ses) (Sb : Ses) (W1 : Way), (i <= sd.length) /\ (RoomI s Sa Sb W1 ⟨[], [sA0.ki]⟩ sd i) /\ (∀ p, p ∈ LL -> p ∈ LK) /\ mM = sd.length - (i) /\ aA = patch xX 184 [(0, (lV A st.length c)), (3, (pt p 0)), (4, (lV Ad sd.length cd)), (21, (bV false)), (24, (bV false)), (27, (lV A st.length c)), (28, (iV .i64 ((st.length : Int)))), (29, (iV .i64 ((n : Int)))), (30, (bV (decide ((n : Int) < (st.length : Int))))), (72, (bV false)), (73, (lV Ad sd.length cd)), (74, (iV .i64 ((sd.length : Int)))), (75, (iV .i64 ((i : Int))))] /\ Hp (fun _ => False) w wL [rF LK, rRV 1 A c xs] [rOV 26 1 ((lV Ad sd.length cd)) xd, rBlk p 34 ([(pt e.tb 0), (pt e.sa 0), (pt e.sb 0), (lV e.wA T.wire.length e.wc), (lV e.A0 T.sd0.length e.c0), (lV e.A1 T.sd1.length e.c1), (lV e.A2 T.cm0.length e.c2), (lV e.A3 T.cm1.length e.c3), (iV .i64 ((T.k0 : Int))), (iV .i64 ((T.k1 : Int)))]), rTab F e.tb s, rS Ga e.tb e.sa LK Sa, rS Gb e.tb e.sb LK Sb, rOV 38 6 ((lV e.wA T.wire.length e.wc)) e.wx, rOV 26 1 ((lV e.A0 T.sd0.length e.c0)) e.x0, rOV 26 1 ((lV e.A1 T.sd1.length e.c1)) e.x1, rOV 26 1 ((lV e.A2 T.cm0.length e.c2)) e.x2, rOV 26 1 ((lV e.A3 T.cm1.length e.c3)) e.x3]) ⟨_, 0, e.F, T.s, Ga, e.Gb, LL, Sa, T.b, Wa, (by omega), hR, (fun p hp => hp), rfl, (pEq 184), hq52.sel [0, 1, 2, 3, 4, 5, 6, 7, 8, 9] [0, 1] (by kernel_rfl) rfl rfl⟩ ?_
   rintro _ x53 _ w53 ⟨i, F, s, Ga, Gb, LK, Sa, Sb, W1, hi, hR, hsb, rfl, rfl, h53⟩
   refine wp_seq_k fun K54 hK54 => reg_lit ?_
   refine wq_p 1 [(76, (bV (decide ((i : Int) < (sd.length : Int)))))] ?_
   refine wl_end rfl (seq_n hK54 (wp_seq_k fun K55 hK55 => ?_))
   refine wp_if ((i : Int) < (sd.length : Int)) (by kernel_rfl) (fun b56 => ?_) (fun b56 => ?_)
   ·
    refine wp_skip (seq_n hK55 (wp_seq_k fun K57 hK57 => wp_block (wp_seq_k fun K58 hK58 => ?_)))
    obtain ⟨b, hb0⟩ : ∃ b, sd[i]? = some b := ⟨_, List.getElem?_eq_getElem (by omega)⟩
    obtain ⟨x2, hx2, A2, c2, rfl, hm2⟩ := hrow.get hb0
    obtain ⟨s2, a2, f, r3, s3, b3, g, r5, s5, W2, hO⟩ := hR.round hb0
    have hl8 := hR.l8
    have hsq := hO.seq
    have hqw := hO.next.queue
    refine reg_lit ?_
    refine wq_p 1 [(77, (iV .i64 ((i : Int))))] (wq_v (some 78) (eAt Ad (i * 1 + 0)) (eIx (OV.rvn (h53.at_ 0 rfl)).2 i sd.length (OV.rvn (h53.at_ 0 rfl)).1 (by omega) 22 (.tmp 73) (.tmp 75) .i64 26) (wq_v (some 79) (lV A2 b.length c2) (eEl (OV.rvn (h53.at_ 0 rfl)).2 i 0 ([(lV A2 b.length c2)]) hx2 26 (.tmp 78) (lV A2 b.length c2)) (wq_p 2 [(9, (lV A2 b.length c2)), (8, (iV .i64 ((i : Int))))] ?_)))
    refine wl_end rfl (seq_n hK58 (wp_seq_k fun K59 hK59 => reg_lit ?_))
    refine wq_p 3 [(83, (pt p 1)), (82, (pt p 0)), (81, (pt p 0))] (wq_v (some 84) (pt e.sa 0) (eL (h53.at_ 1 rfl) 29 (.tmp 83) 1 _) ?_)
    refine wq_to (some 85) (x_two h53 2 3 rfl rfl (by kernel_rfl) 0 rfl 11 [(pt e.sa 0)] (by kernel_rfl) (send_of (h53.at_ 2 rfl) (h53.at_ 3 rfl) (h53.rd 0 rfl) (h53.dis 2 3 _ _ rfl rfl (by decide)) (h53.rdis 0 2 _ _ rfl rfl) (h53.rdis 0 3 _ _ rfl rfl) hO.send hO.n1.sm.q (by have := hO.n1.sm.sent; omega) (by have := hO.n1.sm.eo; omega) (by have := hO.n1.ks; omega) (by have := hO.n1.bs; omega))) ?_
    rintro _ w60 ⟨F60, G60, L60, ⟨_, rfl, Af60, cf60, rfl, hmf60⟩, hs60, hx60, h60⟩
    refine wq_p 3 [(87, (bV true)), (86, (aV ([(sV f.src), (sV f.dst), (iV .i64 f.sid), (iV .i64 f.epoch), (iV .i64 f.seq), (lV Af60 f.box.length cf60)]).toArray)), (80, (Value.tuple #[(aV ([(sV f.src), (sV f.dst), (iV .i64 f.sid), (iV .i64 f.epoch), (iV .i64 f.seq), (lV Af60 f.box.length cf60)]).toArray), (bV true)]))] ?_
    refine wq_to (some 10) (xN h60 38 ([(sV ByteArray.empty), (sV ByteArray.empty), (iV .i64 0), (iV .i64 0), (iV .i64 0), (lV none 0 0)])) ?_
    rintro _ w61 ⟨g61, rfl, h61⟩
    refine wq_to none (xSs h61 0 38 (.tmp 10) (.tmp 86) 0 ([(sV f.src), (sV f.dst), (iV .i64 f.sid), (iV .i64 f.epoch), (iV .i64 f.seq), (lV Af60 f.box.length cf60)]) ([(sV f.src), (sV f.dst), (iV .i64 f.sid), (iV .i64 f.epoch), (iV .i64 f.seq), (lV Af60 f.box.length cf60)])) ?_
    rintro _ w62 h62
    refine wq_p 1 [(11, (bV true))] ?_
    refine wl_end rfl (seq_n hK59 (wp_seq_k fun K63 hK63 => reg_lit ?_))
    refine wq_p 3 [(91, (pt p 1)), (90, (pt p 0)), (89, (pt p 0))] (wq_v (some 92) (pt e.sa 0) (eL (h62.at_ 2 rfl) 29 (.tmp 91) 1 _) ?_)
    refine wq_to (some 93) (x_two h62 3 4 rfl rfl (by kernel_rfl) 0 rfl 11 [(pt e.sa 0)] (by kernel_rfl) (send_of (h62.at_ 3 rfl) (h62.at_ 4 rfl) (h62.rd 0 rfl) (h62.dis 3 4 _ _ rfl rfl (by decide)) (h62.rdis 0 3 _ _ rfl rfl) (h62.rdis 0 4 _ _ rfl rfl) hO.again hO.n2.sm.q (by have := hO.n2.sm.sent; omega) (by have := hO.n2.sm.eo; omega) (by have := hO.n2.ks; omega) (by have := hO.n2.bs; omega))) ?_
    rintro _ w64 ⟨F64, G64, L64, ⟨_, rfl, Af64, cf64, rfl, hmf64⟩, hs64, hx64, h64⟩
    refine wq_p 3 [(95, (bV true)), (94, (aV ([(sV f.src), (sV f.dst), (iV .i64 f.sid), (iV .i64 f.epoch), (iV .i64 f.seq), (lV Af64 f.box.length cf64)]).toArray)), (88, (Value.tuple #[(aV ([(sV f.src), (sV f.dst), (iV .i64 f.sid), (iV .i64 f.epoch), (iV .i64 f.seq), (lV Af64 f.box.length cf64)]).toArray), (bV true)]))] ?_
    refine wq_to (some 12) (xN h64 38 ([(sV ByteArray.empty), (sV ByteArray.empty), (iV .i64 0), (iV .i64 0), (iV .i64 0), (lV none 0 0)])) ?_
    rintro _ w65 ⟨g65, rfl, h65⟩
    refine wq_to none (xSs h65 0 38 (.tmp 12) (.tmp 94) 0 ([(sV f.src), (sV f.dst), (iV .i64 f.sid), (iV .i64 f.epoch), (iV .i64 f.seq), (lV Af64 f.box.length cf64)]) ([(sV f.src), (sV f.dst), (iV .i64 f.sid), (iV .i64 f.epoch), (iV .i64 f.seq), (lV Af64 f.box.length cf64)])) ?_
    rintro _ w66 h66
    refine wq_p 1 [(13, (bV true))] ?_
    refine wl_end rfl (seq_n hK63 (wp_seq_k fun K67 hK67 => ?_))
    refine wp_reset 184 [(0, (lV A st.length c)), (3, (pt p 0)), (4, (lV Ad sd.length cd)), (8, (iV .i64 ((i : Int)))), (9, (lV A2 b.length c2)), (10, (pt g61 0)), (11, (bV true)), (12, (pt g65 0)), (13, (bV true)), (21, (bV false)), (24, (bV false)), (27, (lV A st.length c)), (28, (iV .i64 ((st.length : Int)))), (29, (iV .i64 ((n : Int)))), (30, (bV (decide ((n : Int) < (st.length : Int))))), (72, (bV false)), (73, (lV Ad sd.length cd)), (74, (iV .i64 ((sd.length : Int)))), (75, (iV .i64 ((i : Int)))), (76, (bV (decide ((i : Int) < (sd.length : Int)))))] (fun x68 => ?_)
    have hJ69 : ∀ (FH : Nat -> Prop), ∀ (GH : Nat -> Prop), ∀ (LH : List (Value × Bytes)), ∀ (AcH : Option Addr), ∀ (ccH : Nat), ∀ (AgH : Option Addr), ∀ (cgH : Nat), ∀ (gH : Nat), ((lV AcH b.length ccH, b) ∈ LH) -> ((lV AgH g.box.length cgH, g.box) ∈ LH) -> (∀ p, p ∈ L64 -> p ∈ LH) -> ∀ (xJ69 : Nat -> Value) (aJ : Act) (wJ69 : World), aJ = patch xJ69 184 [(0, (lV A st.length c)), (3, (pt p 0)), (4, (lV Ad sd.length cd)), (8, (iV .i64 ((i : Int)))), (9, (lV A2 b.length c2)), (10, (pt g61 0)), (11, (bV true)), (12, (pt g65 0)), (13, (bV true)), (14, (pt gH 0)), (15, (iV .i64 0)), (21, (bV false)), (24, (bV false)), (27, (lV A st.length c)), (28, (iV .i64 ((st.length : Int)))), (29, (iV .i64 ((n : Int)))), (30, (bV (decide ((n : Int) < (st.length : Int))))), (72, (bV false)), (73, (lV Ad sd.length cd)), (74, (iV .i64 ((sd.length : Int)))), (75, (iV .i64 ((i : Int)))), (76, (bV (decide ((i : Int) < (sd.length : Int)))))] -> Hp (fun _ => False) w wJ69 [rF LH, rF L64, rF L60, rF LK, rRV 1 A c xs] [rBlk gH 42 ([(lV AcH b.length ccH), (bV true), (sV g.src), (sV g.dst), (iV .i64 g.sid), (iV .i64 g.epoch), (iV .i64 g.seq), (lV AgH g.box.length cgH), (bV true)]), rBlk g65 38 ([(sV f.src), (sV f.dst), (iV .i64 f.sid), (iV .i64 f.epoch), (iV .i64 f.seq), (lV Af64 f.box.length cf64)]), rBlk g61 38 ([(sV f.src), (sV f.dst), (iV .i64 f.sid), (iV .i64 f.epoch), (iV .i64 f.seq), (lV Af60 f.box.length cf60)]), rOV 26 1 ((lV Ad sd.length cd)) xd, rBlk p 34 ([(pt e.tb 0), (pt e.sa 0), (pt e.sb 0), (lV e.wA T.wire.length e.wc), (lV e.A0 T.sd0.length e.c0), (lV e.A1 T.sd1.length e.c1), (lV e.A2 T.cm0.length e.c2), (lV e.A3 T.cm1.length e.c3), (iV .i64 ((T.k0 : Int))), (iV .i64 ((T.k1 : Int)))]), rTab FH e.tb s3, rS G64 e.tb e.sa L64 a2, rS GH e.tb e.sb LH b3, rOV 38 6 ((lV e.wA T.wire.length e.wc)) e.wx, rOV 26 1 ((lV e.A0 T.sd0.length e.c0)) e.x0, rOV 26 1 ((lV e.A1 T.sd1.length e.c1)) e.x1, rOV 26 1 ((lV e.A2 T.cm0.length e.c2)) e.x2, rOV 26 1 ((lV e.A3 T.cm1.length e.c3)) e.x3] -> K67 aJ wJ69 := by
      rintro FH GH LH AcH ccH AgH cgH gH hmcH hmgH hsH xJ69 _ wJ69 rfl hJh69
      refine seq_n hK67 (wp_seq_k fun K70 hK70 => ?_)
      have hJ71 : ∀ (FK : Nat -> Prop), ∀ (GK : Nat -> Prop), ∀ (LK : List (Value × Bytes)), ∀ (AcK : Option Addr), ∀ (ccK : Nat), ∀ (gK : Nat), (∀ p, p ∈ LH -> p ∈ LK) -> ∀ (xJ71 : Nat -> Value) (aJ : Act) (wJ71 : World), aJ = patch xJ71 184 [(0, (lV A st.length c)), (3, (pt p 0)), (4, (lV Ad sd.length cd)), (8, (iV .i64 ((i : Int)))), (9, (lV A2 b.length c2)), (10, (pt g61 0)), (11, (bV true)), (12, (pt g65 0)), (13, (bV true)), (14, (pt gH 0)), (15, (iV .i64 0)), (16, (pt gK 0)), (17, (iV .i64 0)), (21, (bV false)), (24, (bV false)), (27, (lV A st.length c)), (28, (iV .i64 ((st.length : Int)))), (29, (iV .i64 ((n : Int)))), (30, (bV (decide ((n : Int) < (st.length : Int))))), (72, (bV false)), (73, (lV Ad sd.length cd)), (74, (iV .i64 ((sd.length : Int)))), (75, (iV .i64 ((i : Int)))), (76, (bV (decide ((i : Int) < (sd.length : Int)))))] -> Hp (fun _ => False) w wJ71 [rF LK, rF LH, rF L64, rF L60, rF LK, rRV 1 A c xs] [rBlk gK 42 ([(lV AcK 0 ccK), (bV false), (sV ByteArray.empty), (sV ByteArray.empty), (iV .i64 0), (iV .i64 0), (iV .i64 0), (lV none 0 0), (bV false)]), rBlk gH 42 ([(lV AcH b.length ccH), (bV true), (sV g.src), (sV g.dst), (iV .i64 g.sid), (iV .i64 g.epoch), (iV .i64 g.seq), (lV AgH g.box.length cgH), (bV true)]), rBlk g65 38 ([(sV f.src), (sV f.dst), (iV .i64 f.sid), (iV .i64 f.epoch), (iV .i64 f.seq), (lV Af64 f.box.length cf64)]), rBlk g61 38 ([(sV f.src), (sV f.dst), (iV .i64 f.sid), (iV .i64 f.epoch), (iV .i64 f.seq), (lV Af60 f.box.length cf60)]), rOV 26 1 ((lV Ad sd.length cd)) xd, rBlk p 34 ([(pt e.tb 0), (pt e.sa 0), (pt e.sb 0), (lV e.wA T.wire.length e.wc), (lV e.A0 T.sd0.length e.c0), (lV e.A1 T.sd1.length e.c1), (lV e.A2 T.cm0.length e.c2), (lV e.A3 T.cm1.length e.c3), (iV .i64 ((T.k0 : Int))), (iV .i64 ((T.k1 : Int)))]), rTab FK e.tb s5, rS GK e.tb e.sa LK ((markR a2)), rS GH e.tb e.sb LH b3, rOV 38 6 ((lV e.wA T.wire.length e.wc)) e.wx, rOV 26 1 ((lV e.A0 T.sd0.length e.c0)) e.x0, rOV 26 1 ((lV e.A1 T.sd1.length e.c1)) e.x1, rOV 26 1 ((lV e.A2 T.cm0.length e.c2)) e.x2, rOV 26 1 ((lV e.A3 T.cm1.length e.c3)) e.x3] -> K70 aJ wJ71 := by
        rintro FK GK LK AcK ccK gK hsK xJ71 _ wJ71 rfl hJh71
        refine seq_n hK70 (wp_seq_k fun K72 hK72 => ?_)
        have h73 := (((hJh71.roF 0 rfl (hsK _ (hsH _ (hs64 _ hmf60)))).roF 1 rfl (hsK _ (hsH _ hmf64))).roF 2 rfl (hsK _ hmcH)).roF 3 rfl (hsK _ (hsH _ (hs64 _ (hs60 _ (hsb _ hm2)))))
        refine reg_lit ?_
        refine wq_p 8 [(122, (pt g61 4)), (121, (bV false)), (120, (bV false)), (119, (bV false)), (118, (bV true)), (117, (bV false)), (116, (bV false)), (115, (bV true))] (wq_v (some 123) (iV .i64 f.seq) (eL (h73.at_ 3 rfl) 2 (.tmp 122) 4 _) (wq_p 1 [(124, (iV .i64 ((i : Int))))] (wq_v (some 125) (iV .i64 ((i : Int) + 1)) (exec_add _ _ _ _ rfl ((i : Int)) 1 (by kernel_rfl) (by kernel_rfl) ((i : Int) + 1) rfl (by omega) (by omega) _) ?_)))
        refine wq_v (some 126) (.bool false) (eqI (bV (f.seq != ((i : Int) + 1))) (congrArg bV (by rw [hsq]; simp))) (wq_p 3 [(129, (pt g61 5)), (128, (bV false)), (127, (bV false))] (wq_v (some 130) (lV Af60 f.box.length cf60) (eL (h73.at_ 3 rfl) 26 (.tmp 129) 5 _) (wq_p 1 [(131, (pt g65 5))] ?_)))
        refine wq_v (some 132) (lV Af64 f.box.length cf64) (eL (h73.at_ 2 rfl) 26 (.tmp 131) 5 _) ?_
        refine wq_to (some 133) (x_same h73 f.box f.box (lV Af60 f.box.length cf60) (lV Af64 f.box.length cf64) (by kernel_rfl) (h73.rd 3 rfl) (h73.rd 2 rfl) true (by simp)) ?_
        rintro _ w74 ⟨rfl, h74⟩
        refine wq_p 8 [(141, (pt gH 1)), (140, (bV false)), (139, (bV false)), (138, (bV false)), (137, (iV .i64 0)), (136, (bV false)), (135, (bV false)), (134, (bV false))] (wq_v (some 142) (bV true) (eL (h74.at_ 1 rfl) 4 (.tmp 141) 1 _) (wq_p 4 [(146, (pt gH 0)), (145, (bV false)), (144, (bV false)), (143, (bV false))] (wq_v (some 147) (lV AcH b.length ccH) (eL (h74.at_ 1 rfl) 26 (.tmp 146) 0 _) ?_)))
        refine wq_p 1 [(148, (lV A2 b.length c2))] ?_
        refine wq_to (some 149) (x_same h74 b b (lV AcH b.length ccH) (lV A2 b.length c2) (by kernel_rfl) (h74.rd 1 rfl) (h74.rd 0 rfl) true (by simp)) ?_
        rintro _ w75 ⟨rfl, h75⟩
        refine wq_p 8 [(157, (pt gK 1)), (156, (bV false)), (155, (bV false)), (154, (bV false)), (153, (iV .i64 0)), (152, (bV false)), (151, (bV false)), (150, (bV false))] (wq_v (some 158) (bV false) (eL (h75.at_ 0 rfl) 4 (.tmp 157) 1 _) (wq_p 5 [(163, (pt p 1)), (162, (pt p 0)), (161, (pt p 0)), (160, (bV false)), (159, (bV false))] (wq_v (some 164) (pt e.sa 0) (eL (h75.at_ 5 rfl) 29 (.tmp 163) 1 _) ?_)))
        refine wq_to (some 165) (x_dp h75 10 [(pt e.sa 0)] (by kernel_rfl) (waits_any (h75.at_ 7 rfl))) ?_
        rintro _ w76 ⟨rfl, h76⟩
        refine wq_p 2 [(167, (iV .i64 ((sd.length : Int)))), (166, (lV Ad sd.length cd))] (wq_v (some 168) (iV .i64 ((((sd.length) - 1 : Nat) : Int))) (exec_sub _ _ _ _ rfl ((sd.length : Int)) 1 (by kernel_rfl) (by kernel_rfl) ((((sd.length) - 1 : Nat) : Int)) (by omega) (by omega) (by omega) _) (wq_p 1 [(169, (iV .i64 ((i : Int))))] (wq_v (some 170) (iV .i64 ((((((sd.length) - 1)) - i : Nat) : Int))) (exec_sub _ _ _ _ rfl ((((sd.length) - 1 : Nat) : Int)) ((i : Int)) (by kernel_rfl) (by kernel_rfl) ((((((sd.length) - 1)) - i : Nat) : Int)) (by omega) (by omega) (by omega) _) ?_)))
        refine wq_v (some 171) (.bool false) (eqI (bV (((((markR a2)).queue.length : Int)) != ((((((sd.length) - 1)) - i : Nat) : Int)))) (congrArg bV (by simp; omega))) (wq_p 1 [(172, (bV false))] ?_)
        refine wl_end rfl (seq_n hK72 (cF (wp_skip (blk_n (seq_n hK57 (reg_lit ?_))))))
        refine wq_v (some 173) (iV .i64 ((i : Int) + 1)) (exec_add _ _ _ _ rfl ((i : Int)) 1 (by kernel_rfl) (by kernel_rfl) ((i : Int) + 1) rfl (by omega) (by omega) _) (wq_p 1 [(75, (iV .i64 ((i : Int) + 1)))] ?_)
        refine wl_end rfl ?_
        have hq77 := h76.monoS 8 rfl (fun p hp => (hsK _ hp))
        refine ⟨sd.length - (i + 1), (by omega), (i + 1), FK, s5, GK, GH, LK, ((markR a2)), b3, W2, (by omega), hO.next, (fun p hp => (hsK _ (hsH _ (hs64 _ (hs60 _ (hsb p hp)))))), rfl, (pEq 184), hq77.sel [4, 5, 6, 7, 8, 9, 10, 11, 12, 13] [4, 9] (by kernel_rfl) rfl rfl⟩
      refine pR_go hJh69 12 (fun W => (rBlk p 34 ([(pt e.tb 0), (pt e.sa 0), (pt e.sb 0), (lV e.wA T.wire.length e.wc), (lV e.A0 T.sd0.length e.c0), (lV e.A1 T.sd1.length e.c1), (lV e.A2 T.cm0.length e.c2), (lV e.A3 T.cm1.length e.c3), (iV .i64 ((T.k0 : Int))), (iV .i64 ((T.k1 : Int)))])).Φ W /\ (rBlk gH 42 ([(lV AcH b.length ccH), (bV true), (sV g.src), (sV g.dst), (iV .i64 g.sid), (iV .i64 g.epoch), (iV .i64 g.seq), (lV AgH g.box.length cgH), (bV true)])).Φ W /\ True) [(107, [3], 0), (108, [106], 1), (109, [107], 2), (110, [108], 4), (111, [14], 0), (112, [110], 16), (113, [109, 111], 40), (106, [112], 64), (114, [105], 128), (115, [105], 128), (17, [], 0), (0, [16, 113], 1535), (18, [114], 4095)] rfl (fun _ d _ _ _ h => by cases d <;> exact h) ?_
      intro hs78 w78 h78
      refine pR_p 9 [0, 1, 2, 4] [(110, (pt gH 2)), (108, (pt p 1)), (107, (pt p 0)), (106, (pt p 0))] 23 hs78 ⟨h78.at_ 4 rfl, h78.at_ 0 rfl, trivial⟩ ?_
      refine pR_v 3 (some 109) (pt e.sa 0) 31 rfl hs78 ⟨h78.at_ 4 rfl, h78.at_ 0 rfl, trivial⟩ (fun W hW => eL hW.1 29 (.tmp 108) 1 _) ?_
      refine pR_v 5 (some 111) (aV ([(sV g.src), (sV g.dst), (iV .i64 g.sid), (iV .i64 g.epoch), (iV .i64 g.seq), (lV AgH g.box.length cgH)]).toArray) 63 rfl hs78 ⟨h78.at_ 4 rfl, h78.at_ 0 rfl, trivial⟩ (fun W hW => eLs hW.2.1 38 (.tmp 110) 2 ([(sV g.src), (sV g.dst), (iV .i64 g.sid), (iV .i64 g.epoch), (iV .i64 g.seq), (lV AgH g.box.length cgH)])) ?_
      refine pR_or 6 10 hs78 ?_ ?_
      ·
       have hq79 := h78.monoS 6 rfl (fun p hp => (hsH _ hp))
       refine pR_op 6 (some 112) 127 rfl (x_two hq79 5 6 rfl rfl (by kernel_rfl) 0 rfl 12 [(pt e.sa 0), (aV ([(sV g.src), (sV g.dst), (iV .i64 g.sid), (iV .i64 g.epoch), (iV .i64 g.seq), (lV AgH g.box.length cgH)]).toArray)] (by kernel_rfl) (take_of (hq79.at_ 5 rfl) (hq79.at_ 6 rfl) (hq79.rd 0 rfl) (hq79.dis 5 6 _ _ rfl rfl (by decide)) (hq79.rdis 0 5 _ _ rfl rfl) (hq79.rdis 0 6 _ _ rfl rfl) hO.take5 AgH cgH hmgH (hsH _ (hs64 _ (hs60 _ (hsb _ (hsub _ hnil))))) hO.said5 (by have := hO.n4.ks; omega) (by have := hO.n4.bs; omega) hO.n4.bd (by have := hO.n4.sm.sent; omega) (by have := hO.n4.sm.got; omega) (by have := hO.n4.sm.ei; omega) hO.n4.sm.fq)) ?_
       rintro _ w80 ⟨F80, G80, L80, ⟨_, rfl, Ac80, cc80, _, rfl, hmc80, rfl⟩, hs80, hx80, h80⟩
       refine ⟨fun _ => ⟨h80.at_ 4 rfl, h80.at_ 0 rfl, trivial⟩, ?_⟩
       refine pR_p 3 [7, 8, 9] [(114, (iV .i64 0)), (113, (aV ([(lV Ac80 0 cc80), (bV false), (sV ByteArray.empty), (sV ByteArray.empty), (iV .i64 0), (iV .i64 0), (iV .i64 0), (lV none 0 0), (bV false)]).toArray)), (105, (Value.tuple #[(aV ([(lV Ac80 0 cc80), (bV false), (sV ByteArray.empty), (sV ByteArray.empty), (iV .i64 0), (iV .i64 0), (iV .i64 0), (lV none 0 0), (bV false)]).toArray), (iV .i64 0)]))] 1023 hs78 ⟨h80.at_ 4 rfl, h80.at_ 0 rfl, trivial⟩ ?_
       refine pR_to 10 (some 16) 2047 rfl hs78 (xN h80 42 ([(lV none 0 0), (bV false), (sV ByteArray.empty), (sV ByteArray.empty), (iV .i64 0), (iV .i64 0), (iV .i64 0), (lV none 0 0), (bV false)])) ?_
       rintro _ w81 ⟨g81, rfl, h81⟩
       refine ⟨fun _ => ⟨h81.at_ 5 rfl, h81.at_ 1 rfl, trivial⟩, ?_⟩
       refine pR_to 11 none 4095 rfl hs78 (xSs h81 0 42 (.tmp 16) (.tmp 113) 0 ([(lV Ac80 0 cc80), (bV false), (sV ByteArray.empty), (sV ByteArray.empty), (iV .i64 0), (iV .i64 0), (iV .i64 0), (lV none 0 0), (bV false)]) ([(lV Ac80 0 cc80), (bV false), (sV ByteArray.empty), (sV ByteArray.empty), (iV .i64 0), (iV .i64 0), (iV .i64 0), (lV none 0 0), (bV false)])) ?_
       rintro _ w82 h82
       refine ⟨fun _ => ⟨h82.at_ 5 rfl, h82.at_ 1 rfl, trivial⟩, ?_⟩
       refine pR_to 12 (some 17) 8191 rfl hs78 (OpTo.run (iV .i64 0) (pureOp_run (by kernel_rfl) _) (R := fun v w => v = (iV .i64 0) /\ w82 = w) ⟨rfl, rfl⟩) ?_
       rintro _ _ ⟨rfl, rfl⟩
       refine ⟨fun h => absurd h (by decide), ?_⟩
       refine pR_done hs78 ?_ _
       exact hJ71 F80 G80 L80 Ac80 cc80 g81 ((fun p hp => (hs80 _ hp))) _ _ _ (pEq 184) (h82.sel [0, 1, 2, 3, 4, 5, 6, 7, 8, 9, 10, 11, 12, 13] [0, 1, 2, 3, 0, 5] (by kernel_rfl) rfl rfl)
      ·
       refine pR_op 10 (some 16) 1087 rfl (xN h78 42 ([(lV none 0 0), (bV false), (sV ByteArray.empty), (sV ByteArray.empty), (iV .i64 0), (iV .i64 0), (iV .i64 0), (lV none 0 0), (bV false)])) ?_
       rintro _ w83 ⟨g83, rfl, h83⟩
       refine ⟨fun _ => ⟨h83.at_ 5 rfl, h83.at_ 1 rfl, trivial⟩, ?_⟩
       have hq84 := h83.monoS 7 rfl (fun p hp => (hsH _ hp))
       refine pR_to 6 (some 112) 1151 rfl hs78 (x_two hq84 6 7 rfl rfl (by kernel_rfl) 0 rfl 12 [(pt e.sa 0), (aV ([(sV g.src), (sV g.dst), (iV .i64 g.sid), (iV .i64 g.epoch), (iV .i64 g.seq), (lV AgH g.box.length cgH)]).toArray)] (by kernel_rfl) (take_of (hq84.at_ 6 rfl) (hq84.at_ 7 rfl) (hq84.rd 0 rfl) (hq84.dis 6 7 _ _ rfl rfl (by decide)) (hq84.rdis 0 6 _ _ rfl rfl) (hq84.rdis 0 7 _ _ rfl rfl) hO.take5 AgH cgH hmgH (hsH _ (hs64 _ (hs60 _ (hsb _ (hsub _ hnil))))) hO.said5 (by have := hO.n4.ks; omega) (by have := hO.n4.bs; omega) hO.n4.bd (by have := hO.n4.sm.sent; omega) (by have := hO.n4.sm.got; omega) (by have := hO.n4.sm.ei; omega) hO.n4.sm.fq)) ?_
       rintro _ w85 ⟨F85, G85, L85, ⟨_, rfl, Ac85, cc85, _, rfl, hmc85, rfl⟩, hs85, hx85, h85⟩
       refine ⟨fun _ => ⟨h85.at_ 5 rfl, h85.at_ 1 rfl, trivial⟩, ?_⟩
       refine pR_p 2 [7, 8, 9] [(114, (iV .i64 0)), (113, (aV ([(lV Ac85 0 cc85), (bV false), (sV ByteArray.empty), (sV ByteArray.empty), (iV .i64 0), (iV .i64 0), (iV .i64 0), (lV none 0 0), (bV false)]).toArray)), (105, (Value.tuple #[(aV ([(lV Ac85 0 cc85), (bV false), (sV ByteArray.empty), (sV ByteArray.empty), (iV .i64 0), (iV .i64 0), (iV .i64 0), (lV none 0 0), (bV false)]).toArray), (iV .i64 0)]))] 2047 hs78 ⟨h85.at_ 5 rfl, h85.at_ 1 rfl, trivial⟩ ?_
       refine pR_to 11 none 4095 rfl hs78 (xSs h85 0 42 (.tmp 16) (.tmp 113) 0 ([(lV Ac85 0 cc85), (bV false), (sV ByteArray.empty), (sV ByteArray.empty), (iV .i64 0), (iV .i64 0), (iV .i64 0), (lV none 0 0), (bV false)]) ([(lV Ac85 0 cc85), (bV false), (sV ByteArray.empty), (sV ByteArray.empty), (iV .i64 0), (iV .i64 0), (iV .i64 0), (lV none 0 0), (bV false)])) ?_
       rintro _ w86 h86
       refine ⟨fun _ => ⟨h86.at_ 5 rfl, h86.at_ 1 rfl, trivial⟩, ?_⟩
       refine pR_to 12 (some 17) 8191 rfl hs78 (OpTo.run (iV .i64 0) (pureOp_run (by kernel_rfl) _) (R := fun v w => v = (iV .i64 0) /\ w86 = w) ⟨rfl, rfl⟩) ?_
       rintro _ _ ⟨rfl, rfl⟩
       refine ⟨fun h => absurd h (by decide), ?_⟩
       refine pR_done hs78 ?_ _
       exact hJ71 F85 G85 L85 Ac85 cc85 g83 ((fun p hp => (hs85 _ hp))) _ _ _ (pEq 184) (h86.sel [0, 1, 2, 3, 4, 5, 6, 7, 8, 9, 10, 11, 12, 13] [0, 1, 2, 3, 0, 5] (by kernel_rfl) rfl rfl)
    refine pR_go h66 11 (fun W => (rBlk p 34 ([(pt e.tb 0), (pt e.sa 0), (pt e.sb 0), (lV e.wA T.wire.length e.wc), (lV e.A0 T.sd0.length e.c0), (lV e.A1 T.sd1.length e.c1), (lV e.A2 T.cm0.length e.c2), (lV e.A3 T.cm1.length e.c3), (iV .i64 ((T.k0 : Int))), (iV .i64 ((T.k1 : Int)))])).Φ W /\ (rBlk g61 38 ([(sV f.src), (sV f.dst), (iV .i64 f.sid), (iV .i64 f.epoch), (iV .i64 f.seq), (lV Af60 f.box.length cf60)])).Φ W /\ True) [(98, [3], 0), (99, [97], 1), (100, [98], 2), (101, [99], 4), (102, [10], 0), (103, [100, 101], 24), (97, [102], 32), (104, [96], 64), (105, [96], 64), (15, [], 0), (0, [14, 103], 767), (16, [104], 2047)] rfl (fun _ d _ _ _ h => by cases d <;> exact h) ?_
    intro hs87 w87 h87
    refine pR_p 9 [0, 1, 2] [(99, (pt p 2)), (98, (pt p 0)), (97, (pt p 0))] 7 hs87 ⟨h87.at_ 3 rfl, h87.at_ 1 rfl, trivial⟩ ?_
    refine pR_v 3 (some 100) (pt e.sb 0) 15 rfl hs87 ⟨h87.at_ 3 rfl, h87.at_ 1 rfl, trivial⟩ (fun W hW => eL hW.1 29 (.tmp 99) 2 _) ?_
    refine pR_v 4 (some 101) (aV ([(sV f.src), (sV f.dst), (iV .i64 f.sid), (iV .i64 f.epoch), (iV .i64 f.seq), (lV Af60 f.box.length cf60)]).toArray) 31 rfl hs87 ⟨h87.at_ 3 rfl, h87.at_ 1 rfl, trivial⟩ (fun W hW => eLs hW.2.1 38 (.tmp 10) 0 ([(sV f.src), (sV f.dst), (iV .i64 f.sid), (iV .i64 f.epoch), (iV .i64 f.seq), (lV Af60 f.box.length cf60)])) ?_
    refine pR_or 5 9 hs87 ?_ ?_
    ·
     have hq88 := h87.monoS 6 rfl (fun p hp => (hs64 _ (hs60 _ hp)))
     refine pR_op 5 (some 102) 63 rfl (x_two hq88 4 6 rfl rfl (by kernel_rfl) 0 rfl 12 [(pt e.sb 0), (aV ([(sV f.src), (sV f.dst), (iV .i64 f.sid), (iV .i64 f.epoch), (iV .i64 f.seq), (lV Af60 f.box.length cf60)]).toArray)] (by kernel_rfl) (take_of (hq88.at_ 4 rfl) (hq88.at_ 6 rfl) (hq88.rd 0 rfl) (hq88.dis 4 6 _ _ rfl rfl (by decide)) (hq88.rdis 0 4 _ _ rfl rfl) (hq88.rdis 0 6 _ _ rfl rfl) hO.take3 Af60 cf60 (hs64 _ hmf60) (hs64 _ (hs60 _ (hsb _ (hsub _ hnil)))) hO.said3 (by have := hO.n3.ks; omega) (by have := hO.n3.bs; omega) hO.n3.bd (by have := hO.n3.sm.sent; omega) (by have := hO.n3.sm.got; omega) (by have := hO.n3.sm.ei; omega) hO.n3.sm.fq)) ?_
     rintro _ w89 ⟨F89, G89, L89, ⟨_, rfl, Ac89, cc89, _, rfl, hmc89, Ag89, cg89, rfl, hmg89⟩, hs89, hx89, h89⟩
     refine ⟨fun _ => ⟨h89.at_ 3 rfl, h89.at_ 1 rfl, trivial⟩, ?_⟩
     refine pR_p 3 [6, 7, 8] [(104, (iV .i64 0)), (103, (aV ([(lV Ac89 b.length cc89), (bV true), (sV g.src), (sV g.dst), (iV .i64 g.sid), (iV .i64 g.epoch), (iV .i64 g.seq), (lV Ag89 g.box.length cg89), (bV true)]).toArray)), (96, (Value.tuple #[(aV ([(lV Ac89 b.length cc89), (bV true), (sV g.src), (sV g.dst), (iV .i64 g.sid), (iV .i64 g.epoch), (iV .i64 g.seq), (lV Ag89 g.box.length cg89), (bV true)]).toArray), (iV .i64 0)]))] 511 hs87 ⟨h89.at_ 3 rfl, h89.at_ 1 rfl, trivial⟩ ?_
     refine pR_to 9 (some 14) 1023 rfl hs87 (xN h89 42 ([(lV none 0 0), (bV false), (sV ByteArray.empty), (sV ByteArray.empty), (iV .i64 0), (iV .i64 0), (iV .i64 0), (lV none 0 0), (bV false)])) ?_
     rintro _ w90 ⟨g90, rfl, h90⟩
     refine ⟨fun _ => ⟨h90.at_ 4 rfl, h90.at_ 2 rfl, trivial⟩, ?_⟩
     refine pR_to 10 none 2047 rfl hs87 (xSs h90 0 42 (.tmp 14) (.tmp 103) 0 ([(lV Ac89 b.length cc89), (bV true), (sV g.src), (sV g.dst), (iV .i64 g.sid), (iV .i64 g.epoch), (iV .i64 g.seq), (lV Ag89 g.box.length cg89), (bV true)]) ([(lV Ac89 b.length cc89), (bV true), (sV g.src), (sV g.dst), (iV .i64 g.sid), (iV .i64 g.epoch), (iV .i64 g.seq), (lV Ag89 g.box.length cg89), (bV true)])) ?_
     rintro _ w91 h91
     refine ⟨fun _ => ⟨h91.at_ 4 rfl, h91.at_ 2 rfl, trivial⟩, ?_⟩
     refine pR_to 11 (some 15) 4095 rfl hs87 (OpTo.run (iV .i64 0) (pureOp_run (by kernel_rfl) _) (R := fun v w => v = (iV .i64 0) /\ w91 = w) ⟨rfl, rfl⟩) ?_
     rintro _ _ ⟨rfl, rfl⟩
     refine ⟨fun h => absurd h (by decide), ?_⟩
     refine pR_done hs87 ?_ _
     exact hJ69 F89 G89 L89 Ac89 cc89 Ag89 cg89 g90 hmc89 hmg89 ((fun p hp => (hs89 _ hp))) _ _ _ (pEq 184) (h91.sel [0, 1, 2, 3, 4, 5, 6, 7, 8, 9, 10, 11, 12] [0, 1, 2, 3, 4] (by kernel_rfl) rfl rfl)
    ·
     refine pR_op 9 (some 14) 543 rfl (xN h87 42 ([(lV none 0 0), (bV false), (sV ByteArray.empty), (sV ByteArray.empty), (iV .i64 0), (iV .i64 0), (iV .i64 0), (lV none 0 0), (bV false)])) ?_
     rintro _ w92 ⟨g92, rfl, h92⟩
     refine ⟨fun _ => ⟨h92.at_ 4 rfl, h92.at_ 2 rfl, trivial⟩, ?_⟩
     have hq93 := h92.monoS 7 rfl (fun p hp => (hs64 _ (hs60 _ hp)))
     refine pR_to 5 (some 102) 575 rfl hs87 (x_two hq93 5 7 rfl rfl (by kernel_rfl) 0 rfl 12 [(pt e.sb 0), (aV ([(sV f.src), (sV f.dst), (iV .i64 f.sid), (iV .i64 f.epoch), (iV .i64 f.seq), (lV Af60 f.box.length cf60)]).toArray)] (by kernel_rfl) (take_of (hq93.at_ 5 rfl) (hq93.at_ 7 rfl) (hq93.rd 0 rfl) (hq93.dis 5 7 _ _ rfl rfl (by decide)) (hq93.rdis 0 5 _ _ rfl rfl) (hq93.rdis 0 7 _ _ rfl rfl) hO.take3 Af60 cf60 (hs64 _ hmf60) (hs64 _ (hs60 _ (hsb _ (hsub _ hnil)))) hO.said3 (by have := hO.n3.ks; omega) (by have := hO.n3.bs; omega) hO.n3.bd (by have := hO.n3.sm.sent; omega) (by have := hO.n3.sm.got; omega) (by have := hO.n3.sm.ei; omega) hO.n3.sm.fq)) ?_
     rintro _ w94 ⟨F94, G94, L94, ⟨_, rfl, Ac94, cc94, _, rfl, hmc94, Ag94, cg94, rfl, hmg94⟩, hs94, hx94, h94⟩
     refine ⟨fun _ => ⟨h94.at_ 4 rfl, h94.at_ 2 rfl, trivial⟩, ?_⟩
     refine pR_p 2 [6, 7, 8] [(104, (iV .i64 0)), (103, (aV ([(lV Ac94 b.length cc94), (bV true), (sV g.src), (sV g.dst), (iV .i64 g.sid), (iV .i64 g.epoch), (iV .i64 g.seq), (lV Ag94 g.box.length cg94), (bV true)]).toArray)), (96, (Value.tuple #[(aV ([(lV Ac94 b.length cc94), (bV true), (sV g.src), (sV g.dst), (iV .i64 g.sid), (iV .i64 g.epoch), (iV .i64 g.seq), (lV Ag94 g.box.length cg94), (bV true)]).toArray), (iV .i64 0)]))] 1023 hs87 ⟨h94.at_ 4 rfl, h94.at_ 2 rfl, trivial⟩ ?_
     refine pR_to 10 none 2047 rfl hs87 (xSs h94 0 42 (.tmp 14) (.tmp 103) 0 ([(lV Ac94 b.length cc94), (bV true), (sV g.src), (sV g.dst), (iV .i64 g.sid), (iV .i64 g.epoch), (iV .i64 g.seq), (lV Ag94 g.box.length cg94), (bV true)]) ([(lV Ac94 b.length cc94), (bV true), (sV g.src), (sV g.dst), (iV .i64 g.sid), (iV .i64 g.epoch), (iV .i64 g.seq), (lV Ag94 g.box.length cg94), (bV true)])) ?_
     rintro _ w95 h95
     refine ⟨fun _ => ⟨h95.at_ 4 rfl, h95.at_ 2 rfl, trivial⟩, ?_⟩
     refine pR_to 11 (some 15) 4095 rfl hs87 (OpTo.run (iV .i64 0) (pureOp_run (by kernel_rfl) _) (R := fun v w => v = (iV .i64 0) /\ w95 = w) ⟨rfl, rfl⟩) ?_
     rintro _ _ ⟨rfl, rfl⟩
     refine ⟨fun h => absurd h (by decide), ?_⟩
     refine pR_done hs87 ?_ _
     exact hJ69 F94 G94 L94 Ac94 cc94 Ag94 cg94 g92 hmc94 hmg94 ((fun p hp => (hs94 _ hp))) _ _ _ (pEq 184) (h95.sel [0, 1, 2, 3, 4, 5, 6, 7, 8, 9, 10, 11, 12] [0, 1, 2, 3, 4] (by kernel_rfl) rfl rfl)
   ·
    refine wp_exit (seq_e (seq_e (blk_e (seq_n hK50 (wp_seq_k fun K96 hK96 => reg_lit ?_)))))
    refine wq_p 3 [(177, (pt p 1)), (176, (pt p 0)), (175, (pt p 0))] (wq_v (some 178) (pt e.sa 0) (eL (h53.at_ 1 rfl) 29 (.tmp 177) 1 _) ?_)
    obtain ⟨s6, a6, m6, hr6⟩ := send_ex s Sa
    have hbn := hR.bnd
    obtain ⟨W6, hS6⟩ := hR.inv.send hr6 (by have := hbn.ks; omega) (by have := hbn.sm.sent; omega)
    obtain rfl : m6 = none := by
      have h1 := hS6.is
      have h2 : Sa.queue = [] := List.length_eq_zero_iff.1 (by rw [hR.queue]; omega)
      rw [h2] at h1
      cases m6 with
      | none => rfl
      | some x => exact absurd (show true = decide (([] : List (Nat × Bytes)) ≠ []) from h1) (by decide)
    refine wq_to (some 179) (x_two h53 2 3 rfl rfl (by kernel_rfl) 0 rfl 11 [(pt e.sa 0)] (by kernel_rfl) (send_of (h53.at_ 2 rfl) (h53.at_ 3 rfl) (h53.rd 0 rfl) (h53.dis 2 3 _ _ rfl rfl (by decide)) (h53.rdis 0 2 _ _ rfl rfl) (h53.rdis 0 3 _ _ rfl rfl) hr6 hbn.sm.q (by have := hbn.sm.sent; omega) (by have := hbn.sm.eo; omega) (by have := hbn.ks; omega) (by have := hbn.bs; omega))) ?_
    rintro _ w97 ⟨F97, G97, L97, ⟨_, rfl, rfl⟩, hs97, hx97, h97⟩
    refine wq_p 3 [(181, (bV false)), (180, (aV ([(sV ByteArray.empty), (sV ByteArray.empty), (iV .i64 0), (iV .i64 0), (iV .i64 0), (lV none 0 0)]).toArray)), (174, (Value.tuple #[(aV ([(sV ByteArray.empty), (sV ByteArray.empty), (iV .i64 0), (iV .i64 0), (iV .i64 0), (lV none 0 0)]).toArray), (bV false)]))] ?_
    refine wq_to (some 18) (xN h97 38 ([(sV ByteArray.empty), (sV ByteArray.empty), (iV .i64 0), (iV .i64 0), (iV .i64 0), (lV none 0 0)])) ?_
    rintro _ w98 ⟨g98, rfl, h98⟩
    refine wq_to none (xSs h98 0 38 (.tmp 18) (.tmp 180) 0 ([(sV ByteArray.empty), (sV ByteArray.empty), (iV .i64 0), (iV .i64 0), (iV .i64 0), (lV none 0 0)]) ([(sV ByteArray.empty), (sV ByteArray.empty), (iV .i64 0), (iV .i64 0), (iV .i64 0), (lV none 0 0)])) ?_
    rintro _ w99 h99
    refine wq_p 1 [(19, (bV false))] ?_
    refine wl_end rfl (seq_n hK96 (wp_seq_k fun K100 hK100 => reg_lit ?_))
    refine wq_p 3 [(2, (bV true)), (183, (bV true)), (182, (bV false))] ?_
    refine wl_end rfl (seq_n hK100 (wp_ret ?_))
    refine post_1 rfl (by kernel_rfl) (rtm (bV true)) ?_
    exact ⟨rfl, h99.below0⟩
end
section
open Go.ChangeShapes Go.WideShapes Go.ChangeAt Go.RowKit
theorem recordRoom_lifted (os : Os) (started : os.Started) (H : Type) (enc : TypeId × Value -> H) :
   ReturnsInHanded {} Try.checked os 3 .any (Rows.recordRoomSpec.pre6 enc Try.prog Try.f3 Rows.recordRoomRow.domain false) (Rows.recordRoomSpec.post enc Try.prog Try.f3 false true false false) := by
 refine returnsInHanded_of_change (C := Try.checked) Try.own started (by kernel_rfl) Try.func3
   (ChangeSpec.witness6 (enc := enc) (C := Try.checked) false ⟨#[], #[.slice none 0 0], []⟩ 8 (by kernel_rfl) (by kernel_rfl) (by kernel_rfl) (by kernel_rfl)) ?_
 intro W base args ds gs before hval0 hW hcnd _
 have hval : ∀ (j : Nat) t v, Try.f3.params[j]? = some t -> args[j]? = some v -> Value.okWide Try.prog W .any base t v := hval0
 have hpost : ∀ W', Below W.heap.size W W' -> Rows.recordRoomSpec.post enc Try.prog Try.f3 false true false false W args (.bool true) W' := fun W' hb =>
   law_post Try.laidOut (by kernel_rfl) Try.underlying4 rfl rfl (fun ds hds => by
     have hn : ds.length = 1 := hds
     match ds, hn with
     | [_], _ => rfl) hW hb
 obtain ⟨p, q, hA0, hV, rfl, hfz, hnd⟩ := hW
 have hA : DataW.TrodAll enc Try.prog W 0 (fun _ => true) true Try.f3.params.toList args.toList ds p := hA0
 rw [Try.params3] at hA hval
 clear hA0 hval0
 obtain ⟨v0, d0, rfl, rfl, h0⟩ := trodAll_one hA
 obtain ⟨A0, c0, xs0, st0, L0, rfl, hr0, hx0, hL0, hn0⟩ := open_bss (hval 0 22 v0 rfl rfl) h0
 refine (recordRoom_any hL0 hn0 hx0 hr0).mono fun e W' ⟨he, hw⟩ => ?_
 subst he
 exact ⟨_, rfl, hpost W' hw⟩
theorem recordRoom_holds : Rows.RecordRoomSaid :=
 OpenClaim.holds_of_wide 3 Try.f3 rfl rfl rfl rfl rfl rfl rfl ⟨rfl, rfl, rfl, rfl, rfl⟩ rfl rfl rfl rfl rfl (by kernel_rfl) Try.func3 (by kernel_rfl)
   (of_decide_eq_true (by kernel_rfl)) (by unfold Func.isWrapper; first | (rw [if_pos (by decide +kernel)]; kernel_rfl) | (rw [if_neg (by decide +kernel)]; exact ⟨rfl, rfl⟩))
   (fun os started H enc _ => recordRoom_lifted os started H enc)
end
end Go.Proofs.Ytjalodhdjollhaa
