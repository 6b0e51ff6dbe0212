/- The walks of record: Take, of a frame of this epoch. -/
import Derived.Test.YtjalodhdjollhaaCA11
set_option maxRecDepth 100000
set_option maxHeartbeats 4000000
namespace Go.Proofs.Ytjalodhdjollhaa
section
open Go.Value renaming int -> iV, slice -> lV, string -> sV, bool -> bV, agg -> aV
open Go.RowKit Go.QT
theorem seq_wr {n : Nat} (h : n < 1000000) : bV (!((n : Int) == IntKind.u64.wrap (n : Int))) = bV false := by
 rw [show IntKind.u64.wrap (n : Int) = (n : Int) by have := wrap_u64_is (x := (n : Int)) (by omega) (by omega); injection this]
 simp
theorem sTake_shut {F G : Nat -> Prop} {tb sb : Nat} {s : STab} {L : List (Value × Bytes)} {S : Ses} {w : World} (hT : (rTab F tb s).Φ w) (hv : (rS G tb sb L S).Φ w) (hL : (rF L).Φ w) (hts : (rTab F tb s).dj (rS G tb sb L S)) (hdt : (rF L).dj (rTab F tb s)) (hd : (rF L).dj (rS G tb sb L S)) (f : Frm) (Ab : Option Addr) (cb : Nat) (hmf : (lV Ab f.box.length cb, f.box) ∈ L) (hnil : (lV none 0 0, ([] : Bytes)) ∈ L) (hnk : s.keys.length < 800000) (hnb : s.boxes.length < 800000) (hbl : ∀ b ∈ s.boxes, b.body.length <= 1000000) (ho : S.over = false) (h1 : f.src = S.peer) (h2 : f.dst = S.me) (h3 : f.sid = S.sid) (h4 : f.epoch = (S.ei : Int)) (hop : (openT s S).open_ (openK s S) 14 f.box = none) :
   Calls Try.prog 12 #[pt sb 0, .agg (f.cells (.slice Ab f.box.length cb)).toArray] w (Post2 F G tb sb w L (openT s S) (S) (fun L' u => ∃ cs, u = .tuple #[.agg cs.toArray, .int .i64 13] /\ ComeAt L' none none cs)) := by
 have h00 := twoF hT hv hL hts hdt hd
 obtain ⟨me, peer, sid, ko, eo, ki, ei, qu, sent, got, fr, ov⟩ := S
 obtain ⟨Ko, hKo⟩ := kl_of ko (rS_ko hv)
 obtain ⟨Ki, hKi⟩ := kl_of ki (rS_ki hv)
 subst hKo; subst hKi
 obtain ⟨src, dst, fsid, fep, fseq, fbox⟩ := f
 try simp only at *
 obtain rfl : ov = false := ho
 obtain rfl : peer = src := h1.symm
 obtain rfl : me = dst := h2.symm
 obtain rfl : sid = fsid := h3.symm
 obtain rfl : fep = (ei : Int) := h4
 have hnk1 : (openT s (Ses.mk me peer sid (kl Ko) eo (kl Ki) ei qu sent got fr false)).keys.length < 900000 := Nat.lt_of_le_of_lt (openT_keys _ _) (by omega)
 have hnb1 : (openT s (Ses.mk me peer sid (kl Ko) eo (kl Ki) ei qu sent got fr false)).boxes.length < 900000 := by rw [openT_boxes]; omega
 have h0 := h00
 refine enter 129 Try.func12 rfl rfl ?_
 refine wp_reset 131 [(0, (pt sb 0)), (1, (aV ([(sV peer), (sV me), (iV .i64 sid), (iV .i64 ((ei : Int))), (iV .i64 fseq), (lV Ab fbox.length cb)]).toArray))] (fun x0 => ?_)
 refine wp_seq_k fun K1 hK1 => reg_lit ?_
 refine wq_to (some 3) (xN h0 38 ([(sV peer), (sV me), (iV .i64 sid), (iV .i64 ((ei : Int))), (iV .i64 fseq), (lV Ab fbox.length cb)])) ?_
 rintro _ w2 ⟨g2, rfl, h2⟩
 refine wq_to (some 4) (xN h2 42 ([(lV none 0 0), (bV false), (sV ByteArray.empty), (sV ByteArray.empty), (iV .i64 0), (iV .i64 0), (iV .i64 0), (lV none 0 0), (bV false)])) ?_
 rintro _ w3 ⟨g3, rfl, h3⟩
 refine wq_p 1 [(5, (iV .i64 0))] ?_
 refine wl_end rfl (seq_n hK1 (wp_seq_k fun K4 hK4 => wp_block (wp_seq_k fun K5 hK5 => ?_)))
 obtain ⟨c1_6, c2_6, A_6, cap_6, xs_6, fb_6, bx_6, hS_6, hG_6, h6⟩ := h3.openS 3 rfl
 clear hG_6
 refine reg_lit ?_
 refine wq_p 3 [(14, (pt sb 10)), (13, (pt sb 0)), (12, (pt sb 0))] (wq_v (some 15) (bV false) (eL (h6.at_ 0 rfl) 4 (.tmp 14) 10 _) (wq_p 1 [(11, (bV false))] ?_))
 refine wl_end rfl (seq_n hK5 (cF (wp_seq_k fun K7 hK7 => ?_)))
 refine pR_go h6 26 (fun W => (rBlk g2 38 ([(sV peer), (sV me), (iV .i64 sid), (iV .i64 ((ei : Int))), (iV .i64 fseq), (lV Ab fbox.length cb)])).Φ W /\ (rBlk sb 77 ([(Value.iface 28 (pt tb 0)), (sV me), (sV peer), (iV .i64 sid), (pt c1_6 0), (pt c2_6 0), (lV A_6 qu.length cap_6), (iV .i64 ((sent : Int))), (iV .i64 ((got : Int))), (frV fb_6), (bV false)])).Φ W /\ True) [(19, [3], 0), (20, [18], 1), (21, [0], 0), (22, [20], 4), (23, [21], 8), (24, [22], 16), (25, [19, 23], 34), (26, [24], 64), (27, [3, 25], 128), (28, [26, 25], 384), (29, [0, 25], 128), (30, [28, 25], 1152), (31, [29, 25], 2176), (32, [30, 25], 4224), (33, [27, 31, 25], 8832), (34, [25, 32], 16512), (35, [33], 32896), (36, [3, 34], 65536), (37, [35, 34], 196608), (38, [0, 34], 65536), (39, [37, 34], 589824), (40, [38, 34], 1114112), (41, [39, 34], 2162688), (42, [36, 40, 34], 4521984), (43, [34, 41], 8454144), (18, [42], 16842752)] rfl (fun _ d _ _ _ h => by cases d <;> exact h) ?_
 intro hs8 w8 h8
 refine pR_p 22 [0, 2, 3, 4] [(22, (pt sb 2)), (21, (pt sb 0)), (20, (pt sb 0)), (18, (pt g2 0))] 29 hs8 ⟨h8.at_ 6 rfl, h8.at_ 0 rfl, trivial⟩ ?_
 refine pR_v 1 (some 19) (sV peer) 31 rfl hs8 ⟨h8.at_ 6 rfl, h8.at_ 0 rfl, trivial⟩ (fun W hW => eL hW.1 9 (.tmp 18) 0 _) ?_
 refine pR_v 5 (some 23) (sV peer) 63 rfl hs8 ⟨h8.at_ 6 rfl, h8.at_ 0 rfl, trivial⟩ (fun W hW => eL hW.2.1 9 (.tmp 22) 2 _) ?_
 refine pR_v 6 (some 24) (bV false) 127 rfl hs8 ⟨h8.at_ 6 rfl, h8.at_ 0 rfl, trivial⟩ (fun W hW => eqI (bV (!((peer).toList == (peer).toList))) (by simp)) ?_
 refine pR_p 14 [7, 8, 10, 11, 12] [(30, (pt sb 1)), (29, (pt sb 0)), (28, (pt sb 0)), (26, (pt g2 1)), (25, (bV false))] 7679 hs8 ⟨h8.at_ 6 rfl, h8.at_ 0 rfl, trivial⟩ ?_
 refine pR_v 9 (some 27) (sV me) 8191 rfl hs8 ⟨h8.at_ 6 rfl, h8.at_ 0 rfl, trivial⟩ (fun W hW => eL hW.1 9 (.tmp 26) 1 _) ?_
 refine pR_v 13 (some 31) (sV me) 16383 rfl hs8 ⟨h8.at_ 6 rfl, h8.at_ 0 rfl, trivial⟩ (fun W hW => eL hW.2.1 9 (.tmp 30) 1 _) ?_
 refine pR_v 14 (some 32) (bV false) 32767 rfl hs8 ⟨h8.at_ 6 rfl, h8.at_ 0 rfl, trivial⟩ (fun W hW => eqI (bV (!((me).toList == (me).toList))) (by simp)) ?_
 refine pR_p 5 [15, 16, 17, 19, 20, 21] [(39, (pt sb 3)), (38, (pt sb 0)), (37, (pt sb 0)), (35, (pt g2 2)), (34, (bV false)), (33, (bV false))] 3932159 hs8 ⟨h8.at_ 6 rfl, h8.at_ 0 rfl, trivial⟩ ?_
 refine pR_v 18 (some 36) (iV .i64 sid) 4194303 rfl hs8 ⟨h8.at_ 6 rfl, h8.at_ 0 rfl, trivial⟩ (fun W hW => eL hW.1 2 (.tmp 35) 2 _) ?_
 refine pR_v 22 (some 40) (iV .i64 sid) 8388607 rfl hs8 ⟨h8.at_ 6 rfl, h8.at_ 0 rfl, trivial⟩ (fun W hW => eL hW.2.1 2 (.tmp 39) 3 _) ?_
 refine pR_v 23 (some 41) (bV false) 16777215 rfl hs8 ⟨h8.at_ 6 rfl, h8.at_ 0 rfl, trivial⟩ (fun W hW => eqI (bV (sid != sid)) (by simp)) ?_
 refine pR_p 0 [24, 25] [(17, (bV false)), (42, (bV false))] 67108863 hs8 ⟨h8.at_ 6 rfl, h8.at_ 0 rfl, trivial⟩ ?_
 refine pR_done hs8 ?_ _
 refine seq_n hK7 (cF (wp_seq_k fun K9 hK9 => ?_))
 refine pR_go h8 18 (fun W => (rBlk g2 38 ([(sV peer), (sV me), (iV .i64 sid), (iV .i64 ((ei : Int))), (iV .i64 fseq), (lV Ab fbox.length cb)])).Φ W /\ (rBlk sb 77 ([(Value.iface 28 (pt tb 0)), (sV me), (sV peer), (iV .i64 sid), (pt c1_6 0), (pt c2_6 0), (lV A_6 qu.length cap_6), (iV .i64 ((sent : Int))), (iV .i64 ((got : Int))), (frV fb_6), (bV false)])).Φ W /\ True) [(46, [3], 0), (47, [45], 1), (48, [0], 0), (49, [47], 4), (50, [48], 8), (51, [49], 16), (52, [50], 32), (53, [46, 51], 66), (54, [52], 192), (55, [3, 53], 256), (56, [54, 53], 768), (57, [0, 53], 256), (58, [56, 53], 2304), (59, [57, 53], 4352), (60, [58, 53], 8448), (61, [55, 59, 53], 17664), (62, [53, 60], 33024), (45, [61], 65792)] rfl (fun _ d _ _ _ h => by cases d <;> exact h) ?_
 intro hs10 w10 h10
 refine pR_p 14 [0, 2, 3, 4] [(49, (pt sb 5)), (48, (pt sb 0)), (47, (pt sb 0)), (45, (pt g2 3))] 29 hs10 ⟨h10.at_ 6 rfl, h10.at_ 0 rfl, trivial⟩ ?_
 refine pR_v 1 (some 46) (iV .i64 ((ei : Int))) 31 rfl hs10 ⟨h10.at_ 6 rfl, h10.at_ 0 rfl, trivial⟩ (fun W hW => eL hW.1 2 (.tmp 45) 3 _) ?_
 refine pR_v 5 (some 50) (pt c2_6 0) 63 rfl hs10 ⟨h10.at_ 6 rfl, h10.at_ 0 rfl, trivial⟩ (fun W hW => eL hW.2.1 73 (.tmp 49) 5 _) ?_
 refine pR_to 6 (some 51) 127 rfl hs10 (x_repoch h10 2 rfl (by kernel_rfl)) ?_
 rintro _ w11 ⟨rfl, h11⟩
 refine ⟨fun _ => ⟨h11.at_ 6 rfl, h11.at_ 0 rfl, trivial⟩, ?_⟩
 refine pR_v 7 (some 52) (bV false) 255 rfl hs10 ⟨h11.at_ 6 rfl, h11.at_ 0 rfl, trivial⟩ (fun W hW => eqI (bV (decide ((ei : Int) < (ei : Int)))) (congrArg bV (by simp))) ?_
 refine pR_p 0 [8, 9, 10, 11, 12, 13, 14, 15, 16, 17] [(44, (bV false)), (61, (bV false)), (60, undef), (59, undef), (58, undef), (57, undef), (56, undef), (55, undef), (54, undef), (53, (bV false))] 262143 hs10 ⟨h11.at_ 6 rfl, h11.at_ 0 rfl, trivial⟩ ?_
 refine pR_done hs10 ?_ _
 refine seq_n hK9 (cF (wp_seq_k fun K12 hK12 => ?_))
 refine wp_reset 131 [(0, (pt sb 0)), (1, (aV ([(sV peer), (sV me), (iV .i64 sid), (iV .i64 ((ei : Int))), (iV .i64 fseq), (lV Ab fbox.length cb)]).toArray)), (3, (pt g2 0)), (4, (pt g3 0)), (5, (iV .i64 0)), (11, (bV false)), (17, (bV false)), (44, (bV false))] (fun x13 => ?_)
 refine pR_go h11 9 (fun W => (rBlk g2 38 ([(sV peer), (sV me), (iV .i64 sid), (iV .i64 ((ei : Int))), (iV .i64 fseq), (lV Ab fbox.length cb)])).Φ W /\ (rBlk sb 77 ([(Value.iface 28 (pt tb 0)), (sV me), (sV peer), (iV .i64 sid), (pt c1_6 0), (pt c2_6 0), (lV A_6 qu.length cap_6), (iV .i64 ((sent : Int))), (iV .i64 ((got : Int))), (frV fb_6), (bV false)])).Φ W /\ True) [(66, [3], 0), (67, [65], 1), (68, [0], 0), (69, [67], 4), (70, [68], 8), (71, [69], 16), (72, [70], 32), (73, [66, 71], 66), (65, [72], 192)] rfl (fun _ d _ _ _ h => by cases d <;> exact h) ?_
 intro hs14 w14 h14
 refine pR_p 5 [0, 2, 3, 4] [(69, (pt sb 5)), (68, (pt sb 0)), (67, (pt sb 0)), (65, (pt g2 3))] 29 hs14 ⟨h14.at_ 6 rfl, h14.at_ 0 rfl, trivial⟩ ?_
 refine pR_v 1 (some 66) (iV .i64 ((ei : Int))) 31 rfl hs14 ⟨h14.at_ 6 rfl, h14.at_ 0 rfl, trivial⟩ (fun W hW => eL hW.1 2 (.tmp 65) 3 _) ?_
 refine pR_v 5 (some 70) (pt c2_6 0) 63 rfl hs14 ⟨h14.at_ 6 rfl, h14.at_ 0 rfl, trivial⟩ (fun W hW => eL hW.2.1 73 (.tmp 69) 5 _) ?_
 refine pR_to 6 (some 71) 127 rfl hs14 (x_repoch h14 2 rfl (by kernel_rfl)) ?_
 rintro _ w15 ⟨rfl, h15⟩
 refine ⟨fun _ => ⟨h15.at_ 6 rfl, h15.at_ 0 rfl, trivial⟩, ?_⟩
 refine pR_v 7 (some 72) (bV false) 255 rfl hs14 ⟨h15.at_ 6 rfl, h15.at_ 0 rfl, trivial⟩ (fun W hW => eqI (bV (((ei : Int)) != ((ei : Int)))) (by simp)) ?_
 refine pR_p 0 [8] [(64, (bV false))] 511 hs14 ⟨h15.at_ 6 rfl, h15.at_ 0 rfl, trivial⟩ ?_
 refine pR_done hs14 ?_ _
 refine seq_n hK12 (cF (wp_skip (blk_n (seq_n hK4 (wp_seq_k fun K16 hK16 => reg_lit ?_)))))
 refine wq_p 1 [(75, (pt sb 0))] (wq_v (some 76) (aV ([(sV peer), (sV me), (iV .i64 sid), (iV .i64 ((ei : Int))), (iV .i64 fseq), (lV Ab fbox.length cb)]).toArray) (eLs (h15.at_ 6 rfl) 38 (.tmp 3) 0 ([(sV peer), (sV me), (iV .i64 sid), (iV .i64 ((ei : Int))), (iV .i64 fseq), (lV Ab fbox.length cb)])) ?_)
 have h17 := (show Hp _ _ _ _ (lSes tb sb c1_6 c2_6 A_6 cap_6 xs_6 fb_6 bx_6 ((Ses.mk me peer sid (kl Ko) eo (kl Ki) ei qu sent got fr false)) ++ [rBlk g3 42 ([(lV none 0 0), (bV false), (sV ByteArray.empty), (sV ByteArray.empty), (iV .i64 0), (iV .i64 0), (iV .i64 0), (lV none 0 0), (bV false)]), rBlk g2 38 ([(sV peer), (sV me), (iV .i64 sid), (iV .i64 ((ei : Int))), (iV .i64 fseq), (lV Ab fbox.length cb)]), rTab F tb s]) from h15.sel [0, 1, 2, 3, 4, 5, 6, 7] [0] rfl rfl rfl).closeS (L := L) hS_6
 refine wq_to (some 77) (x_two h17 3 0 rfl rfl rfl 0 rfl 33 [(pt sb 0), (aV ([(sV peer), (sV me), (iV .i64 sid), (iV .i64 ((ei : Int))), (iV .i64 fseq), (lV Ab fbox.length cb)]).toArray)] (by kernel_rfl) (sopened_no (h17.at_ 3 rfl) (h17.at_ 0 rfl) (h17.rd 0 rfl) (h17.dis 3 0 _ _ rfl rfl (by decide)) (h17.rdis 0 3 _ _ rfl rfl) (h17.rdis 0 0 _ _ rfl rfl) (Frm.mk peer me sid ((ei : Int)) fseq fbox) Ab cb hmf rfl (by omega) (by omega) hbl hop)) ?_
 rintro _ w18 ⟨F18, G18, L18, rfl, hs18, hx18, h18⟩
 refine wq_p 9 [(9, (bV false)), (8, (lV none 0 0)), (7, (iV .i64 0)), (6, (iV .u64 0)), (81, (bV false)), (80, (lV none 0 0)), (79, (iV .i64 0)), (78, (iV .u64 0)), (74, (Value.tuple #[(iV .u64 0), (iV .i64 0), (lV none 0 0), (bV false)]))] ?_
 refine wl_end rfl (seq_n hK16 (wp_seq_k fun K19 hK19 => wp_block (wp_seq_k fun K20 hK20 => reg_lit ?_)))
 refine wq_p 3 [(82, (bV true)), (84, (bV true)), (83, (bV false))] ?_
 refine wl_end rfl (seq_n hK20 (cT (wp_seq_k fun K21 hK21 => reg_lit ?_)))
 refine wq_p 1 [(85, (aV ([(lV none 0 0), (bV false), (sV ByteArray.empty), (sV ByteArray.empty), (iV .i64 0), (iV .i64 0), (iV .i64 0), (lV none 0 0), (bV false)]).toArray))] ?_
 refine wq_to none (xSs h18 1 42 (.tmp 4) (.tmp 85) 0 ([(lV none 0 0), (bV false), (sV ByteArray.empty), (sV ByteArray.empty), (iV .i64 0), (iV .i64 0), (iV .i64 0), (lV none 0 0), (bV false)]) ([(lV none 0 0), (bV false), (sV ByteArray.empty), (sV ByteArray.empty), (iV .i64 0), (iV .i64 0), (iV .i64 0), (lV none 0 0), (bV false)])) ?_
 rintro _ w22 h22
 refine wq_p 1 [(5, (iV .i64 13))] ?_
 refine wl_end rfl (seq_n hK21 (wp_ret (blk_r (seq_r ?_))))
 refine post_2 rfl (by kernel_rfl) (rce (h22.at_ 1 rfl)) (rtm (iV .i64 13)) ?_
 exact ⟨_, _, _, _, rfl, ⟨_, rfl, none, 0, _, rfl, (hs18 _ hnil), rfl⟩, (hx18 _ (LExt.refl (fun q => F q ∨ G q) w L)), h22.sel [3, 0] [0] rfl rfl rfl⟩
theorem sTake_other {F G : Nat -> Prop} {tb sb : Nat} {s : STab} {L : List (Value × Bytes)} {S : Ses} {w : World} (hT : (rTab F tb s).Φ w) (hv : (rS G tb sb L S).Φ w) (hL : (rF L).Φ w) (hts : (rTab F tb s).dj (rS G tb sb L S)) (hdt : (rF L).dj (rTab F tb s)) (hd : (rF L).dj (rS G tb sb L S)) (f : Frm) (Ab : Option Addr) (cb : Nat) (hmf : (lV Ab f.box.length cb, f.box) ∈ L) (hnil : (lV none 0 0, ([] : Bytes)) ∈ L) (hnk : s.keys.length < 800000) (hnb : s.boxes.length < 800000) (hbl : ∀ b ∈ s.boxes, b.body.length <= 1000000) (ho : S.over = false) (h1 : f.src = S.peer) (h2 : f.dst = S.me) (h3 : f.sid = S.sid) (h4 : f.epoch = (S.ei : Int)) (k n : Nat) (b : Bytes) (hk : k < 1000) (hn : n < 1000000) (hb : b.length <= 2048) (hop : (openT s S).open_ (openK s S) 14 f.box = some (wrV (contV k n b))) (hwr : bV (!((n : Int) == IntKind.u64.wrap f.seq)) = bV true) :
   Calls Try.prog 12 #[pt sb 0, .agg (f.cells (.slice Ab f.box.length cb)).toArray] w (Post2 F G tb sb w L (openT s S) (S) (fun L' u => ∃ cs, u = .tuple #[.agg cs.toArray, .int .i64 13] /\ ComeAt L' none none cs)) := by
 have h00 := twoF hT hv hL hts hdt hd
 obtain ⟨me, peer, sid, ko, eo, ki, ei, qu, sent, got, fr, ov⟩ := S
 obtain ⟨Ko, hKo⟩ := kl_of ko (rS_ko hv)
 obtain ⟨Ki, hKi⟩ := kl_of ki (rS_ki hv)
 subst hKo; subst hKi
 obtain ⟨src, dst, fsid, fep, fseq, fbox⟩ := f
 try simp only at *
 obtain rfl : ov = false := ho
 obtain rfl : peer = src := h1.symm
 obtain rfl : me = dst := h2.symm
 obtain rfl : sid = fsid := h3.symm
 obtain rfl : fep = (ei : Int) := h4
 have hnk1 : (openT s (Ses.mk me peer sid (kl Ko) eo (kl Ki) ei qu sent got fr false)).keys.length < 900000 := Nat.lt_of_le_of_lt (openT_keys _ _) (by omega)
 have hnb1 : (openT s (Ses.mk me peer sid (kl Ko) eo (kl Ki) ei qu sent got fr false)).boxes.length < 900000 := by rw [openT_boxes]; omega
 have h0 := h00
 refine enter 129 Try.func12 rfl rfl ?_
 refine wp_reset 131 [(0, (pt sb 0)), (1, (aV ([(sV peer), (sV me), (iV .i64 sid), (iV .i64 ((ei : Int))), (iV .i64 fseq), (lV Ab fbox.length cb)]).toArray))] (fun x0 => ?_)
 refine wp_seq_k fun K1 hK1 => reg_lit ?_
 refine wq_to (some 3) (xN h0 38 ([(sV peer), (sV me), (iV .i64 sid), (iV .i64 ((ei : Int))), (iV .i64 fseq), (lV Ab fbox.length cb)])) ?_
 rintro _ w2 ⟨g2, rfl, h2⟩
 refine wq_to (some 4) (xN h2 42 ([(lV none 0 0), (bV false), (sV ByteArray.empty), (sV ByteArray.empty), (iV .i64 0), (iV .i64 0), (iV .i64 0), (lV none 0 0), (bV false)])) ?_
 rintro _ w3 ⟨g3, rfl, h3⟩
 refine wq_p 1 [(5, (iV .i64 0))] ?_
 refine wl_end rfl (seq_n hK1 (wp_seq_k fun K4 hK4 => wp_block (wp_seq_k fun K5 hK5 => ?_)))
 obtain ⟨c1_6, c2_6, A_6, cap_6, xs_6, fb_6, bx_6, hS_6, hG_6, h6⟩ := h3.openS 3 rfl
 clear hG_6
 refine reg_lit ?_
 refine wq_p 3 [(14, (pt sb 10)), (13, (pt sb 0)), (12, (pt sb 0))] (wq_v (some 15) (bV false) (eL (h6.at_ 0 rfl) 4 (.tmp 14) 10 _) (wq_p 1 [(11, (bV false))] ?_))
 refine wl_end rfl (seq_n hK5 (cF (wp_seq_k fun K7 hK7 => ?_)))
 refine pR_go h6 26 (fun W => (rBlk g2 38 ([(sV peer), (sV me), (iV .i64 sid), (iV .i64 ((ei : Int))), (iV .i64 fseq), (lV Ab fbox.length cb)])).Φ W /\ (rBlk sb 77 ([(Value.iface 28 (pt tb 0)), (sV me), (sV peer), (iV .i64 sid), (pt c1_6 0), (pt c2_6 0), (lV A_6 qu.length cap_6), (iV .i64 ((sent : Int))), (iV .i64 ((got : Int))), (frV fb_6), (bV false)])).Φ W /\ True) [(19, [3], 0), (20, [18], 1), (21, [0], 0), (22, [20], 4), (23, [21], 8), (24, [22], 16), (25, [19, 23], 34), (26, [24], 64), (27, [3, 25], 128), (28, [26, 25], 384), (29, [0, 25], 128), (30, [28, 25], 1152), (31, [29, 25], 2176), (32, [30, 25], 4224), (33, [27, 31, 25], 8832), (34, [25, 32], 16512), (35, [33], 32896), (36, [3, 34], 65536), (37, [35, 34], 196608), (38, [0, 34], 65536), (39, [37, 34], 589824), (40, [38, 34], 1114112), (41, [39, 34], 2162688), (42, [36, 40, 34], 4521984), (43, [34, 41], 8454144), (18, [42], 16842752)] rfl (fun _ d _ _ _ h => by cases d <;> exact h) ?_
 intro hs8 w8 h8
 refine pR_p 22 [0, 2, 3, 4] [(22, (pt sb 2)), (21, (pt sb 0)), (20, (pt sb 0)), (18, (pt g2 0))] 29 hs8 ⟨h8.at_ 6 rfl, h8.at_ 0 rfl, trivial⟩ ?_
 refine pR_v 1 (some 19) (sV peer) 31 rfl hs8 ⟨h8.at_ 6 rfl, h8.at_ 0 rfl, trivial⟩ (fun W hW => eL hW.1 9 (.tmp 18) 0 _) ?_
 refine pR_v 5 (some 23) (sV peer) 63 rfl hs8 ⟨h8.at_ 6 rfl, h8.at_ 0 rfl, trivial⟩ (fun W hW => eL hW.2.1 9 (.tmp 22) 2 _) ?_
 refine pR_v 6 (some 24) (bV false) 127 rfl hs8 ⟨h8.at_ 6 rfl, h8.at_ 0 rfl, trivial⟩ (fun W hW => eqI (bV (!((peer).toList == (peer).toList))) (by simp)) ?_
 refine pR_p 14 [7, 8, 10, 11, 12] [(30, (pt sb 1)), (29, (pt sb 0)), (28, (pt sb 0)), (26, (pt g2 1)), (25, (bV false))] 7679 hs8 ⟨h8.at_ 6 rfl, h8.at_ 0 rfl, trivial⟩ ?_
 refine pR_v 9 (some 27) (sV me) 8191 rfl hs8 ⟨h8.at_ 6 rfl, h8.at_ 0 rfl, trivial⟩ (fun W hW => eL hW.1 9 (.tmp 26) 1 _) ?_
 refine pR_v 13 (some 31) (sV me) 16383 rfl hs8 ⟨h8.at_ 6 rfl, h8.at_ 0 rfl, trivial⟩ (fun W hW => eL hW.2.1 9 (.tmp 30) 1 _) ?_
 refine pR_v 14 (some 32) (bV false) 32767 rfl hs8 ⟨h8.at_ 6 rfl, h8.at_ 0 rfl, trivial⟩ (fun W hW => eqI (bV (!((me).toList == (me).toList))) (by simp)) ?_
 refine pR_p 5 [15, 16, 17, 19, 20, 21] [(39, (pt sb 3)), (38, (pt sb 0)), (37, (pt sb 0)), (35, (pt g2 2)), (34, (bV false)), (33, (bV false))] 3932159 hs8 ⟨h8.at_ 6 rfl, h8.at_ 0 rfl, trivial⟩ ?_
 refine pR_v 18 (some 36) (iV .i64 sid) 4194303 rfl hs8 ⟨h8.at_ 6 rfl, h8.at_ 0 rfl, trivial⟩ (fun W hW => eL hW.1 2 (.tmp 35) 2 _) ?_
 refine pR_v 22 (some 40) (iV .i64 sid) 8388607 rfl hs8 ⟨h8.at_ 6 rfl, h8.at_ 0 rfl, trivial⟩ (fun W hW => eL hW.2.1 2 (.tmp 39) 3 _) ?_
 refine pR_v 23 (some 41) (bV false) 16777215 rfl hs8 ⟨h8.at_ 6 rfl, h8.at_ 0 rfl, trivial⟩ (fun W hW => eqI (bV (sid != sid)) (by simp)) ?_
 refine pR_p 0 [24, 25] [(17, (bV false)), (42, (bV false))] 67108863 hs8 ⟨h8.at_ 6 rfl, h8.at_ 0 rfl, trivial⟩ ?_
 refine pR_done hs8 ?_ _
 refine seq_n hK7 (cF (wp_seq_k fun K9 hK9 => ?_))
 refine pR_go h8 18 (fun W => (rBlk g2 38 ([(sV peer), (sV me), (iV .i64 sid), (iV .i64 ((ei : Int))), (iV .i64 fseq), (lV Ab fbox.length cb)])).Φ W /\ (rBlk sb 77 ([(Value.iface 28 (pt tb 0)), (sV me), (sV peer), (iV .i64 sid), (pt c1_6 0), (pt c2_6 0), (lV A_6 qu.length cap_6), (iV .i64 ((sent : Int))), (iV .i64 ((got : Int))), (frV fb_6), (bV false)])).Φ W /\ True) [(46, [3], 0), (47, [45], 1), (48, [0], 0), (49, [47], 4), (50, [48], 8), (51, [49], 16), (52, [50], 32), (53, [46, 51], 66), (54, [52], 192), (55, [3, 53], 256), (56, [54, 53], 768), (57, [0, 53], 256), (58, [56, 53], 2304), (59, [57, 53], 4352), (60, [58, 53], 8448), (61, [55, 59, 53], 17664), (62, [53, 60], 33024), (45, [61], 65792)] rfl (fun _ d _ _ _ h => by cases d <;> exact h) ?_
 intro hs10 w10 h10
 refine pR_p 14 [0, 2, 3, 4] [(49, (pt sb 5)), (48, (pt sb 0)), (47, (pt sb 0)), (45, (pt g2 3))] 29 hs10 ⟨h10.at_ 6 rfl, h10.at_ 0 rfl, trivial⟩ ?_
 refine pR_v 1 (some 46) (iV .i64 ((ei : Int))) 31 rfl hs10 ⟨h10.at_ 6 rfl, h10.at_ 0 rfl, trivial⟩ (fun W hW => eL hW.1 2 (.tmp 45) 3 _) ?_
 refine pR_v 5 (some 50) (pt c2_6 0) 63 rfl hs10 ⟨h10.at_ 6 rfl, h10.at_ 0 rfl, trivial⟩ (fun W hW => eL hW.2.1 73 (.tmp 49) 5 _) ?_
 refine pR_to 6 (some 51) 127 rfl hs10 (x_repoch h10 2 rfl (by kernel_rfl)) ?_
 rintro _ w11 ⟨rfl, h11⟩
 refine ⟨fun _ => ⟨h11.at_ 6 rfl, h11.at_ 0 rfl, trivial⟩, ?_⟩
 refine pR_v 7 (some 52) (bV false) 255 rfl hs10 ⟨h11.at_ 6 rfl, h11.at_ 0 rfl, trivial⟩ (fun W hW => eqI (bV (decide ((ei : Int) < (ei : Int)))) (congrArg bV (by simp))) ?_
 refine pR_p 0 [8, 9, 10, 11, 12, 13, 14, 15, 16, 17] [(44, (bV false)), (61, (bV false)), (60, undef), (59, undef), (58, undef), (57, undef), (56, undef), (55, undef), (54, undef), (53, (bV false))] 262143 hs10 ⟨h11.at_ 6 rfl, h11.at_ 0 rfl, trivial⟩ ?_
 refine pR_done hs10 ?_ _
 refine seq_n hK9 (cF (wp_seq_k fun K12 hK12 => ?_))
 refine wp_reset 131 [(0, (pt sb 0)), (1, (aV ([(sV peer), (sV me), (iV .i64 sid), (iV .i64 ((ei : Int))), (iV .i64 fseq), (lV Ab fbox.length cb)]).toArray)), (3, (pt g2 0)), (4, (pt g3 0)), (5, (iV .i64 0)), (11, (bV false)), (17, (bV false)), (44, (bV false))] (fun x13 => ?_)
 refine pR_go h11 9 (fun W => (rBlk g2 38 ([(sV peer), (sV me), (iV .i64 sid), (iV .i64 ((ei : Int))), (iV .i64 fseq), (lV Ab fbox.length cb)])).Φ W /\ (rBlk sb 77 ([(Value.iface 28 (pt tb 0)), (sV me), (sV peer), (iV .i64 sid), (pt c1_6 0), (pt c2_6 0), (lV A_6 qu.length cap_6), (iV .i64 ((sent : Int))), (iV .i64 ((got : Int))), (frV fb_6), (bV false)])).Φ W /\ True) [(66, [3], 0), (67, [65], 1), (68, [0], 0), (69, [67], 4), (70, [68], 8), (71, [69], 16), (72, [70], 32), (73, [66, 71], 66), (65, [72], 192)] rfl (fun _ d _ _ _ h => by cases d <;> exact h) ?_
 intro hs14 w14 h14
 refine pR_p 5 [0, 2, 3, 4] [(69, (pt sb 5)), (68, (pt sb 0)), (67, (pt sb 0)), (65, (pt g2 3))] 29 hs14 ⟨h14.at_ 6 rfl, h14.at_ 0 rfl, trivial⟩ ?_
 refine pR_v 1 (some 66) (iV .i64 ((ei : Int))) 31 rfl hs14 ⟨h14.at_ 6 rfl, h14.at_ 0 rfl, trivial⟩ (fun W hW => eL hW.1 2 (.tmp 65) 3 _) ?_
 refine pR_v 5 (some 70) (pt c2_6 0) 63 rfl hs14 ⟨h14.at_ 6 rfl, h14.at_ 0 rfl, trivial⟩ (fun W hW => eL hW.2.1 73 (.tmp 69) 5 _) ?_
 refine pR_to 6 (some 71) 127 rfl hs14 (x_repoch h14 2 rfl (by kernel_rfl)) ?_
 rintro _ w15 ⟨rfl, h15⟩
 refine ⟨fun _ => ⟨h15.at_ 6 rfl, h15.at_ 0 rfl, trivial⟩, ?_⟩
 refine pR_v 7 (some 72) (bV false) 255 rfl hs14 ⟨h15.at_ 6 rfl, h15.at_ 0 rfl, trivial⟩ (fun W hW => eqI (bV (((ei : Int)) != ((ei : Int)))) (by simp)) ?_
 refine pR_p 0 [8] [(64, (bV false))] 511 hs14 ⟨h15.at_ 6 rfl, h15.at_ 0 rfl, trivial⟩ ?_
 refine pR_done hs14 ?_ _
 refine seq_n hK12 (cF (wp_skip (blk_n (seq_n hK4 (wp_seq_k fun K16 hK16 => reg_lit ?_)))))
 refine wq_p 1 [(75, (pt sb 0))] (wq_v (some 76) (aV ([(sV peer), (sV me), (iV .i64 sid), (iV .i64 ((ei : Int))), (iV .i64 fseq), (lV Ab fbox.length cb)]).toArray) (eLs (h15.at_ 6 rfl) 38 (.tmp 3) 0 ([(sV peer), (sV me), (iV .i64 sid), (iV .i64 ((ei : Int))), (iV .i64 fseq), (lV Ab fbox.length cb)])) ?_)
 have h17 := (show Hp _ _ _ _ (lSes tb sb c1_6 c2_6 A_6 cap_6 xs_6 fb_6 bx_6 ((Ses.mk me peer sid (kl Ko) eo (kl Ki) ei qu sent got fr false)) ++ [rBlk g3 42 ([(lV none 0 0), (bV false), (sV ByteArray.empty), (sV ByteArray.empty), (iV .i64 0), (iV .i64 0), (iV .i64 0), (lV none 0 0), (bV false)]), rBlk g2 38 ([(sV peer), (sV me), (iV .i64 sid), (iV .i64 ((ei : Int))), (iV .i64 fseq), (lV Ab fbox.length cb)]), rTab F tb s]) from h15.sel [0, 1, 2, 3, 4, 5, 6, 7] [0] rfl rfl rfl).closeS (L := L) hS_6
 refine wq_to (some 77) (x_two h17 3 0 rfl rfl rfl 0 rfl 33 [(pt sb 0), (aV ([(sV peer), (sV me), (iV .i64 sid), (iV .i64 ((ei : Int))), (iV .i64 fseq), (lV Ab fbox.length cb)]).toArray)] (by kernel_rfl) (sopened_other (h17.at_ 3 rfl) (h17.at_ 0 rfl) (h17.rd 0 rfl) (h17.dis 3 0 _ _ rfl rfl (by decide)) (h17.rdis 0 3 _ _ rfl rfl) (h17.rdis 0 0 _ _ rfl rfl) (Frm.mk peer me sid ((ei : Int)) fseq fbox) Ab cb hmf rfl (by omega) (by omega) hbl k n b hk hn hb hop hwr)) ?_
 rintro _ w18 ⟨F18, G18, L18, rfl, hs18, hx18, h18⟩
 refine wq_p 9 [(9, (bV false)), (8, (lV none 0 0)), (7, (iV .i64 0)), (6, (iV .u64 0)), (81, (bV false)), (80, (lV none 0 0)), (79, (iV .i64 0)), (78, (iV .u64 0)), (74, (Value.tuple #[(iV .u64 0), (iV .i64 0), (lV none 0 0), (bV false)]))] ?_
 refine wl_end rfl (seq_n hK16 (wp_seq_k fun K19 hK19 => wp_block (wp_seq_k fun K20 hK20 => reg_lit ?_)))
 refine wq_p 3 [(82, (bV true)), (84, (bV true)), (83, (bV false))] ?_
 refine wl_end rfl (seq_n hK20 (cT (wp_seq_k fun K21 hK21 => reg_lit ?_)))
 refine wq_p 1 [(85, (aV ([(lV none 0 0), (bV false), (sV ByteArray.empty), (sV ByteArray.empty), (iV .i64 0), (iV .i64 0), (iV .i64 0), (lV none 0 0), (bV false)]).toArray))] ?_
 refine wq_to none (xSs h18 1 42 (.tmp 4) (.tmp 85) 0 ([(lV none 0 0), (bV false), (sV ByteArray.empty), (sV ByteArray.empty), (iV .i64 0), (iV .i64 0), (iV .i64 0), (lV none 0 0), (bV false)]) ([(lV none 0 0), (bV false), (sV ByteArray.empty), (sV ByteArray.empty), (iV .i64 0), (iV .i64 0), (iV .i64 0), (lV none 0 0), (bV false)])) ?_
 rintro _ w22 h22
 refine wq_p 1 [(5, (iV .i64 13))] ?_
 refine wl_end rfl (seq_n hK21 (wp_ret (blk_r (seq_r ?_))))
 refine post_2 rfl (by kernel_rfl) (rce (h22.at_ 1 rfl)) (rtm (iV .i64 13)) ?_
 exact ⟨_, _, _, _, rfl, ⟨_, rfl, none, 0, _, rfl, (hs18 _ hnil), rfl⟩, (hx18 _ (LExt.refl (fun q => F q ∨ G q) w L)), h22.sel [3, 0] [0] rfl rfl rfl⟩
theorem sTake_mark0 {F G : Nat -> Prop} {tb sb : Nat} {s : STab} {L : List (Value × Bytes)} {S : Ses} {w : World} (hT : (rTab F tb s).Φ w) (hv : (rS G tb sb L S).Φ w) (hL : (rF L).Φ w) (hts : (rTab F tb s).dj (rS G tb sb L S)) (hdt : (rF L).dj (rTab F tb s)) (hd : (rF L).dj (rS G tb sb L S)) (f : Frm) (Ab : Option Addr) (cb : Nat) (hmf : (lV Ab f.box.length cb, f.box) ∈ L) (hnil : (lV none 0 0, ([] : Bytes)) ∈ L) (hnk : s.keys.length < 800000) (hnb : s.boxes.length < 800000) (hbl : ∀ b ∈ s.boxes, b.body.length <= 1000000) (ho : S.over = false) (h1 : f.src = S.peer) (h2 : f.dst = S.me) (h3 : f.sid = S.sid) (h4 : f.epoch = (S.ei : Int)) (n : Nat) (b : Bytes) (hn : n < 1000000) (hb : b.length <= 2048) (hop : (openT s S).open_ (openK s S) 14 f.box = some (wrV (contV 2 n b))) (hseq : f.seq = (n : Int)) (hf : S.frame = none) :
   Calls Try.prog 12 #[pt sb 0, .agg (f.cells (.slice Ab f.box.length cb)).toArray] w (Post2 F G tb sb w L (openT s S) (S) (fun L' u => ∃ cs, u = .tuple #[.agg cs.toArray, .int .i64 0] /\ ComeAt L' none none cs)) := by
 have h00 := twoF hT hv hL hts hdt hd
 obtain ⟨me, peer, sid, ko, eo, ki, ei, qu, sent, got, fr, ov⟩ := S
 obtain ⟨Ko, hKo⟩ := kl_of ko (rS_ko hv)
 obtain ⟨Ki, hKi⟩ := kl_of ki (rS_ki hv)
 subst hKo; subst hKi
 obtain ⟨src, dst, fsid, fep, fseq, fbox⟩ := f
 try simp only at *
 obtain rfl : ov = false := ho
 obtain rfl : peer = src := h1.symm
 obtain rfl : me = dst := h2.symm
 obtain rfl : sid = fsid := h3.symm
 obtain rfl : fep = (ei : Int) := h4
 have hnk1 : (openT s (Ses.mk me peer sid (kl Ko) eo (kl Ki) ei qu sent got fr false)).keys.length < 900000 := Nat.lt_of_le_of_lt (openT_keys _ _) (by omega)
 have hnb1 : (openT s (Ses.mk me peer sid (kl Ko) eo (kl Ki) ei qu sent got fr false)).boxes.length < 900000 := by rw [openT_boxes]; omega
 obtain rfl : fseq = (n : Int) := hseq
 have hwr : bV (!((n : Int) == IntKind.u64.wrap (n : Int))) = bV false := seq_wr hn
 obtain rfl : fr = none := hf
 have h0 := h00
 refine enter 129 Try.func12 rfl rfl ?_
 refine wp_reset 131 [(0, (pt sb 0)), (1, (aV ([(sV peer), (sV me), (iV .i64 sid), (iV .i64 ((ei : Int))), (iV .i64 ((n : Int))), (lV Ab fbox.length cb)]).toArray))] (fun x0 => ?_)
 refine wp_seq_k fun K1 hK1 => reg_lit ?_
 refine wq_to (some 3) (xN h0 38 ([(sV peer), (sV me), (iV .i64 sid), (iV .i64 ((ei : Int))), (iV .i64 ((n : Int))), (lV Ab fbox.length cb)])) ?_
 rintro _ w2 ⟨g2, rfl, h2⟩
 refine wq_to (some 4) (xN h2 42 ([(lV none 0 0), (bV false), (sV ByteArray.empty), (sV ByteArray.empty), (iV .i64 0), (iV .i64 0), (iV .i64 0), (lV none 0 0), (bV false)])) ?_
 rintro _ w3 ⟨g3, rfl, h3⟩
 refine wq_p 1 [(5, (iV .i64 0))] ?_
 refine wl_end rfl (seq_n hK1 (wp_seq_k fun K4 hK4 => wp_block (wp_seq_k fun K5 hK5 => ?_)))
 obtain ⟨c1_6, c2_6, A_6, cap_6, xs_6, fb_6, bx_6, hS_6, hG_6, h6⟩ := h3.openS 3 rfl
 clear hG_6
 refine reg_lit ?_
 refine wq_p 3 [(14, (pt sb 10)), (13, (pt sb 0)), (12, (pt sb 0))] (wq_v (some 15) (bV false) (eL (h6.at_ 0 rfl) 4 (.tmp 14) 10 _) (wq_p 1 [(11, (bV false))] ?_))
 refine wl_end rfl (seq_n hK5 (cF (wp_seq_k fun K7 hK7 => ?_)))
 refine pR_go h6 26 (fun W => (rBlk g2 38 ([(sV peer), (sV me), (iV .i64 sid), (iV .i64 ((ei : Int))), (iV .i64 ((n : Int))), (lV Ab fbox.length cb)])).Φ W /\ (rBlk sb 77 ([(Value.iface 28 (pt tb 0)), (sV me), (sV peer), (iV .i64 sid), (pt c1_6 0), (pt c2_6 0), (lV A_6 qu.length cap_6), (iV .i64 ((sent : Int))), (iV .i64 ((got : Int))), (frV fb_6), (bV false)])).Φ W /\ True) [(19, [3], 0), (20, [18], 1), (21, [0], 0), (22, [20], 4), (23, [21], 8), (24, [22], 16), (25, [19, 23], 34), (26, [24], 64), (27, [3, 25], 128), (28, [26, 25], 384), (29, [0, 25], 128), (30, [28, 25], 1152), (31, [29, 25], 2176), (32, [30, 25], 4224), (33, [27, 31, 25], 8832), (34, [25, 32], 16512), (35, [33], 32896), (36, [3, 34], 65536), (37, [35, 34], 196608), (38, [0, 34], 65536), (39, [37, 34], 589824), (40, [38, 34], 1114112), (41, [39, 34], 2162688), (42, [36, 40, 34], 4521984), (43, [34, 41], 8454144), (18, [42], 16842752)] rfl (fun _ d _ _ _ h => by cases d <;> exact h) ?_
 intro hs8 w8 h8
 refine pR_p 22 [0, 2, 3, 4] [(22, (pt sb 2)), (21, (pt sb 0)), (20, (pt sb 0)), (18, (pt g2 0))] 29 hs8 ⟨h8.at_ 6 rfl, h8.at_ 0 rfl, trivial⟩ ?_
 refine pR_v 1 (some 19) (sV peer) 31 rfl hs8 ⟨h8.at_ 6 rfl, h8.at_ 0 rfl, trivial⟩ (fun W hW => eL hW.1 9 (.tmp 18) 0 _) ?_
 refine pR_v 5 (some 23) (sV peer) 63 rfl hs8 ⟨h8.at_ 6 rfl, h8.at_ 0 rfl, trivial⟩ (fun W hW => eL hW.2.1 9 (.tmp 22) 2 _) ?_
 refine pR_v 6 (some 24) (bV false) 127 rfl hs8 ⟨h8.at_ 6 rfl, h8.at_ 0 rfl, trivial⟩ (fun W hW => eqI (bV (!((peer).toList == (peer).toList))) (by simp)) ?_
 refine pR_p 14 [7, 8, 10, 11, 12] [(30, (pt sb 1)), (29, (pt sb 0)), (28, (pt sb 0)), (26, (pt g2 1)), (25, (bV false))] 7679 hs8 ⟨h8.at_ 6 rfl, h8.at_ 0 rfl, trivial⟩ ?_
 refine pR_v 9 (some 27) (sV me) 8191 rfl hs8 ⟨h8.at_ 6 rfl, h8.at_ 0 rfl, trivial⟩ (fun W hW => eL hW.1 9 (.tmp 26) 1 _) ?_
 refine pR_v 13 (some 31) (sV me) 16383 rfl hs8 ⟨h8.at_ 6 rfl, h8.at_ 0 rfl, trivial⟩ (fun W hW => eL hW.2.1 9 (.tmp 30) 1 _) ?_
 refine pR_v 14 (some 32) (bV false) 32767 rfl hs8 ⟨h8.at_ 6 rfl, h8.at_ 0 rfl, trivial⟩ (fun W hW => eqI (bV (!((me).toList == (me).toList))) (by simp)) ?_
 refine pR_p 5 [15, 16, 17, 19, 20, 21] [(39, (pt sb 3)), (38, (pt sb 0)), (37, (pt sb 0)), (35, (pt g2 2)), (34, (bV false)), (33, (bV false))] 3932159 hs8 ⟨h8.at_ 6 rfl, h8.at_ 0 rfl, trivial⟩ ?_
 refine pR_v 18 (some 36) (iV .i64 sid) 4194303 rfl hs8 ⟨h8.at_ 6 rfl, h8.at_ 0 rfl, trivial⟩ (fun W hW => eL hW.1 2 (.tmp 35) 2 _) ?_
 refine pR_v 22 (some 40) (iV .i64 sid) 8388607 rfl hs8 ⟨h8.at_ 6 rfl, h8.at_ 0 rfl, trivial⟩ (fun W hW => eL hW.2.1 2 (.tmp 39) 3 _) ?_
 refine pR_v 23 (some 41) (bV false) 16777215 rfl hs8 ⟨h8.at_ 6 rfl, h8.at_ 0 rfl, trivial⟩ (fun W hW => eqI (bV (sid != sid)) (by simp)) ?_
 refine pR_p 0 [24, 25] [(17, (bV false)), (42, (bV false))] 67108863 hs8 ⟨h8.at_ 6 rfl, h8.at_ 0 rfl, trivial⟩ ?_
 refine pR_done hs8 ?_ _
 refine seq_n hK7 (cF (wp_seq_k fun K9 hK9 => ?_))
 refine pR_go h8 18 (fun W => (rBlk g2 38 ([(sV peer), (sV me), (iV .i64 sid), (iV .i64 ((ei : Int))), (iV .i64 ((n : Int))), (lV Ab fbox.length cb)])).Φ W /\ (rBlk sb 77 ([(Value.iface 28 (pt tb 0)), (sV me), (sV peer), (iV .i64 sid), (pt c1_6 0), (pt c2_6 0), (lV A_6 qu.length cap_6), (iV .i64 ((sent : Int))), (iV .i64 ((got : Int))), (frV fb_6), (bV false)])).Φ W /\ True) [(46, [3], 0), (47, [45], 1), (48, [0], 0), (49, [47], 4), (50, [48], 8), (51, [49], 16), (52, [50], 32), (53, [46, 51], 66), (54, [52], 192), (55, [3, 53], 256), (56, [54, 53], 768), (57, [0, 53], 256), (58, [56, 53], 2304), (59, [57, 53], 4352), (60, [58, 53], 8448), (61, [55, 59, 53], 17664), (62, [53, 60], 33024), (45, [61], 65792)] rfl (fun _ d _ _ _ h => by cases d <;> exact h) ?_
 intro hs10 w10 h10
 refine pR_p 14 [0, 2, 3, 4] [(49, (pt sb 5)), (48, (pt sb 0)), (47, (pt sb 0)), (45, (pt g2 3))] 29 hs10 ⟨h10.at_ 6 rfl, h10.at_ 0 rfl, trivial⟩ ?_
 refine pR_v 1 (some 46) (iV .i64 ((ei : Int))) 31 rfl hs10 ⟨h10.at_ 6 rfl, h10.at_ 0 rfl, trivial⟩ (fun W hW => eL hW.1 2 (.tmp 45) 3 _) ?_
 refine pR_v 5 (some 50) (pt c2_6 0) 63 rfl hs10 ⟨h10.at_ 6 rfl, h10.at_ 0 rfl, trivial⟩ (fun W hW => eL hW.2.1 73 (.tmp 49) 5 _) ?_
 refine pR_to 6 (some 51) 127 rfl hs10 (x_repoch h10 2 rfl (by kernel_rfl)) ?_
 rintro _ w11 ⟨rfl, h11⟩
 refine ⟨fun _ => ⟨h11.at_ 6 rfl, h11.at_ 0 rfl, trivial⟩, ?_⟩
 refine pR_v 7 (some 52) (bV false) 255 rfl hs10 ⟨h11.at_ 6 rfl, h11.at_ 0 rfl, trivial⟩ (fun W hW => eqI (bV (decide ((ei : Int) < (ei : Int)))) (congrArg bV (by simp))) ?_
 refine pR_p 0 [8, 9, 10, 11, 12, 13, 14, 15, 16, 17] [(44, (bV false)), (61, (bV false)), (60, undef), (59, undef), (58, undef), (57, undef), (56, undef), (55, undef), (54, undef), (53, (bV false))] 262143 hs10 ⟨h11.at_ 6 rfl, h11.at_ 0 rfl, trivial⟩ ?_
 refine pR_done hs10 ?_ _
 refine seq_n hK9 (cF (wp_seq_k fun K12 hK12 => ?_))
 refine wp_reset 131 [(0, (pt sb 0)), (1, (aV ([(sV peer), (sV me), (iV .i64 sid), (iV .i64 ((ei : Int))), (iV .i64 ((n : Int))), (lV Ab fbox.length cb)]).toArray)), (3, (pt g2 0)), (4, (pt g3 0)), (5, (iV .i64 0)), (11, (bV false)), (17, (bV false)), (44, (bV false))] (fun x13 => ?_)
 refine pR_go h11 9 (fun W => (rBlk g2 38 ([(sV peer), (sV me), (iV .i64 sid), (iV .i64 ((ei : Int))), (iV .i64 ((n : Int))), (lV Ab fbox.length cb)])).Φ W /\ (rBlk sb 77 ([(Value.iface 28 (pt tb 0)), (sV me), (sV peer), (iV .i64 sid), (pt c1_6 0), (pt c2_6 0), (lV A_6 qu.length cap_6), (iV .i64 ((sent : Int))), (iV .i64 ((got : Int))), (frV fb_6), (bV false)])).Φ W /\ True) [(66, [3], 0), (67, [65], 1), (68, [0], 0), (69, [67], 4), (70, [68], 8), (71, [69], 16), (72, [70], 32), (73, [66, 71], 66), (65, [72], 192)] rfl (fun _ d _ _ _ h => by cases d <;> exact h) ?_
 intro hs14 w14 h14
 refine pR_p 5 [0, 2, 3, 4] [(69, (pt sb 5)), (68, (pt sb 0)), (67, (pt sb 0)), (65, (pt g2 3))] 29 hs14 ⟨h14.at_ 6 rfl, h14.at_ 0 rfl, trivial⟩ ?_
 refine pR_v 1 (some 66) (iV .i64 ((ei : Int))) 31 rfl hs14 ⟨h14.at_ 6 rfl, h14.at_ 0 rfl, trivial⟩ (fun W hW => eL hW.1 2 (.tmp 65) 3 _) ?_
 refine pR_v 5 (some 70) (pt c2_6 0) 63 rfl hs14 ⟨h14.at_ 6 rfl, h14.at_ 0 rfl, trivial⟩ (fun W hW => eL hW.2.1 73 (.tmp 69) 5 _) ?_
 refine pR_to 6 (some 71) 127 rfl hs14 (x_repoch h14 2 rfl (by kernel_rfl)) ?_
 rintro _ w15 ⟨rfl, h15⟩
 refine ⟨fun _ => ⟨h15.at_ 6 rfl, h15.at_ 0 rfl, trivial⟩, ?_⟩
 refine pR_v 7 (some 72) (bV false) 255 rfl hs14 ⟨h15.at_ 6 rfl, h15.at_ 0 rfl, trivial⟩ (fun W hW => eqI (bV (((ei : Int)) != ((ei : Int)))) (by simp)) ?_
 refine pR_p 0 [8] [(64, (bV false))] 511 hs14 ⟨h15.at_ 6 rfl, h15.at_ 0 rfl, trivial⟩ ?_
 refine pR_done hs14 ?_ _
 refine seq_n hK12 (cF (wp_skip (blk_n (seq_n hK4 (wp_seq_k fun K16 hK16 => reg_lit ?_)))))
 refine wq_p 1 [(75, (pt sb 0))] (wq_v (some 76) (aV ([(sV peer), (sV me), (iV .i64 sid), (iV .i64 ((ei : Int))), (iV .i64 ((n : Int))), (lV Ab fbox.length cb)]).toArray) (eLs (h15.at_ 6 rfl) 38 (.tmp 3) 0 ([(sV peer), (sV me), (iV .i64 sid), (iV .i64 ((ei : Int))), (iV .i64 ((n : Int))), (lV Ab fbox.length cb)])) ?_)
 have h17 := (show Hp _ _ _ _ (lSes tb sb c1_6 c2_6 A_6 cap_6 xs_6 fb_6 bx_6 ((Ses.mk me peer sid (kl Ko) eo (kl Ki) ei qu sent got none false)) ++ [rBlk g3 42 ([(lV none 0 0), (bV false), (sV ByteArray.empty), (sV ByteArray.empty), (iV .i64 0), (iV .i64 0), (iV .i64 0), (lV none 0 0), (bV false)]), rBlk g2 38 ([(sV peer), (sV me), (iV .i64 sid), (iV .i64 ((ei : Int))), (iV .i64 ((n : Int))), (lV Ab fbox.length cb)]), rTab F tb s]) from h15.sel [0, 1, 2, 3, 4, 5, 6, 7] [0] rfl rfl rfl).closeS (L := L) hS_6
 refine wq_to (some 77) (x_two h17 3 0 rfl rfl rfl 0 rfl 33 [(pt sb 0), (aV ([(sV peer), (sV me), (iV .i64 sid), (iV .i64 ((ei : Int))), (iV .i64 ((n : Int))), (lV Ab fbox.length cb)]).toArray)] (by kernel_rfl) (sopened_yes (h17.at_ 3 rfl) (h17.at_ 0 rfl) (h17.rd 0 rfl) (h17.dis 3 0 _ _ rfl rfl (by decide)) (h17.rdis 0 3 _ _ rfl rfl) (h17.rdis 0 0 _ _ rfl rfl) (Frm.mk peer me sid ((ei : Int)) ((n : Int)) fbox) Ab cb hmf rfl (by omega) (by omega) hbl 2 n b (by omega) hn hb hop hwr)) ?_
 rintro _ w18 ⟨F18, G18, L18, ⟨B, d, rfl, hmB⟩, hs18, hx18, h18⟩
 refine wq_p 9 [(9, (bV true)), (8, (lV B b.length d)), (7, (iV .i64 ((n : Int)))), (6, (iV .u64 2)), (81, (bV true)), (80, (lV B b.length d)), (79, (iV .i64 ((n : Int)))), (78, (iV .u64 2)), (74, (Value.tuple #[(iV .u64 2), (iV .i64 ((n : Int))), (lV B b.length d), (bV true)]))] ?_
 refine wl_end rfl (seq_n hK16 (wp_seq_k fun K19 hK19 => wp_block (wp_seq_k fun K20 hK20 => reg_lit ?_)))
 refine wq_p 3 [(82, (bV false)), (84, (bV false)), (83, (bV true))] ?_
 refine wl_end rfl (seq_n hK20 (cF (wp_seq_k fun K21 hK21 => reg_lit ?_)))
 refine wq_p 3 [(86, (bV true)), (88, (bV true)), (87, (iV .u64 2))] ?_
 refine wl_end rfl (seq_n hK21 (cT (wp_seq_k fun K22 hK22 => reg_lit ?_)))
 refine wq_p 2 [(90, (iV .i64 ((n : Int)))), (89, (pt sb 0))] ?_
 refine wq_to (some 91) (x_ses h18 0 rfl 0 rfl 34 [(pt sb 0), (iV .i64 ((n : Int)))] (by kernel_rfl) (smarked_none (h18.at_ 0 rfl) (h18.rd 0 rfl) (h18.rdis 0 0 _ _ rfl rfl) (n : Int) rfl)) ?_
 rintro _ w23 ⟨G23, L23, rfl, hs23, hx23, h23⟩
 refine wl_end rfl (seq_n hK22 (wp_seq_k fun K24 hK24 => reg_lit ?_))
 refine wq_p 1 [(92, (aV ([(lV none 0 0), (bV false), (sV ByteArray.empty), (sV ByteArray.empty), (iV .i64 0), (iV .i64 0), (iV .i64 0), (lV none 0 0), (bV false)]).toArray))] ?_
 refine wq_to none (xSs h23 1 42 (.tmp 4) (.tmp 92) 0 ([(lV none 0 0), (bV false), (sV ByteArray.empty), (sV ByteArray.empty), (iV .i64 0), (iV .i64 0), (iV .i64 0), (lV none 0 0), (bV false)]) ([(lV none 0 0), (bV false), (sV ByteArray.empty), (sV ByteArray.empty), (iV .i64 0), (iV .i64 0), (iV .i64 0), (lV none 0 0), (bV false)])) ?_
 rintro _ w25 h25
 refine wq_p 1 [(5, (iV .i64 0))] ?_
 refine wl_end rfl (seq_n hK24 (wp_ret (blk_r (seq_r ?_))))
 refine post_2 rfl (by kernel_rfl) (rce (h25.at_ 1 rfl)) (rtm (iV .i64 0)) ?_
 exact ⟨_, _, _, _, rfl, ⟨_, rfl, none, 0, _, rfl, (hs23 _ (hs18 _ hnil)), rfl⟩, (hx23 _ (hx18 _ (LExt.refl (fun q => F q ∨ G q) w L))), h25.sel [3, 0] [0] rfl rfl rfl⟩
theorem sTake_mark1 {F G : Nat -> Prop} {tb sb : Nat} {s : STab} {L : List (Value × Bytes)} {S : Ses} {w : World} (hT : (rTab F tb s).Φ w) (hv : (rS G tb sb L S).Φ w) (hL : (rF L).Φ w) (hts : (rTab F tb s).dj (rS G tb sb L S)) (hdt : (rF L).dj (rTab F tb s)) (hd : (rF L).dj (rS G tb sb L S)) (f : Frm) (Ab : Option Addr) (cb : Nat) (hmf : (lV Ab f.box.length cb, f.box) ∈ L) (hnil : (lV none 0 0, ([] : Bytes)) ∈ L) (hnk : s.keys.length < 800000) (hnb : s.boxes.length < 800000) (hbl : ∀ b ∈ s.boxes, b.body.length <= 1000000) (ho : S.over = false) (h1 : f.src = S.peer) (h2 : f.dst = S.me) (h3 : f.sid = S.sid) (h4 : f.epoch = (S.ei : Int)) (n : Nat) (b : Bytes) (hn : n < 1000000) (hb : b.length <= 2048) (hop : (openT s S).open_ (openK s S) 14 f.box = some (wrV (contV 2 n b))) (hseq : f.seq = (n : Int)) (g : Frm) (hf : S.frame = some g) (hne : n ≠ S.sent + 1) (hse : S.sent < 1000000) :
   Calls Try.prog 12 #[pt sb 0, .agg (f.cells (.slice Ab f.box.length cb)).toArray] w (Post2 F G tb sb w L (openT s S) (S) (fun L' u => ∃ cs, u = .tuple #[.agg cs.toArray, .int .i64 0] /\ ComeAt L' none none cs)) := by
 have h00 := twoF hT hv hL hts hdt hd
 obtain ⟨me, peer, sid, ko, eo, ki, ei, qu, sent, got, fr, ov⟩ := S
 obtain ⟨Ko, hKo⟩ := kl_of ko (rS_ko hv)
 obtain ⟨Ki, hKi⟩ := kl_of ki (rS_ki hv)
 subst hKo; subst hKi
 obtain ⟨src, dst, fsid, fep, fseq, fbox⟩ := f
 try simp only at *
 obtain rfl : ov = false := ho
 obtain rfl : peer = src := h1.symm
 obtain rfl : me = dst := h2.symm
 obtain rfl : sid = fsid := h3.symm
 obtain rfl : fep = (ei : Int) := h4
 have hnk1 : (openT s (Ses.mk me peer sid (kl Ko) eo (kl Ki) ei qu sent got fr false)).keys.length < 900000 := Nat.lt_of_le_of_lt (openT_keys _ _) (by omega)
 have hnb1 : (openT s (Ses.mk me peer sid (kl Ko) eo (kl Ki) ei qu sent got fr false)).boxes.length < 900000 := by rw [openT_boxes]; omega
 obtain rfl : fseq = (n : Int) := hseq
 have hwr : bV (!((n : Int) == IntKind.u64.wrap (n : Int))) = bV false := seq_wr hn
 obtain rfl : fr = some g := hf
 have h0 := h00
 refine enter 129 Try.func12 rfl rfl ?_
 refine wp_reset 131 [(0, (pt sb 0)), (1, (aV ([(sV peer), (sV me), (iV .i64 sid), (iV .i64 ((ei : Int))), (iV .i64 ((n : Int))), (lV Ab fbox.length cb)]).toArray))] (fun x0 => ?_)
 refine wp_seq_k fun K1 hK1 => reg_lit ?_
 refine wq_to (some 3) (xN h0 38 ([(sV peer), (sV me), (iV .i64 sid), (iV .i64 ((ei : Int))), (iV .i64 ((n : Int))), (lV Ab fbox.length cb)])) ?_
 rintro _ w2 ⟨g2, rfl, h2⟩
 refine wq_to (some 4) (xN h2 42 ([(lV none 0 0), (bV false), (sV ByteArray.empty), (sV ByteArray.empty), (iV .i64 0), (iV .i64 0), (iV .i64 0), (lV none 0 0), (bV false)])) ?_
 rintro _ w3 ⟨g3, rfl, h3⟩
 refine wq_p 1 [(5, (iV .i64 0))] ?_
 refine wl_end rfl (seq_n hK1 (wp_seq_k fun K4 hK4 => wp_block (wp_seq_k fun K5 hK5 => ?_)))
 obtain ⟨c1_6, c2_6, A_6, cap_6, xs_6, fb_6, bx_6, hS_6, hG_6, h6⟩ := h3.openS 3 rfl
 clear hG_6
 refine reg_lit ?_
 refine wq_p 3 [(14, (pt sb 10)), (13, (pt sb 0)), (12, (pt sb 0))] (wq_v (some 15) (bV false) (eL (h6.at_ 0 rfl) 4 (.tmp 14) 10 _) (wq_p 1 [(11, (bV false))] ?_))
 refine wl_end rfl (seq_n hK5 (cF (wp_seq_k fun K7 hK7 => ?_)))
 refine pR_go h6 26 (fun W => (rBlk g2 38 ([(sV peer), (sV me), (iV .i64 sid), (iV .i64 ((ei : Int))), (iV .i64 ((n : Int))), (lV Ab fbox.length cb)])).Φ W /\ (rBlk sb 77 ([(Value.iface 28 (pt tb 0)), (sV me), (sV peer), (iV .i64 sid), (pt c1_6 0), (pt c2_6 0), (lV A_6 qu.length cap_6), (iV .i64 ((sent : Int))), (iV .i64 ((got : Int))), (frV fb_6), (bV false)])).Φ W /\ True) [(19, [3], 0), (20, [18], 1), (21, [0], 0), (22, [20], 4), (23, [21], 8), (24, [22], 16), (25, [19, 23], 34), (26, [24], 64), (27, [3, 25], 128), (28, [26, 25], 384), (29, [0, 25], 128), (30, [28, 25], 1152), (31, [29, 25], 2176), (32, [30, 25], 4224), (33, [27, 31, 25], 8832), (34, [25, 32], 16512), (35, [33], 32896), (36, [3, 34], 65536), (37, [35, 34], 196608), (38, [0, 34], 65536), (39, [37, 34], 589824), (40, [38, 34], 1114112), (41, [39, 34], 2162688), (42, [36, 40, 34], 4521984), (43, [34, 41], 8454144), (18, [42], 16842752)] rfl (fun _ d _ _ _ h => by cases d <;> exact h) ?_
 intro hs8 w8 h8
 refine pR_p 22 [0, 2, 3, 4] [(22, (pt sb 2)), (21, (pt sb 0)), (20, (pt sb 0)), (18, (pt g2 0))] 29 hs8 ⟨h8.at_ 6 rfl, h8.at_ 0 rfl, trivial⟩ ?_
 refine pR_v 1 (some 19) (sV peer) 31 rfl hs8 ⟨h8.at_ 6 rfl, h8.at_ 0 rfl, trivial⟩ (fun W hW => eL hW.1 9 (.tmp 18) 0 _) ?_
 refine pR_v 5 (some 23) (sV peer) 63 rfl hs8 ⟨h8.at_ 6 rfl, h8.at_ 0 rfl, trivial⟩ (fun W hW => eL hW.2.1 9 (.tmp 22) 2 _) ?_
 refine pR_v 6 (some 24) (bV false) 127 rfl hs8 ⟨h8.at_ 6 rfl, h8.at_ 0 rfl, trivial⟩ (fun W hW => eqI (bV (!((peer).toList == (peer).toList))) (by simp)) ?_
 refine pR_p 14 [7, 8, 10, 11, 12] [(30, (pt sb 1)), (29, (pt sb 0)), (28, (pt sb 0)), (26, (pt g2 1)), (25, (bV false))] 7679 hs8 ⟨h8.at_ 6 rfl, h8.at_ 0 rfl, trivial⟩ ?_
 refine pR_v 9 (some 27) (sV me) 8191 rfl hs8 ⟨h8.at_ 6 rfl, h8.at_ 0 rfl, trivial⟩ (fun W hW => eL hW.1 9 (.tmp 26) 1 _) ?_
 refine pR_v 13 (some 31) (sV me) 16383 rfl hs8 ⟨h8.at_ 6 rfl, h8.at_ 0 rfl, trivial⟩ (fun W hW => eL hW.2.1 9 (.tmp 30) 1 _) ?_
 refine pR_v 14 (some 32) (bV false) 32767 rfl hs8 ⟨h8.at_ 6 rfl, h8.at_ 0 rfl, trivial⟩ (fun W hW => eqI (bV (!((me).toList == (me).toList))) (by simp)) ?_
 refine pR_p 5 [15, 16, 17, 19, 20, 21] [(39, (pt sb 3)), (38, (pt sb 0)), (37, (pt sb 0)), (35, (pt g2 2)), (34, (bV false)), (33, (bV false))] 3932159 hs8 ⟨h8.at_ 6 rfl, h8.at_ 0 rfl, trivial⟩ ?_
 refine pR_v 18 (some 36) (iV .i64 sid) 4194303 rfl hs8 ⟨h8.at_ 6 rfl, h8.at_ 0 rfl, trivial⟩ (fun W hW => eL hW.1 2 (.tmp 35) 2 _) ?_
 refine pR_v 22 (some 40) (iV .i64 sid) 8388607 rfl hs8 ⟨h8.at_ 6 rfl, h8.at_ 0 rfl, trivial⟩ (fun W hW => eL hW.2.1 2 (.tmp 39) 3 _) ?_
 refine pR_v 23 (some 41) (bV false) 16777215 rfl hs8 ⟨h8.at_ 6 rfl, h8.at_ 0 rfl, trivial⟩ (fun W hW => eqI (bV (sid != sid)) (by simp)) ?_
 refine pR_p 0 [24, 25] [(17, (bV false)), (42, (bV false))] 67108863 hs8 ⟨h8.at_ 6 rfl, h8.at_ 0 rfl, trivial⟩ ?_
 refine pR_done hs8 ?_ _
 refine seq_n hK7 (cF (wp_seq_k fun K9 hK9 => ?_))
 refine pR_go h8 18 (fun W => (rBlk g2 38 ([(sV peer), (sV me), (iV .i64 sid), (iV .i64 ((ei : Int))), (iV .i64 ((n : Int))), (lV Ab fbox.length cb)])).Φ W /\ (rBlk sb 77 ([(Value.iface 28 (pt tb 0)), (sV me), (sV peer), (iV .i64 sid), (pt c1_6 0), (pt c2_6 0), (lV A_6 qu.length cap_6), (iV .i64 ((sent : Int))), (iV .i64 ((got : Int))), (frV fb_6), (bV false)])).Φ W /\ True) [(46, [3], 0), (47, [45], 1), (48, [0], 0), (49, [47], 4), (50, [48], 8), (51, [49], 16), (52, [50], 32), (53, [46, 51], 66), (54, [52], 192), (55, [3, 53], 256), (56, [54, 53], 768), (57, [0, 53], 256), (58, [56, 53], 2304), (59, [57, 53], 4352), (60, [58, 53], 8448), (61, [55, 59, 53], 17664), (62, [53, 60], 33024), (45, [61], 65792)] rfl (fun _ d _ _ _ h => by cases d <;> exact h) ?_
 intro hs10 w10 h10
 refine pR_p 14 [0, 2, 3, 4] [(49, (pt sb 5)), (48, (pt sb 0)), (47, (pt sb 0)), (45, (pt g2 3))] 29 hs10 ⟨h10.at_ 6 rfl, h10.at_ 0 rfl, trivial⟩ ?_
 refine pR_v 1 (some 46) (iV .i64 ((ei : Int))) 31 rfl hs10 ⟨h10.at_ 6 rfl, h10.at_ 0 rfl, trivial⟩ (fun W hW => eL hW.1 2 (.tmp 45) 3 _) ?_
 refine pR_v 5 (some 50) (pt c2_6 0) 63 rfl hs10 ⟨h10.at_ 6 rfl, h10.at_ 0 rfl, trivial⟩ (fun W hW => eL hW.2.1 73 (.tmp 49) 5 _) ?_
 refine pR_to 6 (some 51) 127 rfl hs10 (x_repoch h10 2 rfl (by kernel_rfl)) ?_
 rintro _ w11 ⟨rfl, h11⟩
 refine ⟨fun _ => ⟨h11.at_ 6 rfl, h11.at_ 0 rfl, trivial⟩, ?_⟩
 refine pR_v 7 (some 52) (bV false) 255 rfl hs10 ⟨h11.at_ 6 rfl, h11.at_ 0 rfl, trivial⟩ (fun W hW => eqI (bV (decide ((ei : Int) < (ei : Int)))) (congrArg bV (by simp))) ?_
 refine pR_p 0 [8, 9, 10, 11, 12, 13, 14, 15, 16, 17] [(44, (bV false)), (61, (bV false)), (60, undef), (59, undef), (58, undef), (57, undef), (56, undef), (55, undef), (54, undef), (53, (bV false))] 262143 hs10 ⟨h11.at_ 6 rfl, h11.at_ 0 rfl, trivial⟩ ?_
 refine pR_done hs10 ?_ _
 refine seq_n hK9 (cF (wp_seq_k fun K12 hK12 => ?_))
 refine wp_reset 131 [(0, (pt sb 0)), (1, (aV ([(sV peer), (sV me), (iV .i64 sid), (iV .i64 ((ei : Int))), (iV .i64 ((n : Int))), (lV Ab fbox.length cb)]).toArray)), (3, (pt g2 0)), (4, (pt g3 0)), (5, (iV .i64 0)), (11, (bV false)), (17, (bV false)), (44, (bV false))] (fun x13 => ?_)
 refine pR_go h11 9 (fun W => (rBlk g2 38 ([(sV peer), (sV me), (iV .i64 sid), (iV .i64 ((ei : Int))), (iV .i64 ((n : Int))), (lV Ab fbox.length cb)])).Φ W /\ (rBlk sb 77 ([(Value.iface 28 (pt tb 0)), (sV me), (sV peer), (iV .i64 sid), (pt c1_6 0), (pt c2_6 0), (lV A_6 qu.length cap_6), (iV .i64 ((sent : Int))), (iV .i64 ((got : Int))), (frV fb_6), (bV false)])).Φ W /\ True) [(66, [3], 0), (67, [65], 1), (68, [0], 0), (69, [67], 4), (70, [68], 8), (71, [69], 16), (72, [70], 32), (73, [66, 71], 66), (65, [72], 192)] rfl (fun _ d _ _ _ h => by cases d <;> exact h) ?_
 intro hs14 w14 h14
 refine pR_p 5 [0, 2, 3, 4] [(69, (pt sb 5)), (68, (pt sb 0)), (67, (pt sb 0)), (65, (pt g2 3))] 29 hs14 ⟨h14.at_ 6 rfl, h14.at_ 0 rfl, trivial⟩ ?_
 refine pR_v 1 (some 66) (iV .i64 ((ei : Int))) 31 rfl hs14 ⟨h14.at_ 6 rfl, h14.at_ 0 rfl, trivial⟩ (fun W hW => eL hW.1 2 (.tmp 65) 3 _) ?_
 refine pR_v 5 (some 70) (pt c2_6 0) 63 rfl hs14 ⟨h14.at_ 6 rfl, h14.at_ 0 rfl, trivial⟩ (fun W hW => eL hW.2.1 73 (.tmp 69) 5 _) ?_
 refine pR_to 6 (some 71) 127 rfl hs14 (x_repoch h14 2 rfl (by kernel_rfl)) ?_
 rintro _ w15 ⟨rfl, h15⟩
 refine ⟨fun _ => ⟨h15.at_ 6 rfl, h15.at_ 0 rfl, trivial⟩, ?_⟩
 refine pR_v 7 (some 72) (bV false) 255 rfl hs14 ⟨h15.at_ 6 rfl, h15.at_ 0 rfl, trivial⟩ (fun W hW => eqI (bV (((ei : Int)) != ((ei : Int)))) (by simp)) ?_
 refine pR_p 0 [8] [(64, (bV false))] 511 hs14 ⟨h15.at_ 6 rfl, h15.at_ 0 rfl, trivial⟩ ?_
 refine pR_done hs14 ?_ _
 refine seq_n hK12 (cF (wp_skip (blk_n (seq_n hK4 (wp_seq_k fun K16 hK16 => reg_lit ?_)))))
 refine wq_p 1 [(75, (pt sb 0))] (wq_v (some 76) (aV ([(sV peer), (sV me), (iV .i64 sid), (iV .i64 ((ei : Int))), (iV .i64 ((n : Int))), (lV Ab fbox.length cb)]).toArray) (eLs (h15.at_ 6 rfl) 38 (.tmp 3) 0 ([(sV peer), (sV me), (iV .i64 sid), (iV .i64 ((ei : Int))), (iV .i64 ((n : Int))), (lV Ab fbox.length cb)])) ?_)
 have h17 := (show Hp _ _ _ _ (lSes tb sb c1_6 c2_6 A_6 cap_6 xs_6 fb_6 bx_6 ((Ses.mk me peer sid (kl Ko) eo (kl Ki) ei qu sent got (some g) false)) ++ [rBlk g3 42 ([(lV none 0 0), (bV false), (sV ByteArray.empty), (sV ByteArray.empty), (iV .i64 0), (iV .i64 0), (iV .i64 0), (lV none 0 0), (bV false)]), rBlk g2 38 ([(sV peer), (sV me), (iV .i64 sid), (iV .i64 ((ei : Int))), (iV .i64 ((n : Int))), (lV Ab fbox.length cb)]), rTab F tb s]) from h15.sel [0, 1, 2, 3, 4, 5, 6, 7] [0] rfl rfl rfl).closeS (L := L) hS_6
 refine wq_to (some 77) (x_two h17 3 0 rfl rfl rfl 0 rfl 33 [(pt sb 0), (aV ([(sV peer), (sV me), (iV .i64 sid), (iV .i64 ((ei : Int))), (iV .i64 ((n : Int))), (lV Ab fbox.length cb)]).toArray)] (by kernel_rfl) (sopened_yes (h17.at_ 3 rfl) (h17.at_ 0 rfl) (h17.rd 0 rfl) (h17.dis 3 0 _ _ rfl rfl (by decide)) (h17.rdis 0 3 _ _ rfl rfl) (h17.rdis 0 0 _ _ rfl rfl) (Frm.mk peer me sid ((ei : Int)) ((n : Int)) fbox) Ab cb hmf rfl (by omega) (by omega) hbl 2 n b (by omega) hn hb hop hwr)) ?_
 rintro _ w18 ⟨F18, G18, L18, ⟨B, d, rfl, hmB⟩, hs18, hx18, h18⟩
 refine wq_p 9 [(9, (bV true)), (8, (lV B b.length d)), (7, (iV .i64 ((n : Int)))), (6, (iV .u64 2)), (81, (bV true)), (80, (lV B b.length d)), (79, (iV .i64 ((n : Int)))), (78, (iV .u64 2)), (74, (Value.tuple #[(iV .u64 2), (iV .i64 ((n : Int))), (lV B b.length d), (bV true)]))] ?_
 refine wl_end rfl (seq_n hK16 (wp_seq_k fun K19 hK19 => wp_block (wp_seq_k fun K20 hK20 => reg_lit ?_)))
 refine wq_p 3 [(82, (bV false)), (84, (bV false)), (83, (bV true))] ?_
 refine wl_end rfl (seq_n hK20 (cF (wp_seq_k fun K21 hK21 => reg_lit ?_)))
 refine wq_p 3 [(86, (bV true)), (88, (bV true)), (87, (iV .u64 2))] ?_
 refine wl_end rfl (seq_n hK21 (cT (wp_seq_k fun K22 hK22 => reg_lit ?_)))
 refine wq_p 2 [(90, (iV .i64 ((n : Int)))), (89, (pt sb 0))] ?_
 refine wq_to (some 91) (x_ses h18 0 rfl 0 rfl 34 [(pt sb 0), (iV .i64 ((n : Int)))] (by kernel_rfl) (smarked_other (h18.at_ 0 rfl) (h18.rd 0 rfl) (h18.rdis 0 0 _ _ rfl rfl) (n : Int) g rfl (by show (n : Int) ≠ ((sent + 1 : Nat) : Int); omega) hse)) ?_
 rintro _ w23 ⟨G23, L23, rfl, hs23, hx23, h23⟩
 refine wl_end rfl (seq_n hK22 (wp_seq_k fun K24 hK24 => reg_lit ?_))
 refine wq_p 1 [(92, (aV ([(lV none 0 0), (bV false), (sV ByteArray.empty), (sV ByteArray.empty), (iV .i64 0), (iV .i64 0), (iV .i64 0), (lV none 0 0), (bV false)]).toArray))] ?_
 refine wq_to none (xSs h23 1 42 (.tmp 4) (.tmp 92) 0 ([(lV none 0 0), (bV false), (sV ByteArray.empty), (sV ByteArray.empty), (iV .i64 0), (iV .i64 0), (iV .i64 0), (lV none 0 0), (bV false)]) ([(lV none 0 0), (bV false), (sV ByteArray.empty), (sV ByteArray.empty), (iV .i64 0), (iV .i64 0), (iV .i64 0), (lV none 0 0), (bV false)])) ?_
 rintro _ w25 h25
 refine wq_p 1 [(5, (iV .i64 0))] ?_
 refine wl_end rfl (seq_n hK24 (wp_ret (blk_r (seq_r ?_))))
 refine post_2 rfl (by kernel_rfl) (rce (h25.at_ 1 rfl)) (rtm (iV .i64 0)) ?_
 exact ⟨_, _, _, _, rfl, ⟨_, rfl, none, 0, _, rfl, (hs23 _ (hs18 _ hnil)), rfl⟩, (hx23 _ (hx18 _ (LExt.refl (fun q => F q ∨ G q) w L))), h25.sel [3, 0] [0] rfl rfl rfl⟩
theorem sTake_mark2 {F G : Nat -> Prop} {tb sb : Nat} {s : STab} {L : List (Value × Bytes)} {S : Ses} {w : World} (hT : (rTab F tb s).Φ w) (hv : (rS G tb sb L S).Φ w) (hL : (rF L).Φ w) (hts : (rTab F tb s).dj (rS G tb sb L S)) (hdt : (rF L).dj (rTab F tb s)) (hd : (rF L).dj (rS G tb sb L S)) (f : Frm) (Ab : Option Addr) (cb : Nat) (hmf : (lV Ab f.box.length cb, f.box) ∈ L) (hnil : (lV none 0 0, ([] : Bytes)) ∈ L) (hnk : s.keys.length < 800000) (hnb : s.boxes.length < 800000) (hbl : ∀ b ∈ s.boxes, b.body.length <= 1000000) (ho : S.over = false) (h1 : f.src = S.peer) (h2 : f.dst = S.me) (h3 : f.sid = S.sid) (h4 : f.epoch = (S.ei : Int)) (n : Nat) (b : Bytes) (hn : n < 1000000) (hb : b.length <= 2048) (hop : (openT s S).open_ (openK s S) 14 f.box = some (wrV (contV 2 n b))) (hseq : f.seq = (n : Int)) (g : Frm) (p : Nat × Bytes) (qs : List (Nat × Bytes)) (hf : S.frame = some g) (hqu : S.queue = p :: qs) (hne : n = S.sent + 1) (hse : S.sent < 1000000) :
   Calls Try.prog 12 #[pt sb 0, .agg (f.cells (.slice Ab f.box.length cb)).toArray] w (Post2 F G tb sb w L (openT s S) (markR S) (fun L' u => ∃ cs, u = .tuple #[.agg cs.toArray, .int .i64 0] /\ ComeAt L' none none cs)) := by
 have h00 := twoF hT hv hL hts hdt hd
 obtain ⟨me, peer, sid, ko, eo, ki, ei, qu, sent, got, fr, ov⟩ := S
 obtain ⟨Ko, hKo⟩ := kl_of ko (rS_ko hv)
 obtain ⟨Ki, hKi⟩ := kl_of ki (rS_ki hv)
 subst hKo; subst hKi
 obtain ⟨src, dst, fsid, fep, fseq, fbox⟩ := f
 try simp only at *
 obtain rfl : ov = false := ho
 obtain rfl : peer = src := h1.symm
 obtain rfl : me = dst := h2.symm
 obtain rfl : sid = fsid := h3.symm
 obtain rfl : fep = (ei : Int) := h4
 have hnk1 : (openT s (Ses.mk me peer sid (kl Ko) eo (kl Ki) ei qu sent got fr false)).keys.length < 900000 := Nat.lt_of_le_of_lt (openT_keys _ _) (by omega)
 have hnb1 : (openT s (Ses.mk me peer sid (kl Ko) eo (kl Ki) ei qu sent got fr false)).boxes.length < 900000 := by rw [openT_boxes]; omega
 obtain rfl : fseq = (n : Int) := hseq
 have hwr : bV (!((n : Int) == IntKind.u64.wrap (n : Int))) = bV false := seq_wr hn
 obtain rfl : fr = some g := hf
 obtain rfl : qu = p :: qs := hqu
 subst hne
 have h0 := h00
 refine enter 129 Try.func12 rfl rfl ?_
 refine wp_reset 131 [(0, (pt sb 0)), (1, (aV ([(sV peer), (sV me), (iV .i64 sid), (iV .i64 ((ei : Int))), (iV .i64 (((sent + 1 : Nat) : Int))), (lV Ab fbox.length cb)]).toArray))] (fun x0 => ?_)
 refine wp_seq_k fun K1 hK1 => reg_lit ?_
 refine wq_to (some 3) (xN h0 38 ([(sV peer), (sV me), (iV .i64 sid), (iV .i64 ((ei : Int))), (iV .i64 (((sent + 1 : Nat) : Int))), (lV Ab fbox.length cb)])) ?_
 rintro _ w2 ⟨g2, rfl, h2⟩
 refine wq_to (some 4) (xN h2 42 ([(lV none 0 0), (bV false), (sV ByteArray.empty), (sV ByteArray.empty), (iV .i64 0), (iV .i64 0), (iV .i64 0), (lV none 0 0), (bV false)])) ?_
 rintro _ w3 ⟨g3, rfl, h3⟩
 refine wq_p 1 [(5, (iV .i64 0))] ?_
 refine wl_end rfl (seq_n hK1 (wp_seq_k fun K4 hK4 => wp_block (wp_seq_k fun K5 hK5 => ?_)))
 obtain ⟨c1_6, c2_6, A_6, cap_6, xs_6, fb_6, bx_6, hS_6, hG_6, h6⟩ := h3.openS 3 rfl
 clear hG_6
 refine reg_lit ?_
 refine wq_p 3 [(14, (pt sb 10)), (13, (pt sb 0)), (12, (pt sb 0))] (wq_v (some 15) (bV false) (eL (h6.at_ 0 rfl) 4 (.tmp 14) 10 _) (wq_p 1 [(11, (bV false))] ?_))
 refine wl_end rfl (seq_n hK5 (cF (wp_seq_k fun K7 hK7 => ?_)))
 refine pR_go h6 26 (fun W => (rBlk g2 38 ([(sV peer), (sV me), (iV .i64 sid), (iV .i64 ((ei : Int))), (iV .i64 (((sent + 1 : Nat) : Int))), (lV Ab fbox.length cb)])).Φ W /\ (rBlk sb 77 ([(Value.iface 28 (pt tb 0)), (sV me), (sV peer), (iV .i64 sid), (pt c1_6 0), (pt c2_6 0), (lV A_6 ((p :: qs).length) cap_6), (iV .i64 ((sent : Int))), (iV .i64 ((got : Int))), (frV fb_6), (bV false)])).Φ W /\ True) [(19, [3], 0), (20, [18], 1), (21, [0], 0), (22, [20], 4), (23, [21], 8), (24, [22], 16), (25, [19, 23], 34), (26, [24], 64), (27, [3, 25], 128), (28, [26, 25], 384), (29, [0, 25], 128), (30, [28, 25], 1152), (31, [29, 25], 2176), (32, [30, 25], 4224), (33, [27, 31, 25], 8832), (34, [25, 32], 16512), (35, [33], 32896), (36, [3, 34], 65536), (37, [35, 34], 196608), (38, [0, 34], 65536), (39, [37, 34], 589824), (40, [38, 34], 1114112), (41, [39, 34], 2162688), (42, [36, 40, 34], 4521984), (43, [34, 41], 8454144), (18, [42], 16842752)] rfl (fun _ d _ _ _ h => by cases d <;> exact h) ?_
 intro hs8 w8 h8
 refine pR_p 22 [0, 2, 3, 4] [(22, (pt sb 2)), (21, (pt sb 0)), (20, (pt sb 0)), (18, (pt g2 0))] 29 hs8 ⟨h8.at_ 6 rfl, h8.at_ 0 rfl, trivial⟩ ?_
 refine pR_v 1 (some 19) (sV peer) 31 rfl hs8 ⟨h8.at_ 6 rfl, h8.at_ 0 rfl, trivial⟩ (fun W hW => eL hW.1 9 (.tmp 18) 0 _) ?_
 refine pR_v 5 (some 23) (sV peer) 63 rfl hs8 ⟨h8.at_ 6 rfl, h8.at_ 0 rfl, trivial⟩ (fun W hW => eL hW.2.1 9 (.tmp 22) 2 _) ?_
 refine pR_v 6 (some 24) (bV false) 127 rfl hs8 ⟨h8.at_ 6 rfl, h8.at_ 0 rfl, trivial⟩ (fun W hW => eqI (bV (!((peer).toList == (peer).toList))) (by simp)) ?_
 refine pR_p 14 [7, 8, 10, 11, 12] [(30, (pt sb 1)), (29, (pt sb 0)), (28, (pt sb 0)), (26, (pt g2 1)), (25, (bV false))] 7679 hs8 ⟨h8.at_ 6 rfl, h8.at_ 0 rfl, trivial⟩ ?_
 refine pR_v 9 (some 27) (sV me) 8191 rfl hs8 ⟨h8.at_ 6 rfl, h8.at_ 0 rfl, trivial⟩ (fun W hW => eL hW.1 9 (.tmp 26) 1 _) ?_
 refine pR_v 13 (some 31) (sV me) 16383 rfl hs8 ⟨h8.at_ 6 rfl, h8.at_ 0 rfl, trivial⟩ (fun W hW => eL hW.2.1 9 (.tmp 30) 1 _) ?_
 refine pR_v 14 (some 32) (bV false) 32767 rfl hs8 ⟨h8.at_ 6 rfl, h8.at_ 0 rfl, trivial⟩ (fun W hW => eqI (bV (!((me).toList == (me).toList))) (by simp)) ?_
 refine pR_p 5 [15, 16, 17, 19, 20, 21] [(39, (pt sb 3)), (38, (pt sb 0)), (37, (pt sb 0)), (35, (pt g2 2)), (34, (bV false)), (33, (bV false))] 3932159 hs8 ⟨h8.at_ 6 rfl, h8.at_ 0 rfl, trivial⟩ ?_
 refine pR_v 18 (some 36) (iV .i64 sid) 4194303 rfl hs8 ⟨h8.at_ 6 rfl, h8.at_ 0 rfl, trivial⟩ (fun W hW => eL hW.1 2 (.tmp 35) 2 _) ?_
 refine pR_v 22 (some 40) (iV .i64 sid) 8388607 rfl hs8 ⟨h8.at_ 6 rfl, h8.at_ 0 rfl, trivial⟩ (fun W hW => eL hW.2.1 2 (.tmp 39) 3 _) ?_
 refine pR_v 23 (some 41) (bV false) 16777215 rfl hs8 ⟨h8.at_ 6 rfl, h8.at_ 0 rfl, trivial⟩ (fun W hW => eqI (bV (sid != sid)) (by simp)) ?_
 refine pR_p 0 [24, 25] [(17, (bV false)), (42, (bV false))] 67108863 hs8 ⟨h8.at_ 6 rfl, h8.at_ 0 rfl, trivial⟩ ?_
 refine pR_done hs8 ?_ _
 refine seq_n hK7 (cF (wp_seq_k fun K9 hK9 => ?_))
 refine pR_go h8 18 (fun W => (rBlk g2 38 ([(sV peer), (sV me), (iV .i64 sid), (iV .i64 ((ei : Int))), (iV .i64 (((sent + 1 : Nat) : Int))), (lV Ab fbox.length cb)])).Φ W /\ (rBlk sb 77 ([(Value.iface 28 (pt tb 0)), (sV me), (sV peer), (iV .i64 sid), (pt c1_6 0), (pt c2_6 0), (lV A_6 ((p :: qs).length) cap_6), (iV .i64 ((sent : Int))), (iV .i64 ((got : Int))), (frV fb_6), (bV false)])).Φ W /\ True) [(46, [3], 0), (47, [45], 1), (48, [0], 0), (49, [47], 4), (50, [48], 8), (51, [49], 16), (52, [50], 32), (53, [46, 51], 66), (54, [52], 192), (55, [3, 53], 256), (56, [54, 53], 768), (57, [0, 53], 256), (58, [56, 53], 2304), (59, [57, 53], 4352), (60, [58, 53], 8448), (61, [55, 59, 53], 17664), (62, [53, 60], 33024), (45, [61], 65792)] rfl (fun _ d _ _ _ h => by cases d <;> exact h) ?_
 intro hs10 w10 h10
 refine pR_p 14 [0, 2, 3, 4] [(49, (pt sb 5)), (48, (pt sb 0)), (47, (pt sb 0)), (45, (pt g2 3))] 29 hs10 ⟨h10.at_ 6 rfl, h10.at_ 0 rfl, trivial⟩ ?_
 refine pR_v 1 (some 46) (iV .i64 ((ei : Int))) 31 rfl hs10 ⟨h10.at_ 6 rfl, h10.at_ 0 rfl, trivial⟩ (fun W hW => eL hW.1 2 (.tmp 45) 3 _) ?_
 refine pR_v 5 (some 50) (pt c2_6 0) 63 rfl hs10 ⟨h10.at_ 6 rfl, h10.at_ 0 rfl, trivial⟩ (fun W hW => eL hW.2.1 73 (.tmp 49) 5 _) ?_
 refine pR_to 6 (some 51) 127 rfl hs10 (x_repoch h10 2 rfl (by kernel_rfl)) ?_
 rintro _ w11 ⟨rfl, h11⟩
 refine ⟨fun _ => ⟨h11.at_ 6 rfl, h11.at_ 0 rfl, trivial⟩, ?_⟩
 refine pR_v 7 (some 52) (bV false) 255 rfl hs10 ⟨h11.at_ 6 rfl, h11.at_ 0 rfl, trivial⟩ (fun W hW => eqI (bV (decide ((ei : Int) < (ei : Int)))) (congrArg bV (by simp))) ?_
 refine pR_p 0 [8, 9, 10, 11, 12, 13, 14, 15, 16, 17] [(44, (bV false)), (61, (bV false)), (60, undef), (59, undef), (58, undef), (57, undef), (56, undef), (55, undef), (54, undef), (53, (bV false))] 262143 hs10 ⟨h11.at_ 6 rfl, h11.at_ 0 rfl, trivial⟩ ?_
 refine pR_done hs10 ?_ _
 refine seq_n hK9 (cF (wp_seq_k fun K12 hK12 => ?_))
 refine wp_reset 131 [(0, (pt sb 0)), (1, (aV ([(sV peer), (sV me), (iV .i64 sid), (iV .i64 ((ei : Int))), (iV .i64 (((sent + 1 : Nat) : Int))), (lV Ab fbox.length cb)]).toArray)), (3, (pt g2 0)), (4, (pt g3 0)), (5, (iV .i64 0)), (11, (bV false)), (17, (bV false)), (44, (bV false))] (fun x13 => ?_)
 refine pR_go h11 9 (fun W => (rBlk g2 38 ([(sV peer), (sV me), (iV .i64 sid), (iV .i64 ((ei : Int))), (iV .i64 (((sent + 1 : Nat) : Int))), (lV Ab fbox.length cb)])).Φ W /\ (rBlk sb 77 ([(Value.iface 28 (pt tb 0)), (sV me), (sV peer), (iV .i64 sid), (pt c1_6 0), (pt c2_6 0), (lV A_6 ((p :: qs).length) cap_6), (iV .i64 ((sent : Int))), (iV .i64 ((got : Int))), (frV fb_6), (bV false)])).Φ W /\ True) [(66, [3], 0), (67, [65], 1), (68, [0], 0), (69, [67], 4), (70, [68], 8), (71, [69], 16), (72, [70], 32), (73, [66, 71], 66), (65, [72], 192)] rfl (fun _ d _ _ _ h => by cases d <;> exact h) ?_
 intro hs14 w14 h14
 refine pR_p 5 [0, 2, 3, 4] [(69, (pt sb 5)), (68, (pt sb 0)), (67, (pt sb 0)), (65, (pt g2 3))] 29 hs14 ⟨h14.at_ 6 rfl, h14.at_ 0 rfl, trivial⟩ ?_
 refine pR_v 1 (some 66) (iV .i64 ((ei : Int))) 31 rfl hs14 ⟨h14.at_ 6 rfl, h14.at_ 0 rfl, trivial⟩ (fun W hW => eL hW.1 2 (.tmp 65) 3 _) ?_
 refine pR_v 5 (some 70) (pt c2_6 0) 63 rfl hs14 ⟨h14.at_ 6 rfl, h14.at_ 0 rfl, trivial⟩ (fun W hW => eL hW.2.1 73 (.tmp 69) 5 _) ?_
 refine pR_to 6 (some 71) 127 rfl hs14 (x_repoch h14 2 rfl (by kernel_rfl)) ?_
 rintro _ w15 ⟨rfl, h15⟩
 refine ⟨fun _ => ⟨h15.at_ 6 rfl, h15.at_ 0 rfl, trivial⟩, ?_⟩
 refine pR_v 7 (some 72) (bV false) 255 rfl hs14 ⟨h15.at_ 6 rfl, h15.at_ 0 rfl, trivial⟩ (fun W hW => eqI (bV (((ei : Int)) != ((ei : Int)))) (by simp)) ?_
 refine pR_p 0 [8] [(64, (bV false))] 511 hs14 ⟨h15.at_ 6 rfl, h15.at_ 0 rfl, trivial⟩ ?_
 refine pR_done hs14 ?_ _
 refine seq_n hK12 (cF (wp_skip (blk_n (seq_n hK4 (wp_seq_k fun K16 hK16 => reg_lit ?_)))))
 refine wq_p 1 [(75, (pt sb 0))] (wq_v (some 76) (aV ([(sV peer), (sV me), (iV .i64 sid), (iV .i64 ((ei : Int))), (iV .i64 (((sent + 1 : Nat) : Int))), (lV Ab fbox.length cb)]).toArray) (eLs (h15.at_ 6 rfl) 38 (.tmp 3) 0 ([(sV peer), (sV me), (iV .i64 sid), (iV .i64 ((ei : Int))), (iV .i64 (((sent + 1 : Nat) : Int))), (lV Ab fbox.length cb)])) ?_)
 have h17 := (show Hp _ _ _ _ (lSes tb sb c1_6 c2_6 A_6 cap_6 xs_6 fb_6 bx_6 ((Ses.mk me peer sid (kl Ko) eo (kl Ki) ei (p :: qs) sent got (some g) false)) ++ [rBlk g3 42 ([(lV none 0 0), (bV false), (sV ByteArray.empty), (sV ByteArray.empty), (iV .i64 0), (iV .i64 0), (iV .i64 0), (lV none 0 0), (bV false)]), rBlk g2 38 ([(sV peer), (sV me), (iV .i64 sid), (iV .i64 ((ei : Int))), (iV .i64 (((sent + 1 : Nat) : Int))), (lV Ab fbox.length cb)]), rTab F tb s]) from h15.sel [0, 1, 2, 3, 4, 5, 6, 7] [0] rfl rfl rfl).closeS (L := L) hS_6
 refine wq_to (some 77) (x_two h17 3 0 rfl rfl rfl 0 rfl 33 [(pt sb 0), (aV ([(sV peer), (sV me), (iV .i64 sid), (iV .i64 ((ei : Int))), (iV .i64 (((sent + 1 : Nat) : Int))), (lV Ab fbox.length cb)]).toArray)] (by kernel_rfl) (sopened_yes (h17.at_ 3 rfl) (h17.at_ 0 rfl) (h17.rd 0 rfl) (h17.dis 3 0 _ _ rfl rfl (by decide)) (h17.rdis 0 3 _ _ rfl rfl) (h17.rdis 0 0 _ _ rfl rfl) (Frm.mk peer me sid ((ei : Int)) (((sent + 1 : Nat) : Int)) fbox) Ab cb hmf rfl (by omega) (by omega) hbl 2 (sent + 1) b (by omega) hn hb hop hwr)) ?_
 rintro _ w18 ⟨F18, G18, L18, ⟨B, d, rfl, hmB⟩, hs18, hx18, h18⟩
 refine wq_p 9 [(9, (bV true)), (8, (lV B b.length d)), (7, (iV .i64 (((sent + 1 : Nat) : Int)))), (6, (iV .u64 2)), (81, (bV true)), (80, (lV B b.length d)), (79, (iV .i64 (((sent + 1 : Nat) : Int)))), (78, (iV .u64 2)), (74, (Value.tuple #[(iV .u64 2), (iV .i64 (((sent + 1 : Nat) : Int))), (lV B b.length d), (bV true)]))] ?_
 refine wl_end rfl (seq_n hK16 (wp_seq_k fun K19 hK19 => wp_block (wp_seq_k fun K20 hK20 => reg_lit ?_)))
 refine wq_p 3 [(82, (bV false)), (84, (bV false)), (83, (bV true))] ?_
 refine wl_end rfl (seq_n hK20 (cF (wp_seq_k fun K21 hK21 => reg_lit ?_)))
 refine wq_p 3 [(86, (bV true)), (88, (bV true)), (87, (iV .u64 2))] ?_
 refine wl_end rfl (seq_n hK21 (cT (wp_seq_k fun K22 hK22 => reg_lit ?_)))
 refine wq_p 2 [(90, (iV .i64 (((sent + 1 : Nat) : Int)))), (89, (pt sb 0))] ?_
 refine wq_to (some 91) (x_ses h18 0 rfl 0 rfl 34 [(pt sb 0), (iV .i64 (((sent + 1 : Nat) : Int)))] (by kernel_rfl) (smarked_yes (h18.at_ 0 rfl) (h18.rd 0 rfl) (h18.rdis 0 0 _ _ rfl rfl) g p qs rfl rfl hse)) ?_
 rintro _ w23 ⟨G23, L23, rfl, hs23, hx23, h23⟩
 refine wl_end rfl (seq_n hK22 (wp_seq_k fun K24 hK24 => reg_lit ?_))
 refine wq_p 1 [(92, (aV ([(lV none 0 0), (bV false), (sV ByteArray.empty), (sV ByteArray.empty), (iV .i64 0), (iV .i64 0), (iV .i64 0), (lV none 0 0), (bV false)]).toArray))] ?_
 refine wq_to none (xSs h23 1 42 (.tmp 4) (.tmp 92) 0 ([(lV none 0 0), (bV false), (sV ByteArray.empty), (sV ByteArray.empty), (iV .i64 0), (iV .i64 0), (iV .i64 0), (lV none 0 0), (bV false)]) ([(lV none 0 0), (bV false), (sV ByteArray.empty), (sV ByteArray.empty), (iV .i64 0), (iV .i64 0), (iV .i64 0), (lV none 0 0), (bV false)])) ?_
 rintro _ w25 h25
 refine wq_p 1 [(5, (iV .i64 0))] ?_
 refine wl_end rfl (seq_n hK24 (wp_ret (blk_r (seq_r ?_))))
 refine post_2 rfl (by kernel_rfl) (rce (h25.at_ 1 rfl)) (rtm (iV .i64 0)) ?_
 exact ⟨_, _, _, _, rfl, ⟨_, rfl, none, 0, _, rfl, (hs23 _ (hs18 _ hnil)), rfl⟩, (hx23 _ (hx18 _ (LExt.refl (fun q => F q ∨ G q) w L))), h25.sel [3, 0] [0] rfl rfl rfl⟩
theorem sTake_again {F G : Nat -> Prop} {tb sb : Nat} {s : STab} {L : List (Value × Bytes)} {S : Ses} {w : World} (hT : (rTab F tb s).Φ w) (hv : (rS G tb sb L S).Φ w) (hL : (rF L).Φ w) (hts : (rTab F tb s).dj (rS G tb sb L S)) (hdt : (rF L).dj (rTab F tb s)) (hd : (rF L).dj (rS G tb sb L S)) (f : Frm) (Ab : Option Addr) (cb : Nat) (hmf : (lV Ab f.box.length cb, f.box) ∈ L) (hnil : (lV none 0 0, ([] : Bytes)) ∈ L) (hnk : s.keys.length < 800000) (hnb : s.boxes.length < 800000) (hbl : ∀ b ∈ s.boxes, b.body.length <= 1000000) (ho : S.over = false) (h1 : f.src = S.peer) (h2 : f.dst = S.me) (h3 : f.sid = S.sid) (h4 : f.epoch = (S.ei : Int)) (k n : Nat) (b : Bytes) (hk : k < 1000) (hn : n < 1000000) (hb : b.length <= 2048) (hop : (openT s S).open_ (openK s S) 14 f.box = some (wrV (contV k n b))) (hseq : f.seq = (n : Int)) (hk2 : k ≠ 2) (hle : n <= S.got) (hgot : S.got < 1000000) :
   Calls Try.prog 12 #[pt sb 0, .agg (f.cells (.slice Ab f.box.length cb)).toArray] w (Post2 F G tb sb w L (sealT (openT s S) S 2 S.got []) (S) (fun L' u => ∃ cs, u = .tuple #[.agg cs.toArray, .int .i64 18] /\ ComeAt L' none (some (sealF (openT s S) S S.got)) cs)) := by
 have h00 := twoF hT hv hL hts hdt hd
 obtain ⟨me, peer, sid, ko, eo, ki, ei, qu, sent, got, fr, ov⟩ := S
 obtain ⟨Ko, hKo⟩ := kl_of ko (rS_ko hv)
 obtain ⟨Ki, hKi⟩ := kl_of ki (rS_ki hv)
 subst hKo; subst hKi
 obtain ⟨src, dst, fsid, fep, fseq, fbox⟩ := f
 try simp only at *
 obtain rfl : ov = false := ho
 obtain rfl : peer = src := h1.symm
 obtain rfl : me = dst := h2.symm
 obtain rfl : sid = fsid := h3.symm
 obtain rfl : fep = (ei : Int) := h4
 have hnk1 : (openT s (Ses.mk me peer sid (kl Ko) eo (kl Ki) ei qu sent got fr false)).keys.length < 900000 := Nat.lt_of_le_of_lt (openT_keys _ _) (by omega)
 have hnb1 : (openT s (Ses.mk me peer sid (kl Ko) eo (kl Ki) ei qu sent got fr false)).boxes.length < 900000 := by rw [openT_boxes]; omega
 obtain rfl : fseq = (n : Int) := hseq
 have hwr : bV (!((n : Int) == IntKind.u64.wrap (n : Int))) = bV false := seq_wr hn
 have h0 := h00
 refine enter 129 Try.func12 rfl rfl ?_
 refine wp_reset 131 [(0, (pt sb 0)), (1, (aV ([(sV peer), (sV me), (iV .i64 sid), (iV .i64 ((ei : Int))), (iV .i64 ((n : Int))), (lV Ab fbox.length cb)]).toArray))] (fun x0 => ?_)
 refine wp_seq_k fun K1 hK1 => reg_lit ?_
 refine wq_to (some 3) (xN h0 38 ([(sV peer), (sV me), (iV .i64 sid), (iV .i64 ((ei : Int))), (iV .i64 ((n : Int))), (lV Ab fbox.length cb)])) ?_
 rintro _ w2 ⟨g2, rfl, h2⟩
 refine wq_to (some 4) (xN h2 42 ([(lV none 0 0), (bV false), (sV ByteArray.empty), (sV ByteArray.empty), (iV .i64 0), (iV .i64 0), (iV .i64 0), (lV none 0 0), (bV false)])) ?_
 rintro _ w3 ⟨g3, rfl, h3⟩
 refine wq_p 1 [(5, (iV .i64 0))] ?_
 refine wl_end rfl (seq_n hK1 (wp_seq_k fun K4 hK4 => wp_block (wp_seq_k fun K5 hK5 => ?_)))
 obtain ⟨c1_6, c2_6, A_6, cap_6, xs_6, fb_6, bx_6, hS_6, hG_6, h6⟩ := h3.openS 3 rfl
 clear hG_6
 refine reg_lit ?_
 refine wq_p 3 [(14, (pt sb 10)), (13, (pt sb 0)), (12, (pt sb 0))] (wq_v (some 15) (bV false) (eL (h6.at_ 0 rfl) 4 (.tmp 14) 10 _) (wq_p 1 [(11, (bV false))] ?_))
 refine wl_end rfl (seq_n hK5 (cF (wp_seq_k fun K7 hK7 => ?_)))
 refine pR_go h6 26 (fun W => (rBlk g2 38 ([(sV peer), (sV me), (iV .i64 sid), (iV .i64 ((ei : Int))), (iV .i64 ((n : Int))), (lV Ab fbox.length cb)])).Φ W /\ (rBlk sb 77 ([(Value.iface 28 (pt tb 0)), (sV me), (sV peer), (iV .i64 sid), (pt c1_6 0), (pt c2_6 0), (lV A_6 qu.length cap_6), (iV .i64 ((sent : Int))), (iV .i64 ((got : Int))), (frV fb_6), (bV false)])).Φ W /\ True) [(19, [3], 0), (20, [18], 1), (21, [0], 0), (22, [20], 4), (23, [21], 8), (24, [22], 16), (25, [19, 23], 34), (26, [24], 64), (27, [3, 25], 128), (28, [26, 25], 384), (29, [0, 25], 128), (30, [28, 25], 1152), (31, [29, 25], 2176), (32, [30, 25], 4224), (33, [27, 31, 25], 8832), (34, [25, 32], 16512), (35, [33], 32896), (36, [3, 34], 65536), (37, [35, 34], 196608), (38, [0, 34], 65536), (39, [37, 34], 589824), (40, [38, 34], 1114112), (41, [39, 34], 2162688), (42, [36, 40, 34], 4521984), (43, [34, 41], 8454144), (18, [42], 16842752)] rfl (fun _ d _ _ _ h => by cases d <;> exact h) ?_
 intro hs8 w8 h8
 refine pR_p 22 [0, 2, 3, 4] [(22, (pt sb 2)), (21, (pt sb 0)), (20, (pt sb 0)), (18, (pt g2 0))] 29 hs8 ⟨h8.at_ 6 rfl, h8.at_ 0 rfl, trivial⟩ ?_
 refine pR_v 1 (some 19) (sV peer) 31 rfl hs8 ⟨h8.at_ 6 rfl, h8.at_ 0 rfl, trivial⟩ (fun W hW => eL hW.1 9 (.tmp 18) 0 _) ?_
 refine pR_v 5 (some 23) (sV peer) 63 rfl hs8 ⟨h8.at_ 6 rfl, h8.at_ 0 rfl, trivial⟩ (fun W hW => eL hW.2.1 9 (.tmp 22) 2 _) ?_
 refine pR_v 6 (some 24) (bV false) 127 rfl hs8 ⟨h8.at_ 6 rfl, h8.at_ 0 rfl, trivial⟩ (fun W hW => eqI (bV (!((peer).toList == (peer).toList))) (by simp)) ?_
 refine pR_p 14 [7, 8, 10, 11, 12] [(30, (pt sb 1)), (29, (pt sb 0)), (28, (pt sb 0)), (26, (pt g2 1)), (25, (bV false))] 7679 hs8 ⟨h8.at_ 6 rfl, h8.at_ 0 rfl, trivial⟩ ?_
 refine pR_v 9 (some 27) (sV me) 8191 rfl hs8 ⟨h8.at_ 6 rfl, h8.at_ 0 rfl, trivial⟩ (fun W hW => eL hW.1 9 (.tmp 26) 1 _) ?_
 refine pR_v 13 (some 31) (sV me) 16383 rfl hs8 ⟨h8.at_ 6 rfl, h8.at_ 0 rfl, trivial⟩ (fun W hW => eL hW.2.1 9 (.tmp 30) 1 _) ?_
 refine pR_v 14 (some 32) (bV false) 32767 rfl hs8 ⟨h8.at_ 6 rfl, h8.at_ 0 rfl, trivial⟩ (fun W hW => eqI (bV (!((me).toList == (me).toList))) (by simp)) ?_
 refine pR_p 5 [15, 16, 17, 19, 20, 21] [(39, (pt sb 3)), (38, (pt sb 0)), (37, (pt sb 0)), (35, (pt g2 2)), (34, (bV false)), (33, (bV false))] 3932159 hs8 ⟨h8.at_ 6 rfl, h8.at_ 0 rfl, trivial⟩ ?_
 refine pR_v 18 (some 36) (iV .i64 sid) 4194303 rfl hs8 ⟨h8.at_ 6 rfl, h8.at_ 0 rfl, trivial⟩ (fun W hW => eL hW.1 2 (.tmp 35) 2 _) ?_
 refine pR_v 22 (some 40) (iV .i64 sid) 8388607 rfl hs8 ⟨h8.at_ 6 rfl, h8.at_ 0 rfl, trivial⟩ (fun W hW => eL hW.2.1 2 (.tmp 39) 3 _) ?_
 refine pR_v 23 (some 41) (bV false) 16777215 rfl hs8 ⟨h8.at_ 6 rfl, h8.at_ 0 rfl, trivial⟩ (fun W hW => eqI (bV (sid != sid)) (by simp)) ?_
 refine pR_p 0 [24, 25] [(17, (bV false)), (42, (bV false))] 67108863 hs8 ⟨h8.at_ 6 rfl, h8.at_ 0 rfl, trivial⟩ ?_
 refine pR_done hs8 ?_ _
 refine seq_n hK7 (cF (wp_seq_k fun K9 hK9 => ?_))
 refine pR_go h8 18 (fun W => (rBlk g2 38 ([(sV peer), (sV me), (iV .i64 sid), (iV .i64 ((ei : Int))), (iV .i64 ((n : Int))), (lV Ab fbox.length cb)])).Φ W /\ (rBlk sb 77 ([(Value.iface 28 (pt tb 0)), (sV me), (sV peer), (iV .i64 sid), (pt c1_6 0), (pt c2_6 0), (lV A_6 qu.length cap_6), (iV .i64 ((sent : Int))), (iV .i64 ((got : Int))), (frV fb_6), (bV false)])).Φ W /\ True) [(46, [3], 0), (47, [45], 1), (48, [0], 0), (49, [47], 4), (50, [48], 8), (51, [49], 16), (52, [50], 32), (53, [46, 51], 66), (54, [52], 192), (55, [3, 53], 256), (56, [54, 53], 768), (57, [0, 53], 256), (58, [56, 53], 2304), (59, [57, 53], 4352), (60, [58, 53], 8448), (61, [55, 59, 53], 17664), (62, [53, 60], 33024), (45, [61], 65792)] rfl (fun _ d _ _ _ h => by cases d <;> exact h) ?_
 intro hs10 w10 h10
 refine pR_p 14 [0, 2, 3, 4] [(49, (pt sb 5)), (48, (pt sb 0)), (47, (pt sb 0)), (45, (pt g2 3))] 29 hs10 ⟨h10.at_ 6 rfl, h10.at_ 0 rfl, trivial⟩ ?_
 refine pR_v 1 (some 46) (iV .i64 ((ei : Int))) 31 rfl hs10 ⟨h10.at_ 6 rfl, h10.at_ 0 rfl, trivial⟩ (fun W hW => eL hW.1 2 (.tmp 45) 3 _) ?_
 refine pR_v 5 (some 50) (pt c2_6 0) 63 rfl hs10 ⟨h10.at_ 6 rfl, h10.at_ 0 rfl, trivial⟩ (fun W hW => eL hW.2.1 73 (.tmp 49) 5 _) ?_
 refine pR_to 6 (some 51) 127 rfl hs10 (x_repoch h10 2 rfl (by kernel_rfl)) ?_
 rintro _ w11 ⟨rfl, h11⟩
 refine ⟨fun _ => ⟨h11.at_ 6 rfl, h11.at_ 0 rfl, trivial⟩, ?_⟩
 refine pR_v 7 (some 52) (bV false) 255 rfl hs10 ⟨h11.at_ 6 rfl, h11.at_ 0 rfl, trivial⟩ (fun W hW => eqI (bV (decide ((ei : Int) < (ei : Int)))) (congrArg bV (by simp))) ?_
 refine pR_p 0 [8, 9, 10, 11, 12, 13, 14, 15, 16, 17] [(44, (bV false)), (61, (bV false)), (60, undef), (59, undef), (58, undef), (57, undef), (56, undef), (55, undef), (54, undef), (53, (bV false))] 262143 hs10 ⟨h11.at_ 6 rfl, h11.at_ 0 rfl, trivial⟩ ?_
 refine pR_done hs10 ?_ _
 refine seq_n hK9 (cF (wp_seq_k fun K12 hK12 => ?_))
 refine wp_reset 131 [(0, (pt sb 0)), (1, (aV ([(sV peer), (sV me), (iV .i64 sid), (iV .i64 ((ei : Int))), (iV .i64 ((n : Int))), (lV Ab fbox.length cb)]).toArray)), (3, (pt g2 0)), (4, (pt g3 0)), (5, (iV .i64 0)), (11, (bV false)), (17, (bV false)), (44, (bV false))] (fun x13 => ?_)
 refine pR_go h11 9 (fun W => (rBlk g2 38 ([(sV peer), (sV me), (iV .i64 sid), (iV .i64 ((ei : Int))), (iV .i64 ((n : Int))), (lV Ab fbox.length cb)])).Φ W /\ (rBlk sb 77 ([(Value.iface 28 (pt tb 0)), (sV me), (sV peer), (iV .i64 sid), (pt c1_6 0), (pt c2_6 0), (lV A_6 qu.length cap_6), (iV .i64 ((sent : Int))), (iV .i64 ((got : Int))), (frV fb_6), (bV false)])).Φ W /\ True) [(66, [3], 0), (67, [65], 1), (68, [0], 0), (69, [67], 4), (70, [68], 8), (71, [69], 16), (72, [70], 32), (73, [66, 71], 66), (65, [72], 192)] rfl (fun _ d _ _ _ h => by cases d <;> exact h) ?_
 intro hs14 w14 h14
 refine pR_p 5 [0, 2, 3, 4] [(69, (pt sb 5)), (68, (pt sb 0)), (67, (pt sb 0)), (65, (pt g2 3))] 29 hs14 ⟨h14.at_ 6 rfl, h14.at_ 0 rfl, trivial⟩ ?_
 refine pR_v 1 (some 66) (iV .i64 ((ei : Int))) 31 rfl hs14 ⟨h14.at_ 6 rfl, h14.at_ 0 rfl, trivial⟩ (fun W hW => eL hW.1 2 (.tmp 65) 3 _) ?_
 refine pR_v 5 (some 70) (pt c2_6 0) 63 rfl hs14 ⟨h14.at_ 6 rfl, h14.at_ 0 rfl, trivial⟩ (fun W hW => eL hW.2.1 73 (.tmp 69) 5 _) ?_
 refine pR_to 6 (some 71) 127 rfl hs14 (x_repoch h14 2 rfl (by kernel_rfl)) ?_
 rintro _ w15 ⟨rfl, h15⟩
 refine ⟨fun _ => ⟨h15.at_ 6 rfl, h15.at_ 0 rfl, trivial⟩, ?_⟩
 refine pR_v 7 (some 72) (bV false) 255 rfl hs14 ⟨h15.at_ 6 rfl, h15.at_ 0 rfl, trivial⟩ (fun W hW => eqI (bV (((ei : Int)) != ((ei : Int)))) (by simp)) ?_
 refine pR_p 0 [8] [(64, (bV false))] 511 hs14 ⟨h15.at_ 6 rfl, h15.at_ 0 rfl, trivial⟩ ?_
 refine pR_done hs14 ?_ _
 refine seq_n hK12 (cF (wp_skip (blk_n (seq_n hK4 (wp_seq_k fun K16 hK16 => reg_lit ?_)))))
 refine wq_p 1 [(75, (pt sb 0))] (wq_v (some 76) (aV ([(sV peer), (sV me), (iV .i64 sid), (iV .i64 ((ei : Int))), (iV .i64 ((n : Int))), (lV Ab fbox.length cb)]).toArray) (eLs (h15.at_ 6 rfl) 38 (.tmp 3) 0 ([(sV peer), (sV me), (iV .i64 sid), (iV .i64 ((ei : Int))), (iV .i64 ((n : Int))), (lV Ab fbox.length cb)])) ?_)
 have h17 := (show Hp _ _ _ _ (lSes tb sb c1_6 c2_6 A_6 cap_6 xs_6 fb_6 bx_6 ((Ses.mk me peer sid (kl Ko) eo (kl Ki) ei qu sent got fr false)) ++ [rBlk g3 42 ([(lV none 0 0), (bV false), (sV ByteArray.empty), (sV ByteArray.empty), (iV .i64 0), (iV .i64 0), (iV .i64 0), (lV none 0 0), (bV false)]), rBlk g2 38 ([(sV peer), (sV me), (iV .i64 sid), (iV .i64 ((ei : Int))), (iV .i64 ((n : Int))), (lV Ab fbox.length cb)]), rTab F tb s]) from h15.sel [0, 1, 2, 3, 4, 5, 6, 7] [0] rfl rfl rfl).closeS (L := L) hS_6
 refine wq_to (some 77) (x_two h17 3 0 rfl rfl rfl 0 rfl 33 [(pt sb 0), (aV ([(sV peer), (sV me), (iV .i64 sid), (iV .i64 ((ei : Int))), (iV .i64 ((n : Int))), (lV Ab fbox.length cb)]).toArray)] (by kernel_rfl) (sopened_yes (h17.at_ 3 rfl) (h17.at_ 0 rfl) (h17.rd 0 rfl) (h17.dis 3 0 _ _ rfl rfl (by decide)) (h17.rdis 0 3 _ _ rfl rfl) (h17.rdis 0 0 _ _ rfl rfl) (Frm.mk peer me sid ((ei : Int)) ((n : Int)) fbox) Ab cb hmf rfl (by omega) (by omega) hbl k n b (by omega) hn hb hop hwr)) ?_
 rintro _ w18 ⟨F18, G18, L18, ⟨B, d, rfl, hmB⟩, hs18, hx18, h18⟩
 refine wq_p 9 [(9, (bV true)), (8, (lV B b.length d)), (7, (iV .i64 ((n : Int)))), (6, (iV .u64 ((k : Int)))), (81, (bV true)), (80, (lV B b.length d)), (79, (iV .i64 ((n : Int)))), (78, (iV .u64 ((k : Int)))), (74, (Value.tuple #[(iV .u64 ((k : Int))), (iV .i64 ((n : Int))), (lV B b.length d), (bV true)]))] ?_
 refine wl_end rfl (seq_n hK16 (wp_seq_k fun K19 hK19 => wp_block (wp_seq_k fun K20 hK20 => reg_lit ?_)))
 refine wq_p 3 [(82, (bV false)), (84, (bV false)), (83, (bV true))] ?_
 refine wl_end rfl (seq_n hK20 (cF (wp_seq_k fun K21 hK21 => reg_lit ?_)))
 refine wq_p 1 [(87, (iV .u64 ((k : Int))))] (wq_v (some 88) (bV false) (eqI (bV (((k : Int)) == 2)) (congrArg bV (by simp; omega))) (wq_p 1 [(86, (bV false))] ?_))
 refine wl_end rfl (seq_n hK21 (cF (wp_seq_k fun K22 hK22 => ?_)))
 obtain ⟨c1_23, c2_23, A_23, cap_23, xs_23, fb_23, bx_23, hS_23, hG_23, h23⟩ := h18.openS 0 rfl
 clear hG_23
 refine reg_lit ?_
 refine wq_p 4 [(97, (pt sb 8)), (96, (pt sb 0)), (95, (pt sb 0)), (94, (iV .i64 ((n : Int))))] (wq_v (some 98) (iV .i64 ((got : Int))) (eL (h23.at_ 0 rfl) 2 (.tmp 97) 8 _) (wq_v (some 99) (bV true) (eqI (bV (decide ((n : Int) <= (got : Int)))) (congrArg bV (by simpa using hle))) (wq_p 1 [(93, (bV true))] ?_)))
 refine wl_end rfl (seq_n hK22 (cT (wp_seq_k fun K24 hK24 => ?_)))
 refine wp_reset 131 [(0, (pt sb 0)), (1, (aV ([(sV peer), (sV me), (iV .i64 sid), (iV .i64 ((ei : Int))), (iV .i64 ((n : Int))), (lV Ab fbox.length cb)]).toArray)), (3, (pt g2 0)), (4, (pt g3 0)), (5, (iV .i64 0)), (6, (iV .u64 ((k : Int)))), (7, (iV .i64 ((n : Int)))), (8, (lV B b.length d)), (9, (bV true)), (11, (bV false)), (17, (bV false)), (44, (bV false)), (64, (bV false)), (82, (bV false)), (86, (bV false)), (93, (bV true))] (fun x25 => ?_)
 refine reg_lit ?_
 refine wq_p 1 [(100, (pt sb 0))] ?_
 have h26 := (show Hp _ _ _ _ (lSes tb sb c1_23 c2_23 A_23 cap_23 xs_23 fb_23 bx_23 ((Ses.mk me peer sid (kl Ko) eo (kl Ki) ei qu sent got fr false)) ++ [rBlk g3 42 ([(lV none 0 0), (bV false), (sV ByteArray.empty), (sV ByteArray.empty), (iV .i64 0), (iV .i64 0), (iV .i64 0), (lV none 0 0), (bV false)]), rBlk g2 38 ([(sV peer), (sV me), (iV .i64 sid), (iV .i64 ((ei : Int))), (iV .i64 ((n : Int))), (lV Ab fbox.length cb)]), rTab F18 tb ((openT s (Ses.mk me peer sid (kl Ko) eo (kl Ki) ei qu sent got fr false)))]) from h23.sel [0, 1, 2, 3, 4, 5, 6, 7] [0, 1] rfl rfl rfl).closeS (L := L18) hS_23
 refine wq_to (some 101) (x_two h26 3 0 rfl rfl rfl 0 rfl 32 [(pt sb 0)] (by kernel_rfl) (sanswer_any (h26.at_ 3 rfl) (h26.at_ 0 rfl) (h26.rd 0 rfl) (h26.dis 3 0 _ _ rfl rfl (by decide)) (h26.rdis 0 3 _ _ rfl rfl) (h26.rdis 0 0 _ _ rfl rfl) (hs18 _ hnil) hgot rfl hnk1 hnb1)) ?_
 rintro _ w27 ⟨F27, G27, L27, ⟨_, rfl, A27, c27, rfl, hm27⟩, hs27, hx27, h27⟩
 refine wq_to none (xSs h27 1 42 (.tmp 4) (.tmp 101) 0 ([(lV none 0 0), (bV false), (sV me), (sV peer), (iV .i64 sid), (iV .i64 ((eo : Int))), (iV .i64 ((got : Int))), (lV A27 16 c27), (bV true)]) ([(lV none 0 0), (bV false), (sV me), (sV peer), (iV .i64 sid), (iV .i64 ((eo : Int))), (iV .i64 ((got : Int))), (lV A27 16 c27), (bV true)])) ?_
 rintro _ w28 h28
 refine wq_p 1 [(5, (iV .i64 18))] ?_
 refine wl_end rfl (seq_n hK24 (wp_ret (blk_r (seq_r ?_))))
 refine post_2 rfl (by kernel_rfl) (rce (h28.at_ 1 rfl)) (rtm (iV .i64 18)) ?_
 exact ⟨_, _, _, _, rfl, ⟨_, rfl, none, 0, _, rfl, (hs27 _ (hs18 _ hnil)), ⟨A27, c27, rfl, hm27⟩⟩, (hx27 _ (hx18 _ (LExt.refl (fun q => F q ∨ G q) w L))), h28.sel [3, 0] [0] rfl rfl rfl⟩
theorem sTake_ahead {F G : Nat -> Prop} {tb sb : Nat} {s : STab} {L : List (Value × Bytes)} {S : Ses} {w : World} (hT : (rTab F tb s).Φ w) (hv : (rS G tb sb L S).Φ w) (hL : (rF L).Φ w) (hts : (rTab F tb s).dj (rS G tb sb L S)) (hdt : (rF L).dj (rTab F tb s)) (hd : (rF L).dj (rS G tb sb L S)) (f : Frm) (Ab : Option Addr) (cb : Nat) (hmf : (lV Ab f.box.length cb, f.box) ∈ L) (hnil : (lV none 0 0, ([] : Bytes)) ∈ L) (hnk : s.keys.length < 800000) (hnb : s.boxes.length < 800000) (hbl : ∀ b ∈ s.boxes, b.body.length <= 1000000) (ho : S.over = false) (h1 : f.src = S.peer) (h2 : f.dst = S.me) (h3 : f.sid = S.sid) (h4 : f.epoch = (S.ei : Int)) (k n : Nat) (b : Bytes) (hk : k < 1000) (hn : n < 1000000) (hb : b.length <= 2048) (hop : (openT s S).open_ (openK s S) 14 f.box = some (wrV (contV k n b))) (hseq : f.seq = (n : Int)) (hk2 : k ≠ 2) (hlt : S.got + 1 < n) (hgot : S.got < 1000000) :
   Calls Try.prog 12 #[pt sb 0, .agg (f.cells (.slice Ab f.box.length cb)).toArray] w (Post2 F G tb sb w L (openT s S) (S) (fun L' u => ∃ cs, u = .tuple #[.agg cs.toArray, .int .i64 18] /\ ComeAt L' none none cs)) := by
 have h00 := twoF hT hv hL hts hdt hd
 obtain ⟨me, peer, sid, ko, eo, ki, ei, qu, sent, got, fr, ov⟩ := S
 obtain ⟨Ko, hKo⟩ := kl_of ko (rS_ko hv)
 obtain ⟨Ki, hKi⟩ := kl_of ki (rS_ki hv)
 subst hKo; subst hKi
 obtain ⟨src, dst, fsid, fep, fseq, fbox⟩ := f
 try simp only at *
 obtain rfl : ov = false := ho
 obtain rfl : peer = src := h1.symm
 obtain rfl : me = dst := h2.symm
 obtain rfl : sid = fsid := h3.symm
 obtain rfl : fep = (ei : Int) := h4
 have hnk1 : (openT s (Ses.mk me peer sid (kl Ko) eo (kl Ki) ei qu sent got fr false)).keys.length < 900000 := Nat.lt_of_le_of_lt (openT_keys _ _) (by omega)
 have hnb1 : (openT s (Ses.mk me peer sid (kl Ko) eo (kl Ki) ei qu sent got fr false)).boxes.length < 900000 := by rw [openT_boxes]; omega
 obtain rfl : fseq = (n : Int) := hseq
 have hwr : bV (!((n : Int) == IntKind.u64.wrap (n : Int))) = bV false := seq_wr hn
 have h0 := h00
 refine enter 129 Try.func12 rfl rfl ?_
 refine wp_reset 131 [(0, (pt sb 0)), (1, (aV ([(sV peer), (sV me), (iV .i64 sid), (iV .i64 ((ei : Int))), (iV .i64 ((n : Int))), (lV Ab fbox.length cb)]).toArray))] (fun x0 => ?_)
 refine wp_seq_k fun K1 hK1 => reg_lit ?_
 refine wq_to (some 3) (xN h0 38 ([(sV peer), (sV me), (iV .i64 sid), (iV .i64 ((ei : Int))), (iV .i64 ((n : Int))), (lV Ab fbox.length cb)])) ?_
 rintro _ w2 ⟨g2, rfl, h2⟩
 refine wq_to (some 4) (xN h2 42 ([(lV none 0 0), (bV false), (sV ByteArray.empty), (sV ByteArray.empty), (iV .i64 0), (iV .i64 0), (iV .i64 0), (lV none 0 0), (bV false)])) ?_
 rintro _ w3 ⟨g3, rfl, h3⟩
 refine wq_p 1 [(5, (iV .i64 0))] ?_
 refine wl_end rfl (seq_n hK1 (wp_seq_k fun K4 hK4 => wp_block (wp_seq_k fun K5 hK5 => ?_)))
 obtain ⟨c1_6, c2_6, A_6, cap_6, xs_6, fb_6, bx_6, hS_6, hG_6, h6⟩ := h3.openS 3 rfl
 clear hG_6
 refine reg_lit ?_
 refine wq_p 3 [(14, (pt sb 10)), (13, (pt sb 0)), (12, (pt sb 0))] (wq_v (some 15) (bV false) (eL (h6.at_ 0 rfl) 4 (.tmp 14) 10 _) (wq_p 1 [(11, (bV false))] ?_))
 refine wl_end rfl (seq_n hK5 (cF (wp_seq_k fun K7 hK7 => ?_)))
 refine pR_go h6 26 (fun W => (rBlk g2 38 ([(sV peer), (sV me), (iV .i64 sid), (iV .i64 ((ei : Int))), (iV .i64 ((n : Int))), (lV Ab fbox.length cb)])).Φ W /\ (rBlk sb 77 ([(Value.iface 28 (pt tb 0)), (sV me), (sV peer), (iV .i64 sid), (pt c1_6 0), (pt c2_6 0), (lV A_6 qu.length cap_6), (iV .i64 ((sent : Int))), (iV .i64 ((got : Int))), (frV fb_6), (bV false)])).Φ W /\ True) [(19, [3], 0), (20, [18], 1), (21, [0], 0), (22, [20], 4), (23, [21], 8), (24, [22], 16), (25, [19, 23], 34), (26, [24], 64), (27, [3, 25], 128), (28, [26, 25], 384), (29, [0, 25], 128), (30, [28, 25], 1152), (31, [29, 25], 2176), (32, [30, 25], 4224), (33, [27, 31, 25], 8832), (34, [25, 32], 16512), (35, [33], 32896), (36, [3, 34], 65536), (37, [35, 34], 196608), (38, [0, 34], 65536), (39, [37, 34], 589824), (40, [38, 34], 1114112), (41, [39, 34], 2162688), (42, [36, 40, 34], 4521984), (43, [34, 41], 8454144), (18, [42], 16842752)] rfl (fun _ d _ _ _ h => by cases d <;> exact h) ?_
 intro hs8 w8 h8
 refine pR_p 22 [0, 2, 3, 4] [(22, (pt sb 2)), (21, (pt sb 0)), (20, (pt sb 0)), (18, (pt g2 0))] 29 hs8 ⟨h8.at_ 6 rfl, h8.at_ 0 rfl, trivial⟩ ?_
 refine pR_v 1 (some 19) (sV peer) 31 rfl hs8 ⟨h8.at_ 6 rfl, h8.at_ 0 rfl, trivial⟩ (fun W hW => eL hW.1 9 (.tmp 18) 0 _) ?_
 refine pR_v 5 (some 23) (sV peer) 63 rfl hs8 ⟨h8.at_ 6 rfl, h8.at_ 0 rfl, trivial⟩ (fun W hW => eL hW.2.1 9 (.tmp 22) 2 _) ?_
 refine pR_v 6 (some 24) (bV false) 127 rfl hs8 ⟨h8.at_ 6 rfl, h8.at_ 0 rfl, trivial⟩ (fun W hW => eqI (bV (!((peer).toList == (peer).toList))) (by simp)) ?_
 refine pR_p 14 [7, 8, 10, 11, 12] [(30, (pt sb 1)), (29, (pt sb 0)), (28, (pt sb 0)), (26, (pt g2 1)), (25, (bV false))] 7679 hs8 ⟨h8.at_ 6 rfl, h8.at_ 0 rfl, trivial⟩ ?_
 refine pR_v 9 (some 27) (sV me) 8191 rfl hs8 ⟨h8.at_ 6 rfl, h8.at_ 0 rfl, trivial⟩ (fun W hW => eL hW.1 9 (.tmp 26) 1 _) ?_
 refine pR_v 13 (some 31) (sV me) 16383 rfl hs8 ⟨h8.at_ 6 rfl, h8.at_ 0 rfl, trivial⟩ (fun W hW => eL hW.2.1 9 (.tmp 30) 1 _) ?_
 refine pR_v 14 (some 32) (bV false) 32767 rfl hs8 ⟨h8.at_ 6 rfl, h8.at_ 0 rfl, trivial⟩ (fun W hW => eqI (bV (!((me).toList == (me).toList))) (by simp)) ?_
 refine pR_p 5 [15, 16, 17, 19, 20, 21] [(39, (pt sb 3)), (38, (pt sb 0)), (37, (pt sb 0)), (35, (pt g2 2)), (34, (bV false)), (33, (bV false))] 3932159 hs8 ⟨h8.at_ 6 rfl, h8.at_ 0 rfl, trivial⟩ ?_
 refine pR_v 18 (some 36) (iV .i64 sid) 4194303 rfl hs8 ⟨h8.at_ 6 rfl, h8.at_ 0 rfl, trivial⟩ (fun W hW => eL hW.1 2 (.tmp 35) 2 _) ?_
 refine pR_v 22 (some 40) (iV .i64 sid) 8388607 rfl hs8 ⟨h8.at_ 6 rfl, h8.at_ 0 rfl, trivial⟩ (fun W hW => eL hW.2.1 2 (.tmp 39) 3 _) ?_
 refine pR_v 23 (some 41) (bV false) 16777215 rfl hs8 ⟨h8.at_ 6 rfl, h8.at_ 0 rfl, trivial⟩ (fun W hW => eqI (bV (sid != sid)) (by simp)) ?_
 refine pR_p 0 [24, 25] [(17, (bV false)), (42, (bV false))] 67108863 hs8 ⟨h8.at_ 6 rfl, h8.at_ 0 rfl, trivial⟩ ?_
 refine pR_done hs8 ?_ _
 refine seq_n hK7 (cF (wp_seq_k fun K9 hK9 => ?_))
 refine pR_go h8 18 (fun W => (rBlk g2 38 ([(sV peer), (sV me), (iV .i64 sid), (iV .i64 ((ei : Int))), (iV .i64 ((n : Int))), (lV Ab fbox.length cb)])).Φ W /\ (rBlk sb 77 ([(Value.iface 28 (pt tb 0)), (sV me), (sV peer), (iV .i64 sid), (pt c1_6 0), (pt c2_6 0), (lV A_6 qu.length cap_6), (iV .i64 ((sent : Int))), (iV .i64 ((got : Int))), (frV fb_6), (bV false)])).Φ W /\ True) [(46, [3], 0), (47, [45], 1), (48, [0], 0), (49, [47], 4), (50, [48], 8), (51, [49], 16), (52, [50], 32), (53, [46, 51], 66), (54, [52], 192), (55, [3, 53], 256), (56, [54, 53], 768), (57, [0, 53], 256), (58, [56, 53], 2304), (59, [57, 53], 4352), (60, [58, 53], 8448), (61, [55, 59, 53], 17664), (62, [53, 60], 33024), (45, [61], 65792)] rfl (fun _ d _ _ _ h => by cases d <;> exact h) ?_
 intro hs10 w10 h10
 refine pR_p 14 [0, 2, 3, 4] [(49, (pt sb 5)), (48, (pt sb 0)), (47, (pt sb 0)), (45, (pt g2 3))] 29 hs10 ⟨h10.at_ 6 rfl, h10.at_ 0 rfl, trivial⟩ ?_
 refine pR_v 1 (some 46) (iV .i64 ((ei : Int))) 31 rfl hs10 ⟨h10.at_ 6 rfl, h10.at_ 0 rfl, trivial⟩ (fun W hW => eL hW.1 2 (.tmp 45) 3 _) ?_
 refine pR_v 5 (some 50) (pt c2_6 0) 63 rfl hs10 ⟨h10.at_ 6 rfl, h10.at_ 0 rfl, trivial⟩ (fun W hW => eL hW.2.1 73 (.tmp 49) 5 _) ?_
 refine pR_to 6 (some 51) 127 rfl hs10 (x_repoch h10 2 rfl (by kernel_rfl)) ?_
 rintro _ w11 ⟨rfl, h11⟩
 refine ⟨fun _ => ⟨h11.at_ 6 rfl, h11.at_ 0 rfl, trivial⟩, ?_⟩
 refine pR_v 7 (some 52) (bV false) 255 rfl hs10 ⟨h11.at_ 6 rfl, h11.at_ 0 rfl, trivial⟩ (fun W hW => eqI (bV (decide ((ei : Int) < (ei : Int)))) (congrArg bV (by simp))) ?_
 refine pR_p 0 [8, 9, 10, 11, 12, 13, 14, 15, 16, 17] [(44, (bV false)), (61, (bV false)), (60, undef), (59, undef), (58, undef), (57, undef), (56, undef), (55, undef), (54, undef), (53, (bV false))] 262143 hs10 ⟨h11.at_ 6 rfl, h11.at_ 0 rfl, trivial⟩ ?_
 refine pR_done hs10 ?_ _
 refine seq_n hK9 (cF (wp_seq_k fun K12 hK12 => ?_))
 refine wp_reset 131 [(0, (pt sb 0)), (1, (aV ([(sV peer), (sV me), (iV .i64 sid), (iV .i64 ((ei : Int))), (iV .i64 ((n : Int))), (lV Ab fbox.length cb)]).toArray)), (3, (pt g2 0)), (4, (pt g3 0)), (5, (iV .i64 0)), (11, (bV false)), (17, (bV false)), (44, (bV false))] (fun x13 => ?_)
 refine pR_go h11 9 (fun W => (rBlk g2 38 ([(sV peer), (sV me), (iV .i64 sid), (iV .i64 ((ei : Int))), (iV .i64 ((n : Int))), (lV Ab fbox.length cb)])).Φ W /\ (rBlk sb 77 ([(Value.iface 28 (pt tb 0)), (sV me), (sV peer), (iV .i64 sid), (pt c1_6 0), (pt c2_6 0), (lV A_6 qu.length cap_6), (iV .i64 ((sent : Int))), (iV .i64 ((got : Int))), (frV fb_6), (bV false)])).Φ W /\ True) [(66, [3], 0), (67, [65], 1), (68, [0], 0), (69, [67], 4), (70, [68], 8), (71, [69], 16), (72, [70], 32), (73, [66, 71], 66), (65, [72], 192)] rfl (fun _ d _ _ _ h => by cases d <;> exact h) ?_
 intro hs14 w14 h14
 refine pR_p 5 [0, 2, 3, 4] [(69, (pt sb 5)), (68, (pt sb 0)), (67, (pt sb 0)), (65, (pt g2 3))] 29 hs14 ⟨h14.at_ 6 rfl, h14.at_ 0 rfl, trivial⟩ ?_
 refine pR_v 1 (some 66) (iV .i64 ((ei : Int))) 31 rfl hs14 ⟨h14.at_ 6 rfl, h14.at_ 0 rfl, trivial⟩ (fun W hW => eL hW.1 2 (.tmp 65) 3 _) ?_
 refine pR_v 5 (some 70) (pt c2_6 0) 63 rfl hs14 ⟨h14.at_ 6 rfl, h14.at_ 0 rfl, trivial⟩ (fun W hW => eL hW.2.1 73 (.tmp 69) 5 _) ?_
 refine pR_to 6 (some 71) 127 rfl hs14 (x_repoch h14 2 rfl (by kernel_rfl)) ?_
 rintro _ w15 ⟨rfl, h15⟩
 refine ⟨fun _ => ⟨h15.at_ 6 rfl, h15.at_ 0 rfl, trivial⟩, ?_⟩
 refine pR_v 7 (some 72) (bV false) 255 rfl hs14 ⟨h15.at_ 6 rfl, h15.at_ 0 rfl, trivial⟩ (fun W hW => eqI (bV (((ei : Int)) != ((ei : Int)))) (by simp)) ?_
 refine pR_p 0 [8] [(64, (bV false))] 511 hs14 ⟨h15.at_ 6 rfl, h15.at_ 0 rfl, trivial⟩ ?_
 refine pR_done hs14 ?_ _
 refine seq_n hK12 (cF (wp_skip (blk_n (seq_n hK4 (wp_seq_k fun K16 hK16 => reg_lit ?_)))))
 refine wq_p 1 [(75, (pt sb 0))] (wq_v (some 76) (aV ([(sV peer), (sV me), (iV .i64 sid), (iV .i64 ((ei : Int))), (iV .i64 ((n : Int))), (lV Ab fbox.length cb)]).toArray) (eLs (h15.at_ 6 rfl) 38 (.tmp 3) 0 ([(sV peer), (sV me), (iV .i64 sid), (iV .i64 ((ei : Int))), (iV .i64 ((n : Int))), (lV Ab fbox.length cb)])) ?_)
 have h17 := (show Hp _ _ _ _ (lSes tb sb c1_6 c2_6 A_6 cap_6 xs_6 fb_6 bx_6 ((Ses.mk me peer sid (kl Ko) eo (kl Ki) ei qu sent got fr false)) ++ [rBlk g3 42 ([(lV none 0 0), (bV false), (sV ByteArray.empty), (sV ByteArray.empty), (iV .i64 0), (iV .i64 0), (iV .i64 0), (lV none 0 0), (bV false)]), rBlk g2 38 ([(sV peer), (sV me), (iV .i64 sid), (iV .i64 ((ei : Int))), (iV .i64 ((n : Int))), (lV Ab fbox.length cb)]), rTab F tb s]) from h15.sel [0, 1, 2, 3, 4, 5, 6, 7] [0] rfl rfl rfl).closeS (L := L) hS_6
 refine wq_to (some 77) (x_two h17 3 0 rfl rfl rfl 0 rfl 33 [(pt sb 0), (aV ([(sV peer), (sV me), (iV .i64 sid), (iV .i64 ((ei : Int))), (iV .i64 ((n : Int))), (lV Ab fbox.length cb)]).toArray)] (by kernel_rfl) (sopened_yes (h17.at_ 3 rfl) (h17.at_ 0 rfl) (h17.rd 0 rfl) (h17.dis 3 0 _ _ rfl rfl (by decide)) (h17.rdis 0 3 _ _ rfl rfl) (h17.rdis 0 0 _ _ rfl rfl) (Frm.mk peer me sid ((ei : Int)) ((n : Int)) fbox) Ab cb hmf rfl (by omega) (by omega) hbl k n b (by omega) hn hb hop hwr)) ?_
 rintro _ w18 ⟨F18, G18, L18, ⟨B, d, rfl, hmB⟩, hs18, hx18, h18⟩
 refine wq_p 9 [(9, (bV true)), (8, (lV B b.length d)), (7, (iV .i64 ((n : Int)))), (6, (iV .u64 ((k : Int)))), (81, (bV true)), (80, (lV B b.length d)), (79, (iV .i64 ((n : Int)))), (78, (iV .u64 ((k : Int)))), (74, (Value.tuple #[(iV .u64 ((k : Int))), (iV .i64 ((n : Int))), (lV B b.length d), (bV true)]))] ?_
 refine wl_end rfl (seq_n hK16 (wp_seq_k fun K19 hK19 => wp_block (wp_seq_k fun K20 hK20 => reg_lit ?_)))
 refine wq_p 3 [(82, (bV false)), (84, (bV false)), (83, (bV true))] ?_
 refine wl_end rfl (seq_n hK20 (cF (wp_seq_k fun K21 hK21 => reg_lit ?_)))
 refine wq_p 1 [(87, (iV .u64 ((k : Int))))] (wq_v (some 88) (bV false) (eqI (bV (((k : Int)) == 2)) (congrArg bV (by simp; omega))) (wq_p 1 [(86, (bV false))] ?_))
 refine wl_end rfl (seq_n hK21 (cF (wp_seq_k fun K22 hK22 => ?_)))
 obtain ⟨c1_23, c2_23, A_23, cap_23, xs_23, fb_23, bx_23, hS_23, hG_23, h23⟩ := h18.openS 0 rfl
 clear hG_23
 refine reg_lit ?_
 refine wq_p 4 [(97, (pt sb 8)), (96, (pt sb 0)), (95, (pt sb 0)), (94, (iV .i64 ((n : Int))))] (wq_v (some 98) (iV .i64 ((got : Int))) (eL (h23.at_ 0 rfl) 2 (.tmp 97) 8 _) (wq_v (some 99) (bV false) (eqI (bV (decide ((n : Int) <= (got : Int)))) (congrArg bV (by simp; omega))) (wq_p 1 [(93, (bV false))] ?_)))
 refine wl_end rfl (seq_n hK22 (cF (wp_seq_k fun K24 hK24 => ?_)))
 refine wp_reset 131 [(0, (pt sb 0)), (1, (aV ([(sV peer), (sV me), (iV .i64 sid), (iV .i64 ((ei : Int))), (iV .i64 ((n : Int))), (lV Ab fbox.length cb)]).toArray)), (3, (pt g2 0)), (4, (pt g3 0)), (5, (iV .i64 0)), (6, (iV .u64 ((k : Int)))), (7, (iV .i64 ((n : Int)))), (8, (lV B b.length d)), (9, (bV true)), (11, (bV false)), (17, (bV false)), (44, (bV false)), (64, (bV false)), (82, (bV false)), (86, (bV false)), (93, (bV false))] (fun x25 => ?_)
 refine reg_lit ?_
 refine wq_p 4 [(106, (pt sb 8)), (105, (pt sb 0)), (104, (pt sb 0)), (103, (iV .i64 ((n : Int))))] (wq_v (some 107) (iV .i64 ((got : Int))) (eL (h23.at_ 0 rfl) 2 (.tmp 106) 8 _) (wq_v (some 108) (iV .i64 (((got + 1 : Nat) : Int))) (exec_add _ _ _ _ rfl (got : Int) 1 (by kernel_rfl) (by kernel_rfl) (((got + 1 : Nat) : Int)) (by omega) (by omega) (by omega) _) (wq_v (some 109) (bV true) (eqI (bV (decide ((n : Int) > ((got + 1 : Nat) : Int)))) (congrArg bV (by simp; omega))) ?_)))
 refine wq_p 1 [(102, (bV true))] ?_
 refine wl_end rfl (seq_n hK24 (cT (wp_seq_k fun K26 hK26 => reg_lit ?_)))
 refine wq_p 1 [(110, (aV ([(lV none 0 0), (bV false), (sV ByteArray.empty), (sV ByteArray.empty), (iV .i64 0), (iV .i64 0), (iV .i64 0), (lV none 0 0), (bV false)]).toArray))] ?_
 refine wq_to none (xSs h23 5 42 (.tmp 4) (.tmp 110) 0 ([(lV none 0 0), (bV false), (sV ByteArray.empty), (sV ByteArray.empty), (iV .i64 0), (iV .i64 0), (iV .i64 0), (lV none 0 0), (bV false)]) ([(lV none 0 0), (bV false), (sV ByteArray.empty), (sV ByteArray.empty), (iV .i64 0), (iV .i64 0), (iV .i64 0), (lV none 0 0), (bV false)])) ?_
 rintro _ w27 h27
 refine wq_p 1 [(5, (iV .i64 18))] ?_
 refine wl_end rfl (seq_n hK26 (wp_ret (blk_r (seq_r ?_))))
 refine post_2 rfl (by kernel_rfl) (rce (h27.at_ 5 rfl)) (rtm (iV .i64 18)) ?_
 have h28 := (show Hp _ _ _ _ (lSes tb sb c1_23 c2_23 A_23 cap_23 xs_23 fb_23 bx_23 ((Ses.mk me peer sid (kl Ko) eo (kl Ki) ei qu sent got fr false)) ++ [rBlk g3 42 ([(lV none 0 0), (bV false), (sV ByteArray.empty), (sV ByteArray.empty), (iV .i64 0), (iV .i64 0), (iV .i64 0), (lV none 0 0), (bV false)]), rBlk g2 38 ([(sV peer), (sV me), (iV .i64 sid), (iV .i64 ((ei : Int))), (iV .i64 ((n : Int))), (lV Ab fbox.length cb)]), rTab F18 tb ((openT s (Ses.mk me peer sid (kl Ko) eo (kl Ki) ei qu sent got fr false)))]) from h27.sel [0, 1, 2, 3, 4, 5, 6, 7] [0, 1] rfl rfl rfl).closeS (L := L18) hS_23
 exact ⟨_, _, _, _, rfl, ⟨_, rfl, none, 0, _, rfl, (hs18 _ hnil), rfl⟩, (hx18 _ (LExt.refl (fun q => F q ∨ G q) w L)), h28.sel [3, 0] [0] rfl rfl rfl⟩
theorem sTake_data {F G : Nat -> Prop} {tb sb : Nat} {s : STab} {L : List (Value × Bytes)} {S : Ses} {w : World} (hT : (rTab F tb s).Φ w) (hv : (rS G tb sb L S).Φ w) (hL : (rF L).Φ w) (hts : (rTab F tb s).dj (rS G tb sb L S)) (hdt : (rF L).dj (rTab F tb s)) (hd : (rF L).dj (rS G tb sb L S)) (f : Frm) (Ab : Option Addr) (cb : Nat) (hmf : (lV Ab f.box.length cb, f.box) ∈ L) (hnil : (lV none 0 0, ([] : Bytes)) ∈ L) (hnk : s.keys.length < 800000) (hnb : s.boxes.length < 800000) (hbl : ∀ b ∈ s.boxes, b.body.length <= 1000000) (ho : S.over = false) (h1 : f.src = S.peer) (h2 : f.dst = S.me) (h3 : f.sid = S.sid) (h4 : f.epoch = (S.ei : Int)) (k n : Nat) (b : Bytes) (hk : k < 1000) (hn : n < 1000000) (hb : b.length <= 2048) (hop : (openT s S).open_ (openK s S) 14 f.box = some (wrV (contV k n b))) (hseq : f.seq = (n : Int)) (hk2 : k ≠ 2) (hk3 : k ≠ 3) (hgn : n = S.got + 1) (hgot0 : S.got < 900000) :
   Calls Try.prog 12 #[pt sb 0, .agg (f.cells (.slice Ab f.box.length cb)).toArray] w (Post2 F G tb sb w L (sealT (openT s S) { S with got := n } 2 n []) ({ S with got := n }) (fun L' u => ∃ cs, u = .tuple #[.agg cs.toArray, .int .i64 0] /\ ComeAt L' (some b) (some (sealF (openT s S) { S with got := n } n)) cs)) := by
 have h00 := twoF hT hv hL hts hdt hd
 obtain ⟨me, peer, sid, ko, eo, ki, ei, qu, sent, got, fr, ov⟩ := S
 obtain ⟨Ko, hKo⟩ := kl_of ko (rS_ko hv)
 obtain ⟨Ki, hKi⟩ := kl_of ki (rS_ki hv)
 subst hKo; subst hKi
 obtain ⟨src, dst, fsid, fep, fseq, fbox⟩ := f
 try simp only at *
 obtain rfl : ov = false := ho
 obtain rfl : peer = src := h1.symm
 obtain rfl : me = dst := h2.symm
 obtain rfl : sid = fsid := h3.symm
 obtain rfl : fep = (ei : Int) := h4
 have hnk1 : (openT s (Ses.mk me peer sid (kl Ko) eo (kl Ki) ei qu sent got fr false)).keys.length < 900000 := Nat.lt_of_le_of_lt (openT_keys _ _) (by omega)
 have hnb1 : (openT s (Ses.mk me peer sid (kl Ko) eo (kl Ki) ei qu sent got fr false)).boxes.length < 900000 := by rw [openT_boxes]; omega
 obtain rfl : fseq = (n : Int) := hseq
 have hwr : bV (!((n : Int) == IntKind.u64.wrap (n : Int))) = bV false := seq_wr hn
 have hgot : n < 1000000 := hn
 have h0 := h00
 refine enter 129 Try.func12 rfl rfl ?_
 refine wp_reset 131 [(0, (pt sb 0)), (1, (aV ([(sV peer), (sV me), (iV .i64 sid), (iV .i64 ((ei : Int))), (iV .i64 ((n : Int))), (lV Ab fbox.length cb)]).toArray))] (fun x0 => ?_)
 refine wp_seq_k fun K1 hK1 => reg_lit ?_
 refine wq_to (some 3) (xN h0 38 ([(sV peer), (sV me), (iV .i64 sid), (iV .i64 ((ei : Int))), (iV .i64 ((n : Int))), (lV Ab fbox.length cb)])) ?_
 rintro _ w2 ⟨g2, rfl, h2⟩
 refine wq_to (some 4) (xN h2 42 ([(lV none 0 0), (bV false), (sV ByteArray.empty), (sV ByteArray.empty), (iV .i64 0), (iV .i64 0), (iV .i64 0), (lV none 0 0), (bV false)])) ?_
 rintro _ w3 ⟨g3, rfl, h3⟩
 refine wq_p 1 [(5, (iV .i64 0))] ?_
 refine wl_end rfl (seq_n hK1 (wp_seq_k fun K4 hK4 => wp_block (wp_seq_k fun K5 hK5 => ?_)))
 obtain ⟨c1_6, c2_6, A_6, cap_6, xs_6, fb_6, bx_6, hS_6, hG_6, h6⟩ := h3.openS 3 rfl
 clear hG_6
 refine reg_lit ?_
 refine wq_p 3 [(14, (pt sb 10)), (13, (pt sb 0)), (12, (pt sb 0))] (wq_v (some 15) (bV false) (eL (h6.at_ 0 rfl) 4 (.tmp 14) 10 _) (wq_p 1 [(11, (bV false))] ?_))
 refine wl_end rfl (seq_n hK5 (cF (wp_seq_k fun K7 hK7 => ?_)))
 refine pR_go h6 26 (fun W => (rBlk g2 38 ([(sV peer), (sV me), (iV .i64 sid), (iV .i64 ((ei : Int))), (iV .i64 ((n : Int))), (lV Ab fbox.length cb)])).Φ W /\ (rBlk sb 77 ([(Value.iface 28 (pt tb 0)), (sV me), (sV peer), (iV .i64 sid), (pt c1_6 0), (pt c2_6 0), (lV A_6 qu.length cap_6), (iV .i64 ((sent : Int))), (iV .i64 ((got : Int))), (frV fb_6), (bV false)])).Φ W /\ True) [(19, [3], 0), (20, [18], 1), (21, [0], 0), (22, [20], 4), (23, [21], 8), (24, [22], 16), (25, [19, 23], 34), (26, [24], 64), (27, [3, 25], 128), (28, [26, 25], 384), (29, [0, 25], 128), (30, [28, 25], 1152), (31, [29, 25], 2176), (32, [30, 25], 4224), (33, [27, 31, 25], 8832), (34, [25, 32], 16512), (35, [33], 32896), (36, [3, 34], 65536), (37, [35, 34], 196608), (38, [0, 34], 65536), (39, [37, 34], 589824), (40, [38, 34], 1114112), (41, [39, 34], 2162688), (42, [36, 40, 34], 4521984), (43, [34, 41], 8454144), (18, [42], 16842752)] rfl (fun _ d _ _ _ h => by cases d <;> exact h) ?_
 intro hs8 w8 h8
 refine pR_p 22 [0, 2, 3, 4] [(22, (pt sb 2)), (21, (pt sb 0)), (20, (pt sb 0)), (18, (pt g2 0))] 29 hs8 ⟨h8.at_ 6 rfl, h8.at_ 0 rfl, trivial⟩ ?_
 refine pR_v 1 (some 19) (sV peer) 31 rfl hs8 ⟨h8.at_ 6 rfl, h8.at_ 0 rfl, trivial⟩ (fun W hW => eL hW.1 9 (.tmp 18) 0 _) ?_
 refine pR_v 5 (some 23) (sV peer) 63 rfl hs8 ⟨h8.at_ 6 rfl, h8.at_ 0 rfl, trivial⟩ (fun W hW => eL hW.2.1 9 (.tmp 22) 2 _) ?_
 refine pR_v 6 (some 24) (bV false) 127 rfl hs8 ⟨h8.at_ 6 rfl, h8.at_ 0 rfl, trivial⟩ (fun W hW => eqI (bV (!((peer).toList == (peer).toList))) (by simp)) ?_
 refine pR_p 14 [7, 8, 10, 11, 12] [(30, (pt sb 1)), (29, (pt sb 0)), (28, (pt sb 0)), (26, (pt g2 1)), (25, (bV false))] 7679 hs8 ⟨h8.at_ 6 rfl, h8.at_ 0 rfl, trivial⟩ ?_
 refine pR_v 9 (some 27) (sV me) 8191 rfl hs8 ⟨h8.at_ 6 rfl, h8.at_ 0 rfl, trivial⟩ (fun W hW => eL hW.1 9 (.tmp 26) 1 _) ?_
 refine pR_v 13 (some 31) (sV me) 16383 rfl hs8 ⟨h8.at_ 6 rfl, h8.at_ 0 rfl, trivial⟩ (fun W hW => eL hW.2.1 9 (.tmp 30) 1 _) ?_
 refine pR_v 14 (some 32) (bV false) 32767 rfl hs8 ⟨h8.at_ 6 rfl, h8.at_ 0 rfl, trivial⟩ (fun W hW => eqI (bV (!((me).toList == (me).toList))) (by simp)) ?_
 refine pR_p 5 [15, 16, 17, 19, 20, 21] [(39, (pt sb 3)), (38, (pt sb 0)), (37, (pt sb 0)), (35, (pt g2 2)), (34, (bV false)), (33, (bV false))] 3932159 hs8 ⟨h8.at_ 6 rfl, h8.at_ 0 rfl, trivial⟩ ?_
 refine pR_v 18 (some 36) (iV .i64 sid) 4194303 rfl hs8 ⟨h8.at_ 6 rfl, h8.at_ 0 rfl, trivial⟩ (fun W hW => eL hW.1 2 (.tmp 35) 2 _) ?_
 refine pR_v 22 (some 40) (iV .i64 sid) 8388607 rfl hs8 ⟨h8.at_ 6 rfl, h8.at_ 0 rfl, trivial⟩ (fun W hW => eL hW.2.1 2 (.tmp 39) 3 _) ?_
 refine pR_v 23 (some 41) (bV false) 16777215 rfl hs8 ⟨h8.at_ 6 rfl, h8.at_ 0 rfl, trivial⟩ (fun W hW => eqI (bV (sid != sid)) (by simp)) ?_
 refine pR_p 0 [24, 25] [(17, (bV false)), (42, (bV false))] 67108863 hs8 ⟨h8.at_ 6 rfl, h8.at_ 0 rfl, trivial⟩ ?_
 refine pR_done hs8 ?_ _
 refine seq_n hK7 (cF (wp_seq_k fun K9 hK9 => ?_))
 refine pR_go h8 18 (fun W => (rBlk g2 38 ([(sV peer), (sV me), (iV .i64 sid), (iV .i64 ((ei : Int))), (iV .i64 ((n : Int))), (lV Ab fbox.length cb)])).Φ W /\ (rBlk sb 77 ([(Value.iface 28 (pt tb 0)), (sV me), (sV peer), (iV .i64 sid), (pt c1_6 0), (pt c2_6 0), (lV A_6 qu.length cap_6), (iV .i64 ((sent : Int))), (iV .i64 ((got : Int))), (frV fb_6), (bV false)])).Φ W /\ True) [(46, [3], 0), (47, [45], 1), (48, [0], 0), (49, [47], 4), (50, [48], 8), (51, [49], 16), (52, [50], 32), (53, [46, 51], 66), (54, [52], 192), (55, [3, 53], 256), (56, [54, 53], 768), (57, [0, 53], 256), (58, [56, 53], 2304), (59, [57, 53], 4352), (60, [58, 53], 8448), (61, [55, 59, 53], 17664), (62, [53, 60], 33024), (45, [61], 65792)] rfl (fun _ d _ _ _ h => by cases d <;> exact h) ?_
 intro hs10 w10 h10
 refine pR_p 14 [0, 2, 3, 4] [(49, (pt sb 5)), (48, (pt sb 0)), (47, (pt sb 0)), (45, (pt g2 3))] 29 hs10 ⟨h10.at_ 6 rfl, h10.at_ 0 rfl, trivial⟩ ?_
 refine pR_v 1 (some 46) (iV .i64 ((ei : Int))) 31 rfl hs10 ⟨h10.at_ 6 rfl, h10.at_ 0 rfl, trivial⟩ (fun W hW => eL hW.1 2 (.tmp 45) 3 _) ?_
 refine pR_v 5 (some 50) (pt c2_6 0) 63 rfl hs10 ⟨h10.at_ 6 rfl, h10.at_ 0 rfl, trivial⟩ (fun W hW => eL hW.2.1 73 (.tmp 49) 5 _) ?_
 refine pR_to 6 (some 51) 127 rfl hs10 (x_repoch h10 2 rfl (by kernel_rfl)) ?_
 rintro _ w11 ⟨rfl, h11⟩
 refine ⟨fun _ => ⟨h11.at_ 6 rfl, h11.at_ 0 rfl, trivial⟩, ?_⟩
 refine pR_v 7 (some 52) (bV false) 255 rfl hs10 ⟨h11.at_ 6 rfl, h11.at_ 0 rfl, trivial⟩ (fun W hW => eqI (bV (decide ((ei : Int) < (ei : Int)))) (congrArg bV (by simp))) ?_
 refine pR_p 0 [8, 9, 10, 11, 12, 13, 14, 15, 16, 17] [(44, (bV false)), (61, (bV false)), (60, undef), (59, undef), (58, undef), (57, undef), (56, undef), (55, undef), (54, undef), (53, (bV false))] 262143 hs10 ⟨h11.at_ 6 rfl, h11.at_ 0 rfl, trivial⟩ ?_
 refine pR_done hs10 ?_ _
 refine seq_n hK9 (cF (wp_seq_k fun K12 hK12 => ?_))
 refine wp_reset 131 [(0, (pt sb 0)), (1, (aV ([(sV peer), (sV me), (iV .i64 sid), (iV .i64 ((ei : Int))), (iV .i64 ((n : Int))), (lV Ab fbox.length cb)]).toArray)), (3, (pt g2 0)), (4, (pt g3 0)), (5, (iV .i64 0)), (11, (bV false)), (17, (bV false)), (44, (bV false))] (fun x13 => ?_)
 refine pR_go h11 9 (fun W => (rBlk g2 38 ([(sV peer), (sV me), (iV .i64 sid), (iV .i64 ((ei : Int))), (iV .i64 ((n : Int))), (lV Ab fbox.length cb)])).Φ W /\ (rBlk sb 77 ([(Value.iface 28 (pt tb 0)), (sV me), (sV peer), (iV .i64 sid), (pt c1_6 0), (pt c2_6 0), (lV A_6 qu.length cap_6), (iV .i64 ((sent : Int))), (iV .i64 ((got : Int))), (frV fb_6), (bV false)])).Φ W /\ True) [(66, [3], 0), (67, [65], 1), (68, [0], 0), (69, [67], 4), (70, [68], 8), (71, [69], 16), (72, [70], 32), (73, [66, 71], 66), (65, [72], 192)] rfl (fun _ d _ _ _ h => by cases d <;> exact h) ?_
 intro hs14 w14 h14
 refine pR_p 5 [0, 2, 3, 4] [(69, (pt sb 5)), (68, (pt sb 0)), (67, (pt sb 0)), (65, (pt g2 3))] 29 hs14 ⟨h14.at_ 6 rfl, h14.at_ 0 rfl, trivial⟩ ?_
 refine pR_v 1 (some 66) (iV .i64 ((ei : Int))) 31 rfl hs14 ⟨h14.at_ 6 rfl, h14.at_ 0 rfl, trivial⟩ (fun W hW => eL hW.1 2 (.tmp 65) 3 _) ?_
 refine pR_v 5 (some 70) (pt c2_6 0) 63 rfl hs14 ⟨h14.at_ 6 rfl, h14.at_ 0 rfl, trivial⟩ (fun W hW => eL hW.2.1 73 (.tmp 69) 5 _) ?_
 refine pR_to 6 (some 71) 127 rfl hs14 (x_repoch h14 2 rfl (by kernel_rfl)) ?_
 rintro _ w15 ⟨rfl, h15⟩
 refine ⟨fun _ => ⟨h15.at_ 6 rfl, h15.at_ 0 rfl, trivial⟩, ?_⟩
 refine pR_v 7 (some 72) (bV false) 255 rfl hs14 ⟨h15.at_ 6 rfl, h15.at_ 0 rfl, trivial⟩ (fun W hW => eqI (bV (((ei : Int)) != ((ei : Int)))) (by simp)) ?_
 refine pR_p 0 [8] [(64, (bV false))] 511 hs14 ⟨h15.at_ 6 rfl, h15.at_ 0 rfl, trivial⟩ ?_
 refine pR_done hs14 ?_ _
 refine seq_n hK12 (cF (wp_skip (blk_n (seq_n hK4 (wp_seq_k fun K16 hK16 => reg_lit ?_)))))
 refine wq_p 1 [(75, (pt sb 0))] (wq_v (some 76) (aV ([(sV peer), (sV me), (iV .i64 sid), (iV .i64 ((ei : Int))), (iV .i64 ((n : Int))), (lV Ab fbox.length cb)]).toArray) (eLs (h15.at_ 6 rfl) 38 (.tmp 3) 0 ([(sV peer), (sV me), (iV .i64 sid), (iV .i64 ((ei : Int))), (iV .i64 ((n : Int))), (lV Ab fbox.length cb)])) ?_)
 have h17 := (show Hp _ _ _ _ (lSes tb sb c1_6 c2_6 A_6 cap_6 xs_6 fb_6 bx_6 ((Ses.mk me peer sid (kl Ko) eo (kl Ki) ei qu sent got fr false)) ++ [rBlk g3 42 ([(lV none 0 0), (bV false), (sV ByteArray.empty), (sV ByteArray.empty), (iV .i64 0), (iV .i64 0), (iV .i64 0), (lV none 0 0), (bV false)]), rBlk g2 38 ([(sV peer), (sV me), (iV .i64 sid), (iV .i64 ((ei : Int))), (iV .i64 ((n : Int))), (lV Ab fbox.length cb)]), rTab F tb s]) from h15.sel [0, 1, 2, 3, 4, 5, 6, 7] [0] rfl rfl rfl).closeS (L := L) hS_6
 refine wq_to (some 77) (x_two h17 3 0 rfl rfl rfl 0 rfl 33 [(pt sb 0), (aV ([(sV peer), (sV me), (iV .i64 sid), (iV .i64 ((ei : Int))), (iV .i64 ((n : Int))), (lV Ab fbox.length cb)]).toArray)] (by kernel_rfl) (sopened_yes (h17.at_ 3 rfl) (h17.at_ 0 rfl) (h17.rd 0 rfl) (h17.dis 3 0 _ _ rfl rfl (by decide)) (h17.rdis 0 3 _ _ rfl rfl) (h17.rdis 0 0 _ _ rfl rfl) (Frm.mk peer me sid ((ei : Int)) ((n : Int)) fbox) Ab cb hmf rfl (by omega) (by omega) hbl k n b (by omega) hn hb hop hwr)) ?_
 rintro _ w18 ⟨F18, G18, L18, ⟨B, d, rfl, hmB⟩, hs18, hx18, h18⟩
 refine wq_p 9 [(9, (bV true)), (8, (lV B b.length d)), (7, (iV .i64 ((n : Int)))), (6, (iV .u64 ((k : Int)))), (81, (bV true)), (80, (lV B b.length d)), (79, (iV .i64 ((n : Int)))), (78, (iV .u64 ((k : Int)))), (74, (Value.tuple #[(iV .u64 ((k : Int))), (iV .i64 ((n : Int))), (lV B b.length d), (bV true)]))] ?_
 refine wl_end rfl (seq_n hK16 (wp_seq_k fun K19 hK19 => wp_block (wp_seq_k fun K20 hK20 => reg_lit ?_)))
 refine wq_p 3 [(82, (bV false)), (84, (bV false)), (83, (bV true))] ?_
 refine wl_end rfl (seq_n hK20 (cF (wp_seq_k fun K21 hK21 => reg_lit ?_)))
 refine wq_p 1 [(87, (iV .u64 ((k : Int))))] (wq_v (some 88) (bV false) (eqI (bV (((k : Int)) == 2)) (congrArg bV (by simp; omega))) (wq_p 1 [(86, (bV false))] ?_))
 refine wl_end rfl (seq_n hK21 (cF (wp_seq_k fun K22 hK22 => ?_)))
 obtain ⟨c1_23, c2_23, A_23, cap_23, xs_23, fb_23, bx_23, hS_23, hG_23, h23⟩ := h18.openS 0 rfl
 clear hG_23
 refine reg_lit ?_
 refine wq_p 4 [(97, (pt sb 8)), (96, (pt sb 0)), (95, (pt sb 0)), (94, (iV .i64 ((n : Int))))] (wq_v (some 98) (iV .i64 ((got : Int))) (eL (h23.at_ 0 rfl) 2 (.tmp 97) 8 _) (wq_v (some 99) (bV false) (eqI (bV (decide ((n : Int) <= (got : Int)))) (congrArg bV (by simp; omega))) (wq_p 1 [(93, (bV false))] ?_)))
 refine wl_end rfl (seq_n hK22 (cF (wp_seq_k fun K24 hK24 => ?_)))
 refine wp_reset 131 [(0, (pt sb 0)), (1, (aV ([(sV peer), (sV me), (iV .i64 sid), (iV .i64 ((ei : Int))), (iV .i64 ((n : Int))), (lV Ab fbox.length cb)]).toArray)), (3, (pt g2 0)), (4, (pt g3 0)), (5, (iV .i64 0)), (6, (iV .u64 ((k : Int)))), (7, (iV .i64 ((n : Int)))), (8, (lV B b.length d)), (9, (bV true)), (11, (bV false)), (17, (bV false)), (44, (bV false)), (64, (bV false)), (82, (bV false)), (86, (bV false)), (93, (bV false))] (fun x25 => ?_)
 refine reg_lit ?_
 refine wq_p 4 [(106, (pt sb 8)), (105, (pt sb 0)), (104, (pt sb 0)), (103, (iV .i64 ((n : Int))))] (wq_v (some 107) (iV .i64 ((got : Int))) (eL (h23.at_ 0 rfl) 2 (.tmp 106) 8 _) (wq_v (some 108) (iV .i64 (((got + 1 : Nat) : Int))) (exec_add _ _ _ _ rfl (got : Int) 1 (by kernel_rfl) (by kernel_rfl) (((got + 1 : Nat) : Int)) (by omega) (by omega) (by omega) _) (wq_v (some 109) (bV false) (eqI (bV (decide ((n : Int) > ((got + 1 : Nat) : Int)))) (congrArg bV (by simp; omega))) ?_)))
 refine wq_p 1 [(102, (bV false))] ?_
 refine wl_end rfl (seq_n hK24 (cF (wp_skip (blk_n (seq_n hK19 (wp_seq_k fun K26 hK26 => ?_))))))
 refine reg_lit ?_
 refine wq_p 4 [(114, (pt sb 8)), (113, (pt sb 0)), (112, (iV .i64 ((n : Int)))), (111, (pt sb 0))] ?_
 refine wq_to none (xSt h23 0 2 (.tmp 114) (.tmp 112) 8 (iV .i64 ((n : Int))) ([(Value.iface 28 (pt tb 0)), (sV me), (sV peer), (iV .i64 sid), (pt c1_23 0), (pt c2_23 0), (lV A_23 qu.length cap_23), (iV .i64 ((sent : Int))), (iV .i64 ((n : Int))), (frV fb_23), (bV false)])) ?_
 rintro _ w27 h27
 refine wl_end rfl (seq_n hK26 (wp_seq_k fun K28 hK28 => ?_))
 have h29 := (show Hp _ _ _ _ (lSes tb sb c1_23 c2_23 A_23 cap_23 xs_23 fb_23 bx_23 ((Ses.mk me peer sid (kl Ko) eo (kl Ki) ei qu sent n fr false)) ++ [rBlk g3 42 ([(lV none 0 0), (bV false), (sV ByteArray.empty), (sV ByteArray.empty), (iV .i64 0), (iV .i64 0), (iV .i64 0), (lV none 0 0), (bV false)]), rBlk g2 38 ([(sV peer), (sV me), (iV .i64 sid), (iV .i64 ((ei : Int))), (iV .i64 ((n : Int))), (lV Ab fbox.length cb)]), rTab F18 tb ((openT s (Ses.mk me peer sid (kl Ko) eo (kl Ki) ei qu sent got fr false)))]) from h27.sel [0, 1, 2, 3, 4, 5, 6, 7] [0, 1] rfl rfl rfl).closeS (L := L18) ⟨hS_23.q, hS_23.f, hS_23.ko, hS_23.ki⟩
 refine reg_lit ?_
 refine wq_p 1 [(115, (pt sb 0))] ?_
 refine wq_to (some 116) (x_two h29 3 0 rfl rfl rfl 0 rfl 32 [(pt sb 0)] (by kernel_rfl) (sanswer_any (h29.at_ 3 rfl) (h29.at_ 0 rfl) (h29.rd 0 rfl) (h29.dis 3 0 _ _ rfl rfl (by decide)) (h29.rdis 0 3 _ _ rfl rfl) (h29.rdis 0 0 _ _ rfl rfl) (hs18 _ hnil) hgot rfl hnk1 hnb1)) ?_
 rintro _ w30 ⟨F30, G30, L30, ⟨_, rfl, A30, c30, rfl, hm30⟩, hs30, hx30, h30⟩
 refine wq_to (some 10) (xN h30 42 ([(lV none 0 0), (bV false), (sV ByteArray.empty), (sV ByteArray.empty), (iV .i64 0), (iV .i64 0), (iV .i64 0), (lV none 0 0), (bV false)])) ?_
 rintro _ w31 ⟨g31, rfl, h31⟩
 refine wq_to none (xSs h31 0 42 (.tmp 10) (.tmp 116) 0 ([(lV none 0 0), (bV false), (sV me), (sV peer), (iV .i64 sid), (iV .i64 ((eo : Int))), (iV .i64 ((n : Int))), (lV A30 16 c30), (bV true)]) ([(lV none 0 0), (bV false), (sV me), (sV peer), (iV .i64 sid), (iV .i64 ((eo : Int))), (iV .i64 ((n : Int))), (lV A30 16 c30), (bV true)])) ?_
 rintro _ w32 h32
 refine wl_end rfl (seq_n hK28 (wp_seq_k fun K33 hK33 => wp_seq_k fun K34 hK34 => reg_lit ?_))
 refine wq_p 1 [(117, (iV .u64 ((k : Int))))] (wq_v (some 118) (bV true) (eqI (bV (((k : Int)) != 3)) (congrArg bV (by simp; omega))) ?_)
 refine wl_end rfl (seq_n hK34 (cT ?_))
 refine reg_lit ?_
 refine wq_p 2 [(120, (pt g31 0)), (119, (lV B b.length d))] ?_
 refine wq_to none (xSt h32 0 26 (.tmp 120) (.tmp 119) 0 (lV B b.length d) ([(lV B b.length d), (bV false), (sV me), (sV peer), (iV .i64 sid), (iV .i64 ((eo : Int))), (iV .i64 ((n : Int))), (lV A30 16 c30), (bV true)])) ?_
 rintro _ w35 h35
 refine wq_p 1 [(121, (pt g31 1))] ?_
 refine wq_to none (xSt h35 0 4 (.tmp 121) (.const (bV true)) 1 (bV true) ([(lV B b.length d), (bV true), (sV me), (sV peer), (iV .i64 sid), (iV .i64 ((eo : Int))), (iV .i64 ((n : Int))), (lV A30 16 c30), (bV true)])) ?_
 rintro _ w36 h36
 refine wl_end rfl (seq_n hK33 (wp_seq_k fun K37 hK37 => reg_lit ?_))
 refine wq_v (some 130) (aV ([(lV B b.length d), (bV true), (sV me), (sV peer), (iV .i64 sid), (iV .i64 ((eo : Int))), (iV .i64 ((n : Int))), (lV A30 16 c30), (bV true)]).toArray) (eLs (h36.at_ 0 rfl) 42 (.tmp 10) 0 ([(lV B b.length d), (bV true), (sV me), (sV peer), (iV .i64 sid), (iV .i64 ((eo : Int))), (iV .i64 ((n : Int))), (lV A30 16 c30), (bV true)])) ?_
 refine wq_to none (xSs h36 2 42 (.tmp 4) (.tmp 130) 0 ([(lV B b.length d), (bV true), (sV me), (sV peer), (iV .i64 sid), (iV .i64 ((eo : Int))), (iV .i64 ((n : Int))), (lV A30 16 c30), (bV true)]) ([(lV B b.length d), (bV true), (sV me), (sV peer), (iV .i64 sid), (iV .i64 ((eo : Int))), (iV .i64 ((n : Int))), (lV A30 16 c30), (bV true)])) ?_
 rintro _ w38 h38
 refine wq_p 1 [(5, (iV .i64 0))] ?_
 refine wl_end rfl (seq_n hK37 (wp_ret ?_))
 refine post_2 rfl (by kernel_rfl) (rce (h38.at_ 2 rfl)) (rtm (iV .i64 0)) ?_
 exact ⟨_, _, _, _, rfl, ⟨_, rfl, B, d, _, rfl, (hs30 _ hmB), ⟨A30, c30, rfl, hm30⟩⟩, (hx30 _ (hx18 _ (LExt.refl (fun q => F q ∨ G q) w L))), h38.sel [4, 1] [0] rfl rfl rfl⟩
theorem sTake_rekey {F G : Nat -> Prop} {tb sb : Nat} {s : STab} {L : List (Value × Bytes)} {S : Ses} {w : World} (hT : (rTab F tb s).Φ w) (hv : (rS G tb sb L S).Φ w) (hL : (rF L).Φ w) (hts : (rTab F tb s).dj (rS G tb sb L S)) (hdt : (rF L).dj (rTab F tb s)) (hd : (rF L).dj (rS G tb sb L S)) (f : Frm) (Ab : Option Addr) (cb : Nat) (hmf : (lV Ab f.box.length cb, f.box) ∈ L) (hnil : (lV none 0 0, ([] : Bytes)) ∈ L) (hnk : s.keys.length < 800000) (hnb : s.boxes.length < 800000) (hbl : ∀ b ∈ s.boxes, b.body.length <= 1000000) (ho : S.over = false) (h1 : f.src = S.peer) (h2 : f.dst = S.me) (h3 : f.sid = S.sid) (h4 : f.epoch = (S.ei : Int)) (n : Nat) (b : Bytes) (hn : n < 1000000) (hb : b.length <= 2048) (hop : (openT s S).open_ (openK s S) 14 f.box = some (wrV (contV 3 n b))) (hseq : f.seq = (n : Int)) (hgn : n = S.got + 1) (hgot0 : S.got < 900000) (hei : S.ei < 64) :
   Calls Try.prog 12 #[pt sb 0, .agg (f.cells (.slice Ab f.box.length cb)).toArray] w (Post2 F G tb sb w L (inT (sealT (openT s S) { S with got := n } 2 n []) { S with got := n }) (inS (sealT (openT s S) { S with got := n } 2 n []) { S with got := n }) (fun L' u => ∃ cs, u = .tuple #[.agg cs.toArray, .int .i64 0] /\ ComeAt L' none (some (sealF (openT s S) { S with got := n } n)) cs)) := by
 have h00 := twoF hT hv hL hts hdt hd
 obtain ⟨me, peer, sid, ko, eo, ki, ei, qu, sent, got, fr, ov⟩ := S
 obtain ⟨Ko, hKo⟩ := kl_of ko (rS_ko hv)
 obtain ⟨Ki, hKi⟩ := kl_of ki (rS_ki hv)
 subst hKo; subst hKi
 obtain ⟨src, dst, fsid, fep, fseq, fbox⟩ := f
 try simp only at *
 obtain rfl : ov = false := ho
 obtain rfl : peer = src := h1.symm
 obtain rfl : me = dst := h2.symm
 obtain rfl : sid = fsid := h3.symm
 obtain rfl : fep = (ei : Int) := h4
 have hnk1 : (openT s (Ses.mk me peer sid (kl Ko) eo (kl Ki) ei qu sent got fr false)).keys.length < 900000 := Nat.lt_of_le_of_lt (openT_keys _ _) (by omega)
 have hnb1 : (openT s (Ses.mk me peer sid (kl Ko) eo (kl Ki) ei qu sent got fr false)).boxes.length < 900000 := by rw [openT_boxes]; omega
 obtain rfl : fseq = (n : Int) := hseq
 have hwr : bV (!((n : Int) == IntKind.u64.wrap (n : Int))) = bV false := seq_wr hn
 have hgot : n < 1000000 := hn
 have h0 := h00
 refine enter 129 Try.func12 rfl rfl ?_
 refine wp_reset 131 [(0, (pt sb 0)), (1, (aV ([(sV peer), (sV me), (iV .i64 sid), (iV .i64 ((ei : Int))), (iV .i64 ((n : Int))), (lV Ab fbox.length cb)]).toArray))] (fun x0 => ?_)
 refine wp_seq_k fun K1 hK1 => reg_lit ?_
 refine wq_to (some 3) (xN h0 38 ([(sV peer), (sV me), (iV .i64 sid), (iV .i64 ((ei : Int))), (iV .i64 ((n : Int))), (lV Ab fbox.length cb)])) ?_
 rintro _ w2 ⟨g2, rfl, h2⟩
 refine wq_to (some 4) (xN h2 42 ([(lV none 0 0), (bV false), (sV ByteArray.empty), (sV ByteArray.empty), (iV .i64 0), (iV .i64 0), (iV .i64 0), (lV none 0 0), (bV false)])) ?_
 rintro _ w3 ⟨g3, rfl, h3⟩
 refine wq_p 1 [(5, (iV .i64 0))] ?_
 refine wl_end rfl (seq_n hK1 (wp_seq_k fun K4 hK4 => wp_block (wp_seq_k fun K5 hK5 => ?_)))
 obtain ⟨c1_6, c2_6, A_6, cap_6, xs_6, fb_6, bx_6, hS_6, hG_6, h6⟩ := h3.openS 3 rfl
 clear hG_6
 refine reg_lit ?_
 refine wq_p 3 [(14, (pt sb 10)), (13, (pt sb 0)), (12, (pt sb 0))] (wq_v (some 15) (bV false) (eL (h6.at_ 0 rfl) 4 (.tmp 14) 10 _) (wq_p 1 [(11, (bV false))] ?_))
 refine wl_end rfl (seq_n hK5 (cF (wp_seq_k fun K7 hK7 => ?_)))
 refine pR_go h6 26 (fun W => (rBlk g2 38 ([(sV peer), (sV me), (iV .i64 sid), (iV .i64 ((ei : Int))), (iV .i64 ((n : Int))), (lV Ab fbox.length cb)])).Φ W /\ (rBlk sb 77 ([(Value.iface 28 (pt tb 0)), (sV me), (sV peer), (iV .i64 sid), (pt c1_6 0), (pt c2_6 0), (lV A_6 qu.length cap_6), (iV .i64 ((sent : Int))), (iV .i64 ((got : Int))), (frV fb_6), (bV false)])).Φ W /\ True) [(19, [3], 0), (20, [18], 1), (21, [0], 0), (22, [20], 4), (23, [21], 8), (24, [22], 16), (25, [19, 23], 34), (26, [24], 64), (27, [3, 25], 128), (28, [26, 25], 384), (29, [0, 25], 128), (30, [28, 25], 1152), (31, [29, 25], 2176), (32, [30, 25], 4224), (33, [27, 31, 25], 8832), (34, [25, 32], 16512), (35, [33], 32896), (36, [3, 34], 65536), (37, [35, 34], 196608), (38, [0, 34], 65536), (39, [37, 34], 589824), (40, [38, 34], 1114112), (41, [39, 34], 2162688), (42, [36, 40, 34], 4521984), (43, [34, 41], 8454144), (18, [42], 16842752)] rfl (fun _ d _ _ _ h => by cases d <;> exact h) ?_
 intro hs8 w8 h8
 refine pR_p 22 [0, 2, 3, 4] [(22, (pt sb 2)), (21, (pt sb 0)), (20, (pt sb 0)), (18, (pt g2 0))] 29 hs8 ⟨h8.at_ 6 rfl, h8.at_ 0 rfl, trivial⟩ ?_
 refine pR_v 1 (some 19) (sV peer) 31 rfl hs8 ⟨h8.at_ 6 rfl, h8.at_ 0 rfl, trivial⟩ (fun W hW => eL hW.1 9 (.tmp 18) 0 _) ?_
 refine pR_v 5 (some 23) (sV peer) 63 rfl hs8 ⟨h8.at_ 6 rfl, h8.at_ 0 rfl, trivial⟩ (fun W hW => eL hW.2.1 9 (.tmp 22) 2 _) ?_
 refine pR_v 6 (some 24) (bV false) 127 rfl hs8 ⟨h8.at_ 6 rfl, h8.at_ 0 rfl, trivial⟩ (fun W hW => eqI (bV (!((peer).toList == (peer).toList))) (by simp)) ?_
 refine pR_p 14 [7, 8, 10, 11, 12] [(30, (pt sb 1)), (29, (pt sb 0)), (28, (pt sb 0)), (26, (pt g2 1)), (25, (bV false))] 7679 hs8 ⟨h8.at_ 6 rfl, h8.at_ 0 rfl, trivial⟩ ?_
 refine pR_v 9 (some 27) (sV me) 8191 rfl hs8 ⟨h8.at_ 6 rfl, h8.at_ 0 rfl, trivial⟩ (fun W hW => eL hW.1 9 (.tmp 26) 1 _) ?_
 refine pR_v 13 (some 31) (sV me) 16383 rfl hs8 ⟨h8.at_ 6 rfl, h8.at_ 0 rfl, trivial⟩ (fun W hW => eL hW.2.1 9 (.tmp 30) 1 _) ?_
 refine pR_v 14 (some 32) (bV false) 32767 rfl hs8 ⟨h8.at_ 6 rfl, h8.at_ 0 rfl, trivial⟩ (fun W hW => eqI (bV (!((me).toList == (me).toList))) (by simp)) ?_
 refine pR_p 5 [15, 16, 17, 19, 20, 21] [(39, (pt sb 3)), (38, (pt sb 0)), (37, (pt sb 0)), (35, (pt g2 2)), (34, (bV false)), (33, (bV false))] 3932159 hs8 ⟨h8.at_ 6 rfl, h8.at_ 0 rfl, trivial⟩ ?_
 refine pR_v 18 (some 36) (iV .i64 sid) 4194303 rfl hs8 ⟨h8.at_ 6 rfl, h8.at_ 0 rfl, trivial⟩ (fun W hW => eL hW.1 2 (.tmp 35) 2 _) ?_
 refine pR_v 22 (some 40) (iV .i64 sid) 8388607 rfl hs8 ⟨h8.at_ 6 rfl, h8.at_ 0 rfl, trivial⟩ (fun W hW => eL hW.2.1 2 (.tmp 39) 3 _) ?_
 refine pR_v 23 (some 41) (bV false) 16777215 rfl hs8 ⟨h8.at_ 6 rfl, h8.at_ 0 rfl, trivial⟩ (fun W hW => eqI (bV (sid != sid)) (by simp)) ?_
 refine pR_p 0 [24, 25] [(17, (bV false)), (42, (bV false))] 67108863 hs8 ⟨h8.at_ 6 rfl, h8.at_ 0 rfl, trivial⟩ ?_
 refine pR_done hs8 ?_ _
 refine seq_n hK7 (cF (wp_seq_k fun K9 hK9 => ?_))
 refine pR_go h8 18 (fun W => (rBlk g2 38 ([(sV peer), (sV me), (iV .i64 sid), (iV .i64 ((ei : Int))), (iV .i64 ((n : Int))), (lV Ab fbox.length cb)])).Φ W /\ (rBlk sb 77 ([(Value.iface 28 (pt tb 0)), (sV me), (sV peer), (iV .i64 sid), (pt c1_6 0), (pt c2_6 0), (lV A_6 qu.length cap_6), (iV .i64 ((sent : Int))), (iV .i64 ((got : Int))), (frV fb_6), (bV false)])).Φ W /\ True) [(46, [3], 0), (47, [45], 1), (48, [0], 0), (49, [47], 4), (50, [48], 8), (51, [49], 16), (52, [50], 32), (53, [46, 51], 66), (54, [52], 192), (55, [3, 53], 256), (56, [54, 53], 768), (57, [0, 53], 256), (58, [56, 53], 2304), (59, [57, 53], 4352), (60, [58, 53], 8448), (61, [55, 59, 53], 17664), (62, [53, 60], 33024), (45, [61], 65792)] rfl (fun _ d _ _ _ h => by cases d <;> exact h) ?_
 intro hs10 w10 h10
 refine pR_p 14 [0, 2, 3, 4] [(49, (pt sb 5)), (48, (pt sb 0)), (47, (pt sb 0)), (45, (pt g2 3))] 29 hs10 ⟨h10.at_ 6 rfl, h10.at_ 0 rfl, trivial⟩ ?_
 refine pR_v 1 (some 46) (iV .i64 ((ei : Int))) 31 rfl hs10 ⟨h10.at_ 6 rfl, h10.at_ 0 rfl, trivial⟩ (fun W hW => eL hW.1 2 (.tmp 45) 3 _) ?_
 refine pR_v 5 (some 50) (pt c2_6 0) 63 rfl hs10 ⟨h10.at_ 6 rfl, h10.at_ 0 rfl, trivial⟩ (fun W hW => eL hW.2.1 73 (.tmp 49) 5 _) ?_
 refine pR_to 6 (some 51) 127 rfl hs10 (x_repoch h10 2 rfl (by kernel_rfl)) ?_
 rintro _ w11 ⟨rfl, h11⟩
 refine ⟨fun _ => ⟨h11.at_ 6 rfl, h11.at_ 0 rfl, trivial⟩, ?_⟩
 refine pR_v 7 (some 52) (bV false) 255 rfl hs10 ⟨h11.at_ 6 rfl, h11.at_ 0 rfl, trivial⟩ (fun W hW => eqI (bV (decide ((ei : Int) < (ei : Int)))) (congrArg bV (by simp))) ?_
 refine pR_p 0 [8, 9, 10, 11, 12, 13, 14, 15, 16, 17] [(44, (bV false)), (61, (bV false)), (60, undef), (59, undef), (58, undef), (57, undef), (56, undef), (55, undef), (54, undef), (53, (bV false))] 262143 hs10 ⟨h11.at_ 6 rfl, h11.at_ 0 rfl, trivial⟩ ?_
 refine pR_done hs10 ?_ _
 refine seq_n hK9 (cF (wp_seq_k fun K12 hK12 => ?_))
 refine wp_reset 131 [(0, (pt sb 0)), (1, (aV ([(sV peer), (sV me), (iV .i64 sid), (iV .i64 ((ei : Int))), (iV .i64 ((n : Int))), (lV Ab fbox.length cb)]).toArray)), (3, (pt g2 0)), (4, (pt g3 0)), (5, (iV .i64 0)), (11, (bV false)), (17, (bV false)), (44, (bV false))] (fun x13 => ?_)
 refine pR_go h11 9 (fun W => (rBlk g2 38 ([(sV peer), (sV me), (iV .i64 sid), (iV .i64 ((ei : Int))), (iV .i64 ((n : Int))), (lV Ab fbox.length cb)])).Φ W /\ (rBlk sb 77 ([(Value.iface 28 (pt tb 0)), (sV me), (sV peer), (iV .i64 sid), (pt c1_6 0), (pt c2_6 0), (lV A_6 qu.length cap_6), (iV .i64 ((sent : Int))), (iV .i64 ((got : Int))), (frV fb_6), (bV false)])).Φ W /\ True) [(66, [3], 0), (67, [65], 1), (68, [0], 0), (69, [67], 4), (70, [68], 8), (71, [69], 16), (72, [70], 32), (73, [66, 71], 66), (65, [72], 192)] rfl (fun _ d _ _ _ h => by cases d <;> exact h) ?_
 intro hs14 w14 h14
 refine pR_p 5 [0, 2, 3, 4] [(69, (pt sb 5)), (68, (pt sb 0)), (67, (pt sb 0)), (65, (pt g2 3))] 29 hs14 ⟨h14.at_ 6 rfl, h14.at_ 0 rfl, trivial⟩ ?_
 refine pR_v 1 (some 66) (iV .i64 ((ei : Int))) 31 rfl hs14 ⟨h14.at_ 6 rfl, h14.at_ 0 rfl, trivial⟩ (fun W hW => eL hW.1 2 (.tmp 65) 3 _) ?_
 refine pR_v 5 (some 70) (pt c2_6 0) 63 rfl hs14 ⟨h14.at_ 6 rfl, h14.at_ 0 rfl, trivial⟩ (fun W hW => eL hW.2.1 73 (.tmp 69) 5 _) ?_
 refine pR_to 6 (some 71) 127 rfl hs14 (x_repoch h14 2 rfl (by kernel_rfl)) ?_
 rintro _ w15 ⟨rfl, h15⟩
 refine ⟨fun _ => ⟨h15.at_ 6 rfl, h15.at_ 0 rfl, trivial⟩, ?_⟩
 refine pR_v 7 (some 72) (bV false) 255 rfl hs14 ⟨h15.at_ 6 rfl, h15.at_ 0 rfl, trivial⟩ (fun W hW => eqI (bV (((ei : Int)) != ((ei : Int)))) (by simp)) ?_
 refine pR_p 0 [8] [(64, (bV false))] 511 hs14 ⟨h15.at_ 6 rfl, h15.at_ 0 rfl, trivial⟩ ?_
 refine pR_done hs14 ?_ _
 refine seq_n hK12 (cF (wp_skip (blk_n (seq_n hK4 (wp_seq_k fun K16 hK16 => reg_lit ?_)))))
 refine wq_p 1 [(75, (pt sb 0))] (wq_v (some 76) (aV ([(sV peer), (sV me), (iV .i64 sid), (iV .i64 ((ei : Int))), (iV .i64 ((n : Int))), (lV Ab fbox.length cb)]).toArray) (eLs (h15.at_ 6 rfl) 38 (.tmp 3) 0 ([(sV peer), (sV me), (iV .i64 sid), (iV .i64 ((ei : Int))), (iV .i64 ((n : Int))), (lV Ab fbox.length cb)])) ?_)
 have h17 := (show Hp _ _ _ _ (lSes tb sb c1_6 c2_6 A_6 cap_6 xs_6 fb_6 bx_6 ((Ses.mk me peer sid (kl Ko) eo (kl Ki) ei qu sent got fr false)) ++ [rBlk g3 42 ([(lV none 0 0), (bV false), (sV ByteArray.empty), (sV ByteArray.empty), (iV .i64 0), (iV .i64 0), (iV .i64 0), (lV none 0 0), (bV false)]), rBlk g2 38 ([(sV peer), (sV me), (iV .i64 sid), (iV .i64 ((ei : Int))), (iV .i64 ((n : Int))), (lV Ab fbox.length cb)]), rTab F tb s]) from h15.sel [0, 1, 2, 3, 4, 5, 6, 7] [0] rfl rfl rfl).closeS (L := L) hS_6
 refine wq_to (some 77) (x_two h17 3 0 rfl rfl rfl 0 rfl 33 [(pt sb 0), (aV ([(sV peer), (sV me), (iV .i64 sid), (iV .i64 ((ei : Int))), (iV .i64 ((n : Int))), (lV Ab fbox.length cb)]).toArray)] (by kernel_rfl) (sopened_yes (h17.at_ 3 rfl) (h17.at_ 0 rfl) (h17.rd 0 rfl) (h17.dis 3 0 _ _ rfl rfl (by decide)) (h17.rdis 0 3 _ _ rfl rfl) (h17.rdis 0 0 _ _ rfl rfl) (Frm.mk peer me sid ((ei : Int)) ((n : Int)) fbox) Ab cb hmf rfl (by omega) (by omega) hbl 3 n b (by omega) hn hb hop hwr)) ?_
 rintro _ w18 ⟨F18, G18, L18, ⟨B, d, rfl, hmB⟩, hs18, hx18, h18⟩
 refine wq_p 9 [(9, (bV true)), (8, (lV B b.length d)), (7, (iV .i64 ((n : Int)))), (6, (iV .u64 3)), (81, (bV true)), (80, (lV B b.length d)), (79, (iV .i64 ((n : Int)))), (78, (iV .u64 3)), (74, (Value.tuple #[(iV .u64 3), (iV .i64 ((n : Int))), (lV B b.length d), (bV true)]))] ?_
 refine wl_end rfl (seq_n hK16 (wp_seq_k fun K19 hK19 => wp_block (wp_seq_k fun K20 hK20 => reg_lit ?_)))
 refine wq_p 3 [(82, (bV false)), (84, (bV false)), (83, (bV true))] ?_
 refine wl_end rfl (seq_n hK20 (cF (wp_seq_k fun K21 hK21 => reg_lit ?_)))
 refine wq_p 3 [(86, (bV false)), (88, (bV false)), (87, (iV .u64 3))] ?_
 refine wl_end rfl (seq_n hK21 (cF (wp_seq_k fun K22 hK22 => ?_)))
 obtain ⟨c1_23, c2_23, A_23, cap_23, xs_23, fb_23, bx_23, hS_23, hG_23, h23⟩ := h18.openS 0 rfl
 clear hG_23
 refine reg_lit ?_
 refine wq_p 4 [(97, (pt sb 8)), (96, (pt sb 0)), (95, (pt sb 0)), (94, (iV .i64 ((n : Int))))] (wq_v (some 98) (iV .i64 ((got : Int))) (eL (h23.at_ 0 rfl) 2 (.tmp 97) 8 _) (wq_v (some 99) (bV false) (eqI (bV (decide ((n : Int) <= (got : Int)))) (congrArg bV (by simp; omega))) (wq_p 1 [(93, (bV false))] ?_)))
 refine wl_end rfl (seq_n hK22 (cF (wp_seq_k fun K24 hK24 => reg_lit ?_)))
 refine wq_p 4 [(106, (pt sb 8)), (105, (pt sb 0)), (104, (pt sb 0)), (103, (iV .i64 ((n : Int))))] (wq_v (some 107) (iV .i64 ((got : Int))) (eL (h23.at_ 0 rfl) 2 (.tmp 106) 8 _) (wq_v (some 108) (iV .i64 (((got + 1 : Nat) : Int))) (exec_add _ _ _ _ rfl (got : Int) 1 (by kernel_rfl) (by kernel_rfl) (((got + 1 : Nat) : Int)) (by omega) (by omega) (by omega) _) (wq_v (some 109) (bV false) (eqI (bV (decide ((n : Int) > ((got + 1 : Nat) : Int)))) (congrArg bV (by simp; omega))) ?_)))
 refine wq_p 1 [(102, (bV false))] ?_
 refine wl_end rfl (seq_n hK24 (cF (wp_skip (blk_n (seq_n hK19 (wp_seq_k fun K25 hK25 => ?_))))))
 refine wp_reset 131 [(0, (pt sb 0)), (1, (aV ([(sV peer), (sV me), (iV .i64 sid), (iV .i64 ((ei : Int))), (iV .i64 ((n : Int))), (lV Ab fbox.length cb)]).toArray)), (3, (pt g2 0)), (4, (pt g3 0)), (5, (iV .i64 0)), (6, (iV .u64 3)), (7, (iV .i64 ((n : Int)))), (8, (lV B b.length d)), (9, (bV true)), (11, (bV false)), (17, (bV false)), (44, (bV false)), (64, (bV false)), (82, (bV false)), (86, (bV false)), (93, (bV false)), (102, (bV false))] (fun x26 => ?_)
 refine reg_lit ?_
 refine wq_p 4 [(114, (pt sb 8)), (113, (pt sb 0)), (112, (iV .i64 ((n : Int)))), (111, (pt sb 0))] ?_
 refine wq_to none (xSt h23 0 2 (.tmp 114) (.tmp 112) 8 (iV .i64 ((n : Int))) ([(Value.iface 28 (pt tb 0)), (sV me), (sV peer), (iV .i64 sid), (pt c1_23 0), (pt c2_23 0), (lV A_23 qu.length cap_23), (iV .i64 ((sent : Int))), (iV .i64 ((n : Int))), (frV fb_23), (bV false)])) ?_
 rintro _ w27 h27
 refine wl_end rfl (seq_n hK25 (wp_seq_k fun K28 hK28 => ?_))
 have h29 := (show Hp _ _ _ _ (lSes tb sb c1_23 c2_23 A_23 cap_23 xs_23 fb_23 bx_23 ((Ses.mk me peer sid (kl Ko) eo (kl Ki) ei qu sent n fr false)) ++ [rBlk g3 42 ([(lV none 0 0), (bV false), (sV ByteArray.empty), (sV ByteArray.empty), (iV .i64 0), (iV .i64 0), (iV .i64 0), (lV none 0 0), (bV false)]), rBlk g2 38 ([(sV peer), (sV me), (iV .i64 sid), (iV .i64 ((ei : Int))), (iV .i64 ((n : Int))), (lV Ab fbox.length cb)]), rTab F18 tb ((openT s (Ses.mk me peer sid (kl Ko) eo (kl Ki) ei qu sent got fr false)))]) from h27.sel [0, 1, 2, 3, 4, 5, 6, 7] [0, 1] rfl rfl rfl).closeS (L := L18) ⟨hS_23.q, hS_23.f, hS_23.ko, hS_23.ki⟩
 refine reg_lit ?_
 refine wq_p 1 [(115, (pt sb 0))] ?_
 refine wq_to (some 116) (x_two h29 3 0 rfl rfl rfl 0 rfl 32 [(pt sb 0)] (by kernel_rfl) (sanswer_any (h29.at_ 3 rfl) (h29.at_ 0 rfl) (h29.rd 0 rfl) (h29.dis 3 0 _ _ rfl rfl (by decide)) (h29.rdis 0 3 _ _ rfl rfl) (h29.rdis 0 0 _ _ rfl rfl) (hs18 _ hnil) hgot rfl hnk1 hnb1)) ?_
 rintro _ w30 ⟨F30, G30, L30, ⟨_, rfl, A30, c30, rfl, hm30⟩, hs30, hx30, h30⟩
 refine wq_to (some 10) (xN h30 42 ([(lV none 0 0), (bV false), (sV ByteArray.empty), (sV ByteArray.empty), (iV .i64 0), (iV .i64 0), (iV .i64 0), (lV none 0 0), (bV false)])) ?_
 rintro _ w31 ⟨g31, rfl, h31⟩
 refine wq_to none (xSs h31 0 42 (.tmp 10) (.tmp 116) 0 ([(lV none 0 0), (bV false), (sV me), (sV peer), (iV .i64 sid), (iV .i64 ((eo : Int))), (iV .i64 ((n : Int))), (lV A30 16 c30), (bV true)]) ([(lV none 0 0), (bV false), (sV me), (sV peer), (iV .i64 sid), (iV .i64 ((eo : Int))), (iV .i64 ((n : Int))), (lV A30 16 c30), (bV true)])) ?_
 rintro _ w32 h32
 refine wl_end rfl (seq_n hK28 (wp_seq_k fun K33 hK33 => wp_seq_k fun K34 hK34 => reg_lit ?_))
 refine wq_p 2 [(118, (bV false)), (117, (iV .u64 3))] ?_
 refine wl_end rfl (seq_n hK34 (cF (wp_seq_k fun K35 hK35 => ?_)))
 obtain ⟨c1_36, c2_36, A_36, cap_36, xs_36, fb_36, bx_36, hS_36, hG_36, h36⟩ := h32.openS 1 rfl
 clear hG_36
 refine reg_lit ?_
 refine wq_p 3 [(124, (pt sb 5)), (123, (pt sb 0)), (122, (pt sb 0))] (wq_v (some 125) (pt c2_36 0) (eL (h36.at_ 0 rfl) 73 (.tmp 124) 5 _) ?_)
 have hnk2 := Nat.lt_of_le_of_lt (sealT_keys (openT s (Ses.mk me peer sid (kl Ko) eo (kl Ki) ei qu sent got fr false)) (Ses.mk me peer sid (kl Ko) eo (kl Ki) ei qu sent n fr false) 2 n []) (show _ + 1 < 1000000 by omega)
 refine wq_to (some 126) (x_rnext (e := (ei : Int)) h36 8 2 rfl rfl (by decide) (by kernel_rfl) hnk2 (by omega) (by omega)) ?_
 rintro _ w37 ⟨K37, F37, s37, rfl, hK37, hs37, h37⟩
 refine wq_p 1 [(127, (bV false))] ?_
 refine wl_end rfl (seq_n hK35 (cF (wp_skip (seq_n hK33 (wp_seq_k fun K38 hK38 => ?_)))))
 have h39 := (show Hp _ _ _ _ (lSes tb sb c1_36 c2_36 A_36 cap_36 xs_36 fb_36 bx_36 ((Ses.mk me peer sid (kl Ko) eo (kl K37) (ei + 1) qu sent n fr false)) ++ [rBlk g31 42 ([(lV none 0 0), (bV false), (sV me), (sV peer), (iV .i64 sid), (iV .i64 ((eo : Int))), (iV .i64 ((n : Int))), (lV A30 16 c30), (bV true)]), rBlk g3 42 ([(lV none 0 0), (bV false), (sV ByteArray.empty), (sV ByteArray.empty), (iV .i64 0), (iV .i64 0), (iV .i64 0), (lV none 0 0), (bV false)]), rBlk g2 38 ([(sV peer), (sV me), (iV .i64 sid), (iV .i64 ((ei : Int))), (iV .i64 ((n : Int))), (lV Ab fbox.length cb)]), rTab F37 tb s37]) from h37.sel [0, 1, 2, 3, 4, 5, 6, 7, 8] [0, 1, 2] rfl rfl rfl).closeS (L := L30) ⟨hS_36.q, hS_36.f, hS_36.ko, kl_len _⟩
 subst hs37
 rw [hK37] at h39
 refine reg_lit ?_
 refine wq_v (some 130) (aV ([(lV none 0 0), (bV false), (sV me), (sV peer), (iV .i64 sid), (iV .i64 ((eo : Int))), (iV .i64 ((n : Int))), (lV A30 16 c30), (bV true)]).toArray) (eLs (h39.at_ 1 rfl) 42 (.tmp 10) 0 ([(lV none 0 0), (bV false), (sV me), (sV peer), (iV .i64 sid), (iV .i64 ((eo : Int))), (iV .i64 ((n : Int))), (lV A30 16 c30), (bV true)])) ?_
 refine wq_to none (xSs h39 2 42 (.tmp 4) (.tmp 130) 0 ([(lV none 0 0), (bV false), (sV me), (sV peer), (iV .i64 sid), (iV .i64 ((eo : Int))), (iV .i64 ((n : Int))), (lV A30 16 c30), (bV true)]) ([(lV none 0 0), (bV false), (sV me), (sV peer), (iV .i64 sid), (iV .i64 ((eo : Int))), (iV .i64 ((n : Int))), (lV A30 16 c30), (bV true)])) ?_
 rintro _ w40 h40
 refine wq_p 1 [(5, (iV .i64 0))] ?_
 refine wl_end rfl (seq_n hK38 (wp_ret ?_))
 refine post_2 rfl (by kernel_rfl) (rce (h40.at_ 2 rfl)) (rtm (iV .i64 0)) ?_
 exact ⟨_, _, _, _, rfl, ⟨_, rfl, none, 0, _, rfl, (hs30 _ (hs18 _ hnil)), ⟨A30, c30, rfl, hm30⟩⟩, (hx30 _ (hx18 _ (LExt.refl (fun q => F q ∨ G q) w L))), h40.sel [4, 0] [0] rfl rfl rfl⟩
end
end Go.Proofs.Ytjalodhdjollhaa
