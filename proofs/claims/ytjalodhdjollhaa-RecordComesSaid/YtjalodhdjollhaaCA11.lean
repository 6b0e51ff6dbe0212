/- The walks of record: Take, each way of it. -/
import Derived.Test.YtjalodhdjollhaaCA10
set_option maxRecDepth 100000
set_option maxHeartbeats 4000000
namespace Go.Proofs.Ytjalodhdjollhaa
section
open Go.Value renaming int -> iV, slice -> lV, string -> sV, bool -> bV, agg -> aV
open Go.RowKit Go.QT
/-- What has come: bytes, and a mark that answers. -/
def ComeAt (L : List (Value × Bytes)) (b : Option Bytes) (m : Option Frm) (cs : List Value) : Prop :=
 ∃ A c fs, cs = [.slice A (b.getD []).length c, .bool b.isSome] ++ fs ++ [.bool m.isSome] /\ (lV A (b.getD []).length c, b.getD []) ∈ L /\ (match m with | none => fs = zFrm | some f => FrmAt L f fs)
/-- The first part that waits is marked. -/
def markR (S : Ses) : Ses := { S with queue := S.queue.tail, frame := none, sent := S.sent + 1 }
/-- The key of what comes goes on. -/
def inT (s : STab) (S : Ses) : STab := s.made (deriveF S.ki ⟨#[110, 101, 120, 116]⟩)
def inS (s : STab) (S : Ses) : Ses := { S with ki := mkB 107 (s.num (deriveF S.ki ⟨#[110, 101, 120, 116]⟩)), ei := S.ei + 1 }
theorem openT_keys (s : STab) (S : Ses) : (openT s S).keys.length <= s.keys.length + 1 := STab.made_keys s _
theorem openT_boxes (s : STab) (S : Ses) : (openT s S).boxes = s.boxes := (made_boxes (s' := openT s S) rfl).1
theorem sTake_over {F G : Nat -> Prop} {tb sb : Nat} {s : STab} {L : List (Value × Bytes)} {S : Ses} {w : World} (hT : (rTab F tb s).Φ w) (hv : (rS G tb sb L S).Φ w) (hL : (rF L).Φ w) (hts : (rTab F tb s).dj (rS G tb sb L S)) (hdt : (rF L).dj (rTab F tb s)) (hd : (rF L).dj (rS G tb sb L S)) (f : Frm) (Ab : Option Addr) (cb : Nat) (hmf : (lV Ab f.box.length cb, f.box) ∈ L) (hnil : (lV none 0 0, ([] : Bytes)) ∈ L) (_hnk : s.keys.length < 800000) (_hnb : s.boxes.length < 800000) (_hbl : ∀ b ∈ s.boxes, b.body.length <= 1000000) (ho : S.over = true) :
   Calls Try.prog 12 #[pt sb 0, .agg (f.cells (.slice Ab f.box.length cb)).toArray] w (Post2 F G tb sb w L (s) (S) (fun L' u => ∃ cs, u = .tuple #[.agg cs.toArray, .int .i64 21] /\ ComeAt L' none none cs)) := by
 have h00 := twoF hT hv hL hts hdt hd
 obtain ⟨me, peer, sid, ko, eo, ki, ei, qu, sent, got, fr, ov⟩ := S
 obtain ⟨Ko, hKo⟩ := kl_of ko (rS_ko hv)
 obtain ⟨Ki, hKi⟩ := kl_of ki (rS_ki hv)
 subst hKo; subst hKi
 obtain ⟨src, dst, fsid, fep, fseq, fbox⟩ := f
 try simp only at *
 obtain rfl : ov = true := ho
 have h0 := h00
 refine enter 129 Try.func12 rfl rfl ?_
 refine wp_reset 131 [(0, (pt sb 0)), (1, (aV ([(sV src), (sV dst), (iV .i64 fsid), (iV .i64 fep), (iV .i64 fseq), (lV Ab fbox.length cb)]).toArray))] (fun x0 => ?_)
 refine wp_seq_k fun K1 hK1 => reg_lit ?_
 refine wq_to (some 3) (xN h0 38 ([(sV src), (sV dst), (iV .i64 fsid), (iV .i64 fep), (iV .i64 fseq), (lV Ab fbox.length cb)])) ?_
 rintro _ w2 ⟨g2, rfl, h2⟩
 refine wq_to (some 4) (xN h2 42 ([(lV none 0 0), (bV false), (sV ByteArray.empty), (sV ByteArray.empty), (iV .i64 0), (iV .i64 0), (iV .i64 0), (lV none 0 0), (bV false)])) ?_
 rintro _ w3 ⟨g3, rfl, h3⟩
 refine wq_p 1 [(5, (iV .i64 0))] ?_
 refine wl_end rfl (seq_n hK1 (wp_seq_k fun K4 hK4 => wp_block (wp_seq_k fun K5 hK5 => ?_)))
 obtain ⟨c1_6, c2_6, A_6, cap_6, xs_6, fb_6, bx_6, hS_6, hG_6, h6⟩ := h3.openS 3 rfl
 clear hG_6
 refine reg_lit ?_
 refine wq_p 3 [(14, (pt sb 10)), (13, (pt sb 0)), (12, (pt sb 0))] (wq_v (some 15) (bV true) (eL (h6.at_ 0 rfl) 4 (.tmp 14) 10 _) (wq_p 1 [(11, (bV true))] ?_))
 refine wl_end rfl (seq_n hK5 (cT (wp_seq_k fun K7 hK7 => reg_lit ?_)))
 refine wq_p 1 [(16, (aV ([(lV none 0 0), (bV false), (sV ByteArray.empty), (sV ByteArray.empty), (iV .i64 0), (iV .i64 0), (iV .i64 0), (lV none 0 0), (bV false)]).toArray))] ?_
 refine wq_to none (xSs h6 5 42 (.tmp 4) (.tmp 16) 0 ([(lV none 0 0), (bV false), (sV ByteArray.empty), (sV ByteArray.empty), (iV .i64 0), (iV .i64 0), (iV .i64 0), (lV none 0 0), (bV false)]) ([(lV none 0 0), (bV false), (sV ByteArray.empty), (sV ByteArray.empty), (iV .i64 0), (iV .i64 0), (iV .i64 0), (lV none 0 0), (bV false)])) ?_
 rintro _ w8 h8
 refine wq_p 1 [(5, (iV .i64 21))] ?_
 refine wl_end rfl (seq_n hK7 (wp_ret (blk_r (seq_r ?_))))
 refine post_2 rfl (by kernel_rfl) (rce (h8.at_ 5 rfl)) (rtm (iV .i64 21)) ?_
 have h9 := (show Hp _ _ _ _ (lSes tb sb c1_6 c2_6 A_6 cap_6 xs_6 fb_6 bx_6 ((Ses.mk me peer sid (kl Ko) eo (kl Ki) ei qu sent got fr true)) ++ [rBlk g3 42 ([(lV none 0 0), (bV false), (sV ByteArray.empty), (sV ByteArray.empty), (iV .i64 0), (iV .i64 0), (iV .i64 0), (lV none 0 0), (bV false)]), rBlk g2 38 ([(sV src), (sV dst), (iV .i64 fsid), (iV .i64 fep), (iV .i64 fseq), (lV Ab fbox.length cb)]), rTab F tb s]) from h8.sel [0, 1, 2, 3, 4, 5, 6, 7] [0] rfl rfl rfl).closeS (L := L) hS_6
 exact ⟨_, _, _, _, rfl, ⟨_, rfl, none, 0, _, rfl, hnil, rfl⟩, (LExt.refl (fun q => F q ∨ G q) w L), h9.sel [3, 0] [0] rfl rfl rfl⟩
theorem sTake_src {F G : Nat -> Prop} {tb sb : Nat} {s : STab} {L : List (Value × Bytes)} {S : Ses} {w : World} (hT : (rTab F tb s).Φ w) (hv : (rS G tb sb L S).Φ w) (hL : (rF L).Φ w) (hts : (rTab F tb s).dj (rS G tb sb L S)) (hdt : (rF L).dj (rTab F tb s)) (hd : (rF L).dj (rS G tb sb L S)) (f : Frm) (Ab : Option Addr) (cb : Nat) (hmf : (lV Ab f.box.length cb, f.box) ∈ L) (hnil : (lV none 0 0, ([] : Bytes)) ∈ L) (_hnk : s.keys.length < 800000) (_hnb : s.boxes.length < 800000) (_hbl : ∀ b ∈ s.boxes, b.body.length <= 1000000) (ho : S.over = false) (hw : f.src.toList ≠ S.peer.toList) :
   Calls Try.prog 12 #[pt sb 0, .agg (f.cells (.slice Ab f.box.length cb)).toArray] w (Post2 F G tb sb w L (s) (S) (fun L' u => ∃ cs, u = .tuple #[.agg cs.toArray, .int .i64 17] /\ ComeAt L' none none cs)) := by
 have h00 := twoF hT hv hL hts hdt hd
 obtain ⟨me, peer, sid, ko, eo, ki, ei, qu, sent, got, fr, ov⟩ := S
 obtain ⟨Ko, hKo⟩ := kl_of ko (rS_ko hv)
 obtain ⟨Ki, hKi⟩ := kl_of ki (rS_ki hv)
 subst hKo; subst hKi
 obtain ⟨src, dst, fsid, fep, fseq, fbox⟩ := f
 try simp only at *
 obtain rfl : ov = false := ho
 have h0 := h00
 refine enter 129 Try.func12 rfl rfl ?_
 refine wp_reset 131 [(0, (pt sb 0)), (1, (aV ([(sV src), (sV dst), (iV .i64 fsid), (iV .i64 fep), (iV .i64 fseq), (lV Ab fbox.length cb)]).toArray))] (fun x0 => ?_)
 refine wp_seq_k fun K1 hK1 => reg_lit ?_
 refine wq_to (some 3) (xN h0 38 ([(sV src), (sV dst), (iV .i64 fsid), (iV .i64 fep), (iV .i64 fseq), (lV Ab fbox.length cb)])) ?_
 rintro _ w2 ⟨g2, rfl, h2⟩
 refine wq_to (some 4) (xN h2 42 ([(lV none 0 0), (bV false), (sV ByteArray.empty), (sV ByteArray.empty), (iV .i64 0), (iV .i64 0), (iV .i64 0), (lV none 0 0), (bV false)])) ?_
 rintro _ w3 ⟨g3, rfl, h3⟩
 refine wq_p 1 [(5, (iV .i64 0))] ?_
 refine wl_end rfl (seq_n hK1 (wp_seq_k fun K4 hK4 => wp_block (wp_seq_k fun K5 hK5 => ?_)))
 obtain ⟨c1_6, c2_6, A_6, cap_6, xs_6, fb_6, bx_6, hS_6, hG_6, h6⟩ := h3.openS 3 rfl
 clear hG_6
 refine reg_lit ?_
 refine wq_p 3 [(14, (pt sb 10)), (13, (pt sb 0)), (12, (pt sb 0))] (wq_v (some 15) (bV false) (eL (h6.at_ 0 rfl) 4 (.tmp 14) 10 _) (wq_p 1 [(11, (bV false))] ?_))
 refine wl_end rfl (seq_n hK5 (cF (wp_seq_k fun K7 hK7 => ?_)))
 refine pR_go h6 26 (fun W => (rBlk g2 38 ([(sV src), (sV dst), (iV .i64 fsid), (iV .i64 fep), (iV .i64 fseq), (lV Ab fbox.length cb)])).Φ W /\ (rBlk sb 77 ([(Value.iface 28 (pt tb 0)), (sV me), (sV peer), (iV .i64 sid), (pt c1_6 0), (pt c2_6 0), (lV A_6 qu.length cap_6), (iV .i64 ((sent : Int))), (iV .i64 ((got : Int))), (frV fb_6), (bV false)])).Φ W /\ True) [(19, [3], 0), (20, [18], 1), (21, [0], 0), (22, [20], 4), (23, [21], 8), (24, [22], 16), (25, [19, 23], 34), (26, [24], 64), (27, [3, 25], 128), (28, [26, 25], 384), (29, [0, 25], 128), (30, [28, 25], 1152), (31, [29, 25], 2176), (32, [30, 25], 4224), (33, [27, 31, 25], 8832), (34, [25, 32], 16512), (35, [33], 32896), (36, [3, 34], 65536), (37, [35, 34], 196608), (38, [0, 34], 65536), (39, [37, 34], 589824), (40, [38, 34], 1114112), (41, [39, 34], 2162688), (42, [36, 40, 34], 4521984), (43, [34, 41], 8454144), (18, [42], 16842752)] rfl (fun _ d _ _ _ h => by cases d <;> exact h) ?_
 intro hs8 w8 h8
 refine pR_p 22 [0, 2, 3, 4] [(22, (pt sb 2)), (21, (pt sb 0)), (20, (pt sb 0)), (18, (pt g2 0))] 29 hs8 ⟨h8.at_ 6 rfl, h8.at_ 0 rfl, trivial⟩ ?_
 refine pR_v 1 (some 19) (sV src) 31 rfl hs8 ⟨h8.at_ 6 rfl, h8.at_ 0 rfl, trivial⟩ (fun W hW => eL hW.1 9 (.tmp 18) 0 _) ?_
 refine pR_v 5 (some 23) (sV peer) 63 rfl hs8 ⟨h8.at_ 6 rfl, h8.at_ 0 rfl, trivial⟩ (fun W hW => eL hW.2.1 9 (.tmp 22) 2 _) ?_
 refine pR_v 6 (some 24) (bV true) 127 rfl hs8 ⟨h8.at_ 6 rfl, h8.at_ 0 rfl, trivial⟩ (fun W hW => eqI (bV (!((src).toList == (peer).toList))) (congrArg bV (by simpa using hw))) ?_
 refine pR_p 0 [7, 8, 9, 10, 11, 12, 13, 14, 15, 16, 17, 18, 19, 20, 21, 22, 23, 24, 25] [(17, (bV true)), (42, (bV true)), (41, undef), (40, undef), (39, undef), (38, undef), (37, undef), (36, undef), (35, undef), (34, (bV true)), (33, (bV true)), (32, undef), (31, undef), (30, undef), (29, undef), (28, undef), (27, undef), (26, undef), (25, (bV true))] 67108863 hs8 ⟨h8.at_ 6 rfl, h8.at_ 0 rfl, trivial⟩ ?_
 refine pR_done hs8 ?_ _
 refine seq_n hK7 (cT (wp_seq_k fun K9 hK9 => reg_lit ?_))
 refine wq_p 1 [(43, (aV ([(lV none 0 0), (bV false), (sV ByteArray.empty), (sV ByteArray.empty), (iV .i64 0), (iV .i64 0), (iV .i64 0), (lV none 0 0), (bV false)]).toArray))] ?_
 refine wq_to none (xSs h8 5 42 (.tmp 4) (.tmp 43) 0 ([(lV none 0 0), (bV false), (sV ByteArray.empty), (sV ByteArray.empty), (iV .i64 0), (iV .i64 0), (iV .i64 0), (lV none 0 0), (bV false)]) ([(lV none 0 0), (bV false), (sV ByteArray.empty), (sV ByteArray.empty), (iV .i64 0), (iV .i64 0), (iV .i64 0), (lV none 0 0), (bV false)])) ?_
 rintro _ w10 h10
 refine wq_p 1 [(5, (iV .i64 17))] ?_
 refine wl_end rfl (seq_n hK9 (wp_ret (blk_r (seq_r ?_))))
 refine post_2 rfl (by kernel_rfl) (rce (h10.at_ 5 rfl)) (rtm (iV .i64 17)) ?_
 have h11 := (show Hp _ _ _ _ (lSes tb sb c1_6 c2_6 A_6 cap_6 xs_6 fb_6 bx_6 ((Ses.mk me peer sid (kl Ko) eo (kl Ki) ei qu sent got fr false)) ++ [rBlk g3 42 ([(lV none 0 0), (bV false), (sV ByteArray.empty), (sV ByteArray.empty), (iV .i64 0), (iV .i64 0), (iV .i64 0), (lV none 0 0), (bV false)]), rBlk g2 38 ([(sV src), (sV dst), (iV .i64 fsid), (iV .i64 fep), (iV .i64 fseq), (lV Ab fbox.length cb)]), rTab F tb s]) from h10.sel [0, 1, 2, 3, 4, 5, 6, 7] [0] rfl rfl rfl).closeS (L := L) hS_6
 exact ⟨_, _, _, _, rfl, ⟨_, rfl, none, 0, _, rfl, hnil, rfl⟩, (LExt.refl (fun q => F q ∨ G q) w L), h11.sel [3, 0] [0] rfl rfl rfl⟩
theorem sTake_dst {F G : Nat -> Prop} {tb sb : Nat} {s : STab} {L : List (Value × Bytes)} {S : Ses} {w : World} (hT : (rTab F tb s).Φ w) (hv : (rS G tb sb L S).Φ w) (hL : (rF L).Φ w) (hts : (rTab F tb s).dj (rS G tb sb L S)) (hdt : (rF L).dj (rTab F tb s)) (hd : (rF L).dj (rS G tb sb L S)) (f : Frm) (Ab : Option Addr) (cb : Nat) (hmf : (lV Ab f.box.length cb, f.box) ∈ L) (hnil : (lV none 0 0, ([] : Bytes)) ∈ L) (_hnk : s.keys.length < 800000) (_hnb : s.boxes.length < 800000) (_hbl : ∀ b ∈ s.boxes, b.body.length <= 1000000) (ho : S.over = false) (h1 : f.src = S.peer) (hw : f.dst.toList ≠ S.me.toList) :
   Calls Try.prog 12 #[pt sb 0, .agg (f.cells (.slice Ab f.box.length cb)).toArray] w (Post2 F G tb sb w L (s) (S) (fun L' u => ∃ cs, u = .tuple #[.agg cs.toArray, .int .i64 17] /\ ComeAt L' none none cs)) := by
 have h00 := twoF hT hv hL hts hdt hd
 obtain ⟨me, peer, sid, ko, eo, ki, ei, qu, sent, got, fr, ov⟩ := S
 obtain ⟨Ko, hKo⟩ := kl_of ko (rS_ko hv)
 obtain ⟨Ki, hKi⟩ := kl_of ki (rS_ki hv)
 subst hKo; subst hKi
 obtain ⟨src, dst, fsid, fep, fseq, fbox⟩ := f
 try simp only at *
 obtain rfl : ov = false := ho
 obtain rfl : peer = src := h1.symm
 have h0 := h00
 refine enter 129 Try.func12 rfl rfl ?_
 refine wp_reset 131 [(0, (pt sb 0)), (1, (aV ([(sV peer), (sV dst), (iV .i64 fsid), (iV .i64 fep), (iV .i64 fseq), (lV Ab fbox.length cb)]).toArray))] (fun x0 => ?_)
 refine wp_seq_k fun K1 hK1 => reg_lit ?_
 refine wq_to (some 3) (xN h0 38 ([(sV peer), (sV dst), (iV .i64 fsid), (iV .i64 fep), (iV .i64 fseq), (lV Ab fbox.length cb)])) ?_
 rintro _ w2 ⟨g2, rfl, h2⟩
 refine wq_to (some 4) (xN h2 42 ([(lV none 0 0), (bV false), (sV ByteArray.empty), (sV ByteArray.empty), (iV .i64 0), (iV .i64 0), (iV .i64 0), (lV none 0 0), (bV false)])) ?_
 rintro _ w3 ⟨g3, rfl, h3⟩
 refine wq_p 1 [(5, (iV .i64 0))] ?_
 refine wl_end rfl (seq_n hK1 (wp_seq_k fun K4 hK4 => wp_block (wp_seq_k fun K5 hK5 => ?_)))
 obtain ⟨c1_6, c2_6, A_6, cap_6, xs_6, fb_6, bx_6, hS_6, hG_6, h6⟩ := h3.openS 3 rfl
 clear hG_6
 refine reg_lit ?_
 refine wq_p 3 [(14, (pt sb 10)), (13, (pt sb 0)), (12, (pt sb 0))] (wq_v (some 15) (bV false) (eL (h6.at_ 0 rfl) 4 (.tmp 14) 10 _) (wq_p 1 [(11, (bV false))] ?_))
 refine wl_end rfl (seq_n hK5 (cF (wp_seq_k fun K7 hK7 => ?_)))
 refine pR_go h6 26 (fun W => (rBlk g2 38 ([(sV peer), (sV dst), (iV .i64 fsid), (iV .i64 fep), (iV .i64 fseq), (lV Ab fbox.length cb)])).Φ W /\ (rBlk sb 77 ([(Value.iface 28 (pt tb 0)), (sV me), (sV peer), (iV .i64 sid), (pt c1_6 0), (pt c2_6 0), (lV A_6 qu.length cap_6), (iV .i64 ((sent : Int))), (iV .i64 ((got : Int))), (frV fb_6), (bV false)])).Φ W /\ True) [(19, [3], 0), (20, [18], 1), (21, [0], 0), (22, [20], 4), (23, [21], 8), (24, [22], 16), (25, [19, 23], 34), (26, [24], 64), (27, [3, 25], 128), (28, [26, 25], 384), (29, [0, 25], 128), (30, [28, 25], 1152), (31, [29, 25], 2176), (32, [30, 25], 4224), (33, [27, 31, 25], 8832), (34, [25, 32], 16512), (35, [33], 32896), (36, [3, 34], 65536), (37, [35, 34], 196608), (38, [0, 34], 65536), (39, [37, 34], 589824), (40, [38, 34], 1114112), (41, [39, 34], 2162688), (42, [36, 40, 34], 4521984), (43, [34, 41], 8454144), (18, [42], 16842752)] rfl (fun _ d _ _ _ h => by cases d <;> exact h) ?_
 intro hs8 w8 h8
 refine pR_p 22 [0, 2, 3, 4] [(22, (pt sb 2)), (21, (pt sb 0)), (20, (pt sb 0)), (18, (pt g2 0))] 29 hs8 ⟨h8.at_ 6 rfl, h8.at_ 0 rfl, trivial⟩ ?_
 refine pR_v 1 (some 19) (sV peer) 31 rfl hs8 ⟨h8.at_ 6 rfl, h8.at_ 0 rfl, trivial⟩ (fun W hW => eL hW.1 9 (.tmp 18) 0 _) ?_
 refine pR_v 5 (some 23) (sV peer) 63 rfl hs8 ⟨h8.at_ 6 rfl, h8.at_ 0 rfl, trivial⟩ (fun W hW => eL hW.2.1 9 (.tmp 22) 2 _) ?_
 refine pR_v 6 (some 24) (bV false) 127 rfl hs8 ⟨h8.at_ 6 rfl, h8.at_ 0 rfl, trivial⟩ (fun W hW => eqI (bV (!((peer).toList == (peer).toList))) (by simp)) ?_
 refine pR_p 14 [7, 8, 10, 11, 12] [(30, (pt sb 1)), (29, (pt sb 0)), (28, (pt sb 0)), (26, (pt g2 1)), (25, (bV false))] 7679 hs8 ⟨h8.at_ 6 rfl, h8.at_ 0 rfl, trivial⟩ ?_
 refine pR_v 9 (some 27) (sV dst) 8191 rfl hs8 ⟨h8.at_ 6 rfl, h8.at_ 0 rfl, trivial⟩ (fun W hW => eL hW.1 9 (.tmp 26) 1 _) ?_
 refine pR_v 13 (some 31) (sV me) 16383 rfl hs8 ⟨h8.at_ 6 rfl, h8.at_ 0 rfl, trivial⟩ (fun W hW => eL hW.2.1 9 (.tmp 30) 1 _) ?_
 refine pR_v 14 (some 32) (bV true) 32767 rfl hs8 ⟨h8.at_ 6 rfl, h8.at_ 0 rfl, trivial⟩ (fun W hW => eqI (bV (!((dst).toList == (me).toList))) (congrArg bV (by simpa using hw))) ?_
 refine pR_p 0 [15, 16, 17, 18, 19, 20, 21, 22, 23, 24, 25] [(17, (bV true)), (42, (bV true)), (41, undef), (40, undef), (39, undef), (38, undef), (37, undef), (36, undef), (35, undef), (34, (bV true)), (33, (bV true))] 67108863 hs8 ⟨h8.at_ 6 rfl, h8.at_ 0 rfl, trivial⟩ ?_
 refine pR_done hs8 ?_ _
 refine seq_n hK7 (cT (wp_seq_k fun K9 hK9 => reg_lit ?_))
 refine wq_p 1 [(43, (aV ([(lV none 0 0), (bV false), (sV ByteArray.empty), (sV ByteArray.empty), (iV .i64 0), (iV .i64 0), (iV .i64 0), (lV none 0 0), (bV false)]).toArray))] ?_
 refine wq_to none (xSs h8 5 42 (.tmp 4) (.tmp 43) 0 ([(lV none 0 0), (bV false), (sV ByteArray.empty), (sV ByteArray.empty), (iV .i64 0), (iV .i64 0), (iV .i64 0), (lV none 0 0), (bV false)]) ([(lV none 0 0), (bV false), (sV ByteArray.empty), (sV ByteArray.empty), (iV .i64 0), (iV .i64 0), (iV .i64 0), (lV none 0 0), (bV false)])) ?_
 rintro _ w10 h10
 refine wq_p 1 [(5, (iV .i64 17))] ?_
 refine wl_end rfl (seq_n hK9 (wp_ret (blk_r (seq_r ?_))))
 refine post_2 rfl (by kernel_rfl) (rce (h10.at_ 5 rfl)) (rtm (iV .i64 17)) ?_
 have h11 := (show Hp _ _ _ _ (lSes tb sb c1_6 c2_6 A_6 cap_6 xs_6 fb_6 bx_6 ((Ses.mk me peer sid (kl Ko) eo (kl Ki) ei qu sent got fr false)) ++ [rBlk g3 42 ([(lV none 0 0), (bV false), (sV ByteArray.empty), (sV ByteArray.empty), (iV .i64 0), (iV .i64 0), (iV .i64 0), (lV none 0 0), (bV false)]), rBlk g2 38 ([(sV peer), (sV dst), (iV .i64 fsid), (iV .i64 fep), (iV .i64 fseq), (lV Ab fbox.length cb)]), rTab F tb s]) from h10.sel [0, 1, 2, 3, 4, 5, 6, 7] [0] rfl rfl rfl).closeS (L := L) hS_6
 exact ⟨_, _, _, _, rfl, ⟨_, rfl, none, 0, _, rfl, hnil, rfl⟩, (LExt.refl (fun q => F q ∨ G q) w L), h11.sel [3, 0] [0] rfl rfl rfl⟩
theorem sTake_sid {F G : Nat -> Prop} {tb sb : Nat} {s : STab} {L : List (Value × Bytes)} {S : Ses} {w : World} (hT : (rTab F tb s).Φ w) (hv : (rS G tb sb L S).Φ w) (hL : (rF L).Φ w) (hts : (rTab F tb s).dj (rS G tb sb L S)) (hdt : (rF L).dj (rTab F tb s)) (hd : (rF L).dj (rS G tb sb L S)) (f : Frm) (Ab : Option Addr) (cb : Nat) (hmf : (lV Ab f.box.length cb, f.box) ∈ L) (hnil : (lV none 0 0, ([] : Bytes)) ∈ L) (_hnk : s.keys.length < 800000) (_hnb : s.boxes.length < 800000) (_hbl : ∀ b ∈ s.boxes, b.body.length <= 1000000) (ho : S.over = false) (h1 : f.src = S.peer) (h2 : f.dst = S.me) (hw : f.sid ≠ S.sid) :
   Calls Try.prog 12 #[pt sb 0, .agg (f.cells (.slice Ab f.box.length cb)).toArray] w (Post2 F G tb sb w L (s) (S) (fun L' u => ∃ cs, u = .tuple #[.agg cs.toArray, .int .i64 17] /\ ComeAt L' none none cs)) := by
 have h00 := twoF hT hv hL hts hdt hd
 obtain ⟨me, peer, sid, ko, eo, ki, ei, qu, sent, got, fr, ov⟩ := S
 obtain ⟨Ko, hKo⟩ := kl_of ko (rS_ko hv)
 obtain ⟨Ki, hKi⟩ := kl_of ki (rS_ki hv)
 subst hKo; subst hKi
 obtain ⟨src, dst, fsid, fep, fseq, fbox⟩ := f
 try simp only at *
 obtain rfl : ov = false := ho
 obtain rfl : peer = src := h1.symm
 obtain rfl : me = dst := h2.symm
 have h0 := h00
 refine enter 129 Try.func12 rfl rfl ?_
 refine wp_reset 131 [(0, (pt sb 0)), (1, (aV ([(sV peer), (sV me), (iV .i64 fsid), (iV .i64 fep), (iV .i64 fseq), (lV Ab fbox.length cb)]).toArray))] (fun x0 => ?_)
 refine wp_seq_k fun K1 hK1 => reg_lit ?_
 refine wq_to (some 3) (xN h0 38 ([(sV peer), (sV me), (iV .i64 fsid), (iV .i64 fep), (iV .i64 fseq), (lV Ab fbox.length cb)])) ?_
 rintro _ w2 ⟨g2, rfl, h2⟩
 refine wq_to (some 4) (xN h2 42 ([(lV none 0 0), (bV false), (sV ByteArray.empty), (sV ByteArray.empty), (iV .i64 0), (iV .i64 0), (iV .i64 0), (lV none 0 0), (bV false)])) ?_
 rintro _ w3 ⟨g3, rfl, h3⟩
 refine wq_p 1 [(5, (iV .i64 0))] ?_
 refine wl_end rfl (seq_n hK1 (wp_seq_k fun K4 hK4 => wp_block (wp_seq_k fun K5 hK5 => ?_)))
 obtain ⟨c1_6, c2_6, A_6, cap_6, xs_6, fb_6, bx_6, hS_6, hG_6, h6⟩ := h3.openS 3 rfl
 clear hG_6
 refine reg_lit ?_
 refine wq_p 3 [(14, (pt sb 10)), (13, (pt sb 0)), (12, (pt sb 0))] (wq_v (some 15) (bV false) (eL (h6.at_ 0 rfl) 4 (.tmp 14) 10 _) (wq_p 1 [(11, (bV false))] ?_))
 refine wl_end rfl (seq_n hK5 (cF (wp_seq_k fun K7 hK7 => ?_)))
 refine pR_go h6 26 (fun W => (rBlk g2 38 ([(sV peer), (sV me), (iV .i64 fsid), (iV .i64 fep), (iV .i64 fseq), (lV Ab fbox.length cb)])).Φ W /\ (rBlk sb 77 ([(Value.iface 28 (pt tb 0)), (sV me), (sV peer), (iV .i64 sid), (pt c1_6 0), (pt c2_6 0), (lV A_6 qu.length cap_6), (iV .i64 ((sent : Int))), (iV .i64 ((got : Int))), (frV fb_6), (bV false)])).Φ W /\ True) [(19, [3], 0), (20, [18], 1), (21, [0], 0), (22, [20], 4), (23, [21], 8), (24, [22], 16), (25, [19, 23], 34), (26, [24], 64), (27, [3, 25], 128), (28, [26, 25], 384), (29, [0, 25], 128), (30, [28, 25], 1152), (31, [29, 25], 2176), (32, [30, 25], 4224), (33, [27, 31, 25], 8832), (34, [25, 32], 16512), (35, [33], 32896), (36, [3, 34], 65536), (37, [35, 34], 196608), (38, [0, 34], 65536), (39, [37, 34], 589824), (40, [38, 34], 1114112), (41, [39, 34], 2162688), (42, [36, 40, 34], 4521984), (43, [34, 41], 8454144), (18, [42], 16842752)] rfl (fun _ d _ _ _ h => by cases d <;> exact h) ?_
 intro hs8 w8 h8
 refine pR_p 22 [0, 2, 3, 4] [(22, (pt sb 2)), (21, (pt sb 0)), (20, (pt sb 0)), (18, (pt g2 0))] 29 hs8 ⟨h8.at_ 6 rfl, h8.at_ 0 rfl, trivial⟩ ?_
 refine pR_v 1 (some 19) (sV peer) 31 rfl hs8 ⟨h8.at_ 6 rfl, h8.at_ 0 rfl, trivial⟩ (fun W hW => eL hW.1 9 (.tmp 18) 0 _) ?_
 refine pR_v 5 (some 23) (sV peer) 63 rfl hs8 ⟨h8.at_ 6 rfl, h8.at_ 0 rfl, trivial⟩ (fun W hW => eL hW.2.1 9 (.tmp 22) 2 _) ?_
 refine pR_v 6 (some 24) (bV false) 127 rfl hs8 ⟨h8.at_ 6 rfl, h8.at_ 0 rfl, trivial⟩ (fun W hW => eqI (bV (!((peer).toList == (peer).toList))) (by simp)) ?_
 refine pR_p 14 [7, 8, 10, 11, 12] [(30, (pt sb 1)), (29, (pt sb 0)), (28, (pt sb 0)), (26, (pt g2 1)), (25, (bV false))] 7679 hs8 ⟨h8.at_ 6 rfl, h8.at_ 0 rfl, trivial⟩ ?_
 refine pR_v 9 (some 27) (sV me) 8191 rfl hs8 ⟨h8.at_ 6 rfl, h8.at_ 0 rfl, trivial⟩ (fun W hW => eL hW.1 9 (.tmp 26) 1 _) ?_
 refine pR_v 13 (some 31) (sV me) 16383 rfl hs8 ⟨h8.at_ 6 rfl, h8.at_ 0 rfl, trivial⟩ (fun W hW => eL hW.2.1 9 (.tmp 30) 1 _) ?_
 refine pR_v 14 (some 32) (bV false) 32767 rfl hs8 ⟨h8.at_ 6 rfl, h8.at_ 0 rfl, trivial⟩ (fun W hW => eqI (bV (!((me).toList == (me).toList))) (by simp)) ?_
 refine pR_p 5 [15, 16, 17, 19, 20, 21] [(39, (pt sb 3)), (38, (pt sb 0)), (37, (pt sb 0)), (35, (pt g2 2)), (34, (bV false)), (33, (bV false))] 3932159 hs8 ⟨h8.at_ 6 rfl, h8.at_ 0 rfl, trivial⟩ ?_
 refine pR_v 18 (some 36) (iV .i64 fsid) 4194303 rfl hs8 ⟨h8.at_ 6 rfl, h8.at_ 0 rfl, trivial⟩ (fun W hW => eL hW.1 2 (.tmp 35) 2 _) ?_
 refine pR_v 22 (some 40) (iV .i64 sid) 8388607 rfl hs8 ⟨h8.at_ 6 rfl, h8.at_ 0 rfl, trivial⟩ (fun W hW => eL hW.2.1 2 (.tmp 39) 3 _) ?_
 refine pR_v 23 (some 41) (bV true) 16777215 rfl hs8 ⟨h8.at_ 6 rfl, h8.at_ 0 rfl, trivial⟩ (fun W hW => eqI (bV (fsid != sid)) (congrArg bV (by simpa using hw))) ?_
 refine pR_p 0 [24, 25] [(17, (bV true)), (42, (bV true))] 67108863 hs8 ⟨h8.at_ 6 rfl, h8.at_ 0 rfl, trivial⟩ ?_
 refine pR_done hs8 ?_ _
 refine seq_n hK7 (cT (wp_seq_k fun K9 hK9 => reg_lit ?_))
 refine wq_p 1 [(43, (aV ([(lV none 0 0), (bV false), (sV ByteArray.empty), (sV ByteArray.empty), (iV .i64 0), (iV .i64 0), (iV .i64 0), (lV none 0 0), (bV false)]).toArray))] ?_
 refine wq_to none (xSs h8 5 42 (.tmp 4) (.tmp 43) 0 ([(lV none 0 0), (bV false), (sV ByteArray.empty), (sV ByteArray.empty), (iV .i64 0), (iV .i64 0), (iV .i64 0), (lV none 0 0), (bV false)]) ([(lV none 0 0), (bV false), (sV ByteArray.empty), (sV ByteArray.empty), (iV .i64 0), (iV .i64 0), (iV .i64 0), (lV none 0 0), (bV false)])) ?_
 rintro _ w10 h10
 refine wq_p 1 [(5, (iV .i64 17))] ?_
 refine wl_end rfl (seq_n hK9 (wp_ret (blk_r (seq_r ?_))))
 refine post_2 rfl (by kernel_rfl) (rce (h10.at_ 5 rfl)) (rtm (iV .i64 17)) ?_
 have h11 := (show Hp _ _ _ _ (lSes tb sb c1_6 c2_6 A_6 cap_6 xs_6 fb_6 bx_6 ((Ses.mk me peer sid (kl Ko) eo (kl Ki) ei qu sent got fr false)) ++ [rBlk g3 42 ([(lV none 0 0), (bV false), (sV ByteArray.empty), (sV ByteArray.empty), (iV .i64 0), (iV .i64 0), (iV .i64 0), (lV none 0 0), (bV false)]), rBlk g2 38 ([(sV peer), (sV me), (iV .i64 fsid), (iV .i64 fep), (iV .i64 fseq), (lV Ab fbox.length cb)]), rTab F tb s]) from h10.sel [0, 1, 2, 3, 4, 5, 6, 7] [0] rfl rfl rfl).closeS (L := L) hS_6
 exact ⟨_, _, _, _, rfl, ⟨_, rfl, none, 0, _, rfl, hnil, rfl⟩, (LExt.refl (fun q => F q ∨ G q) w L), h11.sel [3, 0] [0] rfl rfl rfl⟩
theorem sTake_old {F G : Nat -> Prop} {tb sb : Nat} {s : STab} {L : List (Value × Bytes)} {S : Ses} {w : World} (hT : (rTab F tb s).Φ w) (hv : (rS G tb sb L S).Φ w) (hL : (rF L).Φ w) (hts : (rTab F tb s).dj (rS G tb sb L S)) (hdt : (rF L).dj (rTab F tb s)) (hd : (rF L).dj (rS G tb sb L S)) (f : Frm) (Ab : Option Addr) (cb : Nat) (hmf : (lV Ab f.box.length cb, f.box) ∈ L) (hnil : (lV none 0 0, ([] : Bytes)) ∈ L) (hnk : s.keys.length < 800000) (hnb : s.boxes.length < 800000) (_hbl : ∀ b ∈ s.boxes, b.body.length <= 1000000) (ho : S.over = false) (h1 : f.src = S.peer) (h2 : f.dst = S.me) (h3 : f.sid = S.sid) (hlt : f.epoch < (S.ei : Int)) (hle : f.seq <= (S.got : Int)) (hgot : S.got < 1000000) :
   Calls Try.prog 12 #[pt sb 0, .agg (f.cells (.slice Ab f.box.length cb)).toArray] w (Post2 F G tb sb w L (sealT s S 2 S.got []) (S) (fun L' u => ∃ cs, u = .tuple #[.agg cs.toArray, .int .i64 18] /\ ComeAt L' none (some (sealF s S S.got)) cs)) := by
 have h00 := twoF hT hv hL hts hdt hd
 obtain ⟨me, peer, sid, ko, eo, ki, ei, qu, sent, got, fr, ov⟩ := S
 obtain ⟨Ko, hKo⟩ := kl_of ko (rS_ko hv)
 obtain ⟨Ki, hKi⟩ := kl_of ki (rS_ki hv)
 subst hKo; subst hKi
 obtain ⟨src, dst, fsid, fep, fseq, fbox⟩ := f
 try simp only at *
 obtain rfl : ov = false := ho
 obtain rfl : peer = src := h1.symm
 obtain rfl : me = dst := h2.symm
 obtain rfl : sid = fsid := h3.symm
 have h0 := h00
 refine enter 129 Try.func12 rfl rfl ?_
 refine wp_reset 131 [(0, (pt sb 0)), (1, (aV ([(sV peer), (sV me), (iV .i64 sid), (iV .i64 fep), (iV .i64 fseq), (lV Ab fbox.length cb)]).toArray))] (fun x0 => ?_)
 refine wp_seq_k fun K1 hK1 => reg_lit ?_
 refine wq_to (some 3) (xN h0 38 ([(sV peer), (sV me), (iV .i64 sid), (iV .i64 fep), (iV .i64 fseq), (lV Ab fbox.length cb)])) ?_
 rintro _ w2 ⟨g2, rfl, h2⟩
 refine wq_to (some 4) (xN h2 42 ([(lV none 0 0), (bV false), (sV ByteArray.empty), (sV ByteArray.empty), (iV .i64 0), (iV .i64 0), (iV .i64 0), (lV none 0 0), (bV false)])) ?_
 rintro _ w3 ⟨g3, rfl, h3⟩
 refine wq_p 1 [(5, (iV .i64 0))] ?_
 refine wl_end rfl (seq_n hK1 (wp_seq_k fun K4 hK4 => wp_block (wp_seq_k fun K5 hK5 => ?_)))
 obtain ⟨c1_6, c2_6, A_6, cap_6, xs_6, fb_6, bx_6, hS_6, hG_6, h6⟩ := h3.openS 3 rfl
 clear hG_6
 refine reg_lit ?_
 refine wq_p 3 [(14, (pt sb 10)), (13, (pt sb 0)), (12, (pt sb 0))] (wq_v (some 15) (bV false) (eL (h6.at_ 0 rfl) 4 (.tmp 14) 10 _) (wq_p 1 [(11, (bV false))] ?_))
 refine wl_end rfl (seq_n hK5 (cF (wp_seq_k fun K7 hK7 => ?_)))
 refine pR_go h6 26 (fun W => (rBlk g2 38 ([(sV peer), (sV me), (iV .i64 sid), (iV .i64 fep), (iV .i64 fseq), (lV Ab fbox.length cb)])).Φ W /\ (rBlk sb 77 ([(Value.iface 28 (pt tb 0)), (sV me), (sV peer), (iV .i64 sid), (pt c1_6 0), (pt c2_6 0), (lV A_6 qu.length cap_6), (iV .i64 ((sent : Int))), (iV .i64 ((got : Int))), (frV fb_6), (bV false)])).Φ W /\ True) [(19, [3], 0), (20, [18], 1), (21, [0], 0), (22, [20], 4), (23, [21], 8), (24, [22], 16), (25, [19, 23], 34), (26, [24], 64), (27, [3, 25], 128), (28, [26, 25], 384), (29, [0, 25], 128), (30, [28, 25], 1152), (31, [29, 25], 2176), (32, [30, 25], 4224), (33, [27, 31, 25], 8832), (34, [25, 32], 16512), (35, [33], 32896), (36, [3, 34], 65536), (37, [35, 34], 196608), (38, [0, 34], 65536), (39, [37, 34], 589824), (40, [38, 34], 1114112), (41, [39, 34], 2162688), (42, [36, 40, 34], 4521984), (43, [34, 41], 8454144), (18, [42], 16842752)] rfl (fun _ d _ _ _ h => by cases d <;> exact h) ?_
 intro hs8 w8 h8
 refine pR_p 22 [0, 2, 3, 4] [(22, (pt sb 2)), (21, (pt sb 0)), (20, (pt sb 0)), (18, (pt g2 0))] 29 hs8 ⟨h8.at_ 6 rfl, h8.at_ 0 rfl, trivial⟩ ?_
 refine pR_v 1 (some 19) (sV peer) 31 rfl hs8 ⟨h8.at_ 6 rfl, h8.at_ 0 rfl, trivial⟩ (fun W hW => eL hW.1 9 (.tmp 18) 0 _) ?_
 refine pR_v 5 (some 23) (sV peer) 63 rfl hs8 ⟨h8.at_ 6 rfl, h8.at_ 0 rfl, trivial⟩ (fun W hW => eL hW.2.1 9 (.tmp 22) 2 _) ?_
 refine pR_v 6 (some 24) (bV false) 127 rfl hs8 ⟨h8.at_ 6 rfl, h8.at_ 0 rfl, trivial⟩ (fun W hW => eqI (bV (!((peer).toList == (peer).toList))) (by simp)) ?_
 refine pR_p 14 [7, 8, 10, 11, 12] [(30, (pt sb 1)), (29, (pt sb 0)), (28, (pt sb 0)), (26, (pt g2 1)), (25, (bV false))] 7679 hs8 ⟨h8.at_ 6 rfl, h8.at_ 0 rfl, trivial⟩ ?_
 refine pR_v 9 (some 27) (sV me) 8191 rfl hs8 ⟨h8.at_ 6 rfl, h8.at_ 0 rfl, trivial⟩ (fun W hW => eL hW.1 9 (.tmp 26) 1 _) ?_
 refine pR_v 13 (some 31) (sV me) 16383 rfl hs8 ⟨h8.at_ 6 rfl, h8.at_ 0 rfl, trivial⟩ (fun W hW => eL hW.2.1 9 (.tmp 30) 1 _) ?_
 refine pR_v 14 (some 32) (bV false) 32767 rfl hs8 ⟨h8.at_ 6 rfl, h8.at_ 0 rfl, trivial⟩ (fun W hW => eqI (bV (!((me).toList == (me).toList))) (by simp)) ?_
 refine pR_p 5 [15, 16, 17, 19, 20, 21] [(39, (pt sb 3)), (38, (pt sb 0)), (37, (pt sb 0)), (35, (pt g2 2)), (34, (bV false)), (33, (bV false))] 3932159 hs8 ⟨h8.at_ 6 rfl, h8.at_ 0 rfl, trivial⟩ ?_
 refine pR_v 18 (some 36) (iV .i64 sid) 4194303 rfl hs8 ⟨h8.at_ 6 rfl, h8.at_ 0 rfl, trivial⟩ (fun W hW => eL hW.1 2 (.tmp 35) 2 _) ?_
 refine pR_v 22 (some 40) (iV .i64 sid) 8388607 rfl hs8 ⟨h8.at_ 6 rfl, h8.at_ 0 rfl, trivial⟩ (fun W hW => eL hW.2.1 2 (.tmp 39) 3 _) ?_
 refine pR_v 23 (some 41) (bV false) 16777215 rfl hs8 ⟨h8.at_ 6 rfl, h8.at_ 0 rfl, trivial⟩ (fun W hW => eqI (bV (sid != sid)) (by simp)) ?_
 refine pR_p 0 [24, 25] [(17, (bV false)), (42, (bV false))] 67108863 hs8 ⟨h8.at_ 6 rfl, h8.at_ 0 rfl, trivial⟩ ?_
 refine pR_done hs8 ?_ _
 refine seq_n hK7 (cF (wp_seq_k fun K9 hK9 => ?_))
 refine pR_go h8 18 (fun W => (rBlk g2 38 ([(sV peer), (sV me), (iV .i64 sid), (iV .i64 fep), (iV .i64 fseq), (lV Ab fbox.length cb)])).Φ W /\ (rBlk sb 77 ([(Value.iface 28 (pt tb 0)), (sV me), (sV peer), (iV .i64 sid), (pt c1_6 0), (pt c2_6 0), (lV A_6 qu.length cap_6), (iV .i64 ((sent : Int))), (iV .i64 ((got : Int))), (frV fb_6), (bV false)])).Φ W /\ True) [(46, [3], 0), (47, [45], 1), (48, [0], 0), (49, [47], 4), (50, [48], 8), (51, [49], 16), (52, [50], 32), (53, [46, 51], 66), (54, [52], 192), (55, [3, 53], 256), (56, [54, 53], 768), (57, [0, 53], 256), (58, [56, 53], 2304), (59, [57, 53], 4352), (60, [58, 53], 8448), (61, [55, 59, 53], 17664), (62, [53, 60], 33024), (45, [61], 65792)] rfl (fun _ d _ _ _ h => by cases d <;> exact h) ?_
 intro hs10 w10 h10
 refine pR_p 14 [0, 2, 3, 4] [(49, (pt sb 5)), (48, (pt sb 0)), (47, (pt sb 0)), (45, (pt g2 3))] 29 hs10 ⟨h10.at_ 6 rfl, h10.at_ 0 rfl, trivial⟩ ?_
 refine pR_v 1 (some 46) (iV .i64 fep) 31 rfl hs10 ⟨h10.at_ 6 rfl, h10.at_ 0 rfl, trivial⟩ (fun W hW => eL hW.1 2 (.tmp 45) 3 _) ?_
 refine pR_v 5 (some 50) (pt c2_6 0) 63 rfl hs10 ⟨h10.at_ 6 rfl, h10.at_ 0 rfl, trivial⟩ (fun W hW => eL hW.2.1 73 (.tmp 49) 5 _) ?_
 refine pR_to 6 (some 51) 127 rfl hs10 (x_repoch h10 2 rfl (by kernel_rfl)) ?_
 rintro _ w11 ⟨rfl, h11⟩
 refine ⟨fun _ => ⟨h11.at_ 6 rfl, h11.at_ 0 rfl, trivial⟩, ?_⟩
 refine pR_v 7 (some 52) (bV true) 255 rfl hs10 ⟨h11.at_ 6 rfl, h11.at_ 0 rfl, trivial⟩ (fun W hW => eqI (bV (decide (fep < (ei : Int)))) (congrArg bV (by simpa using hlt))) ?_
 refine pR_p 5 [8, 9, 11, 12, 13] [(58, (pt sb 8)), (57, (pt sb 0)), (56, (pt sb 0)), (54, (pt g2 4)), (53, (bV true))] 15359 hs10 ⟨h11.at_ 6 rfl, h11.at_ 0 rfl, trivial⟩ ?_
 refine pR_v 10 (some 55) (iV .i64 fseq) 16383 rfl hs10 ⟨h11.at_ 6 rfl, h11.at_ 0 rfl, trivial⟩ (fun W hW => eL hW.1 2 (.tmp 54) 4 _) ?_
 refine pR_v 14 (some 59) (iV .i64 ((got : Int))) 32767 rfl hs10 ⟨h11.at_ 6 rfl, h11.at_ 0 rfl, trivial⟩ (fun W hW => eL hW.2.1 2 (.tmp 58) 8 _) ?_
 refine pR_v 15 (some 60) (bV true) 65535 rfl hs10 ⟨h11.at_ 6 rfl, h11.at_ 0 rfl, trivial⟩ (fun W hW => eqI (bV (decide (fseq <= (got : Int)))) (congrArg bV (by simpa using hle))) ?_
 refine pR_p 0 [16, 17] [(44, (bV true)), (61, (bV true))] 262143 hs10 ⟨h11.at_ 6 rfl, h11.at_ 0 rfl, trivial⟩ ?_
 refine pR_done hs10 ?_ _
 refine seq_n hK9 (cT (wp_seq_k fun K12 hK12 => ?_))
 refine wp_reset 131 [(0, (pt sb 0)), (1, (aV ([(sV peer), (sV me), (iV .i64 sid), (iV .i64 fep), (iV .i64 fseq), (lV Ab fbox.length cb)]).toArray)), (3, (pt g2 0)), (4, (pt g3 0)), (5, (iV .i64 0)), (11, (bV false)), (17, (bV false)), (44, (bV true))] (fun x13 => ?_)
 refine reg_lit ?_
 refine wq_p 1 [(62, (pt sb 0))] ?_
 have h14 := (show Hp _ _ _ _ (lSes tb sb c1_6 c2_6 A_6 cap_6 xs_6 fb_6 bx_6 ((Ses.mk me peer sid (kl Ko) eo (kl Ki) ei qu sent got fr false)) ++ [rBlk g3 42 ([(lV none 0 0), (bV false), (sV ByteArray.empty), (sV ByteArray.empty), (iV .i64 0), (iV .i64 0), (iV .i64 0), (lV none 0 0), (bV false)]), rBlk g2 38 ([(sV peer), (sV me), (iV .i64 sid), (iV .i64 fep), (iV .i64 fseq), (lV Ab fbox.length cb)]), rTab F tb s]) from h11.sel [0, 1, 2, 3, 4, 5, 6, 7] [0] rfl rfl rfl).closeS (L := L) hS_6
 refine wq_to (some 63) (x_two h14 3 0 rfl rfl rfl 0 rfl 32 [(pt sb 0)] (by kernel_rfl) (sanswer_any (h14.at_ 3 rfl) (h14.at_ 0 rfl) (h14.rd 0 rfl) (h14.dis 3 0 _ _ rfl rfl (by decide)) (h14.rdis 0 3 _ _ rfl rfl) (h14.rdis 0 0 _ _ rfl rfl) hnil hgot rfl (by omega) (by omega))) ?_
 rintro _ w15 ⟨F15, G15, L15, ⟨_, rfl, A15, c15, rfl, hm15⟩, hs15, hx15, h15⟩
 refine wq_to none (xSs h15 1 42 (.tmp 4) (.tmp 63) 0 ([(lV none 0 0), (bV false), (sV me), (sV peer), (iV .i64 sid), (iV .i64 ((eo : Int))), (iV .i64 ((got : Int))), (lV A15 16 c15), (bV true)]) ([(lV none 0 0), (bV false), (sV me), (sV peer), (iV .i64 sid), (iV .i64 ((eo : Int))), (iV .i64 ((got : Int))), (lV A15 16 c15), (bV true)])) ?_
 rintro _ w16 h16
 refine wq_p 1 [(5, (iV .i64 18))] ?_
 refine wl_end rfl (seq_n hK12 (wp_ret (blk_r (seq_r ?_))))
 refine post_2 rfl (by kernel_rfl) (rce (h16.at_ 1 rfl)) (rtm (iV .i64 18)) ?_
 exact ⟨_, _, _, _, rfl, ⟨_, rfl, none, 0, _, rfl, (hs15 _ hnil), ⟨A15, c15, rfl, hm15⟩⟩, (hx15 _ (LExt.refl (fun q => F q ∨ G q) w L)), h16.sel [3, 0] [0] rfl rfl rfl⟩
theorem sTake_early {F G : Nat -> Prop} {tb sb : Nat} {s : STab} {L : List (Value × Bytes)} {S : Ses} {w : World} (hT : (rTab F tb s).Φ w) (hv : (rS G tb sb L S).Φ w) (hL : (rF L).Φ w) (hts : (rTab F tb s).dj (rS G tb sb L S)) (hdt : (rF L).dj (rTab F tb s)) (hd : (rF L).dj (rS G tb sb L S)) (f : Frm) (Ab : Option Addr) (cb : Nat) (hmf : (lV Ab f.box.length cb, f.box) ∈ L) (hnil : (lV none 0 0, ([] : Bytes)) ∈ L) (_hnk : s.keys.length < 800000) (_hnb : s.boxes.length < 800000) (_hbl : ∀ b ∈ s.boxes, b.body.length <= 1000000) (ho : S.over = false) (h1 : f.src = S.peer) (h2 : f.dst = S.me) (h3 : f.sid = S.sid) (hlt : f.epoch < (S.ei : Int)) (hle : (S.got : Int) < f.seq) :
   Calls Try.prog 12 #[pt sb 0, .agg (f.cells (.slice Ab f.box.length cb)).toArray] w (Post2 F G tb sb w L (s) (S) (fun L' u => ∃ cs, u = .tuple #[.agg cs.toArray, .int .i64 18] /\ ComeAt L' none none cs)) := by
 have h00 := twoF hT hv hL hts hdt hd
 obtain ⟨me, peer, sid, ko, eo, ki, ei, qu, sent, got, fr, ov⟩ := S
 obtain ⟨Ko, hKo⟩ := kl_of ko (rS_ko hv)
 obtain ⟨Ki, hKi⟩ := kl_of ki (rS_ki hv)
 subst hKo; subst hKi
 obtain ⟨src, dst, fsid, fep, fseq, fbox⟩ := f
 try simp only at *
 obtain rfl : ov = false := ho
 obtain rfl : peer = src := h1.symm
 obtain rfl : me = dst := h2.symm
 obtain rfl : sid = fsid := h3.symm
 have h0 := h00
 refine enter 129 Try.func12 rfl rfl ?_
 refine wp_reset 131 [(0, (pt sb 0)), (1, (aV ([(sV peer), (sV me), (iV .i64 sid), (iV .i64 fep), (iV .i64 fseq), (lV Ab fbox.length cb)]).toArray))] (fun x0 => ?_)
 refine wp_seq_k fun K1 hK1 => reg_lit ?_
 refine wq_to (some 3) (xN h0 38 ([(sV peer), (sV me), (iV .i64 sid), (iV .i64 fep), (iV .i64 fseq), (lV Ab fbox.length cb)])) ?_
 rintro _ w2 ⟨g2, rfl, h2⟩
 refine wq_to (some 4) (xN h2 42 ([(lV none 0 0), (bV false), (sV ByteArray.empty), (sV ByteArray.empty), (iV .i64 0), (iV .i64 0), (iV .i64 0), (lV none 0 0), (bV false)])) ?_
 rintro _ w3 ⟨g3, rfl, h3⟩
 refine wq_p 1 [(5, (iV .i64 0))] ?_
 refine wl_end rfl (seq_n hK1 (wp_seq_k fun K4 hK4 => wp_block (wp_seq_k fun K5 hK5 => ?_)))
 obtain ⟨c1_6, c2_6, A_6, cap_6, xs_6, fb_6, bx_6, hS_6, hG_6, h6⟩ := h3.openS 3 rfl
 clear hG_6
 refine reg_lit ?_
 refine wq_p 3 [(14, (pt sb 10)), (13, (pt sb 0)), (12, (pt sb 0))] (wq_v (some 15) (bV false) (eL (h6.at_ 0 rfl) 4 (.tmp 14) 10 _) (wq_p 1 [(11, (bV false))] ?_))
 refine wl_end rfl (seq_n hK5 (cF (wp_seq_k fun K7 hK7 => ?_)))
 refine pR_go h6 26 (fun W => (rBlk g2 38 ([(sV peer), (sV me), (iV .i64 sid), (iV .i64 fep), (iV .i64 fseq), (lV Ab fbox.length cb)])).Φ W /\ (rBlk sb 77 ([(Value.iface 28 (pt tb 0)), (sV me), (sV peer), (iV .i64 sid), (pt c1_6 0), (pt c2_6 0), (lV A_6 qu.length cap_6), (iV .i64 ((sent : Int))), (iV .i64 ((got : Int))), (frV fb_6), (bV false)])).Φ W /\ True) [(19, [3], 0), (20, [18], 1), (21, [0], 0), (22, [20], 4), (23, [21], 8), (24, [22], 16), (25, [19, 23], 34), (26, [24], 64), (27, [3, 25], 128), (28, [26, 25], 384), (29, [0, 25], 128), (30, [28, 25], 1152), (31, [29, 25], 2176), (32, [30, 25], 4224), (33, [27, 31, 25], 8832), (34, [25, 32], 16512), (35, [33], 32896), (36, [3, 34], 65536), (37, [35, 34], 196608), (38, [0, 34], 65536), (39, [37, 34], 589824), (40, [38, 34], 1114112), (41, [39, 34], 2162688), (42, [36, 40, 34], 4521984), (43, [34, 41], 8454144), (18, [42], 16842752)] rfl (fun _ d _ _ _ h => by cases d <;> exact h) ?_
 intro hs8 w8 h8
 refine pR_p 22 [0, 2, 3, 4] [(22, (pt sb 2)), (21, (pt sb 0)), (20, (pt sb 0)), (18, (pt g2 0))] 29 hs8 ⟨h8.at_ 6 rfl, h8.at_ 0 rfl, trivial⟩ ?_
 refine pR_v 1 (some 19) (sV peer) 31 rfl hs8 ⟨h8.at_ 6 rfl, h8.at_ 0 rfl, trivial⟩ (fun W hW => eL hW.1 9 (.tmp 18) 0 _) ?_
 refine pR_v 5 (some 23) (sV peer) 63 rfl hs8 ⟨h8.at_ 6 rfl, h8.at_ 0 rfl, trivial⟩ (fun W hW => eL hW.2.1 9 (.tmp 22) 2 _) ?_
 refine pR_v 6 (some 24) (bV false) 127 rfl hs8 ⟨h8.at_ 6 rfl, h8.at_ 0 rfl, trivial⟩ (fun W hW => eqI (bV (!((peer).toList == (peer).toList))) (by simp)) ?_
 refine pR_p 14 [7, 8, 10, 11, 12] [(30, (pt sb 1)), (29, (pt sb 0)), (28, (pt sb 0)), (26, (pt g2 1)), (25, (bV false))] 7679 hs8 ⟨h8.at_ 6 rfl, h8.at_ 0 rfl, trivial⟩ ?_
 refine pR_v 9 (some 27) (sV me) 8191 rfl hs8 ⟨h8.at_ 6 rfl, h8.at_ 0 rfl, trivial⟩ (fun W hW => eL hW.1 9 (.tmp 26) 1 _) ?_
 refine pR_v 13 (some 31) (sV me) 16383 rfl hs8 ⟨h8.at_ 6 rfl, h8.at_ 0 rfl, trivial⟩ (fun W hW => eL hW.2.1 9 (.tmp 30) 1 _) ?_
 refine pR_v 14 (some 32) (bV false) 32767 rfl hs8 ⟨h8.at_ 6 rfl, h8.at_ 0 rfl, trivial⟩ (fun W hW => eqI (bV (!((me).toList == (me).toList))) (by simp)) ?_
 refine pR_p 5 [15, 16, 17, 19, 20, 21] [(39, (pt sb 3)), (38, (pt sb 0)), (37, (pt sb 0)), (35, (pt g2 2)), (34, (bV false)), (33, (bV false))] 3932159 hs8 ⟨h8.at_ 6 rfl, h8.at_ 0 rfl, trivial⟩ ?_
 refine pR_v 18 (some 36) (iV .i64 sid) 4194303 rfl hs8 ⟨h8.at_ 6 rfl, h8.at_ 0 rfl, trivial⟩ (fun W hW => eL hW.1 2 (.tmp 35) 2 _) ?_
 refine pR_v 22 (some 40) (iV .i64 sid) 8388607 rfl hs8 ⟨h8.at_ 6 rfl, h8.at_ 0 rfl, trivial⟩ (fun W hW => eL hW.2.1 2 (.tmp 39) 3 _) ?_
 refine pR_v 23 (some 41) (bV false) 16777215 rfl hs8 ⟨h8.at_ 6 rfl, h8.at_ 0 rfl, trivial⟩ (fun W hW => eqI (bV (sid != sid)) (by simp)) ?_
 refine pR_p 0 [24, 25] [(17, (bV false)), (42, (bV false))] 67108863 hs8 ⟨h8.at_ 6 rfl, h8.at_ 0 rfl, trivial⟩ ?_
 refine pR_done hs8 ?_ _
 refine seq_n hK7 (cF (wp_seq_k fun K9 hK9 => ?_))
 refine pR_go h8 18 (fun W => (rBlk g2 38 ([(sV peer), (sV me), (iV .i64 sid), (iV .i64 fep), (iV .i64 fseq), (lV Ab fbox.length cb)])).Φ W /\ (rBlk sb 77 ([(Value.iface 28 (pt tb 0)), (sV me), (sV peer), (iV .i64 sid), (pt c1_6 0), (pt c2_6 0), (lV A_6 qu.length cap_6), (iV .i64 ((sent : Int))), (iV .i64 ((got : Int))), (frV fb_6), (bV false)])).Φ W /\ True) [(46, [3], 0), (47, [45], 1), (48, [0], 0), (49, [47], 4), (50, [48], 8), (51, [49], 16), (52, [50], 32), (53, [46, 51], 66), (54, [52], 192), (55, [3, 53], 256), (56, [54, 53], 768), (57, [0, 53], 256), (58, [56, 53], 2304), (59, [57, 53], 4352), (60, [58, 53], 8448), (61, [55, 59, 53], 17664), (62, [53, 60], 33024), (45, [61], 65792)] rfl (fun _ d _ _ _ h => by cases d <;> exact h) ?_
 intro hs10 w10 h10
 refine pR_p 14 [0, 2, 3, 4] [(49, (pt sb 5)), (48, (pt sb 0)), (47, (pt sb 0)), (45, (pt g2 3))] 29 hs10 ⟨h10.at_ 6 rfl, h10.at_ 0 rfl, trivial⟩ ?_
 refine pR_v 1 (some 46) (iV .i64 fep) 31 rfl hs10 ⟨h10.at_ 6 rfl, h10.at_ 0 rfl, trivial⟩ (fun W hW => eL hW.1 2 (.tmp 45) 3 _) ?_
 refine pR_v 5 (some 50) (pt c2_6 0) 63 rfl hs10 ⟨h10.at_ 6 rfl, h10.at_ 0 rfl, trivial⟩ (fun W hW => eL hW.2.1 73 (.tmp 49) 5 _) ?_
 refine pR_to 6 (some 51) 127 rfl hs10 (x_repoch h10 2 rfl (by kernel_rfl)) ?_
 rintro _ w11 ⟨rfl, h11⟩
 refine ⟨fun _ => ⟨h11.at_ 6 rfl, h11.at_ 0 rfl, trivial⟩, ?_⟩
 refine pR_v 7 (some 52) (bV true) 255 rfl hs10 ⟨h11.at_ 6 rfl, h11.at_ 0 rfl, trivial⟩ (fun W hW => eqI (bV (decide (fep < (ei : Int)))) (congrArg bV (by simpa using hlt))) ?_
 refine pR_p 5 [8, 9, 11, 12, 13] [(58, (pt sb 8)), (57, (pt sb 0)), (56, (pt sb 0)), (54, (pt g2 4)), (53, (bV true))] 15359 hs10 ⟨h11.at_ 6 rfl, h11.at_ 0 rfl, trivial⟩ ?_
 refine pR_v 10 (some 55) (iV .i64 fseq) 16383 rfl hs10 ⟨h11.at_ 6 rfl, h11.at_ 0 rfl, trivial⟩ (fun W hW => eL hW.1 2 (.tmp 54) 4 _) ?_
 refine pR_v 14 (some 59) (iV .i64 ((got : Int))) 32767 rfl hs10 ⟨h11.at_ 6 rfl, h11.at_ 0 rfl, trivial⟩ (fun W hW => eL hW.2.1 2 (.tmp 58) 8 _) ?_
 refine pR_v 15 (some 60) (bV false) 65535 rfl hs10 ⟨h11.at_ 6 rfl, h11.at_ 0 rfl, trivial⟩ (fun W hW => eqI (bV (decide (fseq <= (got : Int)))) (congrArg bV (by simpa using hle))) ?_
 refine pR_p 0 [16, 17] [(44, (bV false)), (61, (bV false))] 262143 hs10 ⟨h11.at_ 6 rfl, h11.at_ 0 rfl, trivial⟩ ?_
 refine pR_done hs10 ?_ _
 refine seq_n hK9 (cF (wp_seq_k fun K12 hK12 => ?_))
 refine wp_reset 131 [(0, (pt sb 0)), (1, (aV ([(sV peer), (sV me), (iV .i64 sid), (iV .i64 fep), (iV .i64 fseq), (lV Ab fbox.length cb)]).toArray)), (3, (pt g2 0)), (4, (pt g3 0)), (5, (iV .i64 0)), (11, (bV false)), (17, (bV false)), (44, (bV false))] (fun x13 => ?_)
 refine pR_go h11 9 (fun W => (rBlk g2 38 ([(sV peer), (sV me), (iV .i64 sid), (iV .i64 fep), (iV .i64 fseq), (lV Ab fbox.length cb)])).Φ W /\ (rBlk sb 77 ([(Value.iface 28 (pt tb 0)), (sV me), (sV peer), (iV .i64 sid), (pt c1_6 0), (pt c2_6 0), (lV A_6 qu.length cap_6), (iV .i64 ((sent : Int))), (iV .i64 ((got : Int))), (frV fb_6), (bV false)])).Φ W /\ True) [(66, [3], 0), (67, [65], 1), (68, [0], 0), (69, [67], 4), (70, [68], 8), (71, [69], 16), (72, [70], 32), (73, [66, 71], 66), (65, [72], 192)] rfl (fun _ d _ _ _ h => by cases d <;> exact h) ?_
 intro hs14 w14 h14
 refine pR_p 5 [0, 2, 3, 4] [(69, (pt sb 5)), (68, (pt sb 0)), (67, (pt sb 0)), (65, (pt g2 3))] 29 hs14 ⟨h14.at_ 6 rfl, h14.at_ 0 rfl, trivial⟩ ?_
 refine pR_v 1 (some 66) (iV .i64 fep) 31 rfl hs14 ⟨h14.at_ 6 rfl, h14.at_ 0 rfl, trivial⟩ (fun W hW => eL hW.1 2 (.tmp 65) 3 _) ?_
 refine pR_v 5 (some 70) (pt c2_6 0) 63 rfl hs14 ⟨h14.at_ 6 rfl, h14.at_ 0 rfl, trivial⟩ (fun W hW => eL hW.2.1 73 (.tmp 69) 5 _) ?_
 refine pR_to 6 (some 71) 127 rfl hs14 (x_repoch h14 2 rfl (by kernel_rfl)) ?_
 rintro _ w15 ⟨rfl, h15⟩
 refine ⟨fun _ => ⟨h15.at_ 6 rfl, h15.at_ 0 rfl, trivial⟩, ?_⟩
 refine pR_v 7 (some 72) (bV true) 255 rfl hs14 ⟨h15.at_ 6 rfl, h15.at_ 0 rfl, trivial⟩ (fun W hW => eqI (bV (fep != ((ei : Int)))) (congrArg bV (by simp; omega))) ?_
 refine pR_p 0 [8] [(64, (bV true))] 511 hs14 ⟨h15.at_ 6 rfl, h15.at_ 0 rfl, trivial⟩ ?_
 refine pR_done hs14 ?_ _
 refine seq_n hK12 (cT (wp_seq_k fun K16 hK16 => reg_lit ?_))
 refine wq_p 1 [(73, (aV ([(lV none 0 0), (bV false), (sV ByteArray.empty), (sV ByteArray.empty), (iV .i64 0), (iV .i64 0), (iV .i64 0), (lV none 0 0), (bV false)]).toArray))] ?_
 refine wq_to none (xSs h15 5 42 (.tmp 4) (.tmp 73) 0 ([(lV none 0 0), (bV false), (sV ByteArray.empty), (sV ByteArray.empty), (iV .i64 0), (iV .i64 0), (iV .i64 0), (lV none 0 0), (bV false)]) ([(lV none 0 0), (bV false), (sV ByteArray.empty), (sV ByteArray.empty), (iV .i64 0), (iV .i64 0), (iV .i64 0), (lV none 0 0), (bV false)])) ?_
 rintro _ w17 h17
 refine wq_p 1 [(5, (iV .i64 18))] ?_
 refine wl_end rfl (seq_n hK16 (wp_ret (blk_r (seq_r ?_))))
 refine post_2 rfl (by kernel_rfl) (rce (h17.at_ 5 rfl)) (rtm (iV .i64 18)) ?_
 have h18 := (show Hp _ _ _ _ (lSes tb sb c1_6 c2_6 A_6 cap_6 xs_6 fb_6 bx_6 ((Ses.mk me peer sid (kl Ko) eo (kl Ki) ei qu sent got fr false)) ++ [rBlk g3 42 ([(lV none 0 0), (bV false), (sV ByteArray.empty), (sV ByteArray.empty), (iV .i64 0), (iV .i64 0), (iV .i64 0), (lV none 0 0), (bV false)]), rBlk g2 38 ([(sV peer), (sV me), (iV .i64 sid), (iV .i64 fep), (iV .i64 fseq), (lV Ab fbox.length cb)]), rTab F tb s]) from h17.sel [0, 1, 2, 3, 4, 5, 6, 7] [0] rfl rfl rfl).closeS (L := L) hS_6
 exact ⟨_, _, _, _, rfl, ⟨_, rfl, none, 0, _, rfl, hnil, rfl⟩, (LExt.refl (fun q => F q ∨ G q) w L), h18.sel [3, 0] [0] rfl rfl rfl⟩
theorem sTake_late {F G : Nat -> Prop} {tb sb : Nat} {s : STab} {L : List (Value × Bytes)} {S : Ses} {w : World} (hT : (rTab F tb s).Φ w) (hv : (rS G tb sb L S).Φ w) (hL : (rF L).Φ w) (hts : (rTab F tb s).dj (rS G tb sb L S)) (hdt : (rF L).dj (rTab F tb s)) (hd : (rF L).dj (rS G tb sb L S)) (f : Frm) (Ab : Option Addr) (cb : Nat) (hmf : (lV Ab f.box.length cb, f.box) ∈ L) (hnil : (lV none 0 0, ([] : Bytes)) ∈ L) (_hnk : s.keys.length < 800000) (_hnb : s.boxes.length < 800000) (_hbl : ∀ b ∈ s.boxes, b.body.length <= 1000000) (ho : S.over = false) (h1 : f.src = S.peer) (h2 : f.dst = S.me) (h3 : f.sid = S.sid) (hlt : (S.ei : Int) < f.epoch) :
   Calls Try.prog 12 #[pt sb 0, .agg (f.cells (.slice Ab f.box.length cb)).toArray] w (Post2 F G tb sb w L (s) (S) (fun L' u => ∃ cs, u = .tuple #[.agg cs.toArray, .int .i64 18] /\ ComeAt L' none none cs)) := by
 have h00 := twoF hT hv hL hts hdt hd
 obtain ⟨me, peer, sid, ko, eo, ki, ei, qu, sent, got, fr, ov⟩ := S
 obtain ⟨Ko, hKo⟩ := kl_of ko (rS_ko hv)
 obtain ⟨Ki, hKi⟩ := kl_of ki (rS_ki hv)
 subst hKo; subst hKi
 obtain ⟨src, dst, fsid, fep, fseq, fbox⟩ := f
 try simp only at *
 obtain rfl : ov = false := ho
 obtain rfl : peer = src := h1.symm
 obtain rfl : me = dst := h2.symm
 obtain rfl : sid = fsid := h3.symm
 have h0 := h00
 refine enter 129 Try.func12 rfl rfl ?_
 refine wp_reset 131 [(0, (pt sb 0)), (1, (aV ([(sV peer), (sV me), (iV .i64 sid), (iV .i64 fep), (iV .i64 fseq), (lV Ab fbox.length cb)]).toArray))] (fun x0 => ?_)
 refine wp_seq_k fun K1 hK1 => reg_lit ?_
 refine wq_to (some 3) (xN h0 38 ([(sV peer), (sV me), (iV .i64 sid), (iV .i64 fep), (iV .i64 fseq), (lV Ab fbox.length cb)])) ?_
 rintro _ w2 ⟨g2, rfl, h2⟩
 refine wq_to (some 4) (xN h2 42 ([(lV none 0 0), (bV false), (sV ByteArray.empty), (sV ByteArray.empty), (iV .i64 0), (iV .i64 0), (iV .i64 0), (lV none 0 0), (bV false)])) ?_
 rintro _ w3 ⟨g3, rfl, h3⟩
 refine wq_p 1 [(5, (iV .i64 0))] ?_
 refine wl_end rfl (seq_n hK1 (wp_seq_k fun K4 hK4 => wp_block (wp_seq_k fun K5 hK5 => ?_)))
 obtain ⟨c1_6, c2_6, A_6, cap_6, xs_6, fb_6, bx_6, hS_6, hG_6, h6⟩ := h3.openS 3 rfl
 clear hG_6
 refine reg_lit ?_
 refine wq_p 3 [(14, (pt sb 10)), (13, (pt sb 0)), (12, (pt sb 0))] (wq_v (some 15) (bV false) (eL (h6.at_ 0 rfl) 4 (.tmp 14) 10 _) (wq_p 1 [(11, (bV false))] ?_))
 refine wl_end rfl (seq_n hK5 (cF (wp_seq_k fun K7 hK7 => ?_)))
 refine pR_go h6 26 (fun W => (rBlk g2 38 ([(sV peer), (sV me), (iV .i64 sid), (iV .i64 fep), (iV .i64 fseq), (lV Ab fbox.length cb)])).Φ W /\ (rBlk sb 77 ([(Value.iface 28 (pt tb 0)), (sV me), (sV peer), (iV .i64 sid), (pt c1_6 0), (pt c2_6 0), (lV A_6 qu.length cap_6), (iV .i64 ((sent : Int))), (iV .i64 ((got : Int))), (frV fb_6), (bV false)])).Φ W /\ True) [(19, [3], 0), (20, [18], 1), (21, [0], 0), (22, [20], 4), (23, [21], 8), (24, [22], 16), (25, [19, 23], 34), (26, [24], 64), (27, [3, 25], 128), (28, [26, 25], 384), (29, [0, 25], 128), (30, [28, 25], 1152), (31, [29, 25], 2176), (32, [30, 25], 4224), (33, [27, 31, 25], 8832), (34, [25, 32], 16512), (35, [33], 32896), (36, [3, 34], 65536), (37, [35, 34], 196608), (38, [0, 34], 65536), (39, [37, 34], 589824), (40, [38, 34], 1114112), (41, [39, 34], 2162688), (42, [36, 40, 34], 4521984), (43, [34, 41], 8454144), (18, [42], 16842752)] rfl (fun _ d _ _ _ h => by cases d <;> exact h) ?_
 intro hs8 w8 h8
 refine pR_p 22 [0, 2, 3, 4] [(22, (pt sb 2)), (21, (pt sb 0)), (20, (pt sb 0)), (18, (pt g2 0))] 29 hs8 ⟨h8.at_ 6 rfl, h8.at_ 0 rfl, trivial⟩ ?_
 refine pR_v 1 (some 19) (sV peer) 31 rfl hs8 ⟨h8.at_ 6 rfl, h8.at_ 0 rfl, trivial⟩ (fun W hW => eL hW.1 9 (.tmp 18) 0 _) ?_
 refine pR_v 5 (some 23) (sV peer) 63 rfl hs8 ⟨h8.at_ 6 rfl, h8.at_ 0 rfl, trivial⟩ (fun W hW => eL hW.2.1 9 (.tmp 22) 2 _) ?_
 refine pR_v 6 (some 24) (bV false) 127 rfl hs8 ⟨h8.at_ 6 rfl, h8.at_ 0 rfl, trivial⟩ (fun W hW => eqI (bV (!((peer).toList == (peer).toList))) (by simp)) ?_
 refine pR_p 14 [7, 8, 10, 11, 12] [(30, (pt sb 1)), (29, (pt sb 0)), (28, (pt sb 0)), (26, (pt g2 1)), (25, (bV false))] 7679 hs8 ⟨h8.at_ 6 rfl, h8.at_ 0 rfl, trivial⟩ ?_
 refine pR_v 9 (some 27) (sV me) 8191 rfl hs8 ⟨h8.at_ 6 rfl, h8.at_ 0 rfl, trivial⟩ (fun W hW => eL hW.1 9 (.tmp 26) 1 _) ?_
 refine pR_v 13 (some 31) (sV me) 16383 rfl hs8 ⟨h8.at_ 6 rfl, h8.at_ 0 rfl, trivial⟩ (fun W hW => eL hW.2.1 9 (.tmp 30) 1 _) ?_
 refine pR_v 14 (some 32) (bV false) 32767 rfl hs8 ⟨h8.at_ 6 rfl, h8.at_ 0 rfl, trivial⟩ (fun W hW => eqI (bV (!((me).toList == (me).toList))) (by simp)) ?_
 refine pR_p 5 [15, 16, 17, 19, 20, 21] [(39, (pt sb 3)), (38, (pt sb 0)), (37, (pt sb 0)), (35, (pt g2 2)), (34, (bV false)), (33, (bV false))] 3932159 hs8 ⟨h8.at_ 6 rfl, h8.at_ 0 rfl, trivial⟩ ?_
 refine pR_v 18 (some 36) (iV .i64 sid) 4194303 rfl hs8 ⟨h8.at_ 6 rfl, h8.at_ 0 rfl, trivial⟩ (fun W hW => eL hW.1 2 (.tmp 35) 2 _) ?_
 refine pR_v 22 (some 40) (iV .i64 sid) 8388607 rfl hs8 ⟨h8.at_ 6 rfl, h8.at_ 0 rfl, trivial⟩ (fun W hW => eL hW.2.1 2 (.tmp 39) 3 _) ?_
 refine pR_v 23 (some 41) (bV false) 16777215 rfl hs8 ⟨h8.at_ 6 rfl, h8.at_ 0 rfl, trivial⟩ (fun W hW => eqI (bV (sid != sid)) (by simp)) ?_
 refine pR_p 0 [24, 25] [(17, (bV false)), (42, (bV false))] 67108863 hs8 ⟨h8.at_ 6 rfl, h8.at_ 0 rfl, trivial⟩ ?_
 refine pR_done hs8 ?_ _
 refine seq_n hK7 (cF (wp_seq_k fun K9 hK9 => ?_))
 refine pR_go h8 18 (fun W => (rBlk g2 38 ([(sV peer), (sV me), (iV .i64 sid), (iV .i64 fep), (iV .i64 fseq), (lV Ab fbox.length cb)])).Φ W /\ (rBlk sb 77 ([(Value.iface 28 (pt tb 0)), (sV me), (sV peer), (iV .i64 sid), (pt c1_6 0), (pt c2_6 0), (lV A_6 qu.length cap_6), (iV .i64 ((sent : Int))), (iV .i64 ((got : Int))), (frV fb_6), (bV false)])).Φ W /\ True) [(46, [3], 0), (47, [45], 1), (48, [0], 0), (49, [47], 4), (50, [48], 8), (51, [49], 16), (52, [50], 32), (53, [46, 51], 66), (54, [52], 192), (55, [3, 53], 256), (56, [54, 53], 768), (57, [0, 53], 256), (58, [56, 53], 2304), (59, [57, 53], 4352), (60, [58, 53], 8448), (61, [55, 59, 53], 17664), (62, [53, 60], 33024), (45, [61], 65792)] rfl (fun _ d _ _ _ h => by cases d <;> exact h) ?_
 intro hs10 w10 h10
 refine pR_p 14 [0, 2, 3, 4] [(49, (pt sb 5)), (48, (pt sb 0)), (47, (pt sb 0)), (45, (pt g2 3))] 29 hs10 ⟨h10.at_ 6 rfl, h10.at_ 0 rfl, trivial⟩ ?_
 refine pR_v 1 (some 46) (iV .i64 fep) 31 rfl hs10 ⟨h10.at_ 6 rfl, h10.at_ 0 rfl, trivial⟩ (fun W hW => eL hW.1 2 (.tmp 45) 3 _) ?_
 refine pR_v 5 (some 50) (pt c2_6 0) 63 rfl hs10 ⟨h10.at_ 6 rfl, h10.at_ 0 rfl, trivial⟩ (fun W hW => eL hW.2.1 73 (.tmp 49) 5 _) ?_
 refine pR_to 6 (some 51) 127 rfl hs10 (x_repoch h10 2 rfl (by kernel_rfl)) ?_
 rintro _ w11 ⟨rfl, h11⟩
 refine ⟨fun _ => ⟨h11.at_ 6 rfl, h11.at_ 0 rfl, trivial⟩, ?_⟩
 refine pR_v 7 (some 52) (bV false) 255 rfl hs10 ⟨h11.at_ 6 rfl, h11.at_ 0 rfl, trivial⟩ (fun W hW => eqI (bV (decide (fep < (ei : Int)))) (congrArg bV (by simp; omega))) ?_
 refine pR_p 0 [8, 9, 10, 11, 12, 13, 14, 15, 16, 17] [(44, (bV false)), (61, (bV false)), (60, undef), (59, undef), (58, undef), (57, undef), (56, undef), (55, undef), (54, undef), (53, (bV false))] 262143 hs10 ⟨h11.at_ 6 rfl, h11.at_ 0 rfl, trivial⟩ ?_
 refine pR_done hs10 ?_ _
 refine seq_n hK9 (cF (wp_seq_k fun K12 hK12 => ?_))
 refine wp_reset 131 [(0, (pt sb 0)), (1, (aV ([(sV peer), (sV me), (iV .i64 sid), (iV .i64 fep), (iV .i64 fseq), (lV Ab fbox.length cb)]).toArray)), (3, (pt g2 0)), (4, (pt g3 0)), (5, (iV .i64 0)), (11, (bV false)), (17, (bV false)), (44, (bV false))] (fun x13 => ?_)
 refine pR_go h11 9 (fun W => (rBlk g2 38 ([(sV peer), (sV me), (iV .i64 sid), (iV .i64 fep), (iV .i64 fseq), (lV Ab fbox.length cb)])).Φ W /\ (rBlk sb 77 ([(Value.iface 28 (pt tb 0)), (sV me), (sV peer), (iV .i64 sid), (pt c1_6 0), (pt c2_6 0), (lV A_6 qu.length cap_6), (iV .i64 ((sent : Int))), (iV .i64 ((got : Int))), (frV fb_6), (bV false)])).Φ W /\ True) [(66, [3], 0), (67, [65], 1), (68, [0], 0), (69, [67], 4), (70, [68], 8), (71, [69], 16), (72, [70], 32), (73, [66, 71], 66), (65, [72], 192)] rfl (fun _ d _ _ _ h => by cases d <;> exact h) ?_
 intro hs14 w14 h14
 refine pR_p 5 [0, 2, 3, 4] [(69, (pt sb 5)), (68, (pt sb 0)), (67, (pt sb 0)), (65, (pt g2 3))] 29 hs14 ⟨h14.at_ 6 rfl, h14.at_ 0 rfl, trivial⟩ ?_
 refine pR_v 1 (some 66) (iV .i64 fep) 31 rfl hs14 ⟨h14.at_ 6 rfl, h14.at_ 0 rfl, trivial⟩ (fun W hW => eL hW.1 2 (.tmp 65) 3 _) ?_
 refine pR_v 5 (some 70) (pt c2_6 0) 63 rfl hs14 ⟨h14.at_ 6 rfl, h14.at_ 0 rfl, trivial⟩ (fun W hW => eL hW.2.1 73 (.tmp 69) 5 _) ?_
 refine pR_to 6 (some 71) 127 rfl hs14 (x_repoch h14 2 rfl (by kernel_rfl)) ?_
 rintro _ w15 ⟨rfl, h15⟩
 refine ⟨fun _ => ⟨h15.at_ 6 rfl, h15.at_ 0 rfl, trivial⟩, ?_⟩
 refine pR_v 7 (some 72) (bV true) 255 rfl hs14 ⟨h15.at_ 6 rfl, h15.at_ 0 rfl, trivial⟩ (fun W hW => eqI (bV (fep != ((ei : Int)))) (congrArg bV (by simp; omega))) ?_
 refine pR_p 0 [8] [(64, (bV true))] 511 hs14 ⟨h15.at_ 6 rfl, h15.at_ 0 rfl, trivial⟩ ?_
 refine pR_done hs14 ?_ _
 refine seq_n hK12 (cT (wp_seq_k fun K16 hK16 => reg_lit ?_))
 refine wq_p 1 [(73, (aV ([(lV none 0 0), (bV false), (sV ByteArray.empty), (sV ByteArray.empty), (iV .i64 0), (iV .i64 0), (iV .i64 0), (lV none 0 0), (bV false)]).toArray))] ?_
 refine wq_to none (xSs h15 5 42 (.tmp 4) (.tmp 73) 0 ([(lV none 0 0), (bV false), (sV ByteArray.empty), (sV ByteArray.empty), (iV .i64 0), (iV .i64 0), (iV .i64 0), (lV none 0 0), (bV false)]) ([(lV none 0 0), (bV false), (sV ByteArray.empty), (sV ByteArray.empty), (iV .i64 0), (iV .i64 0), (iV .i64 0), (lV none 0 0), (bV false)])) ?_
 rintro _ w17 h17
 refine wq_p 1 [(5, (iV .i64 18))] ?_
 refine wl_end rfl (seq_n hK16 (wp_ret (blk_r (seq_r ?_))))
 refine post_2 rfl (by kernel_rfl) (rce (h17.at_ 5 rfl)) (rtm (iV .i64 18)) ?_
 have h18 := (show Hp _ _ _ _ (lSes tb sb c1_6 c2_6 A_6 cap_6 xs_6 fb_6 bx_6 ((Ses.mk me peer sid (kl Ko) eo (kl Ki) ei qu sent got fr false)) ++ [rBlk g3 42 ([(lV none 0 0), (bV false), (sV ByteArray.empty), (sV ByteArray.empty), (iV .i64 0), (iV .i64 0), (iV .i64 0), (lV none 0 0), (bV false)]), rBlk g2 38 ([(sV peer), (sV me), (iV .i64 sid), (iV .i64 fep), (iV .i64 fseq), (lV Ab fbox.length cb)]), rTab F tb s]) from h17.sel [0, 1, 2, 3, 4, 5, 6, 7] [0] rfl rfl rfl).closeS (L := L) hS_6
 exact ⟨_, _, _, _, rfl, ⟨_, rfl, none, 0, _, rfl, hnil, rfl⟩, (LExt.refl (fun q => F q ∨ G q) w L), h18.sel [3, 0] [0] rfl rfl rfl⟩
end
end Go.Proofs.Ytjalodhdjollhaa
