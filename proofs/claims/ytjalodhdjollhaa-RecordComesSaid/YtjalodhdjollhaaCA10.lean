/- The walks of record: opened. -/
import Derived.Test.YtjalodhdjollhaaCA9
set_option maxRecDepth 100000
set_option maxHeartbeats 4000000
namespace Go.Proofs.Ytjalodhdjollhaa
section
open Go.Value renaming int -> iV, slice -> lV, string -> sV, bool -> bV, agg -> aV
open Go.RowKit Go.QT
/-- The table, once a frame was tried; and the key that is tried. -/
def openT (s : STab) (S : Ses) : STab := s.made (deriveF S.ki ⟨#[117, 115, 101]⟩)
def openK (s : STab) (S : Ses) : Bytes := mkB 107 (s.num (deriveF S.ki ⟨#[117, 115, 101]⟩))
theorem sopened_no {F G : Nat -> Prop} {tb sb : Nat} {s : STab} {L : List (Value × Bytes)} {S : Ses} {w : World} (hT : (rTab F tb s).Φ w) (hv : (rS G tb sb L S).Φ w) (hL : (rF L).Φ w) (hts : (rTab F tb s).dj (rS G tb sb L S)) (hdt : (rF L).dj (rTab F tb s)) (hd : (rF L).dj (rS G tb sb L S)) (f : Frm) (Ab : Option Addr) (cb : Nat) (hmf : (lV Ab f.box.length cb, f.box) ∈ L) (ho : S.over = false) (hnk : s.keys.length < 900000) (hnb : s.boxes.length < 900000) (hbl : ∀ b ∈ s.boxes, b.body.length <= 1000000) (hop : (openT s S).open_ (openK s S) 14 f.box = none) :
   Calls Try.prog 33 #[pt sb 0, .agg (f.cells (.slice Ab f.box.length cb)).toArray] w (Post2 F G tb sb w L (openT s S) S (fun _ u => u = .tuple #[.int .u64 0, .int .i64 0, .slice none 0 0, .bool false])) := by
 have h00 := twoF hT hv hL hts hdt hd
 obtain ⟨me, peer, sid, ko, eo, ki, ei, qu, sent, got, fr, ov⟩ := S
 obtain rfl : ov = false := ho
 obtain ⟨Ko, hKo⟩ := kl_of ko (rS_ko hv)
 obtain ⟨Ki, hKi⟩ := kl_of ki (rS_ki hv)
 subst hKo; subst hKi
 simp only [openT, openK] at hop
 have h0 := h00
 refine enter 102 Try.func33 rfl rfl ?_
 refine wp_reset 104 [(0, (pt sb 0)), (1, (aV ([(sV f.src), (sV f.dst), (iV .i64 f.sid), (iV .i64 f.epoch), (iV .i64 f.seq), (lV Ab f.box.length cb)]).toArray))] (fun x0 => ?_)
 refine wp_seq_k fun K1 hK1 => reg_lit ?_
 refine wq_to (some 3) (xN h0 38 ([(sV f.src), (sV f.dst), (iV .i64 f.sid), (iV .i64 f.epoch), (iV .i64 f.seq), (lV Ab f.box.length cb)])) ?_
 rintro _ w2 ⟨g2, rfl, h2⟩
 refine wq_p 4 [(7, (bV false)), (6, (lV none 0 0)), (5, (iV .i64 0)), (4, (iV .u64 0))] ?_
 refine wl_end rfl (seq_n hK1 (wp_seq_k fun K3 hK3 => ?_))
 obtain ⟨c1_4, c2_4, A_4, cap_4, xs_4, fb_4, bx_4, hS_4, hG_4, h4⟩ := h2.openS 2 rfl
 clear hG_4
 have h5 := h4.roF 0 rfl hmf
 refine reg_lit ?_
 refine wq_p 3 [(17, (pt sb 5)), (16, (pt sb 0)), (15, (pt sb 0))] (wq_v (some 18) (pt c2_4 0) (eL (h5.at_ 0 rfl) 73 (.tmp 17) 5 _) ?_)
 refine wq_to (some 19) (x_rkey h5 6 2 rfl rfl (by kernel_rfl) (by kernel_rfl) (by omega)) ?_
 rintro _ w6 ⟨K6, F6, s6, rfl, hK6, hs6, h6⟩
 have e6 := made_boxes hs6
 have hnb2 : s6.boxes.length < 1000000 := by rw [e6.1]; omega
 have hbl2 : ∀ b ∈ s6.boxes, b.body.length <= 1000000 := by rw [e6.1]; exact hbl
 refine wq_p 3 [(21, (iV .i64 0)), (20, (aV (vb (kl K6)).toArray)), (14, (Value.tuple #[(aV (vb (kl K6)).toArray), (iV .i64 0)]))] ?_
 refine wq_to (some 8) (xN h6 59 (vb (List.replicate 16 0))) ?_
 rintro _ w7 ⟨g7, rfl, h7⟩
 refine wq_to none (xSs h7 0 59 (.tmp 8) (.tmp 20) 0 (vb (kl K6)) (vb (kl K6))) ?_
 rintro _ w8 h8
 refine wq_p 1 [(9, (iV .i64 0))] ?_
 refine wl_end rfl (seq_n hK3 (wp_seq_k fun K9 hK9 => wp_seq_k fun K10 hK10 => reg_lit ?_))
 refine wq_p 2 [(23, (bV false)), (22, (iV .i64 0))] ?_
 refine wl_end rfl (seq_n hK10 (cF (wp_skip (seq_n hK9 (wp_seq_k fun K11 hK11 => ?_)))))
 refine pR_go h8 12 (fun W => (rBlk sb 77 ([(Value.iface 28 (pt tb 0)), (sV me), (sV peer), (iV .i64 sid), (pt c1_4 0), (pt c2_4 0), (lV A_4 qu.length cap_4), (iV .i64 ((sent : Int))), (iV .i64 ((got : Int))), (frV fb_4), (bV false)])).Φ W /\ (rBlk g7 59 (vb (kl K6))).Φ W /\ (rBlk g2 38 ([(sV f.src), (sV f.dst), (iV .i64 f.sid), (iV .i64 f.epoch), (iV .i64 f.seq), (lV Ab f.box.length cb)])).Φ W /\ True) [(26, [0], 0), (27, [25], 1), (28, [26], 2), (29, [27], 4), (30, [8], 0), (31, [3], 0), (32, [30], 32), (33, [28, 29, 31], 88), (25, [32], 128), (34, [24], 256), (35, [24], 256), (11, [33], 1023), (12, [34], 4095)] rfl (fun _ d _ _ _ h => by cases d <;> exact h) ?_
 intro hs12 w12 h12
 refine pR_p 9 [0, 1, 2, 5] [(30, (pt g2 5)), (27, (pt sb 0)), (26, (pt sb 0)), (25, (pt sb 0))] 39 hs12 ⟨h12.at_ 1 rfl, h12.at_ 0 rfl, h12.at_ 6 rfl, trivial⟩ ?_
 refine pR_v 3 (some 28) (Value.iface 28 (pt tb 0)) 47 rfl hs12 ⟨h12.at_ 1 rfl, h12.at_ 0 rfl, h12.at_ 6 rfl, trivial⟩ (fun W hW => eL hW.1 72 (.tmp 27) 0 _) ?_
 refine pR_v 4 (some 29) (aV (vb (kl K6)).toArray) 63 rfl hs12 ⟨h12.at_ 1 rfl, h12.at_ 0 rfl, h12.at_ 6 rfl, trivial⟩ (fun W hW => eLs hW.2.1 59 (.tmp 8) 0 (vb (kl K6))) ?_
 refine pR_v 6 (some 31) (lV Ab f.box.length cb) 127 rfl hs12 ⟨h12.at_ 1 rfl, h12.at_ 0 rfl, h12.at_ 6 rfl, trivial⟩ (fun W hW => eL hW.2.2.1 26 (.tmp 30) 5 _) ?_
 refine pR_to 7 (some 32) 255 rfl hs12 (x_open h12 7 rfl K6 14 f.box (lV Ab f.box.length cb) ((none : Option Bytes)) (by kernel_rfl) (h12.rd 0 rfl) hbl2 (h12.tabW 7 rfl).1 hnb2 (by rw [hK6, hs6]; exact hop)) ?_
 rintro _ w13 ⟨A13, c13, rfl, h13⟩
 refine ⟨fun _ => ⟨h13.at_ 2 rfl, h13.at_ 1 rfl, h13.at_ 7 rfl, trivial⟩, ?_⟩
 refine pR_p 1 [8, 9, 10, 11] [(10, (lV A13 0 c13)), (34, (bV false)), (33, (lV A13 0 c13)), (24, (Value.tuple #[(lV A13 0 c13), (bV false)]))] 4095 hs12 ⟨h13.at_ 2 rfl, h13.at_ 1 rfl, h13.at_ 7 rfl, trivial⟩ ?_
 refine pR_to 12 (some 11) 8191 rfl hs12 (OpTo.run (bV false) (pureOp_run (by kernel_rfl) _) (R := fun v w => v = (bV false) /\ w13 = w) ⟨rfl, rfl⟩) ?_
 rintro _ _ ⟨rfl, rfl⟩
 refine ⟨fun h => absurd h (by decide), ?_⟩
 refine pR_done hs12 ?_ _
 refine seq_n hK11 (wp_seq_k fun K14 hK14 => ?_)
 refine wp_reset 104 [(0, (pt sb 0)), (1, (aV ([(sV f.src), (sV f.dst), (iV .i64 f.sid), (iV .i64 f.epoch), (iV .i64 f.seq), (lV Ab f.box.length cb)]).toArray)), (3, (pt g2 0)), (4, (iV .u64 0)), (5, (iV .i64 0)), (6, (lV none 0 0)), (7, (bV false)), (8, (pt g7 0)), (9, (iV .i64 0)), (10, (lV A13 0 c13)), (11, (bV false)), (23, (bV false))] (fun x15 => ?_)
 refine reg_lit ?_
 refine wq_p 1 [(36, (lV A13 0 c13))] ?_
 refine wq_to (some 37) (x_dp h13 45 [(lV A13 0 c13)] (by kernel_rfl) (Read_nil A13 c13 _)) ?_
 rintro _ w16 ⟨rfl, h16⟩
 refine wq_p 3 [(39, (iV .i64 1)), (38, (aV ([(iV .i64 0), (iV .i64 0), (iV .u64 0), (lV none 0 0), (lV none 0 0)]).toArray)), (35, (Value.tuple #[(aV ([(iV .i64 0), (iV .i64 0), (iV .u64 0), (lV none 0 0), (lV none 0 0)]).toArray), (iV .i64 1)]))] ?_
 refine wq_to (some 12) (xN h16 100 ([(iV .i64 0), (iV .i64 0), (iV .u64 0), (lV none 0 0), (lV none 0 0)])) ?_
 rintro _ w17 ⟨g17, rfl, h17⟩
 refine wq_to none (xSs h17 0 100 (.tmp 12) (.tmp 38) 0 ([(iV .i64 0), (iV .i64 0), (iV .u64 0), (lV none 0 0), (lV none 0 0)]) ([(iV .i64 0), (iV .i64 0), (iV .u64 0), (lV none 0 0), (lV none 0 0)])) ?_
 rintro _ w18 h18
 refine wq_p 1 [(13, (iV .i64 1))] ?_
 refine wl_end rfl (seq_n hK14 (wp_seq_k fun K19 hK19 => wp_seq_k fun K20 hK20 => ?_))
 refine pR_go h18 52 (fun W => True) [(41, [11], 0), (42, [40], 1), (43, [41], 2), (44, [13, 42], 4), (45, [43, 42], 12), (46, [42, 44], 20), (47, [45], 36), (48, [12, 46], 64), (49, [47, 46], 192), (50, [48, 46], 320), (51, [46, 49], 576), (52, [50], 1088), (53, [12, 51], 2048), (54, [52, 51], 6144), (55, [53, 51], 10240), (56, [54, 51], 18432), (57, [51, 55], 34816), (58, [56], 67584), (59, [12, 57], 131072), (60, [58, 57], 393216), (61, [59, 57], 655360), (62, [60, 57], 1179648), (63, [61, 57], 2228224), (64, [62, 57], 4325376), (65, [57, 63], 8519680), (66, [64], 16908288), (67, [12, 65], 33554432), (68, [66, 65], 100663296), (69, [67, 65], 167772160), (70, [68, 65], 301989888), (71, [69, 65], 570425344), (72, [70, 65], 1107296256), (73, [65, 71], 2181038080), (74, [72], 4328521728), (75, [12, 73], 8589934592), (76, [74, 73], 25769803776), (77, [75, 73], 42949672960), (78, [76, 73], 77309411328), (79, [77, 73], 146028888064), (80, [78, 73], 283467841536), (81, [73, 79], 558345748480), (82, [80], 1108101562368), (83, [12, 81], 2199023255552), (84, [82, 81], 6597069766656), (85, [83, 81], 10995116277760), (86, [84, 81], 19791209299968), (87, [85, 81], 37383395344384), (88, [3, 81], 2199023255552), (89, [87, 81], 142936511610880), (90, [88, 81], 283673999966208), (91, [86, 89, 81], 635517720854528), (92, [81, 90], 1128098930098176)] rfl (fun _ d _ _ _ h => by cases d <;> exact h) ?_
 intro hs21 w21 h21
 refine pR_p 0 [0, 1, 2, 3, 4, 5, 6, 7, 8, 9, 10, 11, 12, 13, 14, 15, 16, 17, 18, 19, 20, 21, 22, 23, 24, 25, 26, 27, 28, 29, 30, 31, 32, 33, 34, 35, 36, 37, 38, 39, 40, 41, 42, 43, 44, 45, 46, 47, 48, 49, 50, 51] [(91, (bV true)), (90, undef), (89, undef), (88, undef), (87, undef), (86, undef), (85, undef), (84, undef), (83, undef), (82, undef), (81, (bV true)), (80, (bV true)), (79, undef), (78, undef), (77, undef), (76, undef), (75, undef), (74, undef), (73, (bV true)), (72, (bV true)), (71, undef), (70, undef), (69, undef), (68, undef), (67, undef), (66, undef), (65, (bV true)), (64, (bV true)), (63, undef), (62, undef), (61, undef), (60, undef), (59, undef), (58, undef), (57, (bV true)), (56, (bV true)), (55, undef), (54, undef), (53, undef), (52, undef), (51, (bV true)), (50, (bV true)), (49, undef), (48, undef), (47, undef), (46, (bV true)), (45, (bV true)), (44, undef), (43, undef), (42, (bV true)), (41, (bV true)), (40, (bV false))] 4503599627370495 hs21 trivial ?_
 refine pR_done hs21 ?_ _
 refine seq_n hK20 (cT (wp_seq_k fun K22 hK22 => reg_lit ?_))
 refine wq_p 4 [(7, (bV false)), (6, (lV none 0 0)), (5, (iV .i64 0)), (4, (iV .u64 0))] ?_
 refine wl_end rfl (seq_n hK22 (wp_ret (seq_r ?_)))
 refine post_4 rfl (by kernel_rfl) (rtm (iV .u64 0)) (rtm (iV .i64 0)) (rtm (lV none 0 0)) (rtm (bV false)) ?_
 have h23 := (show Hp _ _ _ _ (lSes tb sb c1_4 c2_4 A_4 cap_4 xs_4 fb_4 bx_4 ((Ses.mk me peer sid (kl Ko) eo (kl Ki) ei qu sent got fr false)) ++ [rBlk g17 100 ([(iV .i64 0), (iV .i64 0), (iV .u64 0), (lV none 0 0), (lV none 0 0)]), rOB ((lV A13 0 c13)) ([]), rBlk g7 59 (vb (kl K6)), rBlk g2 38 ([(sV f.src), (sV f.dst), (iV .i64 f.sid), (iV .i64 f.epoch), (iV .i64 f.seq), (lV Ab f.box.length cb)]), rTab F6 tb s6]) from h21.sel [3, 4, 5, 6, 7, 0, 1, 2, 8, 9] [0, 1] rfl rfl rfl).closeS (L := L) hS_4
 subst hs6
 exact ⟨_, _, _, _, rfl, rfl, (LExt.refl (fun q => F q ∨ G q) w L), h23.sel [5, 0] [1] rfl rfl rfl⟩
theorem sopened_other {F G : Nat -> Prop} {tb sb : Nat} {s : STab} {L : List (Value × Bytes)} {S : Ses} {w : World} (hT : (rTab F tb s).Φ w) (hv : (rS G tb sb L S).Φ w) (hL : (rF L).Φ w) (hts : (rTab F tb s).dj (rS G tb sb L S)) (hdt : (rF L).dj (rTab F tb s)) (hd : (rF L).dj (rS G tb sb L S)) (f : Frm) (Ab : Option Addr) (cb : Nat) (hmf : (lV Ab f.box.length cb, f.box) ∈ L) (ho : S.over = false) (hnk : s.keys.length < 900000) (hnb : s.boxes.length < 900000) (hbl : ∀ b ∈ s.boxes, b.body.length <= 1000000) (k n : Nat) (b : Bytes) (hk : k < 1000) (hn : n < 1000000) (hb : b.length <= 2048) (hop : (openT s S).open_ (openK s S) 14 f.box = some (wrV (contV k n b))) (hwr : bV (!((n : Int) == IntKind.u64.wrap f.seq)) = bV true) :
   Calls Try.prog 33 #[pt sb 0, .agg (f.cells (.slice Ab f.box.length cb)).toArray] w (Post2 F G tb sb w L (openT s S) S (fun _ u => u = .tuple #[.int .u64 0, .int .i64 0, .slice none 0 0, .bool false])) := by
 have h00 := twoF hT hv hL hts hdt hd
 obtain ⟨me, peer, sid, ko, eo, ki, ei, qu, sent, got, fr, ov⟩ := S
 obtain rfl : ov = false := ho
 obtain ⟨Ko, hKo⟩ := kl_of ko (rS_ko hv)
 obtain ⟨Ki, hKi⟩ := kl_of ki (rS_ki hv)
 subst hKo; subst hKi
 simp only [openT, openK] at hop
 have hcl := cont_len k n b
 have h0 := h00
 refine enter 102 Try.func33 rfl rfl ?_
 refine wp_reset 104 [(0, (pt sb 0)), (1, (aV ([(sV f.src), (sV f.dst), (iV .i64 f.sid), (iV .i64 f.epoch), (iV .i64 f.seq), (lV Ab f.box.length cb)]).toArray))] (fun x0 => ?_)
 refine wp_seq_k fun K1 hK1 => reg_lit ?_
 refine wq_to (some 3) (xN h0 38 ([(sV f.src), (sV f.dst), (iV .i64 f.sid), (iV .i64 f.epoch), (iV .i64 f.seq), (lV Ab f.box.length cb)])) ?_
 rintro _ w2 ⟨g2, rfl, h2⟩
 refine wq_p 4 [(7, (bV false)), (6, (lV none 0 0)), (5, (iV .i64 0)), (4, (iV .u64 0))] ?_
 refine wl_end rfl (seq_n hK1 (wp_seq_k fun K3 hK3 => ?_))
 obtain ⟨c1_4, c2_4, A_4, cap_4, xs_4, fb_4, bx_4, hS_4, hG_4, h4⟩ := h2.openS 2 rfl
 clear hG_4
 have h5 := h4.roF 0 rfl hmf
 refine reg_lit ?_
 refine wq_p 3 [(17, (pt sb 5)), (16, (pt sb 0)), (15, (pt sb 0))] (wq_v (some 18) (pt c2_4 0) (eL (h5.at_ 0 rfl) 73 (.tmp 17) 5 _) ?_)
 refine wq_to (some 19) (x_rkey h5 6 2 rfl rfl (by kernel_rfl) (by kernel_rfl) (by omega)) ?_
 rintro _ w6 ⟨K6, F6, s6, rfl, hK6, hs6, h6⟩
 have e6 := made_boxes hs6
 have hnb2 : s6.boxes.length < 1000000 := by rw [e6.1]; omega
 have hbl2 : ∀ b ∈ s6.boxes, b.body.length <= 1000000 := by rw [e6.1]; exact hbl
 refine wq_p 3 [(21, (iV .i64 0)), (20, (aV (vb (kl K6)).toArray)), (14, (Value.tuple #[(aV (vb (kl K6)).toArray), (iV .i64 0)]))] ?_
 refine wq_to (some 8) (xN h6 59 (vb (List.replicate 16 0))) ?_
 rintro _ w7 ⟨g7, rfl, h7⟩
 refine wq_to none (xSs h7 0 59 (.tmp 8) (.tmp 20) 0 (vb (kl K6)) (vb (kl K6))) ?_
 rintro _ w8 h8
 refine wq_p 1 [(9, (iV .i64 0))] ?_
 refine wl_end rfl (seq_n hK3 (wp_seq_k fun K9 hK9 => wp_seq_k fun K10 hK10 => reg_lit ?_))
 refine wq_p 2 [(23, (bV false)), (22, (iV .i64 0))] ?_
 refine wl_end rfl (seq_n hK10 (cF (wp_skip (seq_n hK9 (wp_seq_k fun K11 hK11 => ?_)))))
 refine pR_go h8 12 (fun W => (rBlk sb 77 ([(Value.iface 28 (pt tb 0)), (sV me), (sV peer), (iV .i64 sid), (pt c1_4 0), (pt c2_4 0), (lV A_4 qu.length cap_4), (iV .i64 ((sent : Int))), (iV .i64 ((got : Int))), (frV fb_4), (bV false)])).Φ W /\ (rBlk g7 59 (vb (kl K6))).Φ W /\ (rBlk g2 38 ([(sV f.src), (sV f.dst), (iV .i64 f.sid), (iV .i64 f.epoch), (iV .i64 f.seq), (lV Ab f.box.length cb)])).Φ W /\ True) [(26, [0], 0), (27, [25], 1), (28, [26], 2), (29, [27], 4), (30, [8], 0), (31, [3], 0), (32, [30], 32), (33, [28, 29, 31], 88), (25, [32], 128), (34, [24], 256), (35, [24], 256), (11, [33], 1023), (12, [34], 4095)] rfl (fun _ d _ _ _ h => by cases d <;> exact h) ?_
 intro hs12 w12 h12
 refine pR_p 9 [0, 1, 2, 5] [(30, (pt g2 5)), (27, (pt sb 0)), (26, (pt sb 0)), (25, (pt sb 0))] 39 hs12 ⟨h12.at_ 1 rfl, h12.at_ 0 rfl, h12.at_ 6 rfl, trivial⟩ ?_
 refine pR_v 3 (some 28) (Value.iface 28 (pt tb 0)) 47 rfl hs12 ⟨h12.at_ 1 rfl, h12.at_ 0 rfl, h12.at_ 6 rfl, trivial⟩ (fun W hW => eL hW.1 72 (.tmp 27) 0 _) ?_
 refine pR_v 4 (some 29) (aV (vb (kl K6)).toArray) 63 rfl hs12 ⟨h12.at_ 1 rfl, h12.at_ 0 rfl, h12.at_ 6 rfl, trivial⟩ (fun W hW => eLs hW.2.1 59 (.tmp 8) 0 (vb (kl K6))) ?_
 refine pR_v 6 (some 31) (lV Ab f.box.length cb) 127 rfl hs12 ⟨h12.at_ 1 rfl, h12.at_ 0 rfl, h12.at_ 6 rfl, trivial⟩ (fun W hW => eL hW.2.2.1 26 (.tmp 30) 5 _) ?_
 refine pR_to 7 (some 32) 255 rfl hs12 (x_open h12 7 rfl K6 14 f.box (lV Ab f.box.length cb) ((some (wrV (contV k n b)))) (by kernel_rfl) (h12.rd 0 rfl) hbl2 (h12.tabW 7 rfl).1 hnb2 (by rw [hK6, hs6]; exact hop)) ?_
 rintro _ w13 ⟨A13, c13, rfl, h13⟩
 refine ⟨fun _ => ⟨h13.at_ 2 rfl, h13.at_ 1 rfl, h13.at_ 7 rfl, trivial⟩, ?_⟩
 refine pR_p 1 [8, 9, 10, 11] [(10, (lV A13 ((wrV (contV k n b)).length) c13)), (34, (bV true)), (33, (lV A13 ((wrV (contV k n b)).length) c13)), (24, (Value.tuple #[(lV A13 ((wrV (contV k n b)).length) c13), (bV true)]))] 4095 hs12 ⟨h13.at_ 2 rfl, h13.at_ 1 rfl, h13.at_ 7 rfl, trivial⟩ ?_
 refine pR_to 12 (some 11) 8191 rfl hs12 (OpTo.run (bV true) (pureOp_run (by kernel_rfl) _) (R := fun v w => v = (bV true) /\ w13 = w) ⟨rfl, rfl⟩) ?_
 rintro _ _ ⟨rfl, rfl⟩
 refine ⟨fun h => absurd h (by decide), ?_⟩
 refine pR_done hs12 ?_ _
 refine seq_n hK11 (wp_seq_k fun K14 hK14 => ?_)
 refine wp_reset 104 [(0, (pt sb 0)), (1, (aV ([(sV f.src), (sV f.dst), (iV .i64 f.sid), (iV .i64 f.epoch), (iV .i64 f.seq), (lV Ab f.box.length cb)]).toArray)), (3, (pt g2 0)), (4, (iV .u64 0)), (5, (iV .i64 0)), (6, (lV none 0 0)), (7, (bV false)), (8, (pt g7 0)), (9, (iV .i64 0)), (10, (lV A13 ((wrV (contV k n b)).length) c13)), (11, (bV true)), (23, (bV false))] (fun x15 => ?_)
 refine reg_lit ?_
 refine wq_p 1 [(36, (lV A13 ((wrV (contV k n b)).length) c13))] ?_
 refine wq_to (some 37) (x_Read h13 45 [(lV A13 ((wrV (contV k n b)).length) c13)] (by kernel_rfl) (Read_any (contV k n b) (lV A13 ((wrV (contV k n b)).length) c13) _ (cont_right k n b) (cont_num b (by omega) (by omega)) (by omega) (OB.sb (h13.at_ 0 rfl)))) ?_
 rintro _ w16 ⟨F16, cs16, rfl, h16⟩
 obtain ⟨B, d, A3, c3, B0, d0, A0, c0, B1, d1, A1, c1, B2, d2, A2, c2, rfl, hsub, hxx, h17⟩ := h16.cont 0 rfl 1 rfl
 refine wq_p 3 [(39, (iV .i64 0)), (38, (aV ([(iV .i64 2), (iV .i64 1), (iV .u64 0), (lV B 0 d), (lV A3 3 c3)]).toArray)), (35, (Value.tuple #[(aV ([(iV .i64 2), (iV .i64 1), (iV .u64 0), (lV B 0 d), (lV A3 3 c3)]).toArray), (iV .i64 0)]))] ?_
 refine wq_to (some 12) (xN h17 100 ([(iV .i64 0), (iV .i64 0), (iV .u64 0), (lV none 0 0), (lV none 0 0)])) ?_
 rintro _ w18 ⟨g18, rfl, h18⟩
 refine wq_to none (xSs h18 0 100 (.tmp 12) (.tmp 38) 0 ([(iV .i64 2), (iV .i64 1), (iV .u64 0), (lV B 0 d), (lV A3 3 c3)]) ([(iV .i64 2), (iV .i64 1), (iV .u64 0), (lV B 0 d), (lV A3 3 c3)])) ?_
 rintro _ w19 h19
 refine wq_p 1 [(13, (iV .i64 0))] ?_
 refine wl_end rfl (seq_n hK14 (wp_seq_k fun K20 hK20 => wp_seq_k fun K21 hK21 => ?_))
 refine pR_go h19 52 (fun W => (rBlk g18 100 ([(iV .i64 2), (iV .i64 1), (iV .u64 0), (lV B 0 d), (lV A3 3 c3)])).Φ W /\ (rRV 5 A3 c3 ([[(iV .i64 0), (iV .i64 0), (iV .u64 ((k : Int))), (lV B0 0 d0), (lV A0 0 c0)], [(iV .i64 0), (iV .i64 0), (iV .u64 ((n : Int))), (lV B1 0 d1), (lV A1 0 c1)], [(iV .i64 1), (iV .i64 0), (iV .u64 0), (lV B2 b.length d2), (lV A2 0 c2)]])).Φ W /\ (rBlk g2 38 ([(sV f.src), (sV f.dst), (iV .i64 f.sid), (iV .i64 f.epoch), (iV .i64 f.seq), (lV Ab f.box.length cb)])).Φ W /\ True) [(41, [11], 0), (42, [40], 1), (43, [41], 2), (44, [13, 42], 4), (45, [43, 42], 12), (46, [42, 44], 20), (47, [45], 36), (48, [12, 46], 64), (49, [47, 46], 192), (50, [48, 46], 320), (51, [46, 49], 576), (52, [50], 1088), (53, [12, 51], 2048), (54, [52, 51], 6144), (55, [53, 51], 10240), (56, [54, 51], 18432), (57, [51, 55], 34816), (58, [56], 67584), (59, [12, 57], 131072), (60, [58, 57], 393216), (61, [59, 57], 655360), (62, [60, 57], 1179648), (63, [61, 57], 2228224), (64, [62, 57], 4325376), (65, [57, 63], 8519680), (66, [64], 16908288), (67, [12, 65], 33554432), (68, [66, 65], 100663296), (69, [67, 65], 167772160), (70, [68, 65], 301989888), (71, [69, 65], 570425344), (72, [70, 65], 1107296256), (73, [65, 71], 2181038080), (74, [72], 4328521728), (75, [12, 73], 8589934592), (76, [74, 73], 25769803776), (77, [75, 73], 42949672960), (78, [76, 73], 77309411328), (79, [77, 73], 146028888064), (80, [78, 73], 283467841536), (81, [73, 79], 558345748480), (82, [80], 1108101562368), (83, [12, 81], 2199023255552), (84, [82, 81], 6597069766656), (85, [83, 81], 10995116277760), (86, [84, 81], 19791209299968), (87, [85, 81], 37383395344384), (88, [3, 81], 2199023255552), (89, [87, 81], 142936511610880), (90, [88, 81], 283673999966208), (91, [86, 89, 81], 635517720854528), (92, [81, 90], 1128098930098176)] rfl (fun _ d _ _ _ h => by cases d <;> exact h) ?_
 intro hs22 w22 h22
 refine pR_p 44 [0, 1, 2, 3, 4, 5, 6, 7] [(47, (pt g18 1)), (46, (bV false)), (45, (bV false)), (44, (bV false)), (43, (iV .i64 0)), (42, (bV false)), (41, (bV false)), (40, (bV true))] 255 hs22 ⟨h22.at_ 0 rfl, h22.rd 0 rfl, h22.at_ 8 rfl, trivial⟩ ?_
 refine pR_v 8 (some 48) (iV .i64 1) 511 rfl hs22 ⟨h22.at_ 0 rfl, h22.rd 0 rfl, h22.at_ 8 rfl, trivial⟩ (fun W hW => eL hW.1 3 (.tmp 47) 1 _) ?_
 refine pR_p 39 [9, 10, 11, 12] [(52, (pt g18 4)), (51, (bV false)), (50, (bV false)), (49, (bV false))] 8191 hs22 ⟨h22.at_ 0 rfl, h22.rd 0 rfl, h22.at_ 8 rfl, trivial⟩ ?_
 refine pR_v 13 (some 53) (lV A3 3 c3) 16383 rfl hs22 ⟨h22.at_ 0 rfl, h22.rd 0 rfl, h22.at_ 8 rfl, trivial⟩ (fun W hW => eL hW.1 98 (.tmp 52) 4 _) ?_
 refine pR_p 33 [14, 15, 16, 17, 18] [(58, (pt g18 4)), (57, (bV false)), (56, (bV false)), (55, (bV false)), (54, (iV .i64 3))] 524287 hs22 ⟨h22.at_ 0 rfl, h22.rd 0 rfl, h22.at_ 8 rfl, trivial⟩ ?_
 refine pR_v 19 (some 59) (lV A3 3 c3) 1048575 rfl hs22 ⟨h22.at_ 0 rfl, h22.rd 0 rfl, h22.at_ 8 rfl, trivial⟩ (fun W hW => eL hW.1 98 (.tmp 58) 4 _) ?_
 refine pR_v 20 (some 60) (eAt A3 (0 * 5 + 0)) 2097151 rfl hs22 ⟨h22.at_ 0 rfl, h22.rd 0 rfl, h22.at_ 8 rfl, trivial⟩ (fun W hW => eIx (RV.lenIs (n := 3) (h22.rd 0 rfl) rfl).2 0 3 (RV.lenIs (n := 3) (h22.rd 0 rfl) rfl).1 (by decide) 98 (.tmp 59) (.const (iV .i64 0)) .i64 100) ?_
 refine pR_v 21 (some 61) (eAt A3 (0 * 5 + 0)) 4194303 rfl hs22 ⟨h22.at_ 0 rfl, h22.rd 0 rfl, h22.at_ 8 rfl, trivial⟩ (fun W hW => e_fldN (RV.lenIs (n := 3) (h22.rd 0 rfl) rfl).2 0 0 0 ([(iV .i64 0), (iV .i64 0), (iV .u64 ((k : Int))), (lV B0 0 d0), (lV A0 0 c0)]) rfl (.tmp 60) (by kernel_rfl) (fun _ _ => by kernel_rfl) (fun _ => rfl) _) ?_
 refine pR_v 22 (some 62) (iV .i64 0) 8388607 rfl hs22 ⟨h22.at_ 0 rfl, h22.rd 0 rfl, h22.at_ 8 rfl, trivial⟩ (fun W hW => eEl (RV.lenIs (n := 3) hW.2.1 rfl).2 0 0 ([(iV .i64 0), (iV .i64 0), (iV .u64 ((k : Int))), (lV B0 0 d0), (lV A0 0 c0)]) rfl 3 (.tmp 61) (iV .i64 0)) ?_
 refine pR_p 25 [23, 24, 25, 26] [(66, (pt g18 4)), (65, (bV false)), (64, (bV false)), (63, (bV false))] 134217727 hs22 ⟨h22.at_ 0 rfl, h22.rd 0 rfl, h22.at_ 8 rfl, trivial⟩ ?_
 refine pR_v 27 (some 67) (lV A3 3 c3) 268435455 rfl hs22 ⟨h22.at_ 0 rfl, h22.rd 0 rfl, h22.at_ 8 rfl, trivial⟩ (fun W hW => eL hW.1 98 (.tmp 66) 4 _) ?_
 refine pR_v 28 (some 68) (eAt A3 (1 * 5 + 0)) 536870911 rfl hs22 ⟨h22.at_ 0 rfl, h22.rd 0 rfl, h22.at_ 8 rfl, trivial⟩ (fun W hW => eIx (RV.lenIs (n := 3) (h22.rd 0 rfl) rfl).2 1 3 (RV.lenIs (n := 3) (h22.rd 0 rfl) rfl).1 (by decide) 98 (.tmp 67) (.const (iV .i64 1)) .i64 100) ?_
 refine pR_v 29 (some 69) (eAt A3 (1 * 5 + 0)) 1073741823 rfl hs22 ⟨h22.at_ 0 rfl, h22.rd 0 rfl, h22.at_ 8 rfl, trivial⟩ (fun W hW => e_fldN (RV.lenIs (n := 3) (h22.rd 0 rfl) rfl).2 1 0 0 ([(iV .i64 0), (iV .i64 0), (iV .u64 ((n : Int))), (lV B1 0 d1), (lV A1 0 c1)]) rfl (.tmp 68) (by kernel_rfl) (fun _ _ => by kernel_rfl) (fun _ => rfl) _) ?_
 refine pR_v 30 (some 70) (iV .i64 0) 2147483647 rfl hs22 ⟨h22.at_ 0 rfl, h22.rd 0 rfl, h22.at_ 8 rfl, trivial⟩ (fun W hW => eEl (RV.lenIs (n := 3) hW.2.1 rfl).2 1 0 ([(iV .i64 0), (iV .i64 0), (iV .u64 ((n : Int))), (lV B1 0 d1), (lV A1 0 c1)]) rfl 3 (.tmp 69) (iV .i64 0)) ?_
 refine pR_p 17 [31, 32, 33, 34] [(74, (pt g18 4)), (73, (bV false)), (72, (bV false)), (71, (bV false))] 34359738367 hs22 ⟨h22.at_ 0 rfl, h22.rd 0 rfl, h22.at_ 8 rfl, trivial⟩ ?_
 refine pR_v 35 (some 75) (lV A3 3 c3) 68719476735 rfl hs22 ⟨h22.at_ 0 rfl, h22.rd 0 rfl, h22.at_ 8 rfl, trivial⟩ (fun W hW => eL hW.1 98 (.tmp 74) 4 _) ?_
 refine pR_v 36 (some 76) (eAt A3 (2 * 5 + 0)) 137438953471 rfl hs22 ⟨h22.at_ 0 rfl, h22.rd 0 rfl, h22.at_ 8 rfl, trivial⟩ (fun W hW => eIx (RV.lenIs (n := 3) (h22.rd 0 rfl) rfl).2 2 3 (RV.lenIs (n := 3) (h22.rd 0 rfl) rfl).1 (by decide) 98 (.tmp 75) (.const (iV .i64 2)) .i64 100) ?_
 refine pR_v 37 (some 77) (eAt A3 (2 * 5 + 0)) 274877906943 rfl hs22 ⟨h22.at_ 0 rfl, h22.rd 0 rfl, h22.at_ 8 rfl, trivial⟩ (fun W hW => e_fldN (RV.lenIs (n := 3) (h22.rd 0 rfl) rfl).2 2 0 0 ([(iV .i64 1), (iV .i64 0), (iV .u64 0), (lV B2 b.length d2), (lV A2 0 c2)]) rfl (.tmp 76) (by kernel_rfl) (fun _ _ => by kernel_rfl) (fun _ => rfl) _) ?_
 refine pR_v 38 (some 78) (iV .i64 1) 549755813887 rfl hs22 ⟨h22.at_ 0 rfl, h22.rd 0 rfl, h22.at_ 8 rfl, trivial⟩ (fun W hW => eEl (RV.lenIs (n := 3) hW.2.1 rfl).2 2 0 ([(iV .i64 1), (iV .i64 0), (iV .u64 0), (lV B2 b.length d2), (lV A2 0 c2)]) rfl 3 (.tmp 77) (iV .i64 1)) ?_
 refine pR_p 8 [39, 40, 41, 42, 47] [(87, (pt g2 4)), (82, (pt g18 4)), (81, (bV false)), (80, (bV false)), (79, (bV false))] 149533581377535 hs22 ⟨h22.at_ 0 rfl, h22.rd 0 rfl, h22.at_ 8 rfl, trivial⟩ ?_
 refine pR_v 43 (some 83) (lV A3 3 c3) 158329674399743 rfl hs22 ⟨h22.at_ 0 rfl, h22.rd 0 rfl, h22.at_ 8 rfl, trivial⟩ (fun W hW => eL hW.1 98 (.tmp 82) 4 _) ?_
 refine pR_v 44 (some 84) (eAt A3 (1 * 5 + 0)) 175921860444159 rfl hs22 ⟨h22.at_ 0 rfl, h22.rd 0 rfl, h22.at_ 8 rfl, trivial⟩ (fun W hW => eIx (RV.lenIs (n := 3) (h22.rd 0 rfl) rfl).2 1 3 (RV.lenIs (n := 3) (h22.rd 0 rfl) rfl).1 (by decide) 98 (.tmp 83) (.const (iV .i64 1)) .i64 100) ?_
 refine pR_v 45 (some 85) (eAt A3 (1 * 5 + 2)) 211106232532991 rfl hs22 ⟨h22.at_ 0 rfl, h22.rd 0 rfl, h22.at_ 8 rfl, trivial⟩ (fun W hW => e_fldN (RV.lenIs (n := 3) (h22.rd 0 rfl) rfl).2 1 0 2 ([(iV .i64 0), (iV .i64 0), (iV .u64 ((n : Int))), (lV B1 0 d1), (lV A1 0 c1)]) rfl (.tmp 84) (by kernel_rfl) (fun _ _ => by kernel_rfl) (fun _ => rfl) _) ?_
 refine pR_v 46 (some 86) (iV .u64 ((n : Int))) 281474976710655 rfl hs22 ⟨h22.at_ 0 rfl, h22.rd 0 rfl, h22.at_ 8 rfl, trivial⟩ (fun W hW => eEl (RV.lenIs (n := 3) hW.2.1 rfl).2 1 2 ([(iV .i64 0), (iV .i64 0), (iV .u64 ((n : Int))), (lV B1 0 d1), (lV A1 0 c1)]) rfl 68 (.tmp 85) (iV .u64 ((n : Int)))) ?_
 refine pR_v 48 (some 88) (iV .i64 f.seq) 562949953421311 rfl hs22 ⟨h22.at_ 0 rfl, h22.rd 0 rfl, h22.at_ 8 rfl, trivial⟩ (fun W hW => eL hW.2.2.1 2 (.tmp 87) 4 _) ?_
 refine pR_v 49 (some 89) (iV .u64 ((IntKind.u64.wrap f.seq))) 1125899906842623 rfl hs22 ⟨h22.at_ 0 rfl, h22.rd 0 rfl, h22.at_ 8 rfl, trivial⟩ (fun W hW => eqI (iV .u64 ((IntKind.u64.wrap f.seq))) rfl) ?_
 refine pR_v 50 (some 90) (bV true) 2251799813685247 rfl hs22 ⟨h22.at_ 0 rfl, h22.rd 0 rfl, h22.at_ 8 rfl, trivial⟩ (fun W hW => eqI (bV (!(((n : Int) == (IntKind.u64.wrap f.seq))))) hwr) ?_
 refine pR_p 0 [51] [(91, (bV true))] 4503599627370495 hs22 ⟨h22.at_ 0 rfl, h22.rd 0 rfl, h22.at_ 8 rfl, trivial⟩ ?_
 refine pR_done hs22 ?_ _
 refine seq_n hK21 (cT (wp_seq_k fun K23 hK23 => reg_lit ?_))
 refine wq_p 4 [(7, (bV false)), (6, (lV none 0 0)), (5, (iV .i64 0)), (4, (iV .u64 0))] ?_
 refine wl_end rfl (seq_n hK23 (wp_ret (seq_r ?_)))
 refine post_4 rfl (by kernel_rfl) (rtm (iV .u64 0)) (rtm (iV .i64 0)) (rtm (lV none 0 0)) (rtm (bV false)) ?_
 have h24 := (show Hp _ _ _ _ (lSes tb sb c1_4 c2_4 A_4 cap_4 xs_4 fb_4 bx_4 ((Ses.mk me peer sid (kl Ko) eo (kl Ki) ei qu sent got fr false)) ++ [rBlk g18 100 ([(iV .i64 2), (iV .i64 1), (iV .u64 0), (lV B 0 d), (lV A3 3 c3)]), rOB ((lV A13 ((wrV (contV k n b)).length) c13)) (wrV (contV k n b)), rBlk g7 59 (vb (kl K6)), rBlk g2 38 ([(sV f.src), (sV f.dst), (iV .i64 f.sid), (iV .i64 f.epoch), (iV .i64 f.seq), (lV Ab f.box.length cb)]), rTab F6 tb s6]) from h22.sel [3, 4, 5, 6, 7, 0, 1, 2, 8, 9] [0, 1, 2, 3] rfl rfl rfl).closeS (L := ((lV B2 b.length d2, b) :: L)) ⟨hS_4.q.mono hsub, hS_4.f.mono hsub, hS_4.ko, hS_4.ki⟩
 subst hs6
 exact ⟨_, _, _, _, rfl, rfl, (hxx _ (LExt.refl (fun q => F q ∨ G q) w L)), h24.sel [5, 0] [1] rfl rfl rfl⟩
theorem sopened_yes {F G : Nat -> Prop} {tb sb : Nat} {s : STab} {L : List (Value × Bytes)} {S : Ses} {w : World} (hT : (rTab F tb s).Φ w) (hv : (rS G tb sb L S).Φ w) (hL : (rF L).Φ w) (hts : (rTab F tb s).dj (rS G tb sb L S)) (hdt : (rF L).dj (rTab F tb s)) (hd : (rF L).dj (rS G tb sb L S)) (f : Frm) (Ab : Option Addr) (cb : Nat) (hmf : (lV Ab f.box.length cb, f.box) ∈ L) (ho : S.over = false) (hnk : s.keys.length < 900000) (hnb : s.boxes.length < 900000) (hbl : ∀ b ∈ s.boxes, b.body.length <= 1000000) (k n : Nat) (b : Bytes) (hk : k < 1000) (hn : n < 1000000) (hb : b.length <= 2048) (hop : (openT s S).open_ (openK s S) 14 f.box = some (wrV (contV k n b))) (hwr : bV (!((n : Int) == IntKind.u64.wrap f.seq)) = bV false) :
   Calls Try.prog 33 #[pt sb 0, .agg (f.cells (.slice Ab f.box.length cb)).toArray] w (Post2 F G tb sb w L (openT s S) S (fun L' u => ∃ B d, u = .tuple #[.int .u64 (k : Int), .int .i64 f.seq, .slice B b.length d, .bool true] /\ (lV B b.length d, b) ∈ L')) := by
 have h00 := twoF hT hv hL hts hdt hd
 obtain ⟨me, peer, sid, ko, eo, ki, ei, qu, sent, got, fr, ov⟩ := S
 obtain rfl : ov = false := ho
 obtain ⟨Ko, hKo⟩ := kl_of ko (rS_ko hv)
 obtain ⟨Ki, hKi⟩ := kl_of ki (rS_ki hv)
 subst hKo; subst hKi
 simp only [openT, openK] at hop
 have hcl := cont_len k n b
 have h0 := h00
 refine enter 102 Try.func33 rfl rfl ?_
 refine wp_reset 104 [(0, (pt sb 0)), (1, (aV ([(sV f.src), (sV f.dst), (iV .i64 f.sid), (iV .i64 f.epoch), (iV .i64 f.seq), (lV Ab f.box.length cb)]).toArray))] (fun x0 => ?_)
 refine wp_seq_k fun K1 hK1 => reg_lit ?_
 refine wq_to (some 3) (xN h0 38 ([(sV f.src), (sV f.dst), (iV .i64 f.sid), (iV .i64 f.epoch), (iV .i64 f.seq), (lV Ab f.box.length cb)])) ?_
 rintro _ w2 ⟨g2, rfl, h2⟩
 refine wq_p 4 [(7, (bV false)), (6, (lV none 0 0)), (5, (iV .i64 0)), (4, (iV .u64 0))] ?_
 refine wl_end rfl (seq_n hK1 (wp_seq_k fun K3 hK3 => ?_))
 obtain ⟨c1_4, c2_4, A_4, cap_4, xs_4, fb_4, bx_4, hS_4, hG_4, h4⟩ := h2.openS 2 rfl
 clear hG_4
 have h5 := h4.roF 0 rfl hmf
 refine reg_lit ?_
 refine wq_p 3 [(17, (pt sb 5)), (16, (pt sb 0)), (15, (pt sb 0))] (wq_v (some 18) (pt c2_4 0) (eL (h5.at_ 0 rfl) 73 (.tmp 17) 5 _) ?_)
 refine wq_to (some 19) (x_rkey h5 6 2 rfl rfl (by kernel_rfl) (by kernel_rfl) (by omega)) ?_
 rintro _ w6 ⟨K6, F6, s6, rfl, hK6, hs6, h6⟩
 have e6 := made_boxes hs6
 have hnb2 : s6.boxes.length < 1000000 := by rw [e6.1]; omega
 have hbl2 : ∀ b ∈ s6.boxes, b.body.length <= 1000000 := by rw [e6.1]; exact hbl
 refine wq_p 3 [(21, (iV .i64 0)), (20, (aV (vb (kl K6)).toArray)), (14, (Value.tuple #[(aV (vb (kl K6)).toArray), (iV .i64 0)]))] ?_
 refine wq_to (some 8) (xN h6 59 (vb (List.replicate 16 0))) ?_
 rintro _ w7 ⟨g7, rfl, h7⟩
 refine wq_to none (xSs h7 0 59 (.tmp 8) (.tmp 20) 0 (vb (kl K6)) (vb (kl K6))) ?_
 rintro _ w8 h8
 refine wq_p 1 [(9, (iV .i64 0))] ?_
 refine wl_end rfl (seq_n hK3 (wp_seq_k fun K9 hK9 => wp_seq_k fun K10 hK10 => reg_lit ?_))
 refine wq_p 2 [(23, (bV false)), (22, (iV .i64 0))] ?_
 refine wl_end rfl (seq_n hK10 (cF (wp_skip (seq_n hK9 (wp_seq_k fun K11 hK11 => ?_)))))
 refine pR_go h8 12 (fun W => (rBlk sb 77 ([(Value.iface 28 (pt tb 0)), (sV me), (sV peer), (iV .i64 sid), (pt c1_4 0), (pt c2_4 0), (lV A_4 qu.length cap_4), (iV .i64 ((sent : Int))), (iV .i64 ((got : Int))), (frV fb_4), (bV false)])).Φ W /\ (rBlk g7 59 (vb (kl K6))).Φ W /\ (rBlk g2 38 ([(sV f.src), (sV f.dst), (iV .i64 f.sid), (iV .i64 f.epoch), (iV .i64 f.seq), (lV Ab f.box.length cb)])).Φ W /\ True) [(26, [0], 0), (27, [25], 1), (28, [26], 2), (29, [27], 4), (30, [8], 0), (31, [3], 0), (32, [30], 32), (33, [28, 29, 31], 88), (25, [32], 128), (34, [24], 256), (35, [24], 256), (11, [33], 1023), (12, [34], 4095)] rfl (fun _ d _ _ _ h => by cases d <;> exact h) ?_
 intro hs12 w12 h12
 refine pR_p 9 [0, 1, 2, 5] [(30, (pt g2 5)), (27, (pt sb 0)), (26, (pt sb 0)), (25, (pt sb 0))] 39 hs12 ⟨h12.at_ 1 rfl, h12.at_ 0 rfl, h12.at_ 6 rfl, trivial⟩ ?_
 refine pR_v 3 (some 28) (Value.iface 28 (pt tb 0)) 47 rfl hs12 ⟨h12.at_ 1 rfl, h12.at_ 0 rfl, h12.at_ 6 rfl, trivial⟩ (fun W hW => eL hW.1 72 (.tmp 27) 0 _) ?_
 refine pR_v 4 (some 29) (aV (vb (kl K6)).toArray) 63 rfl hs12 ⟨h12.at_ 1 rfl, h12.at_ 0 rfl, h12.at_ 6 rfl, trivial⟩ (fun W hW => eLs hW.2.1 59 (.tmp 8) 0 (vb (kl K6))) ?_
 refine pR_v 6 (some 31) (lV Ab f.box.length cb) 127 rfl hs12 ⟨h12.at_ 1 rfl, h12.at_ 0 rfl, h12.at_ 6 rfl, trivial⟩ (fun W hW => eL hW.2.2.1 26 (.tmp 30) 5 _) ?_
 refine pR_to 7 (some 32) 255 rfl hs12 (x_open h12 7 rfl K6 14 f.box (lV Ab f.box.length cb) ((some (wrV (contV k n b)))) (by kernel_rfl) (h12.rd 0 rfl) hbl2 (h12.tabW 7 rfl).1 hnb2 (by rw [hK6, hs6]; exact hop)) ?_
 rintro _ w13 ⟨A13, c13, rfl, h13⟩
 refine ⟨fun _ => ⟨h13.at_ 2 rfl, h13.at_ 1 rfl, h13.at_ 7 rfl, trivial⟩, ?_⟩
 refine pR_p 1 [8, 9, 10, 11] [(10, (lV A13 ((wrV (contV k n b)).length) c13)), (34, (bV true)), (33, (lV A13 ((wrV (contV k n b)).length) c13)), (24, (Value.tuple #[(lV A13 ((wrV (contV k n b)).length) c13), (bV true)]))] 4095 hs12 ⟨h13.at_ 2 rfl, h13.at_ 1 rfl, h13.at_ 7 rfl, trivial⟩ ?_
 refine pR_to 12 (some 11) 8191 rfl hs12 (OpTo.run (bV true) (pureOp_run (by kernel_rfl) _) (R := fun v w => v = (bV true) /\ w13 = w) ⟨rfl, rfl⟩) ?_
 rintro _ _ ⟨rfl, rfl⟩
 refine ⟨fun h => absurd h (by decide), ?_⟩
 refine pR_done hs12 ?_ _
 refine seq_n hK11 (wp_seq_k fun K14 hK14 => ?_)
 refine wp_reset 104 [(0, (pt sb 0)), (1, (aV ([(sV f.src), (sV f.dst), (iV .i64 f.sid), (iV .i64 f.epoch), (iV .i64 f.seq), (lV Ab f.box.length cb)]).toArray)), (3, (pt g2 0)), (4, (iV .u64 0)), (5, (iV .i64 0)), (6, (lV none 0 0)), (7, (bV false)), (8, (pt g7 0)), (9, (iV .i64 0)), (10, (lV A13 ((wrV (contV k n b)).length) c13)), (11, (bV true)), (23, (bV false))] (fun x15 => ?_)
 refine reg_lit ?_
 refine wq_p 1 [(36, (lV A13 ((wrV (contV k n b)).length) c13))] ?_
 refine wq_to (some 37) (x_Read h13 45 [(lV A13 ((wrV (contV k n b)).length) c13)] (by kernel_rfl) (Read_any (contV k n b) (lV A13 ((wrV (contV k n b)).length) c13) _ (cont_right k n b) (cont_num b (by omega) (by omega)) (by omega) (OB.sb (h13.at_ 0 rfl)))) ?_
 rintro _ w16 ⟨F16, cs16, rfl, h16⟩
 obtain ⟨B, d, A3, c3, B0, d0, A0, c0, B1, d1, A1, c1, B2, d2, A2, c2, rfl, hsub, hxx, h17⟩ := h16.cont 0 rfl 1 rfl
 refine wq_p 3 [(39, (iV .i64 0)), (38, (aV ([(iV .i64 2), (iV .i64 1), (iV .u64 0), (lV B 0 d), (lV A3 3 c3)]).toArray)), (35, (Value.tuple #[(aV ([(iV .i64 2), (iV .i64 1), (iV .u64 0), (lV B 0 d), (lV A3 3 c3)]).toArray), (iV .i64 0)]))] ?_
 refine wq_to (some 12) (xN h17 100 ([(iV .i64 0), (iV .i64 0), (iV .u64 0), (lV none 0 0), (lV none 0 0)])) ?_
 rintro _ w18 ⟨g18, rfl, h18⟩
 refine wq_to none (xSs h18 0 100 (.tmp 12) (.tmp 38) 0 ([(iV .i64 2), (iV .i64 1), (iV .u64 0), (lV B 0 d), (lV A3 3 c3)]) ([(iV .i64 2), (iV .i64 1), (iV .u64 0), (lV B 0 d), (lV A3 3 c3)])) ?_
 rintro _ w19 h19
 refine wq_p 1 [(13, (iV .i64 0))] ?_
 refine wl_end rfl (seq_n hK14 (wp_seq_k fun K20 hK20 => wp_seq_k fun K21 hK21 => ?_))
 refine pR_go h19 52 (fun W => (rBlk g18 100 ([(iV .i64 2), (iV .i64 1), (iV .u64 0), (lV B 0 d), (lV A3 3 c3)])).Φ W /\ (rRV 5 A3 c3 ([[(iV .i64 0), (iV .i64 0), (iV .u64 ((k : Int))), (lV B0 0 d0), (lV A0 0 c0)], [(iV .i64 0), (iV .i64 0), (iV .u64 ((n : Int))), (lV B1 0 d1), (lV A1 0 c1)], [(iV .i64 1), (iV .i64 0), (iV .u64 0), (lV B2 b.length d2), (lV A2 0 c2)]])).Φ W /\ (rBlk g2 38 ([(sV f.src), (sV f.dst), (iV .i64 f.sid), (iV .i64 f.epoch), (iV .i64 f.seq), (lV Ab f.box.length cb)])).Φ W /\ True) [(41, [11], 0), (42, [40], 1), (43, [41], 2), (44, [13, 42], 4), (45, [43, 42], 12), (46, [42, 44], 20), (47, [45], 36), (48, [12, 46], 64), (49, [47, 46], 192), (50, [48, 46], 320), (51, [46, 49], 576), (52, [50], 1088), (53, [12, 51], 2048), (54, [52, 51], 6144), (55, [53, 51], 10240), (56, [54, 51], 18432), (57, [51, 55], 34816), (58, [56], 67584), (59, [12, 57], 131072), (60, [58, 57], 393216), (61, [59, 57], 655360), (62, [60, 57], 1179648), (63, [61, 57], 2228224), (64, [62, 57], 4325376), (65, [57, 63], 8519680), (66, [64], 16908288), (67, [12, 65], 33554432), (68, [66, 65], 100663296), (69, [67, 65], 167772160), (70, [68, 65], 301989888), (71, [69, 65], 570425344), (72, [70, 65], 1107296256), (73, [65, 71], 2181038080), (74, [72], 4328521728), (75, [12, 73], 8589934592), (76, [74, 73], 25769803776), (77, [75, 73], 42949672960), (78, [76, 73], 77309411328), (79, [77, 73], 146028888064), (80, [78, 73], 283467841536), (81, [73, 79], 558345748480), (82, [80], 1108101562368), (83, [12, 81], 2199023255552), (84, [82, 81], 6597069766656), (85, [83, 81], 10995116277760), (86, [84, 81], 19791209299968), (87, [85, 81], 37383395344384), (88, [3, 81], 2199023255552), (89, [87, 81], 142936511610880), (90, [88, 81], 283673999966208), (91, [86, 89, 81], 635517720854528), (92, [81, 90], 1128098930098176)] rfl (fun _ d _ _ _ h => by cases d <;> exact h) ?_
 intro hs22 w22 h22
 refine pR_p 44 [0, 1, 2, 3, 4, 5, 6, 7] [(47, (pt g18 1)), (46, (bV false)), (45, (bV false)), (44, (bV false)), (43, (iV .i64 0)), (42, (bV false)), (41, (bV false)), (40, (bV true))] 255 hs22 ⟨h22.at_ 0 rfl, h22.rd 0 rfl, h22.at_ 8 rfl, trivial⟩ ?_
 refine pR_v 8 (some 48) (iV .i64 1) 511 rfl hs22 ⟨h22.at_ 0 rfl, h22.rd 0 rfl, h22.at_ 8 rfl, trivial⟩ (fun W hW => eL hW.1 3 (.tmp 47) 1 _) ?_
 refine pR_p 39 [9, 10, 11, 12] [(52, (pt g18 4)), (51, (bV false)), (50, (bV false)), (49, (bV false))] 8191 hs22 ⟨h22.at_ 0 rfl, h22.rd 0 rfl, h22.at_ 8 rfl, trivial⟩ ?_
 refine pR_v 13 (some 53) (lV A3 3 c3) 16383 rfl hs22 ⟨h22.at_ 0 rfl, h22.rd 0 rfl, h22.at_ 8 rfl, trivial⟩ (fun W hW => eL hW.1 98 (.tmp 52) 4 _) ?_
 refine pR_p 33 [14, 15, 16, 17, 18] [(58, (pt g18 4)), (57, (bV false)), (56, (bV false)), (55, (bV false)), (54, (iV .i64 3))] 524287 hs22 ⟨h22.at_ 0 rfl, h22.rd 0 rfl, h22.at_ 8 rfl, trivial⟩ ?_
 refine pR_v 19 (some 59) (lV A3 3 c3) 1048575 rfl hs22 ⟨h22.at_ 0 rfl, h22.rd 0 rfl, h22.at_ 8 rfl, trivial⟩ (fun W hW => eL hW.1 98 (.tmp 58) 4 _) ?_
 refine pR_v 20 (some 60) (eAt A3 (0 * 5 + 0)) 2097151 rfl hs22 ⟨h22.at_ 0 rfl, h22.rd 0 rfl, h22.at_ 8 rfl, trivial⟩ (fun W hW => eIx (RV.lenIs (n := 3) (h22.rd 0 rfl) rfl).2 0 3 (RV.lenIs (n := 3) (h22.rd 0 rfl) rfl).1 (by decide) 98 (.tmp 59) (.const (iV .i64 0)) .i64 100) ?_
 refine pR_v 21 (some 61) (eAt A3 (0 * 5 + 0)) 4194303 rfl hs22 ⟨h22.at_ 0 rfl, h22.rd 0 rfl, h22.at_ 8 rfl, trivial⟩ (fun W hW => e_fldN (RV.lenIs (n := 3) (h22.rd 0 rfl) rfl).2 0 0 0 ([(iV .i64 0), (iV .i64 0), (iV .u64 ((k : Int))), (lV B0 0 d0), (lV A0 0 c0)]) rfl (.tmp 60) (by kernel_rfl) (fun _ _ => by kernel_rfl) (fun _ => rfl) _) ?_
 refine pR_v 22 (some 62) (iV .i64 0) 8388607 rfl hs22 ⟨h22.at_ 0 rfl, h22.rd 0 rfl, h22.at_ 8 rfl, trivial⟩ (fun W hW => eEl (RV.lenIs (n := 3) hW.2.1 rfl).2 0 0 ([(iV .i64 0), (iV .i64 0), (iV .u64 ((k : Int))), (lV B0 0 d0), (lV A0 0 c0)]) rfl 3 (.tmp 61) (iV .i64 0)) ?_
 refine pR_p 25 [23, 24, 25, 26] [(66, (pt g18 4)), (65, (bV false)), (64, (bV false)), (63, (bV false))] 134217727 hs22 ⟨h22.at_ 0 rfl, h22.rd 0 rfl, h22.at_ 8 rfl, trivial⟩ ?_
 refine pR_v 27 (some 67) (lV A3 3 c3) 268435455 rfl hs22 ⟨h22.at_ 0 rfl, h22.rd 0 rfl, h22.at_ 8 rfl, trivial⟩ (fun W hW => eL hW.1 98 (.tmp 66) 4 _) ?_
 refine pR_v 28 (some 68) (eAt A3 (1 * 5 + 0)) 536870911 rfl hs22 ⟨h22.at_ 0 rfl, h22.rd 0 rfl, h22.at_ 8 rfl, trivial⟩ (fun W hW => eIx (RV.lenIs (n := 3) (h22.rd 0 rfl) rfl).2 1 3 (RV.lenIs (n := 3) (h22.rd 0 rfl) rfl).1 (by decide) 98 (.tmp 67) (.const (iV .i64 1)) .i64 100) ?_
 refine pR_v 29 (some 69) (eAt A3 (1 * 5 + 0)) 1073741823 rfl hs22 ⟨h22.at_ 0 rfl, h22.rd 0 rfl, h22.at_ 8 rfl, trivial⟩ (fun W hW => e_fldN (RV.lenIs (n := 3) (h22.rd 0 rfl) rfl).2 1 0 0 ([(iV .i64 0), (iV .i64 0), (iV .u64 ((n : Int))), (lV B1 0 d1), (lV A1 0 c1)]) rfl (.tmp 68) (by kernel_rfl) (fun _ _ => by kernel_rfl) (fun _ => rfl) _) ?_
 refine pR_v 30 (some 70) (iV .i64 0) 2147483647 rfl hs22 ⟨h22.at_ 0 rfl, h22.rd 0 rfl, h22.at_ 8 rfl, trivial⟩ (fun W hW => eEl (RV.lenIs (n := 3) hW.2.1 rfl).2 1 0 ([(iV .i64 0), (iV .i64 0), (iV .u64 ((n : Int))), (lV B1 0 d1), (lV A1 0 c1)]) rfl 3 (.tmp 69) (iV .i64 0)) ?_
 refine pR_p 17 [31, 32, 33, 34] [(74, (pt g18 4)), (73, (bV false)), (72, (bV false)), (71, (bV false))] 34359738367 hs22 ⟨h22.at_ 0 rfl, h22.rd 0 rfl, h22.at_ 8 rfl, trivial⟩ ?_
 refine pR_v 35 (some 75) (lV A3 3 c3) 68719476735 rfl hs22 ⟨h22.at_ 0 rfl, h22.rd 0 rfl, h22.at_ 8 rfl, trivial⟩ (fun W hW => eL hW.1 98 (.tmp 74) 4 _) ?_
 refine pR_v 36 (some 76) (eAt A3 (2 * 5 + 0)) 137438953471 rfl hs22 ⟨h22.at_ 0 rfl, h22.rd 0 rfl, h22.at_ 8 rfl, trivial⟩ (fun W hW => eIx (RV.lenIs (n := 3) (h22.rd 0 rfl) rfl).2 2 3 (RV.lenIs (n := 3) (h22.rd 0 rfl) rfl).1 (by decide) 98 (.tmp 75) (.const (iV .i64 2)) .i64 100) ?_
 refine pR_v 37 (some 77) (eAt A3 (2 * 5 + 0)) 274877906943 rfl hs22 ⟨h22.at_ 0 rfl, h22.rd 0 rfl, h22.at_ 8 rfl, trivial⟩ (fun W hW => e_fldN (RV.lenIs (n := 3) (h22.rd 0 rfl) rfl).2 2 0 0 ([(iV .i64 1), (iV .i64 0), (iV .u64 0), (lV B2 b.length d2), (lV A2 0 c2)]) rfl (.tmp 76) (by kernel_rfl) (fun _ _ => by kernel_rfl) (fun _ => rfl) _) ?_
 refine pR_v 38 (some 78) (iV .i64 1) 549755813887 rfl hs22 ⟨h22.at_ 0 rfl, h22.rd 0 rfl, h22.at_ 8 rfl, trivial⟩ (fun W hW => eEl (RV.lenIs (n := 3) hW.2.1 rfl).2 2 0 ([(iV .i64 1), (iV .i64 0), (iV .u64 0), (lV B2 b.length d2), (lV A2 0 c2)]) rfl 3 (.tmp 77) (iV .i64 1)) ?_
 refine pR_p 8 [39, 40, 41, 42, 47] [(87, (pt g2 4)), (82, (pt g18 4)), (81, (bV false)), (80, (bV false)), (79, (bV false))] 149533581377535 hs22 ⟨h22.at_ 0 rfl, h22.rd 0 rfl, h22.at_ 8 rfl, trivial⟩ ?_
 refine pR_v 43 (some 83) (lV A3 3 c3) 158329674399743 rfl hs22 ⟨h22.at_ 0 rfl, h22.rd 0 rfl, h22.at_ 8 rfl, trivial⟩ (fun W hW => eL hW.1 98 (.tmp 82) 4 _) ?_
 refine pR_v 44 (some 84) (eAt A3 (1 * 5 + 0)) 175921860444159 rfl hs22 ⟨h22.at_ 0 rfl, h22.rd 0 rfl, h22.at_ 8 rfl, trivial⟩ (fun W hW => eIx (RV.lenIs (n := 3) (h22.rd 0 rfl) rfl).2 1 3 (RV.lenIs (n := 3) (h22.rd 0 rfl) rfl).1 (by decide) 98 (.tmp 83) (.const (iV .i64 1)) .i64 100) ?_
 refine pR_v 45 (some 85) (eAt A3 (1 * 5 + 2)) 211106232532991 rfl hs22 ⟨h22.at_ 0 rfl, h22.rd 0 rfl, h22.at_ 8 rfl, trivial⟩ (fun W hW => e_fldN (RV.lenIs (n := 3) (h22.rd 0 rfl) rfl).2 1 0 2 ([(iV .i64 0), (iV .i64 0), (iV .u64 ((n : Int))), (lV B1 0 d1), (lV A1 0 c1)]) rfl (.tmp 84) (by kernel_rfl) (fun _ _ => by kernel_rfl) (fun _ => rfl) _) ?_
 refine pR_v 46 (some 86) (iV .u64 ((n : Int))) 281474976710655 rfl hs22 ⟨h22.at_ 0 rfl, h22.rd 0 rfl, h22.at_ 8 rfl, trivial⟩ (fun W hW => eEl (RV.lenIs (n := 3) hW.2.1 rfl).2 1 2 ([(iV .i64 0), (iV .i64 0), (iV .u64 ((n : Int))), (lV B1 0 d1), (lV A1 0 c1)]) rfl 68 (.tmp 85) (iV .u64 ((n : Int)))) ?_
 refine pR_v 48 (some 88) (iV .i64 f.seq) 562949953421311 rfl hs22 ⟨h22.at_ 0 rfl, h22.rd 0 rfl, h22.at_ 8 rfl, trivial⟩ (fun W hW => eL hW.2.2.1 2 (.tmp 87) 4 _) ?_
 refine pR_v 49 (some 89) (iV .u64 ((IntKind.u64.wrap f.seq))) 1125899906842623 rfl hs22 ⟨h22.at_ 0 rfl, h22.rd 0 rfl, h22.at_ 8 rfl, trivial⟩ (fun W hW => eqI (iV .u64 ((IntKind.u64.wrap f.seq))) rfl) ?_
 refine pR_v 50 (some 90) (bV false) 2251799813685247 rfl hs22 ⟨h22.at_ 0 rfl, h22.rd 0 rfl, h22.at_ 8 rfl, trivial⟩ (fun W hW => eqI (bV (!(((n : Int) == (IntKind.u64.wrap f.seq))))) hwr) ?_
 refine pR_p 0 [51] [(91, (bV false))] 4503599627370495 hs22 ⟨h22.at_ 0 rfl, h22.rd 0 rfl, h22.at_ 8 rfl, trivial⟩ ?_
 refine pR_done hs22 ?_ _
 refine seq_n hK21 (cF (wp_skip (seq_n hK20 (wp_seq_k fun K23 hK23 => ?_))))
 refine pR_go h22 14 (fun W => (rBlk g18 100 ([(iV .i64 2), (iV .i64 1), (iV .u64 0), (lV B 0 d), (lV A3 3 c3)])).Φ W /\ (rRV 5 A3 c3 ([[(iV .i64 0), (iV .i64 0), (iV .u64 ((k : Int))), (lV B0 0 d0), (lV A0 0 c0)], [(iV .i64 0), (iV .i64 0), (iV .u64 ((n : Int))), (lV B1 0 d1), (lV A1 0 c1)], [(iV .i64 1), (iV .i64 0), (iV .u64 0), (lV B2 b.length d2), (lV A2 0 c2)]])).Φ W /\ (rBlk g2 38 ([(sV f.src), (sV f.dst), (iV .i64 f.sid), (iV .i64 f.epoch), (iV .i64 f.seq), (lV Ab f.box.length cb)])).Φ W /\ True) [(93, [12], 0), (94, [92], 1), (95, [93], 2), (96, [94], 4), (97, [95], 8), (98, [3], 0), (99, [97], 32), (100, [12], 0), (101, [99], 128), (102, [100], 256), (103, [101], 512), (104, [102], 1024), (5, [96], 31), (6, [98], 4223), (7, [103], 16383), (8, [], 32767)] rfl (fun _ d _ _ _ h => by cases d <;> exact h) ?_
 intro hs24 w24 h24
 refine pR_p 13 [0, 5, 7] [(99, (pt g18 4)), (97, (pt g2 4)), (92, (pt g18 4))] 161 hs24 ⟨h24.at_ 0 rfl, h24.rd 0 rfl, h24.at_ 8 rfl, trivial⟩ ?_
 refine pR_v 1 (some 93) (lV A3 3 c3) 163 rfl hs24 ⟨h24.at_ 0 rfl, h24.rd 0 rfl, h24.at_ 8 rfl, trivial⟩ (fun W hW => eL hW.1 98 (.tmp 92) 4 _) ?_
 refine pR_v 2 (some 94) (eAt A3 (0 * 5 + 0)) 167 rfl hs24 ⟨h24.at_ 0 rfl, h24.rd 0 rfl, h24.at_ 8 rfl, trivial⟩ (fun W hW => eIx (RV.lenIs (n := 3) (h24.rd 0 rfl) rfl).2 0 3 (RV.lenIs (n := 3) (h24.rd 0 rfl) rfl).1 (by decide) 98 (.tmp 93) (.const (iV .i64 0)) .i64 100) ?_
 refine pR_v 3 (some 95) (eAt A3 (0 * 5 + 2)) 175 rfl hs24 ⟨h24.at_ 0 rfl, h24.rd 0 rfl, h24.at_ 8 rfl, trivial⟩ (fun W hW => e_fldN (RV.lenIs (n := 3) (h24.rd 0 rfl) rfl).2 0 0 2 ([(iV .i64 0), (iV .i64 0), (iV .u64 ((k : Int))), (lV B0 0 d0), (lV A0 0 c0)]) rfl (.tmp 94) (by kernel_rfl) (fun _ _ => by kernel_rfl) (fun _ => rfl) _) ?_
 refine pR_v 4 (some 96) (iV .u64 ((k : Int))) 191 rfl hs24 ⟨h24.at_ 0 rfl, h24.rd 0 rfl, h24.at_ 8 rfl, trivial⟩ (fun W hW => eEl (RV.lenIs (n := 3) hW.2.1 rfl).2 0 2 ([(iV .i64 0), (iV .i64 0), (iV .u64 ((k : Int))), (lV B0 0 d0), (lV A0 0 c0)]) rfl 68 (.tmp 95) (iV .u64 ((k : Int)))) ?_
 refine pR_p 8 [12] [(4, (iV .u64 ((k : Int))))] 4287 hs24 ⟨h24.at_ 0 rfl, h24.rd 0 rfl, h24.at_ 8 rfl, trivial⟩ ?_
 refine pR_v 6 (some 98) (iV .i64 f.seq) 4351 rfl hs24 ⟨h24.at_ 0 rfl, h24.rd 0 rfl, h24.at_ 8 rfl, trivial⟩ (fun W hW => eL hW.2.2.1 2 (.tmp 97) 4 _) ?_
 refine pR_p 6 [13] [(5, (iV .i64 f.seq))] 12543 hs24 ⟨h24.at_ 0 rfl, h24.rd 0 rfl, h24.at_ 8 rfl, trivial⟩ ?_
 refine pR_v 8 (some 100) (lV A3 3 c3) 12799 rfl hs24 ⟨h24.at_ 0 rfl, h24.rd 0 rfl, h24.at_ 8 rfl, trivial⟩ (fun W hW => eL hW.1 98 (.tmp 99) 4 _) ?_
 refine pR_v 9 (some 101) (eAt A3 (2 * 5 + 0)) 13311 rfl hs24 ⟨h24.at_ 0 rfl, h24.rd 0 rfl, h24.at_ 8 rfl, trivial⟩ (fun W hW => eIx (RV.lenIs (n := 3) (h24.rd 0 rfl) rfl).2 2 3 (RV.lenIs (n := 3) (h24.rd 0 rfl) rfl).1 (by decide) 98 (.tmp 100) (.const (iV .i64 2)) .i64 100) ?_
 refine pR_v 10 (some 102) (eAt A3 (2 * 5 + 3)) 14335 rfl hs24 ⟨h24.at_ 0 rfl, h24.rd 0 rfl, h24.at_ 8 rfl, trivial⟩ (fun W hW => e_fldN (RV.lenIs (n := 3) (h24.rd 0 rfl) rfl).2 2 0 3 ([(iV .i64 1), (iV .i64 0), (iV .u64 0), (lV B2 b.length d2), (lV A2 0 c2)]) rfl (.tmp 101) (by kernel_rfl) (fun _ _ => by kernel_rfl) (fun _ => rfl) _) ?_
 refine pR_v 11 (some 103) (lV B2 b.length d2) 16383 rfl hs24 ⟨h24.at_ 0 rfl, h24.rd 0 rfl, h24.at_ 8 rfl, trivial⟩ (fun W hW => eEl (RV.lenIs (n := 3) hW.2.1 rfl).2 2 3 ([(iV .i64 1), (iV .i64 0), (iV .u64 0), (lV B2 b.length d2), (lV A2 0 c2)]) rfl 26 (.tmp 102) (lV B2 b.length d2)) ?_
 refine pR_to 14 (some 6) 32767 rfl hs24 (OpTo.run (lV B2 b.length d2) (pureOp_run (by kernel_rfl) _) (R := fun v w => v = (lV B2 b.length d2) /\ w24 = w) ⟨rfl, rfl⟩) ?_
 rintro _ _ ⟨rfl, rfl⟩
 refine ⟨fun h => absurd h (by decide), ?_⟩
 refine pR_to 15 (some 7) 65535 rfl hs24 (OpTo.run (bV true) (pureOp_run (by kernel_rfl) _) (R := fun v w => v = (bV true) /\ w24 = w) ⟨rfl, rfl⟩) ?_
 rintro _ _ ⟨rfl, rfl⟩
 refine ⟨fun h => absurd h (by decide), ?_⟩
 refine pR_done hs24 ?_ _
 refine seq_n hK23 (wp_ret ?_)
 refine post_4 rfl (by kernel_rfl) (rtm (iV .u64 ((k : Int)))) (rtm (iV .i64 f.seq)) (rtm (lV B2 b.length d2)) (rtm (bV true)) ?_
 have h25 := (show Hp _ _ _ _ (lSes tb sb c1_4 c2_4 A_4 cap_4 xs_4 fb_4 bx_4 ((Ses.mk me peer sid (kl Ko) eo (kl Ki) ei qu sent got fr false)) ++ [rBlk g18 100 ([(iV .i64 2), (iV .i64 1), (iV .u64 0), (lV B 0 d), (lV A3 3 c3)]), rOB ((lV A13 ((wrV (contV k n b)).length) c13)) (wrV (contV k n b)), rBlk g7 59 (vb (kl K6)), rBlk g2 38 ([(sV f.src), (sV f.dst), (iV .i64 f.sid), (iV .i64 f.epoch), (iV .i64 f.seq), (lV Ab f.box.length cb)]), rTab F6 tb s6]) from h24.sel [3, 4, 5, 6, 7, 0, 1, 2, 8, 9] [0, 1, 2, 3] rfl rfl rfl).closeS (L := ((lV B2 b.length d2, b) :: L)) ⟨hS_4.q.mono hsub, hS_4.f.mono hsub, hS_4.ko, hS_4.ki⟩
 subst hs6
 exact ⟨_, _, _, _, rfl, ⟨B2, d2, rfl, List.mem_cons_self⟩, (hxx _ (LExt.refl (fun q => F q ∨ G q) w L)), h25.sel [5, 0] [1] rfl rfl rfl⟩
end
end Go.Proofs.Ytjalodhdjollhaa
