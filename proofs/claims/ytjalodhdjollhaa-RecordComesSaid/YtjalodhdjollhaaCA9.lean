/- A record's value that was read: its parts. -/
import Derived.Test.YtjalodhdjollhaaCA8
set_option maxRecDepth 100000
set_option maxHeartbeats 4000000
namespace Go.Proofs.Ytjalodhdjollhaa
section
open Go.Value renaming int -> iV, slice -> lV, string -> sV, bool -> bV, agg -> aV
open Go.RowKit Go.QT
/-- What stands in the table once the key went on behind a frame. -/
def sealRT (s : STab) (S : Ses) (k n : Nat) (b : Bytes) : STab := (sealT s S k n b).made (deriveF S.ko ⟨#[110, 101, 120, 116]⟩)
/-- .. and in the session. -/
def sealRS (s : STab) (S : Ses) (k n : Nat) (b : Bytes) : Ses := { S with ko := mkB 107 ((sealT s S k n b).num (deriveF S.ko ⟨#[110, 101, 120, 116]⟩)), eo := S.eo + 1, frame := some (sealF s S n) }
theorem sealT_keys (s : STab) (S : Ses) (k n : Nat) (b : Bytes) : (sealT s S k n b).keys.length <= s.keys.length + 1 := STab.made_keys s _
theorem sSend_data {F G : Nat -> Prop} {tb sb : Nat} {s : STab} {L : List (Value × Bytes)} {S : Ses} {w : World} (hT : (rTab F tb s).Φ w) (hv : (rS G tb sb L S).Φ w) (hL : (rF L).Φ w) (hts : (rTab F tb s).dj (rS G tb sb L S)) (hdt : (rF L).dj (rTab F tb s)) (hd : (rF L).dj (rS G tb sb L S)) (k : Nat) (b : Bytes) (qs : List (Nat × Bytes)) (ho : S.over = false) (hf : S.frame = none) (hq : S.queue = (k, b) :: qs) (hk : k < 1000) (hk3 : k ≠ 3) (hb : b.length <= 2048) (hse : S.sent < 900000) (hnk : s.keys.length < 900000) (hnb : s.boxes.length < 900000) :
   Calls Try.prog 11 #[pt sb 0] w (Post2 F G tb sb w L (sealT s S k (S.sent + 1) b) { S with frame := some (sealF s S (S.sent + 1)) } (fun L' u => ∃ cs, u = .tuple #[.agg cs.toArray, .bool true] /\ FrmAt L' (sealF s S (S.sent + 1)) cs)) := by
 have h00 := twoF hT hv hL hts hdt hd
 obtain ⟨me, peer, sid, ko, eo, ki, ei, qu, sent, got, fr, ov⟩ := S
 obtain rfl : ov = false := ho
 obtain ⟨Ko, hKo⟩ := kl_of ko (rS_ko hv)
 obtain ⟨Ki, hKi⟩ := kl_of ki (rS_ki hv)
 subst hKo; subst hKi
 obtain rfl : fr = none := hf
 obtain rfl : qu = (k, b) :: qs := hq
 have hse : sent < 900000 := hse
 have h0 := h00
 refine enter 94 Try.func11 rfl rfl ?_
 refine wp_reset 95 [(0, (pt sb 0))] (fun x0 => ?_)
 refine wp_seq_k fun K1 hK1 => reg_lit ?_
 refine wq_to (some 2) (xN h0 38 ([(sV ByteArray.empty), (sV ByteArray.empty), (iV .i64 0), (iV .i64 0), (iV .i64 0), (lV none 0 0)])) ?_
 rintro _ w2 ⟨g2, rfl, h2⟩
 refine wq_p 1 [(3, (bV false))] ?_
 refine wl_end rfl (seq_n hK1 (wp_seq_k fun K3 hK3 => wp_seq_k fun K4 hK4 => ?_))
 obtain ⟨c1_5, c2_5, A_5, cap_5, xs_5, fb_5, bx_5, hS_5, hG_5, h5⟩ := h2.openS 2 rfl
 clear hG_5
 obtain rfl : fb_5 = none := hS_5.f.noneE
 obtain ⟨Ap_5, cp_5, ys_5, rfl, hpm_5⟩ := hS_5.q.cons
 refine reg_lit ?_
 refine wq_p 3 [(8, (pt sb 10)), (7, (pt sb 0)), (6, (pt sb 0))] (wq_v (some 9) (bV false) (eL (h5.at_ 0 rfl) 4 (.tmp 8) 10 _) ?_)
 refine wl_end rfl (seq_n hK4 (cF (wp_skip (seq_n hK3 (wp_seq_k fun K6 hK6 => wp_seq_k fun K7 hK7 => reg_lit ?_)))))
 refine wq_p 3 [(13, (pt sb 9)), (12, (pt sb 0)), (11, (pt sb 0))] (wq_v (some 14) (Value.pointer none) (eL (h5.at_ 0 rfl) 75 (.tmp 13) 9 _) (wq_p 5 [(19, (pt sb 6)), (18, (pt sb 0)), (17, (pt sb 0)), (16, (bV true)), (15, (bV true))] (wq_v (some 20) (lV A_5 (((k, b) :: qs).length) cap_5) (eL (h5.at_ 0 rfl) 74 (.tmp 19) 6 _) ?_)))
 refine wq_p 1 [(21, (iV .i64 ((((k, b) :: qs).length : Int))))] (wq_v (some 22) (.bool true) (eqI (bV (decide ((((k, b) :: qs).length : Int) > 0))) (congrArg bV (by first | (simp; done) | (simp; omega)))) (wq_p 1 [(23, (bV true))] ?_))
 refine wl_end rfl (seq_n hK7 (cT (wp_seq_k fun K8 hK8 => wp_seq_k fun K9 hK9 => reg_lit ?_)))
 refine wq_p 3 [(26, (pt sb 7)), (25, (pt sb 0)), (24, (pt sb 0))] (wq_v (some 27) (iV .i64 ((sent : Int))) (eL (h5.at_ 0 rfl) 2 (.tmp 26) 7 _) (wq_v (some 28) (.bool false) (eqI (bV (decide ((sent : Int) ≥ 1048576))) (congrArg bV (by simp; omega))) ?_))
 refine wl_end rfl (seq_n hK9 (cF (wp_skip (seq_n hK8 (wp_seq_k fun K10 hK10 => ?_)))))
 refine pR_go h5 26 (fun W => (rBlk sb 77 ([(Value.iface 28 (pt tb 0)), (sV me), (sV peer), (iV .i64 sid), (pt c1_5 0), (pt c2_5 0), (lV A_5 (((k, b) :: qs).length) cap_5), (iV .i64 ((sent : Int))), (iV .i64 ((got : Int))), (Value.pointer none), (bV false)])).Φ W /\ (rQ 2 ((lV A_5 (((k, b) :: qs).length) cap_5)) (([.int .u64 (k : Int), .slice Ap_5 b.length cp_5] :: ys_5))).Φ W /\ True) [(34, [0], 0), (35, [0], 0), (36, [34], 2), (37, [35], 4), (38, [36], 8), (39, [37], 16), (40, [38], 32), (41, [39], 64), (42, [0], 0), (43, [41], 256), (44, [42], 512), (45, [43], 1024), (46, [44], 2048), (47, [0], 0), (48, [46], 8192), (49, [47], 16384), (50, [48], 32768), (51, [49], 65536), (52, [50], 131072), (53, [51], 262144), (54, [33, 40, 45, 52], 528513), (33, [53], 1048576), (55, [32], 2097152), (56, [32], 2097152), (5, [], 0), (0, [4, 54], 25165823), (6, [55], 67108863)] rfl (fun _ d _ _ _ h => by cases d <;> exact h) ?_
 intro hs11 w11 h11
 refine pR_p 17 [0, 1, 2, 3, 8, 9, 10, 13, 14, 15] [(48, (pt sb 6)), (47, (pt sb 0)), (46, (pt sb 0)), (43, (pt sb 7)), (42, (pt sb 0)), (41, (pt sb 0)), (36, (pt sb 6)), (35, (pt sb 0)), (34, (pt sb 0)), (33, (pt sb 0))] 59151 hs11 ⟨h11.at_ 0 rfl, h11.at_ 3 rfl, trivial⟩ ?_
 refine pR_v 4 (some 37) (lV A_5 (((k, b) :: qs).length) cap_5) 59167 rfl hs11 ⟨h11.at_ 0 rfl, h11.at_ 3 rfl, trivial⟩ (fun W hW => eL hW.1 74 (.tmp 36) 6 _) ?_
 refine pR_v 5 (some 38) (eAt A_5 (0 * 2 + 0)) 59199 rfl hs11 ⟨h11.at_ 0 rfl, h11.at_ 3 rfl, trivial⟩ (fun W hW => eIx (QV.rv (h11.at_ 3 rfl)).2 0 (((k, b) :: qs).length) (QV.rv (h11.at_ 3 rfl)).1 (by simp) 74 (.tmp 37) (.const (iV .i64 0)) .i64 70) ?_
 refine pR_v 6 (some 39) (eAt A_5 (0 * 2 + 0)) 59263 rfl hs11 ⟨h11.at_ 0 rfl, h11.at_ 3 rfl, trivial⟩ (fun W hW => e_fldN (QV.rv (h11.at_ 3 rfl)).2 0 0 0 ([(iV .u64 ((k : Int))), (lV Ap_5 b.length cp_5)]) rfl (.tmp 38) (by kernel_rfl) (fun _ _ => by kernel_rfl) (fun _ => rfl) _) ?_
 refine pR_v 7 (some 40) (iV .u64 ((k : Int))) 59391 rfl hs11 ⟨h11.at_ 0 rfl, h11.at_ 3 rfl, trivial⟩ (fun W hW => eEl (QV.rv hW.2.1).2 0 0 ([(iV .u64 ((k : Int))), (lV Ap_5 b.length cp_5)]) rfl 68 (.tmp 39) (iV .u64 ((k : Int)))) ?_
 refine pR_v 11 (some 44) (iV .i64 ((sent : Int))) 61439 rfl hs11 ⟨h11.at_ 0 rfl, h11.at_ 3 rfl, trivial⟩ (fun W hW => eL hW.1 2 (.tmp 43) 7 _) ?_
 refine pR_v 12 (some 45) (iV .i64 (((sent + 1 : Nat) : Int))) 65535 rfl hs11 ⟨h11.at_ 0 rfl, h11.at_ 3 rfl, trivial⟩ (fun W hW => exec_add _ _ _ _ rfl ((sent : Int)) 1 (by kernel_rfl) (by kernel_rfl) (((sent + 1 : Nat) : Int)) (by omega) (by omega) (by omega) _) ?_
 refine pR_v 16 (some 49) (lV A_5 (((k, b) :: qs).length) cap_5) 131071 rfl hs11 ⟨h11.at_ 0 rfl, h11.at_ 3 rfl, trivial⟩ (fun W hW => eL hW.1 74 (.tmp 48) 6 _) ?_
 refine pR_v 17 (some 50) (eAt A_5 (0 * 2 + 0)) 262143 rfl hs11 ⟨h11.at_ 0 rfl, h11.at_ 3 rfl, trivial⟩ (fun W hW => eIx (QV.rv (h11.at_ 3 rfl)).2 0 (((k, b) :: qs).length) (QV.rv (h11.at_ 3 rfl)).1 (by simp) 74 (.tmp 49) (.const (iV .i64 0)) .i64 70) ?_
 refine pR_v 18 (some 51) (eAt A_5 (0 * 2 + 1)) 524287 rfl hs11 ⟨h11.at_ 0 rfl, h11.at_ 3 rfl, trivial⟩ (fun W hW => e_fldN (QV.rv (h11.at_ 3 rfl)).2 0 0 1 ([(iV .u64 ((k : Int))), (lV Ap_5 b.length cp_5)]) rfl (.tmp 50) (by kernel_rfl) (fun _ _ => by kernel_rfl) (fun _ => rfl) _) ?_
 refine pR_v 19 (some 52) (lV Ap_5 b.length cp_5) 1048575 rfl hs11 ⟨h11.at_ 0 rfl, h11.at_ 3 rfl, trivial⟩ (fun W hW => eEl (QV.rv hW.2.1).2 0 1 ([(iV .u64 ((k : Int))), (lV Ap_5 b.length cp_5)]) rfl 26 (.tmp 51) (lV Ap_5 b.length cp_5)) ?_
 refine pR_or 20 24 hs11 ?_ ?_
 ·
  refine pR_op 20 (some 53) 2097151 rfl (x_one h11 6 rfl 0 rfl 29 [(pt sb 0), (iV .u64 ((k : Int))), (iV .i64 (((sent + 1 : Nat) : Int))), (lV Ap_5 b.length cp_5)] (by kernel_rfl) (sseal_ro (ki := kl Ki) (ei := ei) (qu := ((k, b) :: qs)) (fr := none) (h11.at_ 6 rfl) (h11.at_ 0 rfl) (h11.at_ 1 rfl) (h11.rd 0 rfl) (fun hF => h11.dis 6 0 _ _ rfl rfl (by decide) sb hF rfl) (fun hF => h11.dis 6 1 _ _ rfl rfl (by decide) c1_5 hF rfl) (h11.rdis 0 6 _ _ rfl rfl) k (sent + 1) b Ap_5 cp_5 hpm_5 hk (by omega) hb hnk hnb)) ?_
  rintro _ w12 ⟨F12, L12, ⟨_, rfl, A12, c12, rfl, hm12⟩, hs12, hx12, h12⟩
  refine ⟨fun _ => ⟨h12.at_ 0 rfl, h12.at_ 3 rfl, trivial⟩, ?_⟩
  refine pR_p 3 [21, 22, 23] [(55, (iV .i64 0)), (54, (aV ([(sV me), (sV peer), (iV .i64 sid), (iV .i64 ((eo : Int))), (iV .i64 (((sent + 1 : Nat) : Int))), (lV A12 16 c12)]).toArray)), (32, (Value.tuple #[(aV ([(sV me), (sV peer), (iV .i64 sid), (iV .i64 ((eo : Int))), (iV .i64 (((sent + 1 : Nat) : Int))), (lV A12 16 c12)]).toArray), (iV .i64 0)]))] 16777215 hs11 ⟨h12.at_ 0 rfl, h12.at_ 3 rfl, trivial⟩ ?_
  refine pR_to 24 (some 4) 33554431 rfl hs11 (xN h12 38 ([(sV ByteArray.empty), (sV ByteArray.empty), (iV .i64 0), (iV .i64 0), (iV .i64 0), (lV none 0 0)])) ?_
  rintro _ w13 ⟨g13, rfl, h13⟩
  refine ⟨fun _ => ⟨h13.at_ 1 rfl, h13.at_ 4 rfl, trivial⟩, ?_⟩
  refine pR_to 25 none 67108863 rfl hs11 (xSs h13 0 38 (.tmp 4) (.tmp 54) 0 ([(sV me), (sV peer), (iV .i64 sid), (iV .i64 ((eo : Int))), (iV .i64 (((sent + 1 : Nat) : Int))), (lV A12 16 c12)]) ([(sV me), (sV peer), (iV .i64 sid), (iV .i64 ((eo : Int))), (iV .i64 (((sent + 1 : Nat) : Int))), (lV A12 16 c12)])) ?_
  rintro _ w14 h14
  refine ⟨fun _ => ⟨h14.at_ 1 rfl, h14.at_ 4 rfl, trivial⟩, ?_⟩
  refine pR_to 26 (some 5) 134217727 rfl hs11 (OpTo.run (iV .i64 0) (pureOp_run (by kernel_rfl) _) (R := fun v w => v = (iV .i64 0) /\ w14 = w) ⟨rfl, rfl⟩) ?_
  rintro _ _ ⟨rfl, rfl⟩
  refine ⟨fun h => absurd h (by decide), ?_⟩
  refine pR_done hs11 ?_ _
  refine seq_n hK10 (wp_seq_k fun K15 hK15 => wp_seq_k fun K16 hK16 => ?_)
  refine wp_reset 95 [(0, (pt sb 0)), (2, (pt g2 0)), (3, (bV false)), (4, (pt g13 0)), (5, (iV .i64 0)), (9, (bV false)), (23, (bV true)), (28, (bV false))] (fun x17 => ?_)
  refine reg_lit ?_
  refine wq_p 2 [(57, (bV false)), (56, (iV .i64 0))] ?_
  refine wl_end rfl (seq_n hK16 (cF (wp_skip (seq_n hK15 (wp_seq_k fun K18 hK18 => reg_lit ?_)))))
  refine wq_p 3 [(63, (pt sb 9)), (62, (pt sb 0)), (61, (pt sb 0))] ?_
  refine wq_to none (xSt h14 1 75 (.tmp 63) (.tmp 4) 9 (pt g13 0) ([(Value.iface 28 (pt tb 0)), (sV me), (sV peer), (iV .i64 sid), (pt c1_5 0), (pt c2_5 0), (lV A_5 (((k, b) :: qs).length) cap_5), (iV .i64 ((sent : Int))), (iV .i64 ((got : Int))), (pt g13 0), (bV false)])) ?_
  rintro _ w19 h19
  refine wl_end rfl (seq_n hK18 (wp_seq_k fun K20 hK20 => reg_lit ?_))
  refine wq_p 3 [(66, (pt sb 6)), (65, (pt sb 0)), (64, (pt sb 0))] (wq_v (some 67) (lV A_5 (((k, b) :: qs).length) cap_5) (eL (h19.at_ 1 rfl) 74 (.tmp 66) 6 _) (wq_v (some 68) (eAt A_5 (0 * 2 + 0)) (eIx (QV.rv (h19.at_ 4 rfl)).2 0 (((k, b) :: qs).length) (QV.rv (h19.at_ 4 rfl)).1 (by simp) 74 (.tmp 67) (.const (iV .i64 0)) .i64 70) (wq_v (some 69) (eAt A_5 (0 * 2 + 0)) (e_fldN (QV.rv (h19.at_ 4 rfl)).2 0 0 0 ([(iV .u64 ((k : Int))), (lV Ap_5 b.length cp_5)]) rfl (.tmp 68) (by kernel_rfl) (fun _ _ => by kernel_rfl) (fun _ => rfl) _) ?_)))
  refine wq_v (some 70) (iV .u64 ((k : Int))) (eEl (QV.rv (h19.at_ 4 rfl)).2 0 0 ([(iV .u64 ((k : Int))), (lV Ap_5 b.length cp_5)]) rfl 68 (.tmp 69) (iV .u64 ((k : Int)))) (wq_v (some 71) (.bool false) (eqI (bV (((k : Int)) == 3)) (congrArg bV (by simp; omega))) (wq_p 8 [(79, (bV false)), (78, undef), (77, undef), (76, undef), (75, undef), (74, undef), (73, undef), (72, (bV false))] ?_))
  refine wl_end rfl (seq_n hK20 (cF (wp_skip (seq_n hK6 (wp_seq_k fun K21 hK21 => wp_seq_k fun K22 hK22 => reg_lit ?_)))))
  refine wq_p 3 [(85, (pt sb 9)), (84, (pt sb 0)), (83, (pt sb 0))] (wq_v (some 86) (pt g13 0) (eL (h19.at_ 1 rfl) 75 (.tmp 85) 9 _) (wq_p 1 [(87, (bV false))] ?_))
  refine wl_end rfl (seq_n hK22 (cF (wp_skip (seq_n hK21 (wp_seq_k fun K23 hK23 => reg_lit ?_)))))
  refine wq_p 3 [(91, (pt sb 9)), (90, (pt sb 0)), (89, (pt sb 0))] (wq_v (some 92) (pt g13 0) (eL (h19.at_ 1 rfl) 75 (.tmp 91) 9 _) (wq_p 1 [(93, (pt g13 0))] (wq_v (some 94) (aV ([(sV me), (sV peer), (iV .i64 sid), (iV .i64 ((eo : Int))), (iV .i64 (((sent + 1 : Nat) : Int))), (lV A12 16 c12)]).toArray) (eLs (h19.at_ 0 rfl) 38 (.tmp 93) 0 ([(sV me), (sV peer), (iV .i64 sid), (iV .i64 ((eo : Int))), (iV .i64 (((sent + 1 : Nat) : Int))), (lV A12 16 c12)])) ?_)))
  refine wq_to none (xSs h19 6 38 (.tmp 2) (.tmp 94) 0 ([(sV me), (sV peer), (iV .i64 sid), (iV .i64 ((eo : Int))), (iV .i64 (((sent + 1 : Nat) : Int))), (lV A12 16 c12)]) ([(sV me), (sV peer), (iV .i64 sid), (iV .i64 ((eo : Int))), (iV .i64 (((sent + 1 : Nat) : Int))), (lV A12 16 c12)])) ?_
  rintro _ w24 h24
  refine wq_p 1 [(3, (bV true))] ?_
  refine wl_end rfl (seq_n hK23 (wp_ret ?_))
  refine post_2 rfl (by kernel_rfl) (rce (h24.at_ 6 rfl)) (rtm (bV true)) ?_
  have hlb : (sealF s (Ses.mk me peer sid (kl Ko) eo (kl Ki) ei ((k, b) :: qs) sent got none false) (sent + 1)).box.length = 16 := mkB_len _ _
  have hq5 := hS_5.q.mono hs12
  have hf5 : FrOk L12 (some (sealF s (Ses.mk me peer sid (kl Ko) eo (kl Ki) ei ((k, b) :: qs) sent got none false) (sent + 1))) (some g13) (.slice A12 16 c12) := ⟨⟨A12, c12, by rw [hlb]⟩, by have := hm12; rw [hlb] at this; exact this⟩
  have h25 := (show Hp _ _ _ _ (lSes tb sb c1_5 c2_5 A_5 cap_5 ([.int .u64 (k : Int), .slice Ap_5 b.length cp_5] :: ys_5) (some g13) (.slice A12 16 c12) ((Ses.mk me peer sid (kl Ko) eo (kl Ki) ei ((k, b) :: qs) sent got (some (sealF s (Ses.mk me peer sid (kl Ko) eo (kl Ki) ei ((k, b) :: qs) sent got none false) (sent + 1))) false)) ++ [rFr none (frC none bx_5), rBlk g2 38 ([(sV me), (sV peer), (iV .i64 sid), (iV .i64 ((eo : Int))), (iV .i64 (((sent + 1 : Nat) : Int))), (lV A12 16 c12)]), rTab F12 tb ((sealT s (Ses.mk me peer sid (kl Ko) eo (kl Ki) ei ((k, b) :: qs) sent got none false) k (sent + 1) b))]) from h24.sel [1, 2, 3, 4, 0, 5, 6, 7] [0, 1] rfl rfl rfl).closeS (L := L12) ⟨hq5, hf5, hS_5.ko, hS_5.ki⟩
  exact ⟨_, _, _, _, rfl, ⟨_, rfl, A12, c12, by rw [hlb]; rfl, hm12⟩, (hx12 _ (LExt.refl (fun q => F q ∨ G q) w L)), h25.sel [3, 0] [0] rfl rfl rfl⟩
 ·
  refine pR_op 24 (some 4) 17825791 rfl (xN h11 38 ([(sV ByteArray.empty), (sV ByteArray.empty), (iV .i64 0), (iV .i64 0), (iV .i64 0), (lV none 0 0)])) ?_
  rintro _ w26 ⟨g26, rfl, h26⟩
  refine ⟨fun _ => ⟨h26.at_ 1 rfl, h26.at_ 4 rfl, trivial⟩, ?_⟩
  refine pR_to 20 (some 53) 18874367 rfl hs11 (x_one h26 7 rfl 0 rfl 29 [(pt sb 0), (iV .u64 ((k : Int))), (iV .i64 (((sent + 1 : Nat) : Int))), (lV Ap_5 b.length cp_5)] (by kernel_rfl) (sseal_ro (ki := kl Ki) (ei := ei) (qu := ((k, b) :: qs)) (fr := none) (h26.at_ 7 rfl) (h26.at_ 1 rfl) (h26.at_ 2 rfl) (h26.rd 0 rfl) (fun hF => h26.dis 7 1 _ _ rfl rfl (by decide) sb hF rfl) (fun hF => h26.dis 7 2 _ _ rfl rfl (by decide) c1_5 hF rfl) (h26.rdis 0 7 _ _ rfl rfl) k (sent + 1) b Ap_5 cp_5 hpm_5 hk (by omega) hb hnk hnb)) ?_
  rintro _ w27 ⟨F27, L27, ⟨_, rfl, A27, c27, rfl, hm27⟩, hs27, hx27, h27⟩
  refine ⟨fun _ => ⟨h27.at_ 1 rfl, h27.at_ 4 rfl, trivial⟩, ?_⟩
  refine pR_p 2 [21, 22, 23] [(55, (iV .i64 0)), (54, (aV ([(sV me), (sV peer), (iV .i64 sid), (iV .i64 ((eo : Int))), (iV .i64 (((sent + 1 : Nat) : Int))), (lV A27 16 c27)]).toArray)), (32, (Value.tuple #[(aV ([(sV me), (sV peer), (iV .i64 sid), (iV .i64 ((eo : Int))), (iV .i64 (((sent + 1 : Nat) : Int))), (lV A27 16 c27)]).toArray), (iV .i64 0)]))] 33554431 hs11 ⟨h27.at_ 1 rfl, h27.at_ 4 rfl, trivial⟩ ?_
  refine pR_to 25 none 67108863 rfl hs11 (xSs h27 0 38 (.tmp 4) (.tmp 54) 0 ([(sV me), (sV peer), (iV .i64 sid), (iV .i64 ((eo : Int))), (iV .i64 (((sent + 1 : Nat) : Int))), (lV A27 16 c27)]) ([(sV me), (sV peer), (iV .i64 sid), (iV .i64 ((eo : Int))), (iV .i64 (((sent + 1 : Nat) : Int))), (lV A27 16 c27)])) ?_
  rintro _ w28 h28
  refine ⟨fun _ => ⟨h28.at_ 1 rfl, h28.at_ 4 rfl, trivial⟩, ?_⟩
  refine pR_to 26 (some 5) 134217727 rfl hs11 (OpTo.run (iV .i64 0) (pureOp_run (by kernel_rfl) _) (R := fun v w => v = (iV .i64 0) /\ w28 = w) ⟨rfl, rfl⟩) ?_
  rintro _ _ ⟨rfl, rfl⟩
  refine ⟨fun h => absurd h (by decide), ?_⟩
  refine pR_done hs11 ?_ _
  refine seq_n hK10 (wp_seq_k fun K29 hK29 => wp_seq_k fun K30 hK30 => ?_)
  refine wp_reset 95 [(0, (pt sb 0)), (2, (pt g2 0)), (3, (bV false)), (4, (pt g26 0)), (5, (iV .i64 0)), (9, (bV false)), (23, (bV true)), (28, (bV false))] (fun x31 => ?_)
  refine reg_lit ?_
  refine wq_p 2 [(57, (bV false)), (56, (iV .i64 0))] ?_
  refine wl_end rfl (seq_n hK30 (cF (wp_skip (seq_n hK29 (wp_seq_k fun K32 hK32 => reg_lit ?_)))))
  refine wq_p 3 [(63, (pt sb 9)), (62, (pt sb 0)), (61, (pt sb 0))] ?_
  refine wq_to none (xSt h28 1 75 (.tmp 63) (.tmp 4) 9 (pt g26 0) ([(Value.iface 28 (pt tb 0)), (sV me), (sV peer), (iV .i64 sid), (pt c1_5 0), (pt c2_5 0), (lV A_5 (((k, b) :: qs).length) cap_5), (iV .i64 ((sent : Int))), (iV .i64 ((got : Int))), (pt g26 0), (bV false)])) ?_
  rintro _ w33 h33
  refine wl_end rfl (seq_n hK32 (wp_seq_k fun K34 hK34 => reg_lit ?_))
  refine wq_p 3 [(66, (pt sb 6)), (65, (pt sb 0)), (64, (pt sb 0))] (wq_v (some 67) (lV A_5 (((k, b) :: qs).length) cap_5) (eL (h33.at_ 1 rfl) 74 (.tmp 66) 6 _) (wq_v (some 68) (eAt A_5 (0 * 2 + 0)) (eIx (QV.rv (h33.at_ 4 rfl)).2 0 (((k, b) :: qs).length) (QV.rv (h33.at_ 4 rfl)).1 (by simp) 74 (.tmp 67) (.const (iV .i64 0)) .i64 70) (wq_v (some 69) (eAt A_5 (0 * 2 + 0)) (e_fldN (QV.rv (h33.at_ 4 rfl)).2 0 0 0 ([(iV .u64 ((k : Int))), (lV Ap_5 b.length cp_5)]) rfl (.tmp 68) (by kernel_rfl) (fun _ _ => by kernel_rfl) (fun _ => rfl) _) ?_)))
  refine wq_v (some 70) (iV .u64 ((k : Int))) (eEl (QV.rv (h33.at_ 4 rfl)).2 0 0 ([(iV .u64 ((k : Int))), (lV Ap_5 b.length cp_5)]) rfl 68 (.tmp 69) (iV .u64 ((k : Int)))) (wq_v (some 71) (.bool false) (eqI (bV (((k : Int)) == 3)) (congrArg bV (by simp; omega))) (wq_p 8 [(79, (bV false)), (78, undef), (77, undef), (76, undef), (75, undef), (74, undef), (73, undef), (72, (bV false))] ?_))
  refine wl_end rfl (seq_n hK34 (cF (wp_skip (seq_n hK6 (wp_seq_k fun K35 hK35 => wp_seq_k fun K36 hK36 => reg_lit ?_)))))
  refine wq_p 3 [(85, (pt sb 9)), (84, (pt sb 0)), (83, (pt sb 0))] (wq_v (some 86) (pt g26 0) (eL (h33.at_ 1 rfl) 75 (.tmp 85) 9 _) (wq_p 1 [(87, (bV false))] ?_))
  refine wl_end rfl (seq_n hK36 (cF (wp_skip (seq_n hK35 (wp_seq_k fun K37 hK37 => reg_lit ?_)))))
  refine wq_p 3 [(91, (pt sb 9)), (90, (pt sb 0)), (89, (pt sb 0))] (wq_v (some 92) (pt g26 0) (eL (h33.at_ 1 rfl) 75 (.tmp 91) 9 _) (wq_p 1 [(93, (pt g26 0))] (wq_v (some 94) (aV ([(sV me), (sV peer), (iV .i64 sid), (iV .i64 ((eo : Int))), (iV .i64 (((sent + 1 : Nat) : Int))), (lV A27 16 c27)]).toArray) (eLs (h33.at_ 0 rfl) 38 (.tmp 93) 0 ([(sV me), (sV peer), (iV .i64 sid), (iV .i64 ((eo : Int))), (iV .i64 (((sent + 1 : Nat) : Int))), (lV A27 16 c27)])) ?_)))
  refine wq_to none (xSs h33 6 38 (.tmp 2) (.tmp 94) 0 ([(sV me), (sV peer), (iV .i64 sid), (iV .i64 ((eo : Int))), (iV .i64 (((sent + 1 : Nat) : Int))), (lV A27 16 c27)]) ([(sV me), (sV peer), (iV .i64 sid), (iV .i64 ((eo : Int))), (iV .i64 (((sent + 1 : Nat) : Int))), (lV A27 16 c27)])) ?_
  rintro _ w38 h38
  refine wq_p 1 [(3, (bV true))] ?_
  refine wl_end rfl (seq_n hK37 (wp_ret ?_))
  refine post_2 rfl (by kernel_rfl) (rce (h38.at_ 6 rfl)) (rtm (bV true)) ?_
  have hlb : (sealF s (Ses.mk me peer sid (kl Ko) eo (kl Ki) ei ((k, b) :: qs) sent got none false) (sent + 1)).box.length = 16 := mkB_len _ _
  have hq5 := hS_5.q.mono hs27
  have hf5 : FrOk L27 (some (sealF s (Ses.mk me peer sid (kl Ko) eo (kl Ki) ei ((k, b) :: qs) sent got none false) (sent + 1))) (some g26) (.slice A27 16 c27) := ⟨⟨A27, c27, by rw [hlb]⟩, by have := hm27; rw [hlb] at this; exact this⟩
  have h39 := (show Hp _ _ _ _ (lSes tb sb c1_5 c2_5 A_5 cap_5 ([.int .u64 (k : Int), .slice Ap_5 b.length cp_5] :: ys_5) (some g26) (.slice A27 16 c27) ((Ses.mk me peer sid (kl Ko) eo (kl Ki) ei ((k, b) :: qs) sent got (some (sealF s (Ses.mk me peer sid (kl Ko) eo (kl Ki) ei ((k, b) :: qs) sent got none false) (sent + 1))) false)) ++ [rFr none (frC none bx_5), rBlk g2 38 ([(sV me), (sV peer), (iV .i64 sid), (iV .i64 ((eo : Int))), (iV .i64 (((sent + 1 : Nat) : Int))), (lV A27 16 c27)]), rTab F27 tb ((sealT s (Ses.mk me peer sid (kl Ko) eo (kl Ki) ei ((k, b) :: qs) sent got none false) k (sent + 1) b))]) from h38.sel [1, 2, 3, 4, 0, 5, 6, 7] [0, 1] rfl rfl rfl).closeS (L := L27) ⟨hq5, hf5, hS_5.ko, hS_5.ki⟩
  exact ⟨_, _, _, _, rfl, ⟨_, rfl, A27, c27, by rw [hlb]; rfl, hm27⟩, (hx27 _ (LExt.refl (fun q => F q ∨ G q) w L)), h39.sel [3, 0] [0] rfl rfl rfl⟩
theorem sSend_rekey {F G : Nat -> Prop} {tb sb : Nat} {s : STab} {L : List (Value × Bytes)} {S : Ses} {w : World} (hT : (rTab F tb s).Φ w) (hv : (rS G tb sb L S).Φ w) (hL : (rF L).Φ w) (hts : (rTab F tb s).dj (rS G tb sb L S)) (hdt : (rF L).dj (rTab F tb s)) (hd : (rF L).dj (rS G tb sb L S)) (k : Nat) (b : Bytes) (qs : List (Nat × Bytes)) (ho : S.over = false) (hf : S.frame = none) (hq : S.queue = (k, b) :: qs) (hk3 : k = 3) (he : S.eo < 64) (hb : b.length <= 2048) (hse : S.sent < 900000) (hnk : s.keys.length < 900000) (hnb : s.boxes.length < 900000) :
   Calls Try.prog 11 #[pt sb 0] w (Post2 F G tb sb w L (sealRT s S k (S.sent + 1) b) (sealRS s S k (S.sent + 1) b) (fun L' u => ∃ cs, u = .tuple #[.agg cs.toArray, .bool true] /\ FrmAt L' (sealF s S (S.sent + 1)) cs)) := by
 have h00 := twoF hT hv hL hts hdt hd
 obtain ⟨me, peer, sid, ko, eo, ki, ei, qu, sent, got, fr, ov⟩ := S
 obtain rfl : ov = false := ho
 obtain ⟨Ko, hKo⟩ := kl_of ko (rS_ko hv)
 obtain ⟨Ki, hKi⟩ := kl_of ki (rS_ki hv)
 subst hKo; subst hKi
 obtain rfl : fr = none := hf
 obtain rfl : qu = (k, b) :: qs := hq
 have hse : sent < 900000 := hse
 have hk : k < 1000 := by omega
 have he : eo < 64 := he
 have h0 := h00
 refine enter 94 Try.func11 rfl rfl ?_
 refine wp_reset 95 [(0, (pt sb 0))] (fun x0 => ?_)
 refine wp_seq_k fun K1 hK1 => reg_lit ?_
 refine wq_to (some 2) (xN h0 38 ([(sV ByteArray.empty), (sV ByteArray.empty), (iV .i64 0), (iV .i64 0), (iV .i64 0), (lV none 0 0)])) ?_
 rintro _ w2 ⟨g2, rfl, h2⟩
 refine wq_p 1 [(3, (bV false))] ?_
 refine wl_end rfl (seq_n hK1 (wp_seq_k fun K3 hK3 => wp_seq_k fun K4 hK4 => ?_))
 obtain ⟨c1_5, c2_5, A_5, cap_5, xs_5, fb_5, bx_5, hS_5, hG_5, h5⟩ := h2.openS 2 rfl
 clear hG_5
 obtain rfl : fb_5 = none := hS_5.f.noneE
 obtain ⟨Ap_5, cp_5, ys_5, rfl, hpm_5⟩ := hS_5.q.cons
 refine reg_lit ?_
 refine wq_p 3 [(8, (pt sb 10)), (7, (pt sb 0)), (6, (pt sb 0))] (wq_v (some 9) (bV false) (eL (h5.at_ 0 rfl) 4 (.tmp 8) 10 _) ?_)
 refine wl_end rfl (seq_n hK4 (cF (wp_skip (seq_n hK3 (wp_seq_k fun K6 hK6 => wp_seq_k fun K7 hK7 => reg_lit ?_)))))
 refine wq_p 3 [(13, (pt sb 9)), (12, (pt sb 0)), (11, (pt sb 0))] (wq_v (some 14) (Value.pointer none) (eL (h5.at_ 0 rfl) 75 (.tmp 13) 9 _) (wq_p 5 [(19, (pt sb 6)), (18, (pt sb 0)), (17, (pt sb 0)), (16, (bV true)), (15, (bV true))] (wq_v (some 20) (lV A_5 (((k, b) :: qs).length) cap_5) (eL (h5.at_ 0 rfl) 74 (.tmp 19) 6 _) ?_)))
 refine wq_p 1 [(21, (iV .i64 ((((k, b) :: qs).length : Int))))] (wq_v (some 22) (.bool true) (eqI (bV (decide ((((k, b) :: qs).length : Int) > 0))) (congrArg bV (by first | (simp; done) | (simp; omega)))) (wq_p 1 [(23, (bV true))] ?_))
 refine wl_end rfl (seq_n hK7 (cT (wp_seq_k fun K8 hK8 => wp_seq_k fun K9 hK9 => reg_lit ?_)))
 refine wq_p 3 [(26, (pt sb 7)), (25, (pt sb 0)), (24, (pt sb 0))] (wq_v (some 27) (iV .i64 ((sent : Int))) (eL (h5.at_ 0 rfl) 2 (.tmp 26) 7 _) (wq_v (some 28) (.bool false) (eqI (bV (decide ((sent : Int) ≥ 1048576))) (congrArg bV (by simp; omega))) ?_))
 refine wl_end rfl (seq_n hK9 (cF (wp_skip (seq_n hK8 (wp_seq_k fun K10 hK10 => ?_)))))
 refine pR_go h5 26 (fun W => (rBlk sb 77 ([(Value.iface 28 (pt tb 0)), (sV me), (sV peer), (iV .i64 sid), (pt c1_5 0), (pt c2_5 0), (lV A_5 (((k, b) :: qs).length) cap_5), (iV .i64 ((sent : Int))), (iV .i64 ((got : Int))), (Value.pointer none), (bV false)])).Φ W /\ (rQ 2 ((lV A_5 (((k, b) :: qs).length) cap_5)) (([.int .u64 (k : Int), .slice Ap_5 b.length cp_5] :: ys_5))).Φ W /\ True) [(34, [0], 0), (35, [0], 0), (36, [34], 2), (37, [35], 4), (38, [36], 8), (39, [37], 16), (40, [38], 32), (41, [39], 64), (42, [0], 0), (43, [41], 256), (44, [42], 512), (45, [43], 1024), (46, [44], 2048), (47, [0], 0), (48, [46], 8192), (49, [47], 16384), (50, [48], 32768), (51, [49], 65536), (52, [50], 131072), (53, [51], 262144), (54, [33, 40, 45, 52], 528513), (33, [53], 1048576), (55, [32], 2097152), (56, [32], 2097152), (5, [], 0), (0, [4, 54], 25165823), (6, [55], 67108863)] rfl (fun _ d _ _ _ h => by cases d <;> exact h) ?_
 intro hs11 w11 h11
 refine pR_p 17 [0, 1, 2, 3, 8, 9, 10, 13, 14, 15] [(48, (pt sb 6)), (47, (pt sb 0)), (46, (pt sb 0)), (43, (pt sb 7)), (42, (pt sb 0)), (41, (pt sb 0)), (36, (pt sb 6)), (35, (pt sb 0)), (34, (pt sb 0)), (33, (pt sb 0))] 59151 hs11 ⟨h11.at_ 0 rfl, h11.at_ 3 rfl, trivial⟩ ?_
 refine pR_v 4 (some 37) (lV A_5 (((k, b) :: qs).length) cap_5) 59167 rfl hs11 ⟨h11.at_ 0 rfl, h11.at_ 3 rfl, trivial⟩ (fun W hW => eL hW.1 74 (.tmp 36) 6 _) ?_
 refine pR_v 5 (some 38) (eAt A_5 (0 * 2 + 0)) 59199 rfl hs11 ⟨h11.at_ 0 rfl, h11.at_ 3 rfl, trivial⟩ (fun W hW => eIx (QV.rv (h11.at_ 3 rfl)).2 0 (((k, b) :: qs).length) (QV.rv (h11.at_ 3 rfl)).1 (by simp) 74 (.tmp 37) (.const (iV .i64 0)) .i64 70) ?_
 refine pR_v 6 (some 39) (eAt A_5 (0 * 2 + 0)) 59263 rfl hs11 ⟨h11.at_ 0 rfl, h11.at_ 3 rfl, trivial⟩ (fun W hW => e_fldN (QV.rv (h11.at_ 3 rfl)).2 0 0 0 ([(iV .u64 ((k : Int))), (lV Ap_5 b.length cp_5)]) rfl (.tmp 38) (by kernel_rfl) (fun _ _ => by kernel_rfl) (fun _ => rfl) _) ?_
 refine pR_v 7 (some 40) (iV .u64 ((k : Int))) 59391 rfl hs11 ⟨h11.at_ 0 rfl, h11.at_ 3 rfl, trivial⟩ (fun W hW => eEl (QV.rv hW.2.1).2 0 0 ([(iV .u64 ((k : Int))), (lV Ap_5 b.length cp_5)]) rfl 68 (.tmp 39) (iV .u64 ((k : Int)))) ?_
 refine pR_v 11 (some 44) (iV .i64 ((sent : Int))) 61439 rfl hs11 ⟨h11.at_ 0 rfl, h11.at_ 3 rfl, trivial⟩ (fun W hW => eL hW.1 2 (.tmp 43) 7 _) ?_
 refine pR_v 12 (some 45) (iV .i64 (((sent + 1 : Nat) : Int))) 65535 rfl hs11 ⟨h11.at_ 0 rfl, h11.at_ 3 rfl, trivial⟩ (fun W hW => exec_add _ _ _ _ rfl ((sent : Int)) 1 (by kernel_rfl) (by kernel_rfl) (((sent + 1 : Nat) : Int)) (by omega) (by omega) (by omega) _) ?_
 refine pR_v 16 (some 49) (lV A_5 (((k, b) :: qs).length) cap_5) 131071 rfl hs11 ⟨h11.at_ 0 rfl, h11.at_ 3 rfl, trivial⟩ (fun W hW => eL hW.1 74 (.tmp 48) 6 _) ?_
 refine pR_v 17 (some 50) (eAt A_5 (0 * 2 + 0)) 262143 rfl hs11 ⟨h11.at_ 0 rfl, h11.at_ 3 rfl, trivial⟩ (fun W hW => eIx (QV.rv (h11.at_ 3 rfl)).2 0 (((k, b) :: qs).length) (QV.rv (h11.at_ 3 rfl)).1 (by simp) 74 (.tmp 49) (.const (iV .i64 0)) .i64 70) ?_
 refine pR_v 18 (some 51) (eAt A_5 (0 * 2 + 1)) 524287 rfl hs11 ⟨h11.at_ 0 rfl, h11.at_ 3 rfl, trivial⟩ (fun W hW => e_fldN (QV.rv (h11.at_ 3 rfl)).2 0 0 1 ([(iV .u64 ((k : Int))), (lV Ap_5 b.length cp_5)]) rfl (.tmp 50) (by kernel_rfl) (fun _ _ => by kernel_rfl) (fun _ => rfl) _) ?_
 refine pR_v 19 (some 52) (lV Ap_5 b.length cp_5) 1048575 rfl hs11 ⟨h11.at_ 0 rfl, h11.at_ 3 rfl, trivial⟩ (fun W hW => eEl (QV.rv hW.2.1).2 0 1 ([(iV .u64 ((k : Int))), (lV Ap_5 b.length cp_5)]) rfl 26 (.tmp 51) (lV Ap_5 b.length cp_5)) ?_
 refine pR_or 20 24 hs11 ?_ ?_
 ·
  refine pR_op 20 (some 53) 2097151 rfl (x_one h11 6 rfl 0 rfl 29 [(pt sb 0), (iV .u64 ((k : Int))), (iV .i64 (((sent + 1 : Nat) : Int))), (lV Ap_5 b.length cp_5)] (by kernel_rfl) (sseal_ro (ki := kl Ki) (ei := ei) (qu := ((k, b) :: qs)) (fr := none) (h11.at_ 6 rfl) (h11.at_ 0 rfl) (h11.at_ 1 rfl) (h11.rd 0 rfl) (fun hF => h11.dis 6 0 _ _ rfl rfl (by decide) sb hF rfl) (fun hF => h11.dis 6 1 _ _ rfl rfl (by decide) c1_5 hF rfl) (h11.rdis 0 6 _ _ rfl rfl) k (sent + 1) b Ap_5 cp_5 hpm_5 hk (by omega) hb hnk hnb)) ?_
  rintro _ w12 ⟨F12, L12, ⟨_, rfl, A12, c12, rfl, hm12⟩, hs12, hx12, h12⟩
  refine ⟨fun _ => ⟨h12.at_ 0 rfl, h12.at_ 3 rfl, trivial⟩, ?_⟩
  have hnk2 := Nat.lt_of_le_of_lt (sealT_keys s (Ses.mk me peer sid (kl Ko) eo (kl Ki) ei ((k, b) :: qs) sent got none false) k (sent + 1) b) (show s.keys.length + 1 < 1000000 by omega)
  refine pR_p 3 [21, 22, 23] [(55, (iV .i64 0)), (54, (aV ([(sV me), (sV peer), (iV .i64 sid), (iV .i64 ((eo : Int))), (iV .i64 (((sent + 1 : Nat) : Int))), (lV A12 16 c12)]).toArray)), (32, (Value.tuple #[(aV ([(sV me), (sV peer), (iV .i64 sid), (iV .i64 ((eo : Int))), (iV .i64 (((sent + 1 : Nat) : Int))), (lV A12 16 c12)]).toArray), (iV .i64 0)]))] 16777215 hs11 ⟨h12.at_ 0 rfl, h12.at_ 3 rfl, trivial⟩ ?_
  refine pR_to 24 (some 4) 33554431 rfl hs11 (xN h12 38 ([(sV ByteArray.empty), (sV ByteArray.empty), (iV .i64 0), (iV .i64 0), (iV .i64 0), (lV none 0 0)])) ?_
  rintro _ w13 ⟨g13, rfl, h13⟩
  refine ⟨fun _ => ⟨h13.at_ 1 rfl, h13.at_ 4 rfl, trivial⟩, ?_⟩
  refine pR_to 25 none 67108863 rfl hs11 (xSs h13 0 38 (.tmp 4) (.tmp 54) 0 ([(sV me), (sV peer), (iV .i64 sid), (iV .i64 ((eo : Int))), (iV .i64 (((sent + 1 : Nat) : Int))), (lV A12 16 c12)]) ([(sV me), (sV peer), (iV .i64 sid), (iV .i64 ((eo : Int))), (iV .i64 (((sent + 1 : Nat) : Int))), (lV A12 16 c12)])) ?_
  rintro _ w14 h14
  refine ⟨fun _ => ⟨h14.at_ 1 rfl, h14.at_ 4 rfl, trivial⟩, ?_⟩
  refine pR_to 26 (some 5) 134217727 rfl hs11 (OpTo.run (iV .i64 0) (pureOp_run (by kernel_rfl) _) (R := fun v w => v = (iV .i64 0) /\ w14 = w) ⟨rfl, rfl⟩) ?_
  rintro _ _ ⟨rfl, rfl⟩
  refine ⟨fun h => absurd h (by decide), ?_⟩
  refine pR_done hs11 ?_ _
  refine seq_n hK10 (wp_seq_k fun K15 hK15 => wp_seq_k fun K16 hK16 => ?_)
  refine wp_reset 95 [(0, (pt sb 0)), (2, (pt g2 0)), (3, (bV false)), (4, (pt g13 0)), (5, (iV .i64 0)), (9, (bV false)), (23, (bV true)), (28, (bV false))] (fun x17 => ?_)
  refine reg_lit ?_
  refine wq_p 2 [(57, (bV false)), (56, (iV .i64 0))] ?_
  refine wl_end rfl (seq_n hK16 (cF (wp_skip (seq_n hK15 (wp_seq_k fun K18 hK18 => reg_lit ?_)))))
  refine wq_p 3 [(63, (pt sb 9)), (62, (pt sb 0)), (61, (pt sb 0))] ?_
  refine wq_to none (xSt h14 1 75 (.tmp 63) (.tmp 4) 9 (pt g13 0) ([(Value.iface 28 (pt tb 0)), (sV me), (sV peer), (iV .i64 sid), (pt c1_5 0), (pt c2_5 0), (lV A_5 (((k, b) :: qs).length) cap_5), (iV .i64 ((sent : Int))), (iV .i64 ((got : Int))), (pt g13 0), (bV false)])) ?_
  rintro _ w19 h19
  refine wl_end rfl (seq_n hK18 (wp_seq_k fun K20 hK20 => reg_lit ?_))
  refine wq_p 3 [(66, (pt sb 6)), (65, (pt sb 0)), (64, (pt sb 0))] (wq_v (some 67) (lV A_5 (((k, b) :: qs).length) cap_5) (eL (h19.at_ 1 rfl) 74 (.tmp 66) 6 _) (wq_v (some 68) (eAt A_5 (0 * 2 + 0)) (eIx (QV.rv (h19.at_ 4 rfl)).2 0 (((k, b) :: qs).length) (QV.rv (h19.at_ 4 rfl)).1 (by simp) 74 (.tmp 67) (.const (iV .i64 0)) .i64 70) (wq_v (some 69) (eAt A_5 (0 * 2 + 0)) (e_fldN (QV.rv (h19.at_ 4 rfl)).2 0 0 0 ([(iV .u64 ((k : Int))), (lV Ap_5 b.length cp_5)]) rfl (.tmp 68) (by kernel_rfl) (fun _ _ => by kernel_rfl) (fun _ => rfl) _) ?_)))
  refine wq_v (some 70) (iV .u64 ((k : Int))) (eEl (QV.rv (h19.at_ 4 rfl)).2 0 0 ([(iV .u64 ((k : Int))), (lV Ap_5 b.length cp_5)]) rfl 68 (.tmp 69) (iV .u64 ((k : Int)))) (wq_v (some 71) (.bool true) (eqI (bV (((k : Int)) == 3)) (by rw [hk3]; rfl)) (wq_p 4 [(75, (pt sb 4)), (74, (pt sb 0)), (73, (pt sb 0)), (72, (bV true))] (wq_v (some 76) (pt c1_5 0) (eL (h19.at_ 1 rfl) 73 (.tmp 75) 4 _) ?_)))
  refine wq_to (some 77) (x_rnext h19 7 2 rfl rfl (by decide) (by kernel_rfl) hnk2 (by omega) (by omega)) ?_
  rintro _ w21 ⟨K21, F21, s21, rfl, hK21, hs21, h21⟩
  refine wq_p 2 [(79, (bV false)), (78, (bV false))] ?_
  refine wl_end rfl (seq_n hK20 (cF (wp_skip (seq_n hK6 (wp_seq_k fun K22 hK22 => wp_seq_k fun K23 hK23 => reg_lit ?_)))))
  refine wq_p 3 [(85, (pt sb 9)), (84, (pt sb 0)), (83, (pt sb 0))] (wq_v (some 86) (pt g13 0) (eL (h21.at_ 1 rfl) 75 (.tmp 85) 9 _) (wq_p 1 [(87, (bV false))] ?_))
  refine wl_end rfl (seq_n hK23 (cF (wp_skip (seq_n hK22 (wp_seq_k fun K24 hK24 => reg_lit ?_)))))
  refine wq_p 3 [(91, (pt sb 9)), (90, (pt sb 0)), (89, (pt sb 0))] (wq_v (some 92) (pt g13 0) (eL (h21.at_ 1 rfl) 75 (.tmp 91) 9 _) (wq_p 1 [(93, (pt g13 0))] (wq_v (some 94) (aV ([(sV me), (sV peer), (iV .i64 sid), (iV .i64 ((eo : Int))), (iV .i64 (((sent + 1 : Nat) : Int))), (lV A12 16 c12)]).toArray) (eLs (h21.at_ 0 rfl) 38 (.tmp 93) 0 ([(sV me), (sV peer), (iV .i64 sid), (iV .i64 ((eo : Int))), (iV .i64 (((sent + 1 : Nat) : Int))), (lV A12 16 c12)])) ?_)))
  refine wq_to none (xSs h21 6 38 (.tmp 2) (.tmp 94) 0 ([(sV me), (sV peer), (iV .i64 sid), (iV .i64 ((eo : Int))), (iV .i64 (((sent + 1 : Nat) : Int))), (lV A12 16 c12)]) ([(sV me), (sV peer), (iV .i64 sid), (iV .i64 ((eo : Int))), (iV .i64 (((sent + 1 : Nat) : Int))), (lV A12 16 c12)])) ?_
  rintro _ w25 h25
  refine wq_p 1 [(3, (bV true))] ?_
  refine wl_end rfl (seq_n hK24 (wp_ret ?_))
  refine post_2 rfl (by kernel_rfl) (rce (h25.at_ 6 rfl)) (rtm (bV true)) ?_
  have hlb : (sealF s (Ses.mk me peer sid (kl Ko) eo (kl Ki) ei ((k, b) :: qs) sent got none false) (sent + 1)).box.length = 16 := mkB_len _ _
  have hq5 := hS_5.q.mono hs12
  have hf5 : FrOk L12 (some (sealF s (Ses.mk me peer sid (kl Ko) eo (kl Ki) ei ((k, b) :: qs) sent got none false) (sent + 1))) (some g13) (.slice A12 16 c12) := ⟨⟨A12, c12, by rw [hlb]⟩, by have := hm12; rw [hlb] at this; exact this⟩
  have h26 := (show Hp _ _ _ _ (lSes tb sb c1_5 c2_5 A_5 cap_5 ([.int .u64 (k : Int), .slice Ap_5 b.length cp_5] :: ys_5) (some g13) (.slice A12 16 c12) ((Ses.mk me peer sid (kl K21) (eo + 1) (kl Ki) ei ((k, b) :: qs) sent got (some (sealF s (Ses.mk me peer sid (kl Ko) eo (kl Ki) ei ((k, b) :: qs) sent got none false) (sent + 1))) false)) ++ [rFr none (frC none bx_5), rBlk g2 38 ([(sV me), (sV peer), (iV .i64 sid), (iV .i64 ((eo : Int))), (iV .i64 (((sent + 1 : Nat) : Int))), (lV A12 16 c12)]), rTab F21 tb s21]) from h25.sel [1, 2, 3, 4, 0, 5, 6, 7] [0, 1] rfl rfl rfl).closeS (L := L12) ⟨hq5, hf5, kl_len _, hS_5.ki⟩
  subst hs21
  rw [hK21] at h26
  exact ⟨_, _, _, _, rfl, ⟨_, rfl, A12, c12, by rw [hlb]; rfl, hm12⟩, (hx12 _ (LExt.refl (fun q => F q ∨ G q) w L)), h26.sel [3, 0] [0] rfl rfl rfl⟩
 ·
  refine pR_op 24 (some 4) 17825791 rfl (xN h11 38 ([(sV ByteArray.empty), (sV ByteArray.empty), (iV .i64 0), (iV .i64 0), (iV .i64 0), (lV none 0 0)])) ?_
  rintro _ w27 ⟨g27, rfl, h27⟩
  refine ⟨fun _ => ⟨h27.at_ 1 rfl, h27.at_ 4 rfl, trivial⟩, ?_⟩
  refine pR_to 20 (some 53) 18874367 rfl hs11 (x_one h27 7 rfl 0 rfl 29 [(pt sb 0), (iV .u64 ((k : Int))), (iV .i64 (((sent + 1 : Nat) : Int))), (lV Ap_5 b.length cp_5)] (by kernel_rfl) (sseal_ro (ki := kl Ki) (ei := ei) (qu := ((k, b) :: qs)) (fr := none) (h27.at_ 7 rfl) (h27.at_ 1 rfl) (h27.at_ 2 rfl) (h27.rd 0 rfl) (fun hF => h27.dis 7 1 _ _ rfl rfl (by decide) sb hF rfl) (fun hF => h27.dis 7 2 _ _ rfl rfl (by decide) c1_5 hF rfl) (h27.rdis 0 7 _ _ rfl rfl) k (sent + 1) b Ap_5 cp_5 hpm_5 hk (by omega) hb hnk hnb)) ?_
  rintro _ w28 ⟨F28, L28, ⟨_, rfl, A28, c28, rfl, hm28⟩, hs28, hx28, h28⟩
  refine ⟨fun _ => ⟨h28.at_ 1 rfl, h28.at_ 4 rfl, trivial⟩, ?_⟩
  have hnk2 := Nat.lt_of_le_of_lt (sealT_keys s (Ses.mk me peer sid (kl Ko) eo (kl Ki) ei ((k, b) :: qs) sent got none false) k (sent + 1) b) (show s.keys.length + 1 < 1000000 by omega)
  refine pR_p 2 [21, 22, 23] [(55, (iV .i64 0)), (54, (aV ([(sV me), (sV peer), (iV .i64 sid), (iV .i64 ((eo : Int))), (iV .i64 (((sent + 1 : Nat) : Int))), (lV A28 16 c28)]).toArray)), (32, (Value.tuple #[(aV ([(sV me), (sV peer), (iV .i64 sid), (iV .i64 ((eo : Int))), (iV .i64 (((sent + 1 : Nat) : Int))), (lV A28 16 c28)]).toArray), (iV .i64 0)]))] 33554431 hs11 ⟨h28.at_ 1 rfl, h28.at_ 4 rfl, trivial⟩ ?_
  refine pR_to 25 none 67108863 rfl hs11 (xSs h28 0 38 (.tmp 4) (.tmp 54) 0 ([(sV me), (sV peer), (iV .i64 sid), (iV .i64 ((eo : Int))), (iV .i64 (((sent + 1 : Nat) : Int))), (lV A28 16 c28)]) ([(sV me), (sV peer), (iV .i64 sid), (iV .i64 ((eo : Int))), (iV .i64 (((sent + 1 : Nat) : Int))), (lV A28 16 c28)])) ?_
  rintro _ w29 h29
  refine ⟨fun _ => ⟨h29.at_ 1 rfl, h29.at_ 4 rfl, trivial⟩, ?_⟩
  refine pR_to 26 (some 5) 134217727 rfl hs11 (OpTo.run (iV .i64 0) (pureOp_run (by kernel_rfl) _) (R := fun v w => v = (iV .i64 0) /\ w29 = w) ⟨rfl, rfl⟩) ?_
  rintro _ _ ⟨rfl, rfl⟩
  refine ⟨fun h => absurd h (by decide), ?_⟩
  refine pR_done hs11 ?_ _
  refine seq_n hK10 (wp_seq_k fun K30 hK30 => wp_seq_k fun K31 hK31 => ?_)
  refine wp_reset 95 [(0, (pt sb 0)), (2, (pt g2 0)), (3, (bV false)), (4, (pt g27 0)), (5, (iV .i64 0)), (9, (bV false)), (23, (bV true)), (28, (bV false))] (fun x32 => ?_)
  refine reg_lit ?_
  refine wq_p 2 [(57, (bV false)), (56, (iV .i64 0))] ?_
  refine wl_end rfl (seq_n hK31 (cF (wp_skip (seq_n hK30 (wp_seq_k fun K33 hK33 => reg_lit ?_)))))
  refine wq_p 3 [(63, (pt sb 9)), (62, (pt sb 0)), (61, (pt sb 0))] ?_
  refine wq_to none (xSt h29 1 75 (.tmp 63) (.tmp 4) 9 (pt g27 0) ([(Value.iface 28 (pt tb 0)), (sV me), (sV peer), (iV .i64 sid), (pt c1_5 0), (pt c2_5 0), (lV A_5 (((k, b) :: qs).length) cap_5), (iV .i64 ((sent : Int))), (iV .i64 ((got : Int))), (pt g27 0), (bV false)])) ?_
  rintro _ w34 h34
  refine wl_end rfl (seq_n hK33 (wp_seq_k fun K35 hK35 => reg_lit ?_))
  refine wq_p 3 [(66, (pt sb 6)), (65, (pt sb 0)), (64, (pt sb 0))] (wq_v (some 67) (lV A_5 (((k, b) :: qs).length) cap_5) (eL (h34.at_ 1 rfl) 74 (.tmp 66) 6 _) (wq_v (some 68) (eAt A_5 (0 * 2 + 0)) (eIx (QV.rv (h34.at_ 4 rfl)).2 0 (((k, b) :: qs).length) (QV.rv (h34.at_ 4 rfl)).1 (by simp) 74 (.tmp 67) (.const (iV .i64 0)) .i64 70) (wq_v (some 69) (eAt A_5 (0 * 2 + 0)) (e_fldN (QV.rv (h34.at_ 4 rfl)).2 0 0 0 ([(iV .u64 ((k : Int))), (lV Ap_5 b.length cp_5)]) rfl (.tmp 68) (by kernel_rfl) (fun _ _ => by kernel_rfl) (fun _ => rfl) _) ?_)))
  refine wq_v (some 70) (iV .u64 ((k : Int))) (eEl (QV.rv (h34.at_ 4 rfl)).2 0 0 ([(iV .u64 ((k : Int))), (lV Ap_5 b.length cp_5)]) rfl 68 (.tmp 69) (iV .u64 ((k : Int)))) (wq_v (some 71) (.bool true) (eqI (bV (((k : Int)) == 3)) (by rw [hk3]; rfl)) (wq_p 4 [(75, (pt sb 4)), (74, (pt sb 0)), (73, (pt sb 0)), (72, (bV true))] (wq_v (some 76) (pt c1_5 0) (eL (h34.at_ 1 rfl) 73 (.tmp 75) 4 _) ?_)))
  refine wq_to (some 77) (x_rnext h34 7 2 rfl rfl (by decide) (by kernel_rfl) hnk2 (by omega) (by omega)) ?_
  rintro _ w36 ⟨K36, F36, s36, rfl, hK36, hs36, h36⟩
  refine wq_p 2 [(79, (bV false)), (78, (bV false))] ?_
  refine wl_end rfl (seq_n hK35 (cF (wp_skip (seq_n hK6 (wp_seq_k fun K37 hK37 => wp_seq_k fun K38 hK38 => reg_lit ?_)))))
  refine wq_p 3 [(85, (pt sb 9)), (84, (pt sb 0)), (83, (pt sb 0))] (wq_v (some 86) (pt g27 0) (eL (h36.at_ 1 rfl) 75 (.tmp 85) 9 _) (wq_p 1 [(87, (bV false))] ?_))
  refine wl_end rfl (seq_n hK38 (cF (wp_skip (seq_n hK37 (wp_seq_k fun K39 hK39 => reg_lit ?_)))))
  refine wq_p 3 [(91, (pt sb 9)), (90, (pt sb 0)), (89, (pt sb 0))] (wq_v (some 92) (pt g27 0) (eL (h36.at_ 1 rfl) 75 (.tmp 91) 9 _) (wq_p 1 [(93, (pt g27 0))] (wq_v (some 94) (aV ([(sV me), (sV peer), (iV .i64 sid), (iV .i64 ((eo : Int))), (iV .i64 (((sent + 1 : Nat) : Int))), (lV A28 16 c28)]).toArray) (eLs (h36.at_ 0 rfl) 38 (.tmp 93) 0 ([(sV me), (sV peer), (iV .i64 sid), (iV .i64 ((eo : Int))), (iV .i64 (((sent + 1 : Nat) : Int))), (lV A28 16 c28)])) ?_)))
  refine wq_to none (xSs h36 6 38 (.tmp 2) (.tmp 94) 0 ([(sV me), (sV peer), (iV .i64 sid), (iV .i64 ((eo : Int))), (iV .i64 (((sent + 1 : Nat) : Int))), (lV A28 16 c28)]) ([(sV me), (sV peer), (iV .i64 sid), (iV .i64 ((eo : Int))), (iV .i64 (((sent + 1 : Nat) : Int))), (lV A28 16 c28)])) ?_
  rintro _ w40 h40
  refine wq_p 1 [(3, (bV true))] ?_
  refine wl_end rfl (seq_n hK39 (wp_ret ?_))
  refine post_2 rfl (by kernel_rfl) (rce (h40.at_ 6 rfl)) (rtm (bV true)) ?_
  have hlb : (sealF s (Ses.mk me peer sid (kl Ko) eo (kl Ki) ei ((k, b) :: qs) sent got none false) (sent + 1)).box.length = 16 := mkB_len _ _
  have hq5 := hS_5.q.mono hs28
  have hf5 : FrOk L28 (some (sealF s (Ses.mk me peer sid (kl Ko) eo (kl Ki) ei ((k, b) :: qs) sent got none false) (sent + 1))) (some g27) (.slice A28 16 c28) := ⟨⟨A28, c28, by rw [hlb]⟩, by have := hm28; rw [hlb] at this; exact this⟩
  have h41 := (show Hp _ _ _ _ (lSes tb sb c1_5 c2_5 A_5 cap_5 ([.int .u64 (k : Int), .slice Ap_5 b.length cp_5] :: ys_5) (some g27) (.slice A28 16 c28) ((Ses.mk me peer sid (kl K36) (eo + 1) (kl Ki) ei ((k, b) :: qs) sent got (some (sealF s (Ses.mk me peer sid (kl Ko) eo (kl Ki) ei ((k, b) :: qs) sent got none false) (sent + 1))) false)) ++ [rFr none (frC none bx_5), rBlk g2 38 ([(sV me), (sV peer), (iV .i64 sid), (iV .i64 ((eo : Int))), (iV .i64 (((sent + 1 : Nat) : Int))), (lV A28 16 c28)]), rTab F36 tb s36]) from h40.sel [1, 2, 3, 4, 0, 5, 6, 7] [0, 1] rfl rfl rfl).closeS (L := L28) ⟨hq5, hf5, kl_len _, hS_5.ki⟩
  subst hs36
  rw [hK36] at h41
  exact ⟨_, _, _, _, rfl, ⟨_, rfl, A28, c28, by rw [hlb]; rfl, hm28⟩, (hx28 _ (LExt.refl (fun q => F q ∨ G q) w L)), h41.sel [3, 0] [0] rfl rfl rfl⟩
end
section
open Go.RowKit Go.QT
theorem FrOk.mono {L L' : List (Value × Bytes)} {f : Option Frm} {fb : Option Nat} {v : Value} (h : FrOk L f fb v) (hL : ∀ p, p ∈ L -> p ∈ L') : FrOk L' f fb v := by
 revert h
 cases f <;> cases fb <;> intro hf
 · exact hf
 · exact hf
 · exact hf
 · exact ⟨hf.1, hL _ hf.2⟩
section
variable {F0 : Nat -> Prop} {w0 w : World} {ro rs : List Res} {L : List (Value × Bytes)} {o : Oper} {a : Act} {P : Program}
theorem x_Read (h : Hp F0 w0 w ro rs) {v : DVal} (fn : FuncId) (al : List Value) (hp : pureVal P (execOp a.eval o) = some (.enter fn al.toArray)) (hc : Calls P fn al.toArray w (ReadOk w v)) :
   OpTo P o a w (fun u w' => ∃ F cs, u = .tuple #[.agg cs.toArray, .int .i64 0] /\ Hp F0 w0 w' ro (rDV F cs v :: rs)) :=
 OpTo.enter fn al hp hc fun e w' hq => by
   obtain ⟨F, cs, he, h2⟩ := hq
   exact ⟨_, he, F, cs, rfl, h.call0 h2⟩
theorem dvr_bytes {F : Nat -> Prop} {cs : List Value} {k t n : Nat} {b : Bytes} (h : DVR F w cs (.mk k t n b [])) : ∃ B d A c, cs = [.int .i64 (k : Int), .int .i64 (t : Int), .int .u64 (n : Int), .slice B b.length d, .slice A 0 c] /\ SBF F w (.slice B b.length d) b := by
 cases h with
 | mk _ _ _ bv _ A c xs _ hn hb hx hl hs =>
   obtain ⟨B, d, rfl, _⟩ := id hb.1
   exact ⟨B, d, A, c, rfl, hb⟩
theorem Hp.cont {F : Nat -> Prop} {cs : List Value} {k n : Nat} {b : Bytes} (h : Hp F0 w0 w ro rs) (i : Nat) (hi : rs[i]? = some (rDV F cs (contV k n b))) (m : Nat) (hm : ro[m]? = some (rF L)) :
   ∃ B d A c B0 d0 A0 c0 B1 d1 A1 c1 B2 d2 A2 c2, cs = [.int .i64 2, .int .i64 1, .int .u64 0, .slice B 0 d, .slice A 3 c] /\ (∀ p, p ∈ L -> p ∈ ((Value.slice B2 b.length d2, b) :: L)) /\ (∀ L0, LExt F0 w0 L0 L -> LExt F0 w0 L0 ((.slice B2 b.length d2, b) :: L)) /\
     Hp F0 w0 w (rRV 5 A c [[.int .i64 0, .int .i64 0, .int .u64 (k : Int), .slice B0 0 d0, .slice A0 0 c0], [.int .i64 0, .int .i64 0, .int .u64 (n : Int), .slice B1 0 d1, .slice A1 0 c1], [.int .i64 1, .int .i64 0, .int .u64 0, .slice B2 b.length d2, .slice A2 0 c2]] :: rF ((.slice B2 b.length d2, b) :: L) :: ro) (rs.eraseIdx i) := by
 have hd := (h.own i _ hi).2
 unfold contV at hd
 cases hd with
 | mk _ _ _ bv _ A c xs _ hn hb hx hl hs =>
   obtain ⟨B, d, rfl, _⟩ := id hb.1
   match xs, hl with
   | [x0, x1, x2], _ =>
     obtain ⟨B0, d0, A0, c0, rfl, _⟩ := dvr_bytes (hs 0 _ _ rfl rfl)
     obtain ⟨B1, d1, A1, c1, rfl, _⟩ := dvr_bytes (hs 1 _ _ rfl rfl)
     obtain ⟨B2, d2, A2, c2, rfl, h2⟩ := dvr_bytes (hs 2 _ _ rfl rfl)
     have hF : ∀ q, (rSB (.slice B2 b.length d2) b).F q -> F q := fun q hq => h2.2 hq.1 q hq.2
     refine ⟨B, d, A, c, B0, d0, A0, c0, B1, d1, A1, c1, B2, d2, A2, c2, rfl, fun p hp => List.mem_cons_of_mem _ hp, fun L0 hL => h.lext hL i hi hF, ?_⟩
     have h1 := h.share i hi
     exact (h.freeze m hm i hi (fun _ => h2.1) hF).addR (rRV 5 A c _) hx.1 fun j s hj q hq h3 => h1.rdis 0 j _ _ rfl hj q (hx.2 hq.1 q hq.2) h3
end
section
variable {P : Program} {w : World} {a : Act}
theorem post_4 {fn : Func} {R : Ending -> World -> Prop} {r s t q : ResultVar} {v u x y : Value} (hf : fn.results = #[r, s, t, q]) (hd : a.defers = []) (h1 : (resOne a.tmps r).run P w = .ok v w) (h2 : (resOne a.tmps s).run P w = .ok u w) (h3 : (resOne a.tmps t).run P w = .ok x w) (h4 : (resOne a.tmps q).run P w = .ok y w)
   (hr : R (.returned (.tuple #[v, u, x, y])) w) : bodyPost P fn R .ret a w :=
 ⟨hd, _, by rw [results_eq, hf]; simp [h1, h2, h3, h4], hr⟩
end
end
end Go.Proofs.Ytjalodhdjollhaa
