/- Steps and plain functions for the walks of package seal. (Texts laid one behind the other: MacD, AesW, AesB, AesX, AesN, AesS, StmP, Equal, SealX.) -/
import Derived.BigQuiet
import Derived.Deep.MidRow
import Derived.Deep.DeepCutAuto
import Derived.Test.YtpkelokaammmjaaDoorCA5
/-! The walks of mac.Derive, Text. -/
section
namespace Go.Proofs.YtpkelokaammmjaaDoor
open Go.RowKit Go.QT
set_option maxRecDepth 100000 in
set_option maxHeartbeats 4000000 in
theorem mderive_any (K : Fin 16 → UInt8) (s : ByteArray) (hs : s.size ≤ 1048576) (w : World) : Calls Tryd.prog 40 #[.agg (vb (kl K)).toArray, .string s] w (APost w (derF (kl K) s.data.toList)) := by
  have h0 := Hp.nil (fun _ => False) w
  refine enter 17 Tryd.func40 rfl rfl ?_
  refine wp_reset 19 [(0, (Value.agg (vb (kl K)).toArray)), (1, (Value.string s))] (fun x0 => ?_)
  refine wp_seq_k ?_
  intro K1 hK1
  refine reg_lit ?_
  refine wq_to (some 2) (x_new h0 28 (vb (kl K)) (fun r => pt r 0) (by kernel_rfl)) ?_
  rintro _ w2 ⟨g2, rfl, h2⟩
  refine wq_to (some 4) (x_new h2 28 (vb (List.replicate 16 0)) (fun r => pt r 0) (by kernel_rfl)) ?_
  rintro _ w3 ⟨g3, rfl, h3⟩
  refine wl_end rfl ?_
  refine seq_n hK1 ?_
  refine wp_seq_k ?_
  intro K4 hK4
  refine reg_lit ?_
  refine wq_p 2 [(9, (Value.string s)), (8, (Value.slice (some ⟨g2, 0, none⟩) 16 16))] ?_
  refine wq_to (some 10) (x_convN h3 (.tmp 9) (by kernel_rfl) s (by kernel_rfl) hs (s.data.toList) rfl (s.data.toList.length) rfl) ?_
  rintro _ w5 ⟨A5, c5, rfl, h5⟩
  refine wq_to (some 11) (x_bsl h5 [0, 1] (by kernel_rfl)) ?_
  rintro _ w6 ⟨g6, rfl, hw6, hg6, hq6, h6⟩
  refine wq_to (some 12) (x_bs h6 22 ([(Value.slice A5 s.data.toList.length c5), (Value.slice (some ⟨g6, 0, none⟩) 2 2)]) 2 (by kernel_rfl)) ?_
  rintro _ w7 ⟨g7, rfl, h7⟩
  refine wq_to (some 13) (x_bytesE h7 26 [(Value.slice (some ⟨g2, 0, none⟩) 16 16), (Value.slice (some ⟨g7, 0, none⟩) 2 2)] (by kernel_rfl) (sum_any (Value.slice (some ⟨g2, 0, none⟩) 16 16) (kl K) (Value.slice (some ⟨g7, 0, none⟩) 2 2) [s.data.toList, [0, 1]] _ (SB.blk16 (K := K) (h7.at_ 3 rfl)) (bs2 (h7.at_ 0 rfl) (h7.rd 0 rfl) (SB.blk (h7.at_ 1 rfl) (by kernel_rfl) (by kernel_rfl) (by kernel_rfl))) (by first | omega | (simp [mac_len, put8_len]; done) | (simp [bsize]; omega) | (rw [kl_len]; decide)) (by simp) (by first | (simp; done) | (simp; omega))) (macF (kl K) (s.data.toList ++ ([0, 1]))) (32) (by simp) (mac_len _ _).symm) ?_
  rintro _ w8 ⟨A8, c8, rfl, h8⟩
  refine wq_v (some 14) (cutS (Value.slice A8 32 c8) 0 16) (e_cut_h (OB.sb (h8.at_ 0 rfl)) (.tmp 13) (.const (Value.int .i64 16)) (by kernel_rfl) (by kernel_rfl) .i64 16 (by kernel_rfl) (by first | omega | (rw [mac_len]; decide) | (rw [sha_len]; decide) | (rw [put8_len]; decide)) _) ?_
  refine wq_to (some 15) (x_okey h8 (((macF (kl K) (s.data.toList ++ ([0, 1]))).take 16).drop 0) (cutS (Value.slice A8 32 c8) 0 16) (by kernel_rfl) (SB.cut (OB.sb (h8.at_ 0 rfl)) 0 16 (by first | omega | (rw [mac_len]; decide) | (rw [sha_len]; decide) | (rw [put8_len]; decide))) (by first | (rw [len_cut _ _ _ (by rw [mac_len]; decide)]) | (simp [mac_len]; done))) ?_
  rintro _ w9 ⟨K9, rfl, hK9, h9⟩
  refine wq_p 3 [(17, (Value.bool true)), (16, (Value.agg (vb (kl K9)).toArray)), (7, (Value.tuple #[(Value.agg (vb (kl K9)).toArray), (Value.bool true)]))] ?_
  refine wq_to (some 5) (x_new h9 28 (vb (List.replicate 16 0)) (fun r => pt r 0) (by kernel_rfl)) ?_
  rintro _ w10 ⟨g10, rfl, h10⟩
  refine wq_to none (x_stores h10 0 rfl 28 (.tmp 5) (.tmp 16) (by kernel_rfl) 0 (vb (kl K9)) (vb (kl K9)) (by kernel_rfl) (by kernel_rfl) (by kernel_rfl) (by kernel_rfl) (by kernel_rfl) (by kernel_rfl)) ?_
  rintro _ w11 h11
  refine wq_p 1 [(6, (Value.bool true))] ?_
  refine wl_end rfl ?_
  refine seq_n hK4 ?_
  refine wp_seq_k ?_
  intro K12 hK12
  refine reg_lit ?_
  refine wq_v (some 18) (Value.agg (vb (kl K9)).toArray) (e_loads (h11.at_ 0 rfl) 28 (.tmp 5) (by kernel_rfl) 0 (vb (kl K9)) (by kernel_rfl) (by kernel_rfl) (by kernel_rfl)) ?_
  refine wq_to none (x_stores h11 4 rfl 28 (.tmp 4) (.tmp 18) (by kernel_rfl) 0 (vb (kl K9)) (vb (kl K9)) (by kernel_rfl) (by kernel_rfl) (by kernel_rfl) (by kernel_rfl) (by kernel_rfl) (by kernel_rfl)) ?_
  rintro _ w13 h13
  refine wl_end rfl ?_
  refine seq_n hK12 ?_
  refine wp_ret ?_
  refine post_1 rfl (by kernel_rfl) (rcell (h13.at_ 4 rfl) (by kernel_rfl) (by kernel_rfl)) ?_
  exact ⟨by rw [hK9]; rfl, h13.below0⟩
set_option maxRecDepth 100000 in
set_option maxHeartbeats 4000000 in
theorem mtext_any (p s : ByteArray) (hp : p.size ≤ 1048576) (hs : s.size ≤ 1048576) (w : World) : Calls Tryd.prog 39 #[.string p, .string s] w (APost w (textS p.data.toList s.data.toList)) := by
  have h0 := Hp.nil (fun _ => False) w
  refine enter 54 Tryd.func39 rfl rfl ?_
  refine wp_reset 56 [(0, (Value.string p)), (1, (Value.string s))] (fun x0 => ?_)
  refine wp_seq_k ?_
  intro K1 hK1
  refine reg_lit ?_
  refine wq_to (some 4) (x_new h0 28 (vb (List.replicate 16 0)) (fun r => pt r 0) (by kernel_rfl)) ?_
  rintro _ w2 ⟨g2, rfl, h2⟩
  refine wl_end rfl ?_
  refine seq_n hK1 ?_
  refine wp_seq_k ?_
  intro K3 hK3
  refine reg_lit ?_
  refine wq_p 1 [(11, (Value.string p))] ?_
  refine wq_to (some 12) (x_convN h2 (.tmp 11) (by kernel_rfl) p (by kernel_rfl) hp (p.data.toList) rfl (p.data.toList.length) rfl) ?_
  rintro _ w4 ⟨A4, c4, rfl, h4⟩
  refine wq_p 1 [(13, (Value.string s))] ?_
  refine wq_to (some 14) (x_convN h4 (.tmp 13) (by kernel_rfl) s (by kernel_rfl) hs (s.data.toList) rfl (s.data.toList.length) rfl) ?_
  rintro _ w5 ⟨A5, c5, rfl, h5⟩
  refine wq_to (some 15) (x_bsl h5 [0, 0, 0, 1] (by kernel_rfl)) ?_
  rintro _ w6 ⟨g6, rfl, hw6, hg6, hq6, h6⟩
  refine wq_to (some 16) (x_bs h6 22 ([(Value.slice A5 s.data.toList.length c5), (Value.slice (some ⟨g6, 0, none⟩) 4 4)]) 2 (by kernel_rfl)) ?_
  rintro _ w7 ⟨g7, rfl, h7⟩
  refine wq_to (some 17) (x_bytesE h7 26 [(Value.slice A4 p.data.toList.length c4), (Value.slice (some ⟨g7, 0, none⟩) 2 2)] (by kernel_rfl) (sum_any (Value.slice A4 p.data.toList.length c4) p.data.toList (Value.slice (some ⟨g7, 0, none⟩) 2 2) [s.data.toList, [0, 0, 0, 1]] _ (h7.rd 1 rfl) (bs2 (h7.at_ 0 rfl) (h7.rd 0 rfl) (SB.blk (h7.at_ 1 rfl) (by kernel_rfl) (by kernel_rfl) (by kernel_rfl))) (by rw [bsize]; omega) (by simp) (by simp; omega)) (macF p.data.toList (s.data.toList ++ ([0, 0, 0, 1]))) (32) (by simp) (mac_len _ _).symm) ?_
  rintro _ w8 ⟨A8, c8, rfl, h8⟩
  refine wq_p 1 [(5, (Value.slice A8 32 c8))] ?_
  refine wl_end rfl ?_
  refine seq_n hK3 ?_
  refine wp_seq_k ?_
  intro K9 hK9
  refine reg_lit ?_
  refine wq_p 2 [(6, (Value.slice A8 32 c8)), (18, (Value.slice A8 32 c8))] ?_
  refine wl_end rfl ?_
  refine seq_n hK9 ?_
  refine wp_seq_k ?_
  intro K10 hK10
  refine wp_seq_k ?_
  intro K11 hK11
  have h12 := (h8).shareO 0 rfl
  
  refine reg_lit ?_
  refine wq_p 1 [(19, (Value.int .i64 0))] ?_
  refine wl_end rfl ?_
  refine seq_n hK11 ?_
  refine wp_block ?_
  refine wp_loopm (fun mM xX aA wL => ∃ (n : Nat) (At : Option Addr) (ct : Nat) (tt : Bytes) (uu : Bytes) (Au : Option Addr) (cu : Nat), (n ≤ 15) ∧ (tt = tN p.data.toList (macF p.data.toList (s.data.toList ++ ([0, 0, 0, 1]))) (n)) ∧ (uu = uN p.data.toList (macF p.data.toList (s.data.toList ++ ([0, 0, 0, 1]))) (n)) ∧ ((tt : Bytes).length = 32) ∧ ((uu : Bytes).length = 32) ∧ mM = 15 - (n) ∧ aA = patch xX 56 [(0, (Value.string p)), (1, (Value.string s)), (4, (pt g2 0)), (5, (Value.slice At 32 ct)), (6, (Value.slice Au 32 cu)), (19, (Value.int .i64 ((n : Int))))] ∧ Hp (fun _ => False) w wL [rSB ((Value.slice At 32 ct)) tt, rSB ((Value.slice Au 32 cu)) uu] [rBlk g2 28 (vb (List.replicate 16 0))]) ⟨_, 0, A8, c8, (macF p.data.toList (s.data.toList ++ ([0, 0, 0, 1]))), (macF p.data.toList (s.data.toList ++ ([0, 0, 0, 1]))), A8, c8, (by omega), rfl, rfl, (mac_len _ _), (mac_len _ _), rfl, (patch_eq _ 56 _ (by kernel_rfl) (by kernel_rfl) (by kernel_rfl)), h12.sel [2] [0, 0] (by kernel_rfl) rfl rfl⟩ ?_
  rintro _ x13 _ w13 ⟨n, At, ct, tt, uu, Au, cu, hn, hT, hU, htt, huu, rfl, rfl, h13⟩
  refine wp_seq_k ?_
  intro K14 hK14
  refine reg_lit ?_
  refine wq_p 1 [(20, (Value.bool (decide ((n : Int) < 15))))] ?_
  refine wl_end rfl ?_
  refine seq_n hK14 ?_
  refine wp_seq_k ?_
  intro K15 hK15
  refine wp_if ((n : Int) < 15) (by kernel_rfl) (fun b16 => ?_) (fun b16 => ?_)
  ·
   refine wp_skip ?_
   refine seq_n hK15 ?_
   refine wp_seq_k ?_
   intro K17 hK17
   refine wp_block ?_
   refine wp_seq_k ?_
   intro K18 hK18
   refine reg_lit ?_
   refine wq_p 1 [(21, (Value.string p))] ?_
   refine wq_to (some 22) (x_convN h13 (.tmp 21) (by kernel_rfl) p (by kernel_rfl) hp (p.data.toList) rfl (p.data.toList.length) rfl) ?_
   rintro _ w19 ⟨A19, c19, rfl, h19⟩
   refine wq_p 1 [(23, (Value.slice Au 32 cu))] ?_
   refine wq_to (some 24) (x_bs h19 22 ([(Value.slice Au 32 cu)]) 1 (by kernel_rfl)) ?_
   rintro _ w20 ⟨g20, rfl, h20⟩
   refine wq_to (some 25) (x_bytesE h20 26 [(Value.slice A19 p.data.toList.length c19), (Value.slice (some ⟨g20, 0, none⟩) 1 1)] (by kernel_rfl) (sum_any (Value.slice A19 p.data.toList.length c19) p.data.toList (Value.slice (some ⟨g20, 0, none⟩) 1 1) [uu] _ (h20.rd 0 rfl) (bs1 (h20.at_ 0 rfl) (h20.rd 2 rfl)) (by rw [bsize]; omega) (by simp) (by simp [huu]; try omega)) (macF p.data.toList (uu)) (32) (by simp) (mac_len _ _).symm) ?_
   rintro _ w21 ⟨A21, c21, rfl, h21⟩
   refine wq_p 1 [(6, (Value.slice A21 32 c21))] ?_
   refine wl_end rfl ?_
   refine seq_n hK18 ?_
   refine wp_seq_k ?_
   intro K22 hK22
   refine reg_lit ?_
   refine wq_p 2 [(27, (Value.int .i64 32)), (26, (Value.slice At 32 ct))] ?_
   refine wq_to (some 28) (x_make h21 (.tmp 27) (.tmp 27) (by kernel_rfl) 32 (by kernel_rfl) (by kernel_rfl) (by omega)) ?_
   rintro _ w23 ⟨g23, rfl, h23⟩
   refine wq_p 1 [(7, (Value.slice (some ⟨g23, 0, none⟩) 32 32))] ?_
   refine wl_end rfl ?_
   refine seq_n hK22 ?_
   refine wp_seq_k ?_
   intro K24 hK24
   refine wp_seq_k ?_
   intro K25 hK25
   refine reg_lit ?_
   refine wq_p 3 [(31, (Value.int .i64 0)), (30, (Value.int .i64 32)), (29, (Value.slice (some ⟨g23, 0, none⟩) 32 32))] ?_
   refine wl_end rfl ?_
   refine seq_n hK25 ?_
   refine wp_block ?_
   refine wp_loopm (fun mM xX aA wL => ∃ (i : Nat) (ln : Bytes), (i ≤ 32) ∧ (ln = xorS tt (macF p.data.toList uu) (i)) ∧ ((ln : Bytes).length = 32) ∧ mM = 32 - (i) ∧ aA = patch xX 56 [(0, (Value.string p)), (1, (Value.string s)), (4, (pt g2 0)), (5, (Value.slice At 32 ct)), (6, (Value.slice A21 32 c21)), (7, (Value.slice (some ⟨g23, 0, none⟩) 32 32)), (19, (Value.int .i64 ((n : Int)))), (20, (Value.bool (decide ((n : Int) < 15)))), (30, (Value.int .i64 32)), (31, (Value.int .i64 ((i : Int))))] ∧ Hp (fun _ => False) w wL [rSB ((Value.slice A19 p.data.toList.length c19)) p.data.toList, rSB ((Value.slice At 32 ct)) tt, rSB ((Value.slice Au 32 cu)) uu] [rOB ((Value.slice (some ⟨g23, 0, none⟩) 32 32)) ln, rOB ((Value.slice A21 32 c21)) (macF p.data.toList (uu)), rBlk g20 22 ([(Value.slice Au 32 cu)]), rBlk g2 28 (vb (List.replicate 16 0))]) ⟨_, 0, ((List.replicate 32 0)), (by omega), rfl, rfl, rfl, (patch_eq _ 56 _ (by kernel_rfl) (by kernel_rfl) (by kernel_rfl)), h23.sel [0, 1, 2, 3] [0, 1, 2] (by kernel_rfl) rfl rfl⟩ ?_
   rintro _ x26 _ w26 ⟨i, ln, hi, hL, hln, rfl, rfl, h26⟩
   refine wp_seq_k ?_
   intro K27 hK27
   refine reg_lit ?_
   refine wq_p 1 [(32, (Value.bool (decide ((i : Int) < 32))))] ?_
   refine wl_end rfl ?_
   refine seq_n hK27 ?_
   refine wp_seq_k ?_
   intro K28 hK28
   refine wp_if ((i : Int) < 32) (by kernel_rfl) (fun b29 => ?_) (fun b29 => ?_)
   ·
    refine wp_skip ?_
    refine seq_n hK28 ?_
    refine wp_seq_k ?_
    intro K30 hK30
    refine wp_block ?_
    refine wp_seq_k ?_
    intro K31 hK31
    refine reg_lit ?_
    refine wq_p 2 [(8, (Value.int .i64 ((i : Int)))), (33, (Value.int .i64 ((i : Int))))] ?_
    refine wl_end rfl ?_
    refine seq_n hK31 ?_
    refine pR_go h26 11 (fun W => (rSB ((Value.slice At 32 ct)) tt).Φ W ∧ (rOB ((Value.slice A21 32 c21)) (macF p.data.toList (uu))).Φ W ∧ True) [(35, [7], 0), (36, [8], 0), (37, [5], 0), (38, [8], 0), (39, [36, 37], 12), (40, [38], 16), (41, [6], 0), (42, [8], 0), (43, [40, 41], 192), (44, [42], 256), (45, [39, 43], 544), (46, [34, 35], 2047), (0, [45, 44], 4095)] rfl (fun _ d _ _ _ h => by cases d <;> exact h) ?_
    intro hs32 w32 h32
    refine pR_p 7 [0, 1, 2, 3, 6, 7] [(41, (Value.int .i64 ((i : Int)))), (40, (Value.slice A21 32 c21)), (37, (Value.int .i64 ((i : Int)))), (36, (Value.slice At 32 ct)), (35, (Value.int .i64 ((i : Int)))), (34, (Value.slice (some ⟨g23, 0, none⟩) 32 32))] 207 hs32 ⟨h32.rd 1 rfl, h32.at_ 1 rfl, trivial⟩ ?_
    refine pR_v 4 (some 38) (eAt At (i * 1 + 0)) 223 rfl hs32 ⟨h32.rd 1 rfl, h32.at_ 1 rfl, trivial⟩ (fun W hW => e_idxN (SB.rvn (h32.rd 1 rfl)).2 i 32 (SB.rvn (h32.rd 1 rfl)).1 (by first | omega | (rw [hln]; omega) | (rw [htt]; omega) | (rw [mac_len]; omega)) 22 (.tmp 36) (.tmp 37) (by kernel_rfl) .i64 (by kernel_rfl) (by kernel_rfl) 5 (by kernel_rfl) (by kernel_rfl) _) ?_
    refine pR_v 8 (some 42) (eAt A21 (i * 1 + 0)) 479 rfl hs32 ⟨h32.rd 1 rfl, h32.at_ 1 rfl, trivial⟩ (fun W hW => e_idxN (SB.rvn (OB.sb (h32.at_ 1 rfl))).2 i 32 (SB.rvn (OB.sb (h32.at_ 1 rfl))).1 (by first | omega | (rw [hln]; omega) | (rw [htt]; omega) | (rw [mac_len]; omega)) 22 (.tmp 40) (.tmp 41) (by kernel_rfl) .i64 (by kernel_rfl) (by kernel_rfl) 5 (by kernel_rfl) (by kernel_rfl) _) ?_
    refine pR_v 5 (some 39) (Value.int .u8 (ub (gb (tt) (i)))) 511 rfl hs32 ⟨h32.rd 1 rfl, h32.at_ 1 rfl, trivial⟩ (fun W hW => e_elemN (SB.rvn hW.1).2 i 0 ([(Value.int .u8 (ub (gb (tt) (i))))]) (bx_get _ _ (by first | omega | (rw [hln]; omega) | (rw [htt]; omega) | (rw [mac_len]; omega))) 5 (.tmp 38) (by kernel_rfl) (Value.int .u8 (ub (gb (tt) (i)))) (by kernel_rfl) (by kernel_rfl) (by kernel_rfl)) ?_
    refine pR_v 9 (some 43) (Value.int .u8 (ub (gb (macF p.data.toList (uu)) (i)))) 1023 rfl hs32 ⟨h32.rd 1 rfl, h32.at_ 1 rfl, trivial⟩ (fun W hW => e_elemN (SB.rvn (OB.sb hW.2.1)).2 i 0 ([(Value.int .u8 (ub (gb (macF p.data.toList (uu)) (i))))]) (bx_get _ _ (by first | omega | (rw [hln]; omega) | (rw [htt]; omega) | (rw [mac_len]; omega))) 5 (.tmp 42) (by kernel_rfl) (Value.int .u8 (ub (gb (macF p.data.toList (uu)) (i)))) (by kernel_rfl) (by kernel_rfl) (by kernel_rfl)) ?_
    refine pR_v 10 (some 44) (Value.int .u8 (ub (((gb (tt) (i))) ^^^ ((gb (macF p.data.toList (uu)) (i)))))) 2047 rfl hs32 ⟨h32.rd 1 rfl, h32.at_ 1 rfl, trivial⟩ (fun W hW => eq_is (v := Value.int .u8 (bits .xor .u8 (ub ((gb (tt) (i)))) (ub ((gb (macF p.data.toList (uu)) (i)))))) (by kernel_rfl) (b_xor ((gb (tt) (i))) ((gb (macF p.data.toList (uu)) (i))))) ?_
    refine pR_to 11 (some 45) 4095 rfl hs32 (OpTo.run (eAt (some ⟨g23, 0, none⟩) (i * 1 + 0)) (e_idxN (SB.rvn (OB.sb (h32.at_ 0 rfl))).2 i 32 (SB.rvn (OB.sb (h32.at_ 0 rfl))).1 (by first | omega | (rw [hln]; omega) | (rw [htt]; omega) | (rw [mac_len]; omega)) 22 (.tmp 34) (.tmp 35) (by kernel_rfl) .i64 (by kernel_rfl) (by kernel_rfl) 5 (by kernel_rfl) (by kernel_rfl) _) (R := fun v w => v = (eAt (some ⟨g23, 0, none⟩) (i * 1 + 0)) ∧ w32 = w) ⟨rfl, rfl⟩) ?_
    rintro _ _ ⟨rfl, rfl⟩
    refine ⟨fun h => absurd h (by decide), ?_⟩
    refine pR_to 12 none 8191 rfl hs32 (x_storeB h32 0 rfl i (by first | omega | (rw [hln]; omega) | (rw [htt]; omega) | (rw [mac_len]; omega)) 5 (.tmp 45) (.tmp 44) (by kernel_rfl) ((((gb (tt) (i))) ^^^ ((gb (macF p.data.toList (uu)) (i))))) (by kernel_rfl) (by kernel_rfl) (by kernel_rfl)) ?_
    rintro _ w33 h33
    refine ⟨fun h => absurd h (by decide), ?_⟩
    refine pR_done hs32 ?_ _
    refine blk_n ?_
    refine seq_n hK30 ?_
    refine reg_lit ?_
    refine wq_v (some 46) (Value.int .i64 ((i : Int) + 1)) (exec_add _ _ _ _ rfl ((i : Int)) 1 (by kernel_rfl) (by kernel_rfl) ((i : Int) + 1) rfl (by omega) (by omega) _) ?_
    refine wq_p 1 [(31, (Value.int .i64 ((i : Int) + 1)))] ?_
    refine wl_end rfl ?_
    refine ⟨32 - (i + 1), (by omega), (i + 1), (ln.set i ((((gb (tt) (i))) ^^^ ((gb (macF p.data.toList (uu)) (i)))))), (by omega), (by rw [hL]; rfl), (by rw [List.length_set]; exact hln), rfl, (patch_eq _ 56 _ (by kernel_rfl) (by kernel_rfl) (by kernel_rfl)), h33.sel [0, 1, 2, 3] [0, 1, 2] (by kernel_rfl) rfl rfl⟩
   ·
    refine wp_exit ?_
    refine seq_e ?_
    refine seq_e ?_
    refine blk_e ?_
    refine seq_n hK24 ?_
    have hL2 : ln = xorS tt (macF p.data.toList uu) 32 := by rw [hL, show i = 32 by omega]
    refine reg_lit ?_
    refine wq_p 2 [(5, (Value.slice (some ⟨g23, 0, none⟩) 32 32)), (47, (Value.slice (some ⟨g23, 0, none⟩) 32 32))] ?_
    refine wl_end rfl ?_
    refine blk_n ?_
    refine seq_n hK17 ?_
    refine reg_lit ?_
    refine wq_v (some 48) (Value.int .i64 ((n : Int) + 1)) (exec_add _ _ _ _ rfl ((n : Int)) 1 (by kernel_rfl) (by kernel_rfl) ((n : Int) + 1) rfl (by omega) (by omega) _) ?_
    refine wq_p 1 [(19, (Value.int .i64 ((n : Int) + 1)))] ?_
    refine wl_end rfl ?_
    have h34 := (h26).shareO 0 rfl
    have h35 := (h34).shareO 0 rfl
    refine ⟨15 - (n + 1), (by omega), (n + 1), ((some ⟨g23, 0, none⟩)), 32, ln, (macF p.data.toList (uu)), A21, c21, (by omega), (by rw [hL2, hT, hU]; rfl), (by rw [hU]; rfl), hln, (mac_len _ _), rfl, (patch_eq _ 56 _ (by kernel_rfl) (by kernel_rfl) (by kernel_rfl)), h35.sel [1] [1, 0] (by kernel_rfl) rfl rfl⟩
  ·
   refine wp_exit ?_
   refine seq_e ?_
   refine seq_e ?_
   refine blk_e ?_
   refine seq_n hK10 ?_
   refine wp_seq_k ?_
   intro K36 hK36
   refine reg_lit ?_
   refine wq_p 1 [(50, (Value.slice At 32 ct))] ?_
   refine wq_v (some 51) (cutS (Value.slice At 32 ct) 0 16) (e_cut_h (h13.rd 0 rfl) (.tmp 50) (.const (Value.int .i64 16)) (by kernel_rfl) (by kernel_rfl) .i64 16 (by kernel_rfl) (by first | omega | (rw [mac_len]; decide)) _) ?_
   refine wq_to (some 52) (x_okey h13 (((tt).take 16).drop 0) (cutS (Value.slice At 32 ct) 0 16) (by kernel_rfl) (SB.cut (h13.rd 0 rfl) 0 16 (by first | omega | (rw [mac_len]; decide))) (by rw [len_cut _ _ _ (by omega)])) ?_
   rintro _ w37 ⟨K37, rfl, hK37, h37⟩
   refine wq_p 3 [(54, (Value.bool true)), (53, (Value.agg (vb (kl K37)).toArray)), (49, (Value.tuple #[(Value.agg (vb (kl K37)).toArray), (Value.bool true)]))] ?_
   refine wq_to (some 9) (x_new h37 28 (vb (List.replicate 16 0)) (fun r => pt r 0) (by kernel_rfl)) ?_
   rintro _ w38 ⟨g38, rfl, h38⟩
   refine wq_to none (x_stores h38 0 rfl 28 (.tmp 9) (.tmp 53) (by kernel_rfl) 0 (vb (kl K37)) (vb (kl K37)) (by kernel_rfl) (by kernel_rfl) (by kernel_rfl) (by kernel_rfl) (by kernel_rfl) (by kernel_rfl)) ?_
   rintro _ w39 h39
   refine wq_p 1 [(10, (Value.bool true))] ?_
   refine wl_end rfl ?_
   refine seq_n hK36 ?_
   refine wp_seq_k ?_
   intro K40 hK40
   refine reg_lit ?_
   refine wq_v (some 55) (Value.agg (vb (kl K37)).toArray) (e_loads (h39.at_ 0 rfl) 28 (.tmp 9) (by kernel_rfl) 0 (vb (kl K37)) (by kernel_rfl) (by kernel_rfl) (by kernel_rfl)) ?_
   refine wq_to none (x_stores h39 1 rfl 28 (.tmp 4) (.tmp 55) (by kernel_rfl) 0 (vb (kl K37)) (vb (kl K37)) (by kernel_rfl) (by kernel_rfl) (by kernel_rfl) (by kernel_rfl) (by kernel_rfl) (by kernel_rfl)) ?_
   rintro _ w41 h41
   refine wl_end rfl ?_
   refine seq_n hK40 ?_
   refine wp_ret ?_
   refine post_1 rfl (by kernel_rfl) (rcell (h41.at_ 1 rfl) (by kernel_rfl) (by kernel_rfl)) ?_
   exact ⟨by rw [hK37, hT, show n = 15 by omega]; rfl, h41.below0⟩
end Go.Proofs.YtpkelokaammmjaaDoor
end
/-! The walks of package aes: double, product, mix. -/
section
namespace Go.Proofs.YtpkelokaammmjaaDoor
open Go.RowKit Go.QT
attribute [local go_sem] bits_xor8 bits_or8 bits_and8 u8_ub
theorem dbl_hi (a : UInt8) (h : 128 ≤ ub a) : bits .xor .u8 (ub a * 2 % 256) 27 = ub (dbl a) := by
  have := all8 (fun a => !(decide (128 ≤ ub a)) || decide (bits .xor .u8 (ub a * 2 % 256) 27 = ub (dbl a))) (by decide +kernel) a
  simpa [h] using this
theorem dbl_lo (a : UInt8) (h : ub a < 128) : ub a * 2 = ub (dbl a) := by
  have := all8 (fun a => !(decide (ub a < 128)) || decide (ub a * 2 = ub (dbl a))) (by decide +kernel) a
  simpa [h] using this
set_option maxRecDepth 100000 in
set_option maxHeartbeats 400000 in
theorem double_any (x : Int) (h0 : 0 ≤ x) (h1 : x ≤ 255) (w : World) :
    Calls Tryd.prog 42 #[.int .u8 x] w fun e w' => e = .returned (.int .u8 (ub (dbl (toB x)))) ∧ w = w' := by
  obtain ⟨a, rfl⟩ : ∃ a, x = ub a := ⟨toB x, (ub_u8 h0 h1).symm⟩
  rw [u8_ub]
  go_enter Tryd.func42, Tryd.ntmps42
  go_wp2
  all_goals go_ret
  · exact ⟨by rw [← dbl_hi a (by assumption)]; rfl, rfl⟩
  · exact ⟨by rw [← dbl_lo a (by assumption)]; rfl, rfl⟩
theorem prodLoop_zero (k : Nat) (a p : UInt8) : prodLoop k a 0 p = p := by cases k <;> simp [prodLoop]
theorem ub_zero : ub 0 = 0 := by unfold ub; rfl
theorem ub_half (b : UInt8) : ub b / (2 : Int) = ub (b >>> 1) := by
  have := all8 (fun b => decide (ub b / (2 : Int) = ub (b >>> 1))) (by decide +kernel) b
  simpa using this
theorem ub_odd (b : UInt8) : (bits .and .u8 (ub b) 1 == 1) = decide (b &&& 1 = 1) := by
  have := all8 (fun b => (bits .and .u8 (ub b) 1 == 1) == decide (b &&& 1 = 1)) (by decide +kernel) b
  simpa using this
theorem half_lt (b : UInt8) (k : Nat) (h : b.toNat < 2 ^ (k + 1)) : (b >>> 1).toNat < 2 ^ k := by
  have e : (b >>> 1).toNat = b.toNat / 2 := by
    have := all8 (fun b => decide ((b >>> 1).toNat = b.toNat / 2)) (by decide +kernel) b
    simpa using this
  rw [e]; omega
set_option maxRecDepth 100000 in
set_option maxHeartbeats 400000 in
theorem prod_any (x y : Int) (hx : 0 ≤ x) (hx' : x ≤ 255) (hy : 0 ≤ y) (hy' : y ≤ 255) (w : World) :
    Calls Tryd.prog 62 #[.int .u8 x, .int .u8 y] w fun e w' => e = .returned (.int .u8 (ub (prod (toB x) (toB y)))) ∧ w = w' := by
  obtain ⟨a, rfl⟩ : ∃ a, x = ub a := ⟨toB x, (ub_u8 hx hx').symm⟩
  obtain ⟨b, rfl⟩ : ∃ a, y = ub a := ⟨toB y, (ub_u8 hy hy').symm⟩
  rw [u8_ub, u8_ub]
  go_enter Tryd.func62, Tryd.ntmps62
  go_wp2
  go_loop [0, 1, 5] (fun x y p => ∃ (k : Nat) (a' b' p' : UInt8), x = .int .u8 (ub a') ∧ y = .int .u8 (ub b') ∧ p = .int .u8 (ub p') ∧ prodLoop k a' b' p' = prod a b ∧ b'.toNat < 2 ^ k) (fun _ y _ => (intOf y).toNat)
  case atStart => exact ⟨8, a, b, 0, rfl, rfl, by rw [ub_zero], rfl, b.toNat_lt⟩
  case round =>
    obtain ⟨k, a', b', p', rfl, rfl, rfl, hl, hk⟩ := hrel
    have H := Lib.hid hl; clear hl
    have H2 := Lib.hid hk; clear hk
    go_wp2_with (go_at_call 42; refine (double_any _ (by simp) (by simp) _).mono ?_; rintro e w' ⟨rfl, rfl⟩)
    · go_round
      case rel =>
        have hodd : (bits .and .u8 (ub b') 1 == 1) = true := by assumption
        rw [ub_odd, decide_eq_true_eq] at hodd
        have hl := H.out; have hk := H2.out
        rcases k with _ | k
        · exfalso
          have : 0 < ub b' := by assumption
          have : b' = 0 := by apply UInt8.toNat_inj.1; simp at hk ⊢; omega
          subst this; rw [ub_zero] at *; omega
        · refine ⟨k, dbl a', b' >>> 1, p' ^^^ a', rfl, by rw [ub_half], rfl, ?_, half_lt _ _ hk⟩
          rw [prodLoop, if_neg, if_pos hodd] at hl
          · exact hl
          · rintro rfl; simp at hodd
      case measure =>
        have hpos : 0 < ub b' := by assumption
        simp only [intOf]; omega
    · go_round
      case rel =>
        have hodd : (bits .and .u8 (ub b') 1 == 1) = false := by assumption
        have hpos : 0 < ub b' := by assumption
        rw [ub_odd, decide_eq_false_iff_not] at hodd
        have hl := H.out; have hk := H2.out
        have hne : b' ≠ 0 := by rintro rfl; rw [ub_zero] at hpos; omega
        rcases k with _ | k
        · exfalso
          apply hne
          apply UInt8.toNat_inj.1; simp at hk ⊢; omega
        · refine ⟨k, dbl a', b' >>> 1, p', rfl, by rw [ub_half], rfl, ?_, half_lt _ _ hk⟩
          rw [prodLoop, if_neg hne, if_neg hodd] at hl
          exact hl
      case measure =>
        have hpos : 0 < ub b' := by assumption
        simp only [intOf]; omega
    · go_ret
      have hz : ub b' ≤ 0 := by assumption
      have hz' : b' = 0 := by rw [← ub_inj, ub_zero]; have := ub_nonneg b'; omega
      have hl := H.out
      subst hz'
      rw [prodLoop_zero] at hl
      exact ⟨by rw [← hl]; rfl, rfl⟩
theorem prod_q (x y : Int) (hx : 0 ≤ x) (hx' : x ≤ 255) (hy : 0 ≤ y) (hy' : y ≤ 255) (w : World) (a n : Nat) :
    Calls Tryd.prog 62 #[.int .u8 x, .int .u8 y] (w.drewN (a + n)) fun e w'' => e = .returned (.int .u8 (ub (prod (toB x) (toB y)))) ∧ ∃ m, w'' = w.drewN (a + m) :=
  (prod_any x y hx hx' hy hy' _).mono fun _ _ ⟨he, hw⟩ => ⟨he, n, hw.symm⟩
theorem prod_q0 (x y : Int) (hx : 0 ≤ x) (hx' : x ≤ 255) (hy : 0 ≤ y) (hy' : y ≤ 255) (w : World) (n : Nat) :
    Calls Tryd.prog 62 #[.int .u8 x, .int .u8 y] (w.drewN n) fun e w'' => e = .returned (.int .u8 (ub (prod (toB x) (toB y)))) ∧ ∃ m, w'' = w.drewN m :=
  (prod_any x y hx hx' hy hy' _).mono fun _ _ ⟨he, hw⟩ => ⟨he, n, hw.symm⟩
theorem u8_2 : toB 2 = 2 := rfl
theorem u8_3 : toB 3 = 3 := rfl
theorem gb_set_ne (l : Bytes) (i j : Nat) (v : UInt8) (h : i ≠ j) : gb (l.set i v) j = gb l j := by simp [gb, h]
theorem mix_len (l : Bytes) (i : Nat) : (mixCol l i).length = l.length := by simp [mixCol]
set_option maxRecDepth 100000 in
set_option maxHeartbeats 800000 in
theorem mix_any (p T at_ : Nat) (t : Bytes) (w : World) (x : Int) (hx : x = at_) (hat : at_ + 4 ≤ 16) (ht : t.length = 16) (hp : Row w p T t) :
    Calls Tryd.prog 55 #[.pointer (some ⟨p, 0, none⟩), .int .i64 x] w fun e w' => e = .returned (.tuple #[]) ∧ Row w' p T (mixCol t at_) ∧ w.grownBy w' (some p) := by
  subst hx
  have h0 := Row.cell hp (i := at_) (by omega)
  have h1 := Row.cell hp (i := at_ + 1) (by omega)
  have h2 := Row.cell hp (i := at_ + 2) (by omega)
  have h3 := Row.cell hp (i := at_ + 3) (by omega)
  have f0 := Row.frozen hp at_
  have f1 := Row.frozen hp (at_ + 1)
  have f2 := Row.frozen hp (at_ + 2)
  have f3 := Row.frozen hp (at_ + 3)
  have HP := Lib.hid hp
  have HT := Lib.hid ht
  clear hp ht
  go_enter Tryd.func55, Tryd.ntmps55
  go_wp2
  go_quiet (fail)
  go_wp2
  refine wp_region_qt 13 (by kernel_rfl) (by kernel_rfl) ?_
  simp only [List.take_succ_cons, List.take_zero, List.drop_succ_cons, List.drop_zero]
  repeat (go_big_quiet_step ((go_at_call 62; exact prod_q _ _ (by simp) (by simp) (by simp) (by simp) _ _ _)))
  refine wpQuiet_nil ?_
  rintro _ ⟨nq1, rfl⟩
  go_wp2
  refine wp_region_qt 14 (by kernel_rfl) (by kernel_rfl) ?_
  simp only [List.take_succ_cons, List.take_zero, List.drop_succ_cons, List.drop_zero]
  repeat (go_big_quiet_step ((go_at_call 62; exact prod_q0 _ _ (by simp) (by simp) (by simp) (by simp) _ _)))
  refine wpQuiet_nil ?_
  rintro _ ⟨nq2, rfl⟩
  go_wp2
  refine wp_region_qt 14 (by kernel_rfl) (by kernel_rfl) ?_
  simp only [List.take_succ_cons, List.take_zero, List.drop_succ_cons, List.drop_zero]
  repeat (go_big_quiet_step ((go_at_call 62; exact prod_q0 _ _ (by simp) (by simp) (by simp) (by simp) _ _)))
  refine wpQuiet_nil ?_
  rintro _ ⟨nq3, rfl⟩
  go_wp2
  refine wp_region_qt 14 (by kernel_rfl) (by kernel_rfl) ?_
  simp only [List.take_succ_cons, List.take_zero, List.drop_succ_cons, List.drop_zero]
  repeat (go_big_quiet_step ((go_at_call 62; exact prod_q0 _ _ (by simp) (by simp) (by simp) (by simp) _ _)))
  refine wpQuiet_nil ?_
  rintro _ ⟨nq4, rfl⟩
  go_wp2
  go_end0
  refine ⟨rfl, ?_, ?_⟩
  · simp only [u8_2, u8_3, mixCol]
    have g1 := (HP.out.drewN (nq + nq1)).set at_ (prod (gb t at_) 2 ^^^ prod (gb t (at_ + 1)) 3 ^^^ gb t (at_ + 2) ^^^ gb t (at_ + 3))
    have g2 := (g1.drewN nq2).set (at_ + 1) (gb t at_ ^^^ prod (gb t (at_ + 1)) 2 ^^^ prod (gb t (at_ + 2)) 3 ^^^ gb t (at_ + 3))
    have g3 := (g2.drewN nq3).set (at_ + 2) (gb t at_ ^^^ gb t (at_ + 1) ^^^ prod (gb t (at_ + 2)) 2 ^^^ prod (gb t (at_ + 3)) 3)
    have g4 := (g3.drewN nq4).set (at_ + 3) (prod (gb t at_) 3 ^^^ gb t (at_ + 1) ^^^ gb t (at_ + 2) ^^^ prod (gb t (at_ + 3)) 2)
    with_reducible exact g4
  · with_reducible
      refine only_setCell (only_drewN (only_setCell (only_drewN (only_setCell (only_drewN (only_setCell (only_drewN ?_ _) ?_ _) _) ?_ _) _) ?_ _) _) ?_ _
    · exact only_refl _ _
    all_goals exact .inl rfl
end Go.Proofs.YtpkelokaammmjaaDoor
end
/-! The walk of (*Cipher).Block: it answers blk. -/
section
namespace Go.Proofs.YtpkelokaammmjaaDoor
open Go.RowKit Go.QT
attribute [local go_sem] bits_xor8 bits_or8 bits_and8 u8_ub
/-- A cipher: its box, its keys. -/
structure CAt (w : World) (c bx : Nat) (B K : Bytes) : Prop where
  c : Blk w c 73 (.pointer (some ⟨bx, 0, none⟩) :: vb K)
  b : Row w bx 85 B
  lb : B.length = 256
  lk : K.length = 176
theorem CAt.box {w : World} {c bx : Nat} {B K : Bytes} (h : CAt w c bx B K) : w.cell? ⟨c, 0, none⟩ = some (.pointer (some ⟨bx, 0, none⟩)) := by rw [Blk.cell h.c]; rfl
theorem CAt.key {w : World} {c bx : Nat} {B K : Bytes} (h : CAt w c bx B K) {i : Nat} (hi : i < 176) : w.cell? ⟨c, 1 + i, none⟩ = some (.int .u8 (ub (gb K i))) := by
  rw [Blk.cell h.c, Nat.add_comm, List.getElem?_cons_succ, vb_get K i (by rw [h.lk]; exact hi)]
theorem CAt.below {w w' : World} {c bx B0 : Nat} {B K : Bytes} (h : CAt w c bx B K) (hb : Below B0 w w') (h1 : c < B0) (h2 : bx < B0) : CAt w' c bx B K :=
  ⟨h.c.below hb h1, h.b.below hb h2, h.lb, h.lk⟩
theorem ty22 : Tryd.prog.underlying 23 = some (.array 16 5) := by kernel_rfl
theorem i22 : (Tryd.prog.info? 23).map (·.size) = some 16 := by kernel_rfl
theorem i22s (l : Bytes) (h : l.length = 16) : (Tryd.prog.info? 23).map (·.size) = some (vb l).toArray.size := by rw [i22]; simp [h]
theorem addTo_length (s K : Bytes) (o i : Nat) : (addTo s K o i).length = s.length := by
  induction i with
  | zero => rfl
  | succ i ih => simp [addTo, ih]
theorem putTo_length (s t K : Bytes) (o i : Nat) : (putTo s t K o i).length = s.length := by
  induction i with
  | zero => rfl
  | succ i ih => simp [putTo, ih]
theorem subTo_length (B s : Bytes) (i : Nat) : (subTo B s i).length = 16 := by
  induction i with
  | zero => rfl
  | succ i ih => simp [subTo, ih]
theorem mixTo_length (t : Bytes) (i : Nat) : (mixTo t i).length = t.length := by
  induction i with
  | zero => rfl
  | succ i ih => simp [mixTo, mix_len, ih]
theorem roundsTo_length (B K s : Bytes) (hs : s.length = 16) (n : Nat) : (roundsTo B K s n).length = 16 := by
  induction n with
  | zero => simp [roundsTo, addTo_length, hs]
  | succ i ih => simp [roundsTo, putTo_length, ih]
set_option maxRecDepth 100000 in
set_option maxHeartbeats 400000 in
theorem block_any (c bx : Nat) (B K s : Bytes) (w : World) (hs : s.length = 16) (hc : CAt w c bx B K) :
    Calls Tryd.prog 44 #[.pointer (some ⟨c, 0, none⟩), .agg (vb s).toArray] w fun e w' => e = .returned (.agg (vb (blk B K s)).toArray) ∧ Below w.heap.size w w' := by
  have h3 : Row (w.alloc (.cells (vb s).toArray 23)) w.heap.size 23 s := Row.new _ _ _
  have hi := i22s s hs
  have hz : (16 : Nat) = (vb s).toArray.size := by simp [hs]
  have Hz := Lib.hid hz
  clear hz
  have hcl : c < w.heap.size := hc.c.lt
  have hbl : bx < w.heap.size := hc.b.lt
  go_enter Tryd.func44, Tryd.ntmps44
  go_upto_region 2 with (first | (refine wpList_load_row rfl 23 _ rfl w.heap.size rfl _ (vb s).toArray (0, 0) _ (Row.alloc h3 _) ty22 rfl hi ?_) | (refine wpList_store_row rfl 23 _ _ rfl (w.heap.size + 2) (vb s).toArray rfl rfl _ _ (new3 w _ _ _ _) hi (by exact Hz.out) (vb_one s) ?_))
  go_wp2
  go_loopw [13] (fun i wr => ∃ k : Nat, k ≤ 16 ∧ i = .int .i64 k ∧ Row wr (w.heap.size + 1 + 1) 23 (addTo s K 0 k) ∧ (∃ Z, Z.length = 16 ∧ Blk wr (w.heap.size + 1) 23 Z) ∧ Below w.heap.size w wr) (fun i _ => 16 - (intOf i).toNat)
  case atStart => exact ⟨0, by omega, rfl, (by exact setRow_heap _ _ _ _ 23 _ (new3 w _ _ 23 _)), ⟨_, by rfl, (Blk.alloc (T := 23) (cs := List.replicate 16 (.int .u8 0)) (by exact new2 w _ 23 _) _).setRow_far (by omega) _⟩, below_setRow' (((((Below.refl _ _).alloc (Nat.le_refl _) _).alloc (by simp) _).alloc (by simp; omega) _)) (by omega) _⟩
  case round =>
    obtain ⟨k, hk, rfl, hS, hZ, hB⟩ := hrel
    have hcr := hc.below hB hcl hbl
    have hl : (addTo s K 0 k).length = 16 := by rw [addTo_length, hs]
    by_cases hlt : k < 16
    · have e1 := Row.cell hS (i := k) (by omega)
      have e2 := hcr.key (i := k) (by omega)
      have e3 := Row.frozen hS k
      have HZ := Lib.hid hZ
      have HS := Lib.hid hS
      have HL := Lib.hid hl
      clear hZ hS hl
      go_wp2
      refine wp_region_qt 12 (by kernel_rfl) (by kernel_rfl) ?_
      simp only [List.take_succ_cons, List.take_zero, List.drop_succ_cons, List.drop_zero]
      repeat (go_big_quiet_step (fail))
      refine wpQuiet_nil ?_
      rintro _ ⟨nq1, rfl⟩
      go_wp2
      go_roundw
      case rel => exact ⟨k + 1, by omega, by go_num, (by have := (HS.out.drewN nq1).set k (gb (addTo s K 0 k) k ^^^ gb K k); simpa [addTo] using this), (by obtain ⟨Z, h1, h2⟩ := HZ.out; exact ⟨Z, h1, (h2.drewN _).far (by simp) _⟩), (below_drewN hB _).setCell (by simp; omega) _⟩
      case measure => simp [intOf]; omega
    · have hk' : k = 16 := by omega
      rw [hk'] at hS
      clear hk' hl
      go_wp2
      obtain ⟨w1, rfl⟩ : ∃ w1 : World, w1 = wr := ⟨_, rfl⟩
      have hS' : Row w1 (w.heap.size + 1 + 1) 23 (roundsTo B K s 0) := hS
      clear hS
      go_loopw [7] (fun i wr => ∃ n : Nat, n ≤ 10 ∧ i = .int .i64 (↑n + 1) ∧ Row wr (w.heap.size + 1 + 1) 23 (roundsTo B K s n) ∧ (∃ Z, Z.length = 16 ∧ Blk wr (w.heap.size + 1) 23 Z) ∧ Below w.heap.size w wr) (fun i _ => 11 - (intOf i).toNat)
      case atStart => exact ⟨0, by omega, by go_num, hS', hZ, hB⟩
      case round =>
        clear hS' hB hZ hcr
        obtain ⟨n, hn, rfl, hS, hZ, hB⟩ := hrel
        have hcr := hc.below hB hcl hbl
        have HZ := Lib.hid hZ
        have HS := Lib.hid hS
        clear hZ hS
        by_cases hlt : n < 10
        · obtain ⟨w2, rfl⟩ : ∃ w1 : World, w1 = wr := ⟨_, rfl⟩
          have hd : decide ((n : Int) + 1 < 11) = true := by simp; omega
          have hls : w.heap.size + 1 + 1 < w2.heap.size := HS.out.lt
          go_upto_region 11 with (fail)
          go_wp2
          go_loopw [33] (fun i wr => ∃ k : Nat, k ≤ 16 ∧ i = .int .i64 k ∧ Row wr (w.heap.size + 1 + 1) 23 (roundsTo B K s n) ∧ Row wr w2.heap.size 23 (subTo B (roundsTo B K s n) k) ∧ (∃ Z, Z.length = 16 ∧ Blk wr (w.heap.size + 1) 23 Z) ∧ Below w.heap.size w wr) (fun i _ => 16 - (intOf i).toNat)
          case atStart => exact ⟨0, by omega, rfl, Row.alloc HS.out _, (by have := Row.new w2 23 (List.replicate 16 0); rw [vb_zeros] at this; exact this), (by obtain ⟨Z, h1, h2⟩ := HZ.out; exact ⟨Z, h1, h2.alloc _⟩), hB.alloc (by omega) _⟩
          case round =>
            clear HZ hB hcr
            obtain ⟨k, hk, rfl, hS, hT, hZ, hB⟩ := hrel
            have hcr := hc.below hB hcl hbl
            have HZ := Lib.hid hZ
            have HS' := Lib.hid hS
            clear hZ
            by_cases hk16 : k < 16
            · have e1 := Row.cell hS (i := (k+4*(k%4))%16) (by rw [roundsTo_length _ _ _ hs]; omega)
              have e0 := hcr.box
              have e2 := Row.cell hcr.b (i := nb (gb (roundsTo B K s n) ((k+4*(k%4))%16))) (by rw [hcr.lb]; exact nb_lt _)
              have e3 := Row.frozen hT k
              have e4 := Row.cell hT (i := k) (by rw [subTo_length]; exact hk16)
              have HT := Lib.hid hT
              clear hS hT
              go_wp2
              refine wp_region_qt 17 (by kernel_rfl) (by kernel_rfl) ?_
              simp only [List.take_succ_cons, List.take_zero, List.drop_succ_cons, List.drop_zero]
              repeat (go_big_quiet_step (fail))
              refine wpQuiet_nil ?_
              rintro _ ⟨nq1, rfl⟩
              go_wp2
              go_roundw
              case rel => exact ⟨k + 1, by omega, by go_num, (HS'.out.drewN _).far (by simp; omega) _, (HT.out.drewN _).set _ _, (by obtain ⟨Z, h1, h2⟩ := HZ.out; exact ⟨Z, h1, (h2.drewN _).far (by simp; omega) _⟩), (below_drewN hB _).setCell (by simp; omega) _⟩
              case measure => simp [intOf]; omega
            · have hk' : k = 16 := by omega
              rw [hk'] at hT
              clear hk'
              obtain ⟨w3, rfl⟩ : ∃ w1 : World, w1 = wr := ⟨_, rfl⟩
              clear hS hcr
              have HT := Lib.hid hT
              clear hT
              by_cases hn9 : n < 9
              · go_wp2
                have hd10 : decide ((n : Int) + 1 < 10) = true := by simp; omega
                go_loopw [10] (fun i wr => ∃ k : Nat, k ≤ 4 ∧ i = .int .i64 (4 * ↑k) ∧ Row wr (w.heap.size + 1 + 1) 23 (roundsTo B K s n) ∧ Row wr w2.heap.size 23 (mixTo (subTo B (roundsTo B K s n) 16) k) ∧ (∃ Z, Z.length = 16 ∧ Blk wr (w.heap.size + 1) 23 Z) ∧ Below w.heap.size w wr) (fun i _ => 16 - (intOf i).toNat)
                case atStart => exact ⟨0, by omega, rfl, HS'.out, HT.out, HZ.out, hB⟩
                case round =>
                  clear HZ hB HT HS'
                  obtain ⟨k, hk, rfl, hS, hT, hZ, hB⟩ := hrel
                  have HZ := Lib.hid hZ
                  have HS := Lib.hid hS
                  have HT := Lib.hid hT
                  clear hZ hS hT
                  by_cases hk4 : k < 4
                  · have hx4 : (4 : Int) * ↑k = ((4 * k : Nat) : Int) := by omega
                    have hl4 : (mixTo (subTo B (roundsTo B K s n) 16) k).length = 16 := by rw [mixTo_length, subTo_length]
                    have Hx4 := Lib.hid hx4
                    have Hl4 := Lib.hid hl4
                    clear hx4 hl4
                    go_wp2_with (go_at_call 55; (with_reducible refine (mix_any _ 23 (4 * k) _ _ _ Hx4.out (by omega) Hl4.out HT.out).mono ?_); rintro e w' ⟨rfl, hr1, hr2⟩)
                    go_roundw
                    case rel => exact ⟨k + 1, by omega, by go_num, Blk.grown HS.out hr2 (by simp; omega), hr1, (by obtain ⟨Z, h1, h2⟩ := HZ.out; exact ⟨Z, h1, h2.grown hr2 (by simp; omega)⟩), hB.grown hr2 (by have := hB.size; omega) (by rintro k hk; cases hk; omega)⟩
                    case measure => simp [intOf]; omega
                  · have hk' : k = 4 := by omega
                    rw [hk'] at HT
                    clear hk'
                    obtain ⟨w4, rfl⟩ : ∃ w1 : World, w1 = wr := ⟨_, rfl⟩
                    go_wp2
                    go_loopw [64] (fun i wr => ∃ k : Nat, k ≤ 16 ∧ i = .int .i64 k ∧ Row wr (w.heap.size + 1 + 1) 23 (putTo (roundsTo B K s n) (mixTo (subTo B (roundsTo B K s n) 16) 4) K (16 * (n + 1)) k) ∧ Row wr w2.heap.size 23 (mixTo (subTo B (roundsTo B K s n) 16) 4) ∧ (∃ Z, Z.length = 16 ∧ Blk wr (w.heap.size + 1) 23 Z) ∧ Below w.heap.size w wr) (fun i _ => 16 - (intOf i).toNat)
                    case atStart => exact ⟨0, by omega, rfl, HS.out, HT.out, HZ.out, hB⟩
                    case round =>
                      clear HZ HS HT hB
                      obtain ⟨k, hk, rfl, hS, hT, hZ, hB⟩ := hrel
                      have hcr := hc.below hB hcl hbl
                      by_cases hlt5 : k < 16
                      · have e1 := Row.cell hT (i := k) (by rw [mixTo_length, subTo_length]; omega)
                        have e2 := hcr.key (i := 16 * (n + 1) + k) (by omega)
                        have e2' : wr.cell? ⟨c, 1 + (n + 1) * 16 + k, none⟩ = some (.int .u8 (ub (gb K (16 * (n + 1) + k)))) := by rw [← e2, Nat.add_assoc, Nat.mul_comm]
                        have e3 := Row.frozen hS k
                        have e4 := Row.cell hS (i := k) (by rw [putTo_length, roundsTo_length _ _ _ hs]; omega)
                        have HZ := Lib.hid hZ
                        have HS := Lib.hid hS
                        have HT := Lib.hid hT
                        clear hZ hS hT e2
                        go_wp2
                        refine wp_region_qt 14 (by kernel_rfl) (by kernel_rfl) ?_
                        simp only [List.take_succ_cons, List.take_zero, List.drop_succ_cons, List.drop_zero]
                        repeat (go_big_quiet_step (fail))
                        refine wpQuiet_nil ?_
                        rintro _ ⟨nq1, rfl⟩
                        go_wp2
                        go_roundw
                        case rel => exact ⟨k + 1, by omega, by go_num, (HS.out.drewN _).set _ _, (HT.out.drewN _).far (by simp; omega) _, (by obtain ⟨Z, h1, h2⟩ := HZ.out; exact ⟨Z, h1, (h2.drewN _).far (by simp) _⟩), (below_drewN hB _).setCell (by simp; omega) _⟩
                        case measure => simp [intOf]; omega
                      · have hk' : k = 16 := by omega
                        rw [hk'] at hS
                        clear hk'
                        go_wp2
                        refine ⟨⟨n + 1, by omega, by go_num, (by rw [roundsTo, if_pos (by omega)]; exact hS), hZ, hB⟩, by simp [intOf]; omega⟩
              · have hd10 : decide ((n : Int) + 1 < 10) = false := by simp; omega
                go_wp2_with fail
                refine wp_loop_rounds 1 ?_
                rw [rounds_succ]
                go_wp2
                go_loopw [64] (fun i wr => ∃ k : Nat, k ≤ 16 ∧ i = .int .i64 k ∧ Row wr (w.heap.size + 1 + 1) 23 (putTo (roundsTo B K s n) (subTo B (roundsTo B K s n) 16) K (16 * (n + 1)) k) ∧ Row wr w2.heap.size 23 (subTo B (roundsTo B K s n) 16) ∧ (∃ Z, Z.length = 16 ∧ Blk wr (w.heap.size + 1) 23 Z) ∧ Below w.heap.size w wr) (fun i _ => 16 - (intOf i).toNat)
                case atStart => exact ⟨0, by omega, rfl, HS'.out, HT.out, HZ.out, hB⟩
                case round =>
                  clear HZ HS' HT hB
                  obtain ⟨k, hk, rfl, hS, hT, hZ, hB⟩ := hrel
                  have hcr := hc.below hB hcl hbl
                  by_cases hlt5 : k < 16
                  · have e1 := Row.cell hT (i := k) (by rw [subTo_length]; omega)
                    have e2 := hcr.key (i := 16 * (n + 1) + k) (by omega)
                    have e2' : wr.cell? ⟨c, 1 + (n + 1) * 16 + k, none⟩ = some (.int .u8 (ub (gb K (16 * (n + 1) + k)))) := by rw [← e2, Nat.add_assoc, Nat.mul_comm]
                    have e3 := Row.frozen hS k
                    have e4 := Row.cell hS (i := k) (by rw [putTo_length, roundsTo_length _ _ _ hs]; omega)
                    have HZ := Lib.hid hZ
                    have HS := Lib.hid hS
                    have HT := Lib.hid hT
                    clear hZ hS hT e2
                    go_wp2
                    refine wp_region_qt 14 (by kernel_rfl) (by kernel_rfl) ?_
                    simp only [List.take_succ_cons, List.take_zero, List.drop_succ_cons, List.drop_zero]
                    repeat (go_big_quiet_step (fail))
                    refine wpQuiet_nil ?_
                    rintro _ ⟨nq1, rfl⟩
                    go_wp2
                    go_roundw
                    case rel => exact ⟨k + 1, by omega, by go_num, (HS.out.drewN _).set _ _, (HT.out.drewN _).far (by simp; omega) _, (by obtain ⟨Z, h1, h2⟩ := HZ.out; exact ⟨Z, h1, (h2.drewN _).far (by simp) _⟩), (below_drewN hB _).setCell (by simp; omega) _⟩
                    case measure => simp [intOf]; omega
                  · have hk' : k = 16 := by omega
                    rw [hk'] at hS
                    clear hk'
                    go_wp2
                    refine ⟨⟨n + 1, by omega, by go_num, (by rw [roundsTo, if_neg (by omega)]; exact hS), hZ, hB⟩, by simp [intOf]; omega⟩
        · have hn' : n = 10 := by omega
          rw [hn'] at HS
          clear hn'
          obtain ⟨Z, hzl, hz⟩ := HZ.out
          have hrow : Row wr (w.heap.size + 1 + 1) 23 (blk B K s) := HS.out
          have hbl16 : (blk B K s).length = 16 := roundsTo_length _ _ _ hs 10
          have hi2 := i22s _ hbl16
          have hz2 : Z.toArray.size = (vb (blk B K s)).toArray.size := by simp [hzl, hbl16]
          have Hz2 := Lib.hid hz2
          clear hz2 hbl16 hzl
          go_wp2_with (first | (refine wpList_load_row rfl 23 _ rfl (w.heap.size + 1 + 1) rfl _ (vb (blk B K s)).toArray (0, 0) _ hrow ty22 rfl hi2 ?_) | (refine wpList_store_row rfl 23 _ _ rfl (w.heap.size + 1) (vb (blk B K s)).toArray rfl rfl _ _ hz hi2 (by exact Hz2.out) (vb_one _) ?_))
          refine bodyPost_ret (results_cell_row (p := 4) (ty := 23) rfl _ _ (w.heap.size + 1) 23 (vb (blk B K s)).toArray (0, 0) _ rfl (by exact setRow_heap _ _ _ _ 23 _ hz) ty22 rfl hi2) rfl ?_
          exact ⟨rfl, below_setRow' hB (by omega) _⟩
end Go.Proofs.YtpkelokaammmjaaDoor
end
/-! The walk of box: it answers a pointer to a new row, sbox. -/
section
namespace Go.Proofs.YtpkelokaammmjaaDoor
open Go.RowKit Go.QT
theorem bits_sh1 (q : UInt8) : bits .xor .u8 (ub q) (ub q * (2 : Int) % (256 : Int)) = ub (sh1 q) := by
  have := all8 (fun q => decide (bits .xor .u8 (ub q) (ub q * (2 : Int) % (256 : Int)) = ub (sh1 q))) (by decide +kernel) q
  simpa using this
theorem bits_sh2 (q : UInt8) : bits .xor .u8 (ub q) (ub q * (4 : Int) % (256 : Int)) = ub (sh2 q) := by
  have := all8 (fun q => decide (bits .xor .u8 (ub q) (ub q * (4 : Int) % (256 : Int)) = ub (sh2 q))) (by decide +kernel) q
  simpa using this
theorem bits_sh4 (q : UInt8) : bits .xor .u8 (ub q) (ub q * (16 : Int) % (256 : Int)) = ub (sh4 q) := by
  have := all8 (fun q => decide (bits .xor .u8 (ub q) (ub q * (16 : Int) % (256 : Int)) = ub (sh4 q))) (by decide +kernel) q
  simpa using this
theorem bits_9 (q : UInt8) : bits .xor .u8 (ub q) 9 = ub (q ^^^ 9) := by
  have := all8 (fun q => decide (bits .xor .u8 (ub q) 9 = ub (q ^^^ 9))) (by decide +kernel) q
  simpa using this
theorem bits_99 (q : UInt8) : bits .xor .u8 (ub q) 99 = ub (q ^^^ 99) := by
  have := all8 (fun q => decide (bits .xor .u8 (ub q) 99 = ub (q ^^^ 99))) (by decide +kernel) q
  simpa using this
theorem bits_rot1 (q : UInt8) : bits .or .u8 (ub q * (2 : Int) % (256 : Int)) (ub q / (128 : Int)) = ub (rot q 1) := by
  have := all8 (fun q => decide (bits .or .u8 (ub q * (2 : Int) % (256 : Int)) (ub q / (128 : Int)) = ub (rot q 1))) (by decide +kernel) q
  simpa using this
theorem bits_rot2 (q : UInt8) : bits .or .u8 (ub q * (4 : Int) % (256 : Int)) (ub q / (64 : Int)) = ub (rot q 2) := by
  have := all8 (fun q => decide (bits .or .u8 (ub q * (4 : Int) % (256 : Int)) (ub q / (64 : Int)) = ub (rot q 2))) (by decide +kernel) q
  simpa using this
theorem bits_rot3 (q : UInt8) : bits .or .u8 (ub q * (8 : Int) % (256 : Int)) (ub q / (32 : Int)) = ub (rot q 3) := by
  have := all8 (fun q => decide (bits .or .u8 (ub q * (8 : Int) % (256 : Int)) (ub q / (32 : Int)) = ub (rot q 3))) (by decide +kernel) q
  simpa using this
theorem bits_rot4 (q : UInt8) : bits .or .u8 (ub q * (16 : Int) % (256 : Int)) (ub q / (16 : Int)) = ub (rot q 4) := by
  have := all8 (fun q => decide (bits .or .u8 (ub q * (16 : Int) % (256 : Int)) (ub q / (16 : Int)) = ub (rot q 4))) (by decide +kernel) q
  simpa using this
attribute [local go_sem] bits_rot1 bits_rot2 bits_rot3 bits_rot4 bits_xor8 bits_or8 bits_and8 u8_ub bits_sh1 bits_sh2 bits_sh4 bits_9 bits_99
theorem i135 : (Tryd.prog.info? 85).map (·.size) = some 256 := by kernel_rfl
theorem boxTo_length (n : Nat) : (boxTo n).out.length = 256 := by
  induction n with
  | zero => exact List.length_replicate
  | succ n ih => exact List.length_set.trans ih
set_option maxRecDepth 100000 in
set_option maxHeartbeats 400000 in
theorem box_any (w : World) :
    Calls Tryd.prog 41 #[] w fun e w' => e = .returned (.pointer (some ⟨w.heap.size, 0, none⟩)) ∧ Row w' w.heap.size 85 sbox ∧ Below w.heap.size w w' := by
  go_enter Tryd.func41, Tryd.ntmps41
  have hz : Row (w.alloc (.cells Tryd.zeroCells85 85)) w.heap.size 85 (List.replicate 256 0) := by
    have h := heap_alloc_new w (.cells Tryd.zeroCells85 85)
    have e : Tryd.zeroCells85 = (List.replicate 256 (Value.int .u8 0)).toArray := by kernel_rfl
    unfold Row Blk; rw [vb_zeros, h, e]
  go_upto_region 2 with (fail)
  have hB : Below w.heap.size w (w.alloc (.cells Tryd.zeroCells85 85)) := (Below.refl _ _).alloc (Nat.le_refl _) _
  generalize w.alloc (.cells Tryd.zeroCells85 85) = w1 at *
  go_wp2
  go_loopw [2, 3, 6] (fun p q i wr => ∃ n : Nat, n ≤ 255 ∧ i = .int .i64 n ∧ p = .int .u8 (ub (boxTo n).p) ∧ q = .int .u8 (ub (boxTo n).q) ∧ Row wr w.heap.size 85 (boxTo n).out ∧ Below w.heap.size w wr) (fun _ _ i _ => 255 - (intOf i).toNat)
  case atStart => exact ⟨0, by omega, rfl, by rw [show (boxTo 0).p = 1 from rfl]; simp [ub], by rw [show (boxTo 0).q = 1 from rfl]; simp [ub], hz, hB⟩
  case round =>
    clear hz hB
    obtain ⟨n, hn, rfl, rfl, rfl, hR, hB⟩ := hrel
    have HR := Lib.hid hR
    clear hR
    by_cases hlt : n < 255
    · have hpn : (boxTo (n+1)).p = (boxTo n).p ^^^ dbl (boxTo n).p := rfl
      have hqn : (boxTo (n+1)).q = boxQ (boxTo n).q := rfl
      have hon : (boxTo (n+1)).out = (boxTo n).out.set (nb ((boxTo n).p ^^^ dbl (boxTo n).p)) (boxX (boxQ (boxTo n).q) 4 ^^^ 99) := rfl
      have HP := Lib.hid hpn
      have HQ := Lib.hid hqn
      have HO := Lib.hid hon
      clear hpn hqn hon
      generalize (boxTo n).p = p at *
      generalize (boxTo n).q = q at *
      by_cases hq : 128 ≤ sh4 (sh2 (sh1 q))
      · have hq' : 128 ≤ ub (sh4 (sh2 (sh1 q))) := by
          rw [UInt8.le_iff_toNat_le] at hq; unfold ub; simp at hq ⊢; omega
        have e : sh4 (sh2 (sh1 q)) ^^^ 9 = boxQ q := by rw [boxQ, if_pos hq]
        go_wp2_with (go_at_call 42; refine (double_any _ (by simp) (by simp) _).mono ?_; rintro e w' ⟨rfl, rfl⟩)
        obtain ⟨w2, rfl⟩ : ∃ w1 : World, w1 = wr := ⟨_, rfl⟩
        clear e hq' hq
        generalize boxQ q = q' at *
        go_loopw [4, 5] (fun x n wr => ∃ k m : Nat, k ≤ 4 ∧ x = .int .u8 (ub (boxX q' k)) ∧ n = .int .i64 (↑k + 1) ∧ wr = w2.drewN m) (fun _ n _ => 5 - (intOf n).toNat)
        case atStart => exact ⟨0, 0, by omega, rfl, by go_num, rfl⟩
        case round =>
          obtain ⟨k, m, hk, rfl, rfl, rfl⟩ := hrel
          by_cases hk4 : k < 4
          · have hk' : k = 0 ∨ k = 1 ∨ k = 2 ∨ k = 3 := by omega
            have Hx : Hid (boxX q' (k+1) = boxX q' k ^^^ rot q' (k+1)) := rfl
            rcases hk' with rfl | rfl | rfl | rfl
            all_goals
              go_wp2
              go_quiet (fail)
              go_wp2
              refine ⟨⟨_, m + nq, ?_, by rw [← Hx.out], ?_, rfl⟩, by simp [intOf]⟩
              · omega
              · rfl
          · have hk' : k = 4 := by omega
            rw [hk'] at *
            have HR' : Row w2 w.heap.size 85 (boxTo n).out := HR.out
            have hlen : (boxTo n).out.length = 256 := boxTo_length n
            have c1 := Row.cell HR' (i := nb (p ^^^ dbl p)) (by rw [hlen]; exact nb_lt _)
            have f1 := Row.frozen HR' (nb (p ^^^ dbl p))
            have hnb : nb (p ^^^ dbl p) < 256 := nb_lt _
            clear hlen
            have HR2 := Lib.hid HR'
            clear HR'
            go_wp2
            refine ⟨⟨n + 1, by omega, by go_num, by rw [HP.out], by rw [HQ.out], by rw [HO.out]; exact (HR2.out.drewN _).set _ _, (below_drewN hB _).setCell (Nat.le_refl _) _⟩, by simp [intOf]; omega⟩
      · have hq' : ub (boxQ q) < 128 := by
          rw [boxQ, if_neg hq]; rw [UInt8.le_iff_toNat_le] at hq; unfold ub; simp at hq ⊢; omega
        have e : sh4 (sh2 (sh1 q)) = boxQ q := by rw [boxQ, if_neg hq]
        go_wp2_with (go_at_call 42; refine (double_any _ (by simp) (by simp) _).mono ?_; rintro e w' ⟨rfl, rfl⟩)
        obtain ⟨w2, rfl⟩ : ∃ w1 : World, w1 = wr := ⟨_, rfl⟩
        clear hq' hq
        clear e
        generalize boxQ q = q' at *
        go_loopw [4, 5] (fun x n wr => ∃ k m : Nat, k ≤ 4 ∧ x = .int .u8 (ub (boxX q' k)) ∧ n = .int .i64 (↑k + 1) ∧ wr = w2.drewN m) (fun _ n _ => 5 - (intOf n).toNat)
        case atStart => exact ⟨0, 0, by omega, rfl, by go_num, rfl⟩
        case round =>
          obtain ⟨k, m, hk, rfl, rfl, rfl⟩ := hrel
          by_cases hk4 : k < 4
          · have hk' : k = 0 ∨ k = 1 ∨ k = 2 ∨ k = 3 := by omega
            have Hx : Hid (boxX q' (k+1) = boxX q' k ^^^ rot q' (k+1)) := rfl
            rcases hk' with rfl | rfl | rfl | rfl
            all_goals
              go_wp2
              go_quiet (fail)
              go_wp2
              refine ⟨⟨_, m + nq, ?_, by rw [← Hx.out], ?_, rfl⟩, by simp [intOf]⟩
              · omega
              · rfl
          · have hk' : k = 4 := by omega
            rw [hk'] at *
            have HR' : Row w2 w.heap.size 85 (boxTo n).out := HR.out
            have hlen : (boxTo n).out.length = 256 := boxTo_length n
            have c1 := Row.cell HR' (i := nb (p ^^^ dbl p)) (by rw [hlen]; exact nb_lt _)
            have f1 := Row.frozen HR' (nb (p ^^^ dbl p))
            have hnb : nb (p ^^^ dbl p) < 256 := nb_lt _
            clear hlen
            have HR2 := Lib.hid HR'
            clear HR'
            go_wp2
            refine ⟨⟨n + 1, by omega, by go_num, by rw [HP.out], by rw [HQ.out], by rw [HO.out]; exact (HR2.out.drewN _).set _ _, (below_drewN hB _).setCell (Nat.le_refl _) _⟩, by simp [intOf]; omega⟩
    · have hn' : n = 255 := by omega
      have HR' : Row wr w.heap.size 85 (boxTo 255).out := by rw [← hn']; exact HR.out
      have c1 := Row.cell HR' (i := 0) (by rw [boxTo_length]; omega)
      have f1 := Row.frozen HR' 0
      have HR2 := Lib.hid HR'
      clear HR' hn'
      go_wp2
      go_ret
      refine ⟨rfl, ?_, hB.setCell (Nat.le_refl _) _⟩
      have h99 : ub 99 = 99 := by simp [ub]
      have := HR2.out.set 0 99
      rw [h99] at this
      exact this
end Go.Proofs.YtpkelokaammmjaaDoor
end
/-! The walk of New: it answers a pointer to a cipher of the key. -/
section
namespace Go.Proofs.YtpkelokaammmjaaDoor
open Go.RowKit Go.QT
attribute [local go_sem] bits_xor8 bits_or8 bits_and8 u8_ub
theorem sbox_length : sbox.length = 256 := List.length_set.trans (boxTo_length 255)
theorem key0 (k : Bytes) (p : Value) : (p :: vb (keysTo sbox k 0).1) = (p :: vb (List.replicate 176 0)).take 1 ++ vb k ++ (p :: vb (List.replicate 176 0)).drop (1 + 16) := by
  simp only [keysTo, vb_append, List.take_succ_cons, List.take_zero, List.cons_append, List.nil_append]
  rw [Nat.add_comm, List.drop_succ_cons, vb_zeros, vb_zeros, List.drop_replicate]
theorem keyRow_length (B K was : Bytes) (r : UInt8) (n i : Nat) : (keyRow B K was r n i).length = K.length := by
  induction i with
  | zero => rfl
  | succ i ih => exact List.length_set.trans ih
theorem keysTo_length (B k : Bytes) (n : Nat) (hk : k.length = 16) : (keysTo B k n).1.length = 176 := by
  induction n with
  | zero => simp [keysTo, hk]
  | succ n ih => exact (keyRow_length _ _ _ _ _ _).trans ih
theorem Blk.setKey {w : World} {c T : Nat} {p : Value} {L : Bytes} (h : Blk w c T (p :: vb L)) (m j : Nat) (v : UInt8) :
    Blk (w.setCell ⟨c, 1 + m * 16 + j, none⟩ (.int .u8 (ub v))) c T (p :: vb (L.set (16 * m + j) v)) := by
  have := Blk.set h (1 + m * 16 + j) (.int .u8 (ub v))
  rw [show 1 + m * 16 + j = (16 * m + j) + 1 by omega, List.set_cons_succ, vb_set] at this
  rwa [show 1 + m * 16 + j = (16 * m + j) + 1 by omega]
def NewPost (w : World) (k : Bytes) (e : Ending) (w' : World) : Prop := ∃ c bx : Nat, e = .returned (.pointer (some ⟨c, 0, none⟩)) ∧ CAt w' c bx sbox (keys sbox k) ∧ w.heap.size ≤ c ∧ w.heap.size ≤ bx ∧ Below w.heap.size w w'
set_option maxRecDepth 100000 in
set_option maxHeartbeats 800000 in
theorem new_any (k : Bytes) (w : World) (hk : k.length = 16) :
    Calls Tryd.prog 21 #[.agg (vb k).toArray] w (NewPost w k) := by
  go_enter Tryd.func21, Tryd.ntmps21
  go_upto_region 2 with (go_at_call 41; refine (box_any _).mono ?_; rintro e w1 ⟨rfl, hr, hb⟩)
  have hk1 : Row w1 w.heap.size 28 k := (Row.new w 28 k).below hb (by simp)
  have hB1 : Below w.heap.size w w1 := ((Below.refl _ _).alloc (Nat.le_refl _) _).trans (hb.mono (by simp))
  have hs1 : w.heap.size + 1 < w1.heap.size := by have := Row.lt hr; simpa using this
  have hc1 : Blk (w1.alloc (.cells (Tryd.zeroCells73.setIfInBounds 0 (.pointer (some ⟨w.heap.size + 1, 0, none⟩))) 73)) w1.heap.size 73 (.pointer (some ⟨w.heap.size + 1, 0, none⟩) :: vb (List.replicate 176 0)) := by
    have e : Tryd.zeroCells73.setIfInBounds 0 (.pointer (some ⟨w.heap.size + 1, 0, none⟩)) = (Value.pointer (some ⟨w.heap.size + 1, 0, none⟩) :: List.replicate 176 (Value.int .u8 0)).toArray := by kernel_rfl
    rw [e, vb_zeros]; exact Blk.new _ _ _
  have hr2 : Row w1 (w.heap.size + 1) 85 sbox := by simpa using hr
  have hr3 := Row.alloc hr2 (.cells (Tryd.zeroCells73.setIfInBounds 0 (.pointer (some ⟨w.heap.size + 1, 0, none⟩))) 73)
  have hk3 := Row.alloc hk1 (.cells (Tryd.zeroCells73.setIfInBounds 0 (.pointer (some ⟨w.heap.size + 1, 0, none⟩))) 73)
  have hB3 := hB1.alloc (by omega) (.cells (Tryd.zeroCells73.setIfInBounds 0 (.pointer (some ⟨w.heap.size + 1, 0, none⟩))) 73)
  have hs3 : (w1.alloc (.cells (Tryd.zeroCells73.setIfInBounds 0 (.pointer (some ⟨w.heap.size + 1, 0, none⟩))) 73)).heap.size = w1.heap.size + 1 := by simp
  generalize w1.alloc (.cells (Tryd.zeroCells73.setIfInBounds 0 (.pointer (some ⟨w.heap.size + 1, 0, none⟩))) 73) = w3 at *
  generalize w1.heap.size = c at *
  clear hr hr2 hk1 hB1 hb
  have HC := Lib.hid hc1
  have HR := Lib.hid hr3
  have HS := Lib.hid hs3
  clear hc1 hr3 hs3
  refine wp_region_qt 5 (by kernel_rfl) (by kernel_rfl) ?_
  simp only [List.take_succ_cons, List.take_zero, List.drop_succ_cons, List.drop_zero]
  go_big_quiet_step (fail)
  refine q_load rfl 28 _ rfl w.heap.size 0 rfl 28 (vb k) (vb k) _ hk3 (by simp) ty42 rfl (by rw [i42]; simp [hk]) ?_
  simp only [Act.put, List.setIfInBounds_toArray, List.set_cons_zero, List.set_cons_succ]
  repeat (go_big_quiet_step (fail))
  refine wpQuiet_nil ?_
  rintro _ ⟨nq1, rfl⟩
  refine wl_storeW rfl 23 _ _ rfl c 1 (vb k) rfl rfl 73 _ (.pointer (some ⟨w.heap.size + 1, 0, none⟩) :: vb (keysTo sbox k 0).1) (Blk.drewN HC.out _) (by simp [hk]) (by rw [i22]; simp [hk]) (vb_ones k) (by rw [vb_length, hk]; exact key0 k _) ?_
  intro w4 hc4 hg4 hs4
  have hR4 : Row w4 (w.heap.size + 1) 85 sbox := (HR.out.drewN nq1).grown hg4 (by simp; omega)
  have hB4 : Below w.heap.size w w4 := (below_drewN hB3 nq1).grown hg4 (by simp [HS.out]; omega) (by rintro j hj; cases hj; omega)
  have HC4 := Lib.hid hc4
  have HR4 := Lib.hid hR4
  have HS4 := Lib.hid hs4
  clear hc4 hR4 hs4 hg4 HC HR
  refine wpList_nil ?_
  go_wp2
  go_loopw [4, 5] (fun r n wr => ∃ n' : Nat, n' ≤ 10 ∧ n = .int .i64 (↑n' + 1) ∧ r = .int .u8 (ub (keysTo sbox k n').2) ∧ Blk wr c 73 (.pointer (some ⟨w.heap.size + 1, 0, none⟩) :: vb (keysTo sbox k n').1) ∧ Row wr (w.heap.size + 1) 85 sbox ∧ Below w.heap.size w wr) (fun _ n _ => 11 - (intOf n).toNat)
  case atStart => exact ⟨0, by omega, by go_num, by simp [keysTo, ub], HC4.out, HR4.out, hB4⟩
  case round =>
    clear HC4 HR4 HS4 hB4
    obtain ⟨n, hn, rfl, rfl, hC, hR, hB⟩ := hrel
    by_cases hlt : n < 10
    · have hKl : (keysTo sbox k n).1.length = 176 := keysTo_length _ _ _ hk
      generalize hr : (keysTo sbox k n).2 = r at *
      generalize hKK : (keysTo sbox k n).1 = K at *
      have Hr := Lib.hid hr
      have HKK := Lib.hid hKK
      have HKl := Lib.hid hKl
      have HC := Lib.hid hC
      have HR := Lib.hid hR
      clear hr hKK hKl hC hR
      obtain ⟨w5, rfl⟩ : ∃ w1 : World, w1 = wr := ⟨_, rfl⟩
      have hd11 : decide ((n : Int) + 1 < 11) = true := by simp; omega
      have hw1 : ∀ j v, (vb ((K.drop (16 * n)).take 16))[j]? = some v → (Value.pointer (some ⟨w.heap.size + 1, 0, none⟩) :: vb K)[1 + n * 16 + j]? = some v := by
        intro j v h
        rw [show 1 + n * 16 + j = (16 * n + j) + 1 by omega, List.getElem?_cons_succ]
        apply slice_get (vb K) (16 * n) 16 j v
        simpa [vb, List.map_drop, List.map_take] using h
      have hw2 : ((K.drop (16 * n)).take 16).length = 16 := by simp [HKl.out]; omega
      generalize hwas : (K.drop (16 * n)).take 16 = was at *
      have hw3 := i22s _ hw2
      have HW1 := Lib.hid hw1
      have HW2 := Lib.hid hw2
      have HW3 := Lib.hid hwas
      clear hw1 hw2 hwas
      have hw3' : (Tryd.prog.info? 23).map (·.size) = some (vb was).length := by rw [hw3]; simp
      have HW4 := Lib.hid hw3'
      clear hw3 hw3'
      go_upto_region 8 with (first | (refine wl_load rfl 23 _ rfl c (1 + n * 16) rfl 73 _ (vb was) _ HC.out (by exact HW1.out) ty22 rfl (by exact HW4.out) ?_) | (refine wl_storeW rfl 23 _ _ rfl w5.heap.size 0 (vb was) rfl rfl 23 _ (vb was) (Blk.new _ _ (List.replicate 16 (.int .u8 0))) (by simp [HW2.out]) (by exact HW4.out) (vb_ones _) (by simp [HW2.out]) ?_; intro w6 hb6 hg6 hs6))
      have hC6 := (Blk.alloc HC.out _).grown hg6 (by have := Blk.lt HC.out; simp; omega)
      have hR6 := (Row.alloc HR.out _).grown hg6 (by have := Row.lt HR.out; simp; omega)
      have hB6 := (hB.alloc (by have := hB.size; omega) _).grown hg6 (by have := hB.size; simp; omega) (by rintro j hj; cases hj; exact hB.size)
      have hT6 : Row w6 w5.heap.size 23 was := hb6
      have hcg : c < w5.heap.size := Blk.lt HC.out
      have hwg : w.heap.size + 1 < w5.heap.size := Row.lt HR.out
      clear hg6 hs6 hb6 hB
      generalize w5.heap.size = g at *
      clear HC HR
      go_wp2
      go_loopw [28] (fun i wr => ∃ k : Nat, k ≤ 16 ∧ i = .int .i64 k ∧ Blk wr c 73 (.pointer (some ⟨w.heap.size + 1, 0, none⟩) :: vb (keyRow sbox K was r (n + 1) k)) ∧ Row wr g 23 was ∧ Row wr (w.heap.size + 1) 85 sbox ∧ Below w.heap.size w wr) (fun i _ => 16 - (intOf i).toNat)
      case atStart => exact ⟨0, by omega, rfl, hC6, hT6, hR6, hB6⟩
      case round =>
        clear hC6 hT6 hR6 hB6
        obtain ⟨i, hi, rfl, hC, hT, hR, hB⟩ := hrel
        have hlen : (keyRow sbox K was r (n + 1) i).length = 176 := by rw [keyRow_length, HKl.out]
        have hc1 : ∀ j, j < 176 → wr.cell? ⟨c, 1 + j, none⟩ = some (.int .u8 (ub (gb (keyRow sbox K was r (n + 1) i) j))) := by
          intro j hj; rw [Blk.cell hC, Nat.add_comm 1 j, List.getElem?_cons_succ, vb_get _ j (by rw [hlen]; exact hj)]
        have e0 : wr.cell? ⟨c, 0, none⟩ = some (.pointer (some ⟨w.heap.size + 1, 0, none⟩)) := by rw [Blk.cell hC]; rfl
        have e1 := fun (h : i < 16) => Row.cell hT (i := i) (by rw [HW2.out]; exact h)
        have e2 := Row.cell hT (i := 12 + (i + 1) % 4) (by rw [HW2.out]; omega)
        have e3 := Row.cell hR (i := nb (gb was (12 + (i + 1) % 4))) (by rw [sbox_length]; exact nb_lt _)
        have hnb : nb (gb was (12 + (i + 1) % 4)) < 256 := nb_lt _
        have hc2 : ∀ m j, 16 * m + j < 176 → wr.cell? ⟨c, 1 + m * 16 + j, none⟩ = some (.int .u8 (ub (gb (keyRow sbox K was r (n + 1) i) (16 * m + j)))) := by
          intro m j h; rw [← hc1 _ h, Nat.add_assoc, Nat.mul_comm]
        have e4 := fun (h : i < 16) (h4 : 4 ≤ i) => hc2 (n + 1) (i - 4) (by omega)
        have e5 := fun (h : i < 16) => hc2 (n + 1) i (by omega)
        have e6 := Blk.frozen hC (1 + (n + 1) * 16 + i)
        clear hc2
        have hs : keyRow sbox K was r (n + 1) (i + 1) = (keyRow sbox K was r (n + 1) i).set (16 * (n + 1) + i) (keyByte sbox (keyRow sbox K was r (n + 1) i) was r (n + 1) i) := rfl
        have Hs := Lib.hid hs
        have HC := Lib.hid hC
        have HT := Lib.hid hT
        have HR := Lib.hid hR
        have Hlen := Lib.hid hlen
        clear hs hC hT hR hlen hc1
        generalize hL : keyRow sbox K was r (n + 1) i = L at *
        have HL := Lib.hid hL
        clear hL
        by_cases hi16 : i < 16
        · replace e1 := e1 hi16
          replace e5 := e5 hi16
          by_cases h4 : 4 ≤ i
          · replace e4 := e4 hi16 h4
            have hne : ((i : Int) == 0) = false := by simp; omega
            have hx : keyByte sbox L was r (n + 1) i = gb was i ^^^ gb L (16 * (n + 1) + (i - 4)) := by simp [keyByte, h4]; omega
            have Hx := Lib.hid hx
            clear e2 e3 hx
            go_wp2
            refine ⟨⟨i + 1, by omega, by go_num, ?_, (HT.out).far (by simp; omega) _, (HR.out).far (by simp; omega) _, (hB).setCell (by simp; omega) _⟩, by simp [intOf]; omega⟩
            rw [Hs.out, Hx.out]
            exact (HC.out).setKey _ _ _
          · clear e4
            have h4' : decide (4 ≤ (i : Int)) = false := by simp; omega
            by_cases h0 : i = 0
            · have heq : ((i : Int) == 0) = true := by simp; omega
              have hx : keyByte sbox L was r (n + 1) i = gb was i ^^^ gb sbox (nb (gb was (12 + (i + 1) % 4))) ^^^ r := by simp [keyByte, h0]
              have H0 := Lib.hid h0
              have Hx := Lib.hid hx
              clear h0 hx
              go_wp2
              go_quiet (fail)
              go_wp2
              refine ⟨⟨i + 1, by omega, by go_num, ?_, (HT.out.drewN _).far (by simp; omega) _, (HR.out.drewN _).far (by simp; omega) _, (below_drewN hB _).setCell (by simp; omega) _⟩, by simp [intOf]; omega⟩
              rw [Hs.out, Hx.out]
              exact (Blk.drewN HC.out _).setKey _ _ _
            · have hne : ((i : Int) == 0) = false := by simp; omega
              have hx : keyByte sbox L was r (n + 1) i = gb was i ^^^ gb sbox (nb (gb was (12 + (i + 1) % 4))) := by simp [keyByte, h4, h0]
              have H0 := Lib.hid h0
              have Hx := Lib.hid hx
              clear h0 hx
              go_wp2
              go_quiet (fail)
              go_wp2
              refine ⟨⟨i + 1, by omega, by go_num, ?_, (HT.out.drewN _).far (by simp; omega) _, (HR.out.drewN _).far (by simp; omega) _, (below_drewN hB _).setCell (by simp; omega) _⟩, by simp [intOf]; omega⟩
              rw [Hs.out, Hx.out]
              exact (Blk.drewN HC.out _).setKey _ _ _
        · have hi' : i = 16 := by omega
          have hk1 : keysTo sbox k (n + 1) = (L, dbl r) := by
            have hL := HL.out
            rw [hi'] at hL
            rw [← hL, ← HW3.out, ← HKK.out, ← Hr.out]; rfl
          have Hk1 := Lib.hid hk1
          clear hk1 hi' e1 e2 e3 e4 e5
          go_wp2_with (go_at_call 42; refine (double_any _ (by simp) (by simp) _).mono ?_; rintro e w' ⟨rfl, rfl⟩)
          refine ⟨⟨n + 1, by omega, by go_num, by rw [Hk1.out], by rw [Hk1.out]; exact HC.out, HR.out, hB⟩, by simp [intOf]; omega⟩
    · have hlen := keysTo_length sbox k n hk
      have HC := Lib.hid hC
      have Hlen := Lib.hid hlen
      have HR := Lib.hid hR
      clear hC hlen hR
      go_wp2
      go_ret
      have hn' : n = 10 := by omega
      have hC := HC.out
      have hlen := Hlen.out
      rw [hn'] at hC hlen
      exact ⟨c, w.heap.size + 1, rfl, ⟨hC, HR.out, sbox_length, hlen⟩, by omega, by omega, hB⟩
end Go.Proofs.YtpkelokaammmjaaDoor
end
/-! The walk of (*Cipher).Stream: it answers stream. -/
section
namespace Go.Proofs.YtpkelokaammmjaaDoor
open Go.RowKit Go.QT
theorem ub_succ (a : UInt8) : (ub a + 1) % 256 = ub (a + 1) := by
  have := ub_add a 1
  rwa [show ub 1 = 1 by simp [ub]] at this
attribute [local go_sem] bits_xor8 bits_or8 bits_and8 u8_ub ub_succ
theorem padTo_length (out pad : Bytes) (a i : Nat) : (padTo out pad a i).length = out.length := by
  induction i with
  | zero => rfl
  | succ i ih => exact List.length_set.trans ih
theorem incFrom_length (f : Bytes) (i : Nat) : (incFrom f i).length = f.length := by
  induction i generalizing f with
  | zero => rfl
  | succ i ih => rw [incFrom]; split
                 · rw [ih, List.length_set]
                 · exact List.length_set
theorem streamTo_length (B K f b : Bytes) (hf : f.length = 16) (n : Nat) : (streamTo B K f b n).1.length = b.length ∧ (streamTo B K f b n).2.length = 16 := by
  induction n with
  | zero => exact ⟨rfl, hf⟩
  | succ n ih => exact ⟨(padTo_length _ _ _ _).trans ih.1, (incFrom_length _ _).trans ih.2⟩
theorem blk_length (B K s : Bytes) (hs : s.length = 16) : (blk B K s).length = 16 := roundsTo_length B K s hs 10
set_option maxRecDepth 100000 in
set_option maxHeartbeats 1000000 in
theorem stream_any (c bx : Nat) (B K f b : Bytes) (v : Value) (w : World) (hc : CAt w c bx B K) (hf : f.length = 16) (hb : SB w v b) (hlen : b.length ≤ 70368744177664) :
    Calls Tryd.prog 23 #[.pointer (some ⟨c, 0, none⟩), .agg (vb f).toArray, v] w (BPost w (stream B K f b)) := by
  have hcl := hc.c.lt
  have hbl := hc.b.lt
  have Hsl := Hd.mk (streamTo_length B K f b hf)
  have Hst : Hd (∀ n, streamTo B K f b (n+1) = (padTo (streamTo B K f b n).1 (blk B K (streamTo B K f b n).2) (16*n) (min 16 (b.length-16*n)), inc (streamTo B K f b n).2)) := ⟨fun _ => rfl⟩
  have Hfin : Hd (stream B K f b = (streamTo B K f b ((b.length+15)/16)).1) := ⟨rfl⟩
  go_enter Tryd.func23, Tryd.ntmps23
  go_upto_region 3 with (at_builtin; refine wl_append rfl _ _ rfl (w.heap.size + 1) (.slice none 0 0) v [] b rfl rfl (OB.nil _ _) (hb.alloc _) (by simp; omega) (by simp) ?_; intro v1 w1 hv1 hg1 hat1)
  have hF1 : Row w1 w.heap.size 23 (streamTo B K f b 0).2 := (Row.new w 23 f).grown hg1 (by simp [Value.ownBlock])
  have hB1 : Below w.heap.size w w1 := ((Below.refl _ _).alloc (Nat.le_refl _) _).grown hg1 (by simp) (by simp [Value.ownBlock])
  have hv2 : OB w1 (w.heap.size + 1) v1 (streamTo B K f b 0).1 := hv1
  clear hv1 hg1 hat1 hb
  go_wp2
  go_loopw [8] (fun i wr => ∃ n : Nat, 16 * n ≤ b.length + 15 ∧ i = .int .i64 (16 * (n : Int)) ∧ OB wr (w.heap.size + 1) v1 (streamTo B K f b n).1 ∧ Row wr w.heap.size 23 (streamTo B K f b n).2 ∧ Below w.heap.size w wr) (fun i _ => b.length + 15 - (intOf i).toNat)
  case atStart => exact ⟨0, by omega, by go_num, hv2, hF1, hB1⟩
  case round =>
    clear hv2 hF1 hB1
    obtain ⟨n, hn, rfl, hv, hF, hB⟩ := hrel
    have hl := Hsl.out n
    by_cases hlt : 16 * n < b.length
    · have Hs := Hd.mk (Hst.out n)
      generalize (streamTo B K f b n).2 = F at *
      generalize (streamTo B K f b n).1 = O at *
      obtain ⟨hl1, hl2⟩ := hl
      obtain ⟨g, cap, rfl, ho1, ho2, ho3, ho4, ho5⟩ := hv.open_ (by rintro rfl; simp at hl1; omega)
      unfold maxLen at ho4
      rw [hl1] at ho3 ho5 hv ⊢
      have hcr := hc.below hB hcl hbl
      have hi42 : (Tryd.prog.info? 23).map (·.size) = some (vb F).length := by rw [i22]; simp [hl2]
      have Hi42 := Hd.mk hi42
      have Hv := Hd.mk hv
      have HF := Hd.mk hF
      have Hl1 := Hd.mk hl1
      have Hl2 := Hd.mk hl2
      clear hv hF ho5 hl1 hl2 hi42
      obtain ⟨w2, rfl⟩ : ∃ w1 : World, w1 = wr := ⟨_, rfl⟩
      have H17 : Hd (∀ W, CAt W c bx B K → Calls Tryd.prog 44 #[.pointer (some ⟨c, 0, none⟩), .agg (vb F).toArray] W fun e w' => e = .returned (.agg (vb (blk B K F)).toArray) ∧ Below W.heap.size W w') := ⟨fun W h => block_any c bx B K F W Hl2.out h⟩
      have hpl := blk_length B K F Hl2.out
      generalize blk B K F = pad at *
      have hi42' : (Tryd.prog.info? 23).map (·.size) = some (vb pad).length := by rw [i22]; simp [hpl]
      have Hi42' := Hd.mk hi42'
      have Hpl := Hd.mk hpl
      clear hi42' hpl
      go_upto_region 6 with (first | (refine wl_load rfl 23 _ rfl w.heap.size 0 rfl 23 (vb F) (vb F) _ HF.out (by simp) ty22 rfl (by exact Hi42.out) ?_) | (go_at_call 44; refine (H17.out _ hcr).mono ?_; rintro e w3 ⟨rfl, hb3⟩) | (refine wl_storeW rfl 23 _ _ rfl w3.heap.size 0 (vb pad) rfl rfl 23 _ (vb pad) (Blk.new _ _ (List.replicate 16 (.int .u8 0))) (by simp [Hpl.out]) (by exact Hi42'.out) (vb_ones _) (by simp [Hpl.out]) ?_; intro w4 hb4 hg4 hs4))
      have hsz : w.heap.size ≤ w2.heap.size := hB.size
      have hv4 : OB w4 (w.heap.size + 1) (.slice (some ⟨g, 0, none⟩) b.length cap) (padTo O pad (16 * n) 0) := ((Hv.out.below hb3).alloc _).grown hg4 (by intro k hk e; simp [Value.ownBlock] at hk; have := hb3.size; simp at e; omega)
      have hF4 : Row w4 w.heap.size 23 F := ((HF.out.below hb3 (by have := HF.out.lt; omega)).alloc _).grown hg4 (by have := HF.out.lt; have := hb3.size; simp; omega)
      have hB4 : Below w.heap.size w w4 := ((hB.trans (hb3.mono hsz)).alloc (by have := hb3.size; omega) _).grown hg4 (by have := hb3.size; simp; omega) (by rintro j hj; have := hb3.size; cases hj; omega)
      have hP4 : Row w4 w3.heap.size 23 pad := hb4
      have hgp : g ≠ w3.heap.size := by have := hb3.size; omega
      have hfp : w.heap.size < w3.heap.size := by have := HF.out.lt; have := hb3.size; omega
      clear Hv HF hcr hB hb4 hg4 hs4 hb3 H17 Hi42 Hi42'
      generalize w3.heap.size = gp at *
      go_wp2
      have hM : min 16 (b.length - 16 * n) ≤ 16 ∧ 16 * n + min 16 (b.length - 16 * n) ≤ b.length ∧ (min 16 (b.length - 16 * n) = 16 ∨ 16 * n + min 16 (b.length - 16 * n) = b.length) := by omega
      generalize min 16 (b.length - 16 * n) = M at *
      obtain ⟨hM1, hM2, hM3⟩ := hM
      go_loopw [10] (fun i wr => ∃ k : Nat, k ≤ M ∧ i = .int .i64 (16 * (n : Int) + k) ∧ OB wr (w.heap.size + 1) (.slice (some ⟨g, 0, none⟩) b.length cap) (padTo O pad (16 * n) k) ∧ Row wr gp 23 pad ∧ Row wr w.heap.size 23 F ∧ Below w.heap.size w wr) (fun i _ => 16 * n + 16 - (intOf i).toNat)
      case atStart => exact ⟨0, by omega, by go_num, hv4, hP4, hF4, hB4⟩
      case round =>
        clear hv4 hP4 hF4 hB4
        obtain ⟨k, hk, rfl, hv, hP, hF, hB⟩ := hrel
        have hpl := padTo_length O pad (16 * n) k
        rw [Hl1.out] at hpl
        by_cases hkM : k < M
        · have Hs2 : Hd (padTo O pad (16 * n) (k+1) = (padTo O pad (16 * n) k).set (16*n+k) (gb (padTo O pad (16 * n) k) (16*n+k) ^^^ gb pad k)) := ⟨rfl⟩
          generalize padTo O pad (16 * n) k = X at *
          obtain ⟨g', cap', e, _, _, _, _, hcell⟩ := hv.open_ (by rintro rfl; simp at hpl; omega)
          injection e with e1 e2 e3
          injection e1 with e1
          injection e1 with e1
          subst e1
          clear e2 e3
          have x1 := hcell (16 * n + k) (by omega)
          have x2 := Row.cell hP (i := k) (by rw [Hpl.out]; omega)
          have x3 := hv.frozen_ (16 * n + k)
          have Hv := Hd.mk hv
          have HP := Hd.mk hP
          have HF := Hd.mk hF
          clear hv hP hF hcell hpl
          go_wp2
          all_goals
            refine wp_region_qt 11 (by kernel_rfl) (by kernel_rfl) ?_
            simp only [List.take_succ_cons, List.take_zero, List.drop_succ_cons, List.drop_zero]
            repeat (go_big_quiet_step (fail))
            refine wpQuiet_nil ?_
            rintro _ ⟨nq4, rfl⟩
            go_wp2
            refine ⟨⟨k + 1, by omega, by go_num, by rw [Hs2.out]; exact (Hv.out.drewN nq4).set _ _, (HP.out.drewN nq4).far (by simp; omega) _, (HF.out.drewN nq4).far (by simp; omega) _, (below_drewN hB nq4).setCell (by simp; omega) _⟩, by simp [intOf]; omega⟩
        · have hkM' : k = M := by omega
          have hs1 : (streamTo B K f b (n+1)).1 = padTo O pad (16 * n) M := by rw [Hs.out]
          have hs2 : (streamTo B K f b (n+1)).2 = incFrom F 16 := by rw [Hs.out]; rfl
          rw [hkM', ← hs1] at hv
          have Hs2 := Hd.mk hs2
          clear hs1 hs2
          have Hv := Hd.mk hv
          have HF := Hd.mk hF
          clear hkM' hv hF hP hpl
          go_wp2
          all_goals
            go_loopw [11] (fun j wr => ∃ (i : Nat) (G : Bytes), i ≤ 16 ∧ j = .int .i64 (↑i - 1) ∧ G.length = 16 ∧ incFrom G i = incFrom F 16 ∧ OB wr (w.heap.size + 1) (.slice (some ⟨g, 0, none⟩) b.length cap) (streamTo B K f b (n+1)).1 ∧ Row wr w.heap.size 23 G ∧ Below w.heap.size w wr) (fun j _ => (1 + intOf j).toNat)
            case atStart => exact ⟨16, F, by omega, by go_num, Hl2.out, rfl, Hv.out, HF.out, hB⟩
            case round =>
              obtain ⟨i, G, hi, rfl, hGl, hG, hv, hF, hB⟩ := hrel
              have Hv := Hd.mk hv
              have HG := Hd.mk hG
              by_cases hi0 : 1 ≤ i
              · have e1 := Row.cell hF (i := i - 1) (by rw [hGl]; omega)
                have e2 := Row.frozen hF (i - 1)
                have HF := Hd.mk hF
                have HGl := Hd.mk hGl
                have hstep : incFrom G i = if gb G (i - 1) + 1 = 0 then incFrom (G.set (i - 1) 0) (i - 1) else G.set (i - 1) (gb G (i - 1) + 1) := by
                  obtain ⟨i', rfl⟩ : ∃ i', i = i' + 1 := ⟨i - 1, by omega⟩
                  rfl
                have Hstep := Hd.mk hstep
                clear hv hG hF hGl hstep
                by_cases hz : gb G (i - 1) + 1 = 0
                · have ht : (ub (gb G (i - 1) + 1) != 0) = false := by rw [hz]; simp [ub]
                  have Hz := Hd.mk hz
                  clear hz
                  go_wp2
                  refine ⟨⟨i - 1, G.set (i - 1) (gb G (i - 1) + 1), by omega, by go_num, by rw [List.length_set]; exact HGl.out, ?_, Hv.out.far (by intro q hq; simp [Value.ownBlock] at hq; simp; omega) _, HF.out.set _ _, hB.setCell (Nat.le_refl _) _⟩, by simp [intOf]; omega⟩
                  have h1 := Hstep.out
                  rw [if_pos Hz.out] at h1
                  rw [Hz.out, ← h1]; exact HG.out
                · have ht : (ub (gb G (i - 1) + 1) != 0) = true := by
                    have : ub 0 = 0 := by simp [ub]
                    rw [← this]; simp [ub_inj, hz]
                  have Hz := Hd.mk hz
                  clear hz
                  go_wp2
                  refine ⟨⟨n + 1, by omega, by go_num, Hv.out.far (by intro q hq; simp [Value.ownBlock] at hq; simp; omega) _, ?_, hB.setCell (Nat.le_refl _) _⟩, by simp [intOf]; omega⟩
                  have h1 := Hstep.out
                  rw [if_neg Hz.out] at h1
                  rw [Hs2.out, ← HG.out, h1]
                  exact HF.out.set _ _
              · have hi' : i = 0 := by omega
                have HF := Hd.mk hF
                clear hv hF hG hGl
                go_wp2
                refine ⟨⟨n + 1, by omega, by go_num, Hv.out, ?_, hB⟩, by simp [intOf]; omega⟩
                have h1 := HG.out
                rw [hi'] at h1
                rw [Hs2.out, ← h1]
                exact HF.out
    · have hn' : (b.length + 15) / 16 = n := by omega
      have hs := Hfin.out
      rw [hn'] at hs
      obtain ⟨A, cap, hV, _⟩ := hv.sb
      subst hV
      rw [hl.1, ← hs] at hv
      rw [hl.1]
      have Hv := Hd.mk hv
      clear hv hs hn' hl hF
      go_wp2
      go_ret
      exact ⟨_, rfl, Hv.out.mono (by omega), hB⟩
end Go.Proofs.YtpkelokaammmjaaDoor
end
/-! Streams, byte by byte; a stream of a stream. -/
section
namespace Go.Proofs.YtpkelokaammmjaaDoor
theorem gbs_set (l : Bytes) (i j : Nat) (v : UInt8) (h : i < l.length) : gb (l.set i v) j = if i = j then v else gb l j := by
  by_cases hij : i = j
  · subst hij; simp [gb, h]
  · simp [gb, hij]
theorem ext_gb (l m : Bytes) (h : l.length = m.length) (hg : ∀ j, j < l.length → gb l j = gb m j) : l = m := by
  apply List.ext_getElem h
  intro i h1 h2
  have := hg i h1
  simpa [gb, h1, h2] using this
/-- The number, n times one more. -/
def incN (f : Bytes) : Nat → Bytes
  | 0 => f
  | n+1 => inc (incN f n)
theorem incFrom_len (f : Bytes) (n : Nat) : (incFrom f n).length = f.length := by
  induction n generalizing f with
  | zero => rfl
  | succ n ih =>
    unfold incFrom
    split
    · rw [ih]; simp
    · simp
theorem inc_len (f : Bytes) : (inc f).length = f.length := incFrom_len f 16
theorem incN_len (f : Bytes) (n : Nat) : (incN f n).length = f.length := by
  induction n with
  | zero => rfl
  | succ n ih => exact (inc_len _).trans ih
theorem incN_add (f : Bytes) (n m : Nat) : incN f (n + m) = incN (incN f n) m := by
  induction m with
  | zero => rfl
  | succ m ih => rw [← Nat.add_assoc, incN, ih]; rfl
theorem padTo_len (out pad : Bytes) (o n : Nat) : (padTo out pad o n).length = out.length := by
  induction n with
  | zero => rfl
  | succ n ih => exact List.length_set.trans ih
theorem padTo_at (out pad : Bytes) (o n j : Nat) (hn : o + n ≤ out.length) : gb (padTo out pad o n) j = if o ≤ j ∧ j < o + n then gb out j ^^^ gb pad (j - o) else gb out j := by
  induction n with
  | zero => rw [if_neg (by omega)]; rfl
  | succ n ih =>
    rw [padTo, gbs_set _ _ _ _ (by rw [padTo_len]; omega)]
    by_cases h : o + n = j
    · subst h
      rw [if_pos rfl, if_pos (by omega), ih (by omega), if_neg (by omega), Nat.add_sub_cancel_left]
    · rw [if_neg h, ih (by omega)]
      by_cases h2 : o ≤ j ∧ j < o + n
      · rw [if_pos h2, if_pos (by omega)]
      · rw [if_neg h2, if_neg (by omega)]
theorem streamTo_2 (B K f b : Bytes) (n : Nat) : (streamTo B K f b n).2 = incN f n := by
  induction n with
  | zero => rfl
  | succ n ih => show inc _ = _; rw [ih]; rfl
theorem streamTo_len (B K f b : Bytes) (n : Nat) : (streamTo B K f b n).1.length = b.length := by
  induction n with
  | zero => rfl
  | succ n ih => exact (padTo_len _ _ _ _).trans ih
theorem streamTo_at (B K f b : Bytes) (n j : Nat) (hn : n ≤ (b.length + 15) / 16) (hj : j < b.length) : gb (streamTo B K f b n).1 j = if j < 16 * n then gb b j ^^^ gb (blk B K (incN f (j / 16))) (j % 16) else gb b j := by
  induction n with
  | zero => rw [if_neg (by omega)]; rfl
  | succ n ih =>
    rw [streamTo]
    show gb (padTo _ _ _ _) j = _
    rw [padTo_at _ _ _ _ _ (by rw [streamTo_len]; omega), ih (by omega), streamTo_2]
    by_cases h1 : j < 16 * n
    · rw [if_neg (by omega), if_pos h1, if_pos (by omega)]
    · by_cases h2 : j < 16 * (n + 1)
      · rw [if_pos (by omega), if_neg h1, if_pos h2, show j / 16 = n by omega, show j - 16 * n = j % 16 by omega]
      · rw [if_neg (by omega), if_neg h1, if_neg h2]
theorem stream_len (B K f b : Bytes) : (stream B K f b).length = b.length := streamTo_len _ _ _ _ _
theorem stream_at (B K f b : Bytes) (j : Nat) (hj : j < b.length) : gb (stream B K f b) j = gb b j ^^^ gb (blk B K (incN f (j / 16))) (j % 16) := by
  unfold stream
  rw [streamTo_at _ _ _ _ _ _ (Nat.le_refl _) hj, if_pos (by omega)]
theorem stream_back (B K f b : Bytes) : stream B K f (stream B K f b) = b := by
  refine ext_gb _ _ ((stream_len _ _ _ _).trans (stream_len _ _ _ _)) fun j hj => ?_
  rw [stream_len, stream_len] at hj
  rw [stream_at _ _ _ _ _ (by rw [stream_len]; exact hj), stream_at _ _ _ _ _ hj, UInt8.xor_assoc, UInt8.xor_self, UInt8.xor_zero]
end Go.Proofs.YtpkelokaammmjaaDoor
end
/-! The walks of octet.at and octet.Equal. -/
section
namespace Go.Proofs.YtpkelokaammmjaaDoor
open Go.RowKit Go.QT
attribute [local go_sem] bits_xor8 bits_or8 bits_and8
theorem gb_out (l : Bytes) (i : Nat) (h : l.length ≤ i) : gb l i = 0 := by simp [gb, h]
set_option maxRecDepth 100000 in
set_option maxHeartbeats 400000 in
theorem at_any (v : Value) (l : Bytes) (i : Nat) (x : Int) (hx : x = (i : Int)) (_hi : i < 9223372036854775808) (w : World) (hv : SB w v l) : Calls Tryd.prog 45 #[v, .int .i64 x] w (VPost w (.int .u8 (ub (gb l i)))) := by
  subst hx
  obtain ⟨A, c, hve, hc1, hc2⟩ := sb_form hv
  by_cases h : i < l.length
  · obtain ⟨b, o, c', e, _, _, hb, hcell⟩ := hv.open_ (by rintro rfl; simp at h)
    subst hve
    injection e with e1 e2 e3
    subst e1
    have hd : decide ((i : Int) < l.length) = true := by simp; omega
    have x0 := hcell i h
    clear hcell hv e2 e3
    go_enter Tryd.func45, Tryd.ntmps45
    go_wp2
    go_ret
    exact ⟨rfl, rfl⟩
  · have hz := Hd.mk (gb_out l i (by omega))
    subst hve
    have hd : decide ((i : Int) < l.length) = false := by simp; omega
    clear hv
    go_enter Tryd.func45, Tryd.ntmps45
    go_wp2
    go_ret
    refine ⟨?_, rfl⟩
    rw [hz.out]; simp [ub]
def eqTo (a b : Bytes) : Nat → UInt8
  | 0 => 0
  | k+1 => eqTo a b k ||| (gb a k ^^^ gb b k)
theorem or0 (x y : UInt8) : x ||| y = 0 ↔ x = 0 ∧ y = 0 := by
  constructor
  · intro h
    have h1 : x.toNat ||| y.toNat = 0 := by have := congrArg UInt8.toNat h; simpa using this
    have h2 := Nat.or_eq_zero_iff.1 h1
    exact ⟨UInt8.toNat_inj.1 (by simpa using h2.1), UInt8.toNat_inj.1 (by simpa using h2.2)⟩
  · rintro ⟨rfl, rfl⟩; rfl
theorem xor0 (x y : UInt8) : x ^^^ y = 0 ↔ x = y := by
  constructor
  · intro h
    have : (x ^^^ y) ^^^ y = 0 ^^^ y := by rw [h]
    rwa [UInt8.xor_assoc, UInt8.xor_self, UInt8.xor_zero, UInt8.zero_xor] at this
  · rintro rfl; exact UInt8.xor_self
theorem eqTo_zero (a b : Bytes) (k : Nat) : eqTo a b k = 0 ↔ ∀ j, j < k → gb a j = gb b j := by
  induction k with
  | zero => simp [eqTo]
  | succ k ih =>
    rw [eqTo, or0, xor0, ih]
    constructor
    · rintro ⟨h1, h2⟩ j hj
      by_cases e : j = k
      · subst e; exact h2
      · exact h1 j (by omega)
    · intro h
      exact ⟨fun j hj => h j (by omega), h k (by omega)⟩
theorem equal_fin (a b : Bytes) (k : Nat) (hk : k = max a.length b.length) : (decide (eqTo a b k = 0) && decide (a.length = b.length)) = decide (a = b) := by
  rw [Bool.eq_iff_iff]
  simp only [Bool.and_eq_true, decide_eq_true_eq, eqTo_zero]
  constructor
  · rintro ⟨h1, h2⟩
    exact same_eq a b h2 fun j hj => h1 j (by omega)
  · rintro rfl; exact ⟨fun _ _ => rfl, rfl⟩
set_option maxRecDepth 100000 in
set_option maxHeartbeats 1000000 in
theorem equal_any (va vb' : Value) (a b : Bytes) (w : World) (ha : SB w va a) (hb : SB w vb' b) : Calls Tryd.prog 28 #[va, vb'] w (VPost w (.bool (decide (a = b)))) := by
  obtain ⟨A, c, rfl, hc1, hc2⟩ := sb_form ha
  obtain ⟨B, d, rfl, hd1, hd2⟩ := sb_form hb
  have Ha := Hd.mk ha
  have Hb := Hd.mk hb
  clear ha hb
  obtain ⟨M, hM, hM2⟩ : ∃ M : Nat, M = max a.length b.length ∧ (max (a.length : Int) (b.length : Int)) = (M : Int) := ⟨_, rfl, by omega⟩
  have Hfin := Hd.mk (equal_fin a b M hM)
  have HM : a.length ≤ M ∧ b.length ≤ M ∧ M ≤ 9223372036854775807 := by omega
  clear hM
  obtain ⟨hM1, hM3, hM4⟩ := HM
  have hmax : ∀ (O : Oper) (Ac : Act), O.op = .call { callee := .builtin .max, args := #[.tmp 8, .tmp 10], argTypes := #[3, 3] } → Ac.eval (.tmp 8) = .int .i64 (a.length : Int) → Ac.eval (.tmp 10) = .int .i64 (b.length : Int) → ∀ W, (execOp Ac.eval O).run Tryd.prog W = .ok (.value (.int .i64 (M : Int))) W := fun O Ac h1 h2 h3 W => by
    rw [← hM2]
    unfold execOp
    simp only [h1, resolve, invoke, builtin, Sem.run_bind, Sem.run_pure, Result.andThen_ok, List.map_toArray, List.map_cons, List.map_nil, h2, h3]
    have e : (if (b.length : Int) > (a.length : Int) then (b.length : Int) else (a.length : Int)) = max (a.length : Int) (b.length : Int) := by
      split <;> omega
    have hm : (Builtin.max_ #[3, 3] O.type #[.int .i64 (a.length : Int), .int .i64 (b.length : Int)]).run Tryd.prog W = .ok (.int .i64 (max (a.length : Int) (b.length : Int))) W := by
      rw [← e]; simp [Builtin.max_, Builtin.max2]
    simp only [hm, Result.andThen_ok]
  have Hmax := Hd.mk hmax
  clear hmax
  go_enter Tryd.func28, Tryd.ntmps28
  go_upto_region 2 with (fail)
  refine wp_region_lit ?_
  refine wl_val rfl (.slice A a.length c) (rfl) ?_
  simp only [Act.put, List.setIfInBounds_toArray, List.set_cons_succ, List.set_cons_zero]
  refine wl_val rfl (.int .i64 (a.length : Int)) (by simp [go_sem]) ?_
  simp only [Act.put, List.setIfInBounds_toArray, List.set_cons_succ, List.set_cons_zero]
  refine wl_val rfl (.slice B b.length d) (rfl) ?_
  simp only [Act.put, List.setIfInBounds_toArray, List.set_cons_succ, List.set_cons_zero]
  refine wl_val rfl (.int .i64 (b.length : Int)) (by simp [go_sem]) ?_
  simp only [Act.put, List.setIfInBounds_toArray, List.set_cons_succ, List.set_cons_zero]
  refine wl_val rfl (.int .i64 (M : Int)) (Hmax.out _ _ rfl rfl rfl _) ?_
  simp only [Act.put, List.setIfInBounds_toArray, List.set_cons_succ, List.set_cons_zero]
  go_wp2
  go_loop [5, 12] (fun x i => ∃ k : Nat, k ≤ M ∧ i = .int .i64 (k : Int) ∧ x = .int .u8 (ub (eqTo a b k))) (fun _ i => M - (intOf i).toNat)
  case atStart => exact ⟨0, by omega, rfl, by simp [eqTo, ub]⟩
  case round =>
    obtain ⟨k, hk, rfl, rfl⟩ := hrel
    by_cases hlt : k < M
    · have hd : decide ((k : Int) < M) = true := by simp; omega
      have Hs : Hd (eqTo a b (k+1) = eqTo a b k ||| (gb a k ^^^ gb b k)) := ⟨rfl⟩
      have A1 := Hd.mk (at_any _ a k (k : Int) rfl (by omega) w Ha.out)
      have A2 := Hd.mk (at_any _ b k (k : Int) rfl (by omega) w Hb.out)
      generalize eqTo a b k = D at *
      go_wp2_with (go_at_call 45; (first | (with_reducible refine A1.out.mono ?_) | (with_reducible refine A2.out.mono ?_)); rintro e w' ⟨rfl, rfl⟩)
      refine ⟨⟨k + 1, by omega, by go_num, by rw [Hs.out]⟩, by simp [intOf]; omega⟩
    · have hkM : k = M := by omega
      have hd : decide ((k : Int) < M) = false := by simp; omega
      subst hkM
      have hz : (ub (eqTo a b k) == 0) = decide (eqTo a b k = 0) := by
        have : ub 0 = 0 := by simp [ub]
        rw [← this, ub_beq]; rfl
      have hl : (((a.length : Nat) : Int) == ((b.length : Nat) : Int)) = decide (a.length = b.length) := by
        rw [Bool.eq_iff_iff, beq_iff_eq, decide_eq_true_eq]; omega
      generalize hD : decide (eqTo a b k = 0) = D at *
      cases D with
      | true =>
        generalize hL : decide (a.length = b.length) = L at *
        have HL := Hd.mk hL
        have HD := Hd.mk hD
        clear hL hD
        go_wp2
        go_ret
        refine ⟨?_, rfl⟩
        rw [← Hfin.out]; simp
      | false =>
        have HD := Hd.mk hD
        clear hD hl
        go_wp2
        go_ret
        refine ⟨?_, rfl⟩
        rw [← Hfin.out]; simp
end Go.Proofs.YtpkelokaammmjaaDoor
end
/-! Steps and plain functions for the walks of package seal. -/
section
namespace Go.Proofs.YtpkelokaammmjaaDoor
open Go.RowKit Go.QT
/-- A cipher in memory. -/
def rCi (c bx : Nat) (B K : Bytes) : Res where
  F := fun q => q = c ∨ q = bx
  Φ := fun w => CAt w c bx B K
  lt := fun h q hq => by rcases hq with rfl | rfl; exact h.c.lt; exact h.b.lt
  keep := fun h _ hk => ⟨(hk _ (.inl rfl)).trans h.c, (hk _ (.inr rfl)).trans h.b, h.lb, h.lk⟩
/-- The key for a half of a box. -/
def partK (K D : Bytes) (x : UInt8) : Bytes := derF K ([x] ++ D)
theorem part_len (K D : Bytes) (x : UInt8) : (partK K D x).length = 16 := der_len _ _
def ciph (K D nb b : Bytes) : Bytes := stream sbox (keys sbox (partK K D 101)) (nb ++ List.replicate 8 0) b
def tagOf (K D nb c : Bytes) : Bytes := (macF (partK K D 109) (nb ++ c)).take 16
theorem tag_len (K D nb c : Bytes) : (tagOf K D nb c).length = 16 := by unfold tagOf; rw [List.length_take, mac_len]; rfl
theorem ciph_len (K D nb b : Bytes) : (ciph K D nb b).length = b.length := stream_len _ _ _ _
/-- A box. -/
def boxR (n : Nat) (K D b : Bytes) : Bytes := put8 n ++ ciph K D (put8 n) b ++ tagOf K D (put8 n) (ciph K D (put8 n) b)
def midOf (x : Bytes) : Bytes := (x.take (x.length - 16)).drop 8
/-- What is in a box. -/
def openR (K D x : Bytes) : Option Bytes :=
  if x.length < 24 then none else if tagOf K D (x.take 8) (midOf x) = x.drop (x.length - 16) then some (ciph K D (x.take 8) (midOf x)) else none
def freshR (seed : Bytes) (n : Nat) : Bytes := (macF seed (put8 n)).take 16
theorem fresh_len (seed : Bytes) (n : Nat) : (freshR seed n).length = 16 := by unfold freshR; rw [List.length_take, mac_len]; rfl
section
variable {o : Oper} {a : Act} {w w' : World} {F0 : Nat → Prop} {w0 : World} {ro rs : List Res}
theorem x_aesNew (h : Hp F0 w0 w ro rs) (K : Fin 16 → UInt8) (hp : pureVal Tryd.prog (execOp a.eval o) = some (.enter 21 #[.agg (vb (kl K)).toArray])) :
    OpTo Tryd.prog o a w (fun u w' => ∃ c bx, u = pt c 0 ∧ Hp F0 w0 w' (rCi c bx sbox (keys sbox (kl K)) :: ro) rs) :=
  OpTo.enter 21 [.agg (vb (kl K)).toArray] hp (new_any (kl K) w (kl_len K)) fun e w' hq => by
    obtain ⟨c, bx, he, hC, h1, h2, hb⟩ := hq
    exact ⟨_, he, c, bx, rfl, h.newR hb (rCi c bx sbox (keys sbox (kl K))) hC (fun q hq => by rcases hq with rfl | rfl <;> omega)⟩
/-- octet.Equal. -/
theorem x_equal (h : Hp F0 w0 w ro rs) (l m : Bytes) (u v : Value) (hp : pureVal Tryd.prog (execOp a.eval o) = some (.enter 28 #[u, v])) (hu : SB w u l) (hv : SB w v m) (b : Bool) (hb : decide (l = m) = b) :
    OpTo Tryd.prog o a w (fun x w' => x = .bool b ∧ Hp F0 w0 w' ro rs) := by
  subst hb
  exact x_vpost h 28 [u, v] hp (equal_any u v l m w hu hv)
/-- strconv.Itoa of this number answers these bytes. -/
def ItoaIs (n : Int) (D : ByteArray) : Prop := ∀ w : World, Calls Tryd.prog 43 #[.int .i64 n] w (NPost w (.string D))
theorem x_itoa (h : Hp F0 w0 w ro rs) {n : Int} {D : ByteArray} (hi : ItoaIs n D) (hp : pureVal Tryd.prog (execOp a.eval o) = some (.enter 43 #[.int .i64 n])) :
    OpTo Tryd.prog o a w (fun x w' => x = .string D ∧ Hp F0 w0 w' ro rs) := x_np h 43 [.int .i64 n] hp (hi w)
/-- strconv.Itoa of this number answers these bytes wherever the blocks F are as they are now. -/
def rIt (F : Nat → Prop) (n : Int) (D : ByteArray) : Res where
  F := F
  Φ := fun w => (∀ q, F q → q < w.heap.size) ∧ ∀ w', w.heap.size ≤ w'.heap.size → (∀ q, F q → w'.heap[q]? = w.heap[q]?) → Calls Tryd.prog 43 #[.int .i64 n] w' (NPost w' (.string D))
  lt := fun h => h.1
  keep := fun h hs hk => ⟨fun q hq => Nat.lt_of_lt_of_le (h.1 q hq) hs, fun w' hs' hk' => h.2 w' (Nat.le_trans hs hs') fun q hq => (hk' q hq).trans (hk q hq)⟩
theorem rIt_of {n : Int} {D : ByteArray} (h : ItoaIs n D) (w : World) : (rIt (fun _ => False) n D).Φ w := ⟨fun _ hf => hf.elim, fun w' _ _ => h w'⟩
theorem rIt_dj (n : Int) (D : ByteArray) (r : Res) : (rIt (fun _ => False) n D).dj r := fun _ hf => hf.elim
theorem x_itoaW (h : Hp F0 w0 w ro rs) (k : Nat) {G : Nat → Prop} {n : Int} {D : ByteArray} (hk : ro[k]? = some (rIt G n D)) (hp : pureVal Tryd.prog (execOp a.eval o) = some (.enter 43 #[.int .i64 n])) :
    OpTo Tryd.prog o a w (fun x w' => x = .string D ∧ Hp F0 w0 w' ro rs) := x_np h 43 [.int .i64 n] hp ((h.red k _ hk).2 w (Nat.le_refl _) (fun _ _ => rfl))
theorem z16a : (Tryd.prog.info? 23).map (·.size) = some 16 := by kernel_rfl
/-- copy of bytes into a row that is held. -/
theorem x_copyN (h : Hp F0 w0 w ro rs) (i : Nat) {g : Nat} {T : TypeId} {cur : Bytes} (hi : rs[i]? = some (rBlk g T (vb cur))) (d s : Operand) (ho : o.op = .call { callee := .builtin .copy, args := #[d, s], argTypes := #[22, 22] })
    (n c : Nat) (l r : Bytes) (v : Value) (hd : a.eval d = .slice (some ⟨g, 0, none⟩) n c) (hs : a.eval s = v) (hv : SB w v l) (hne : l ≠ []) (hle : l.length ≤ n) (hfit : l.length ≤ cur.length) (hr : r = ovr cur 0 l) :
    OpTo Tryd.prog o a w (fun _ w' => Hp F0 w0 w' ro (rs.set i (rBlk g T (vb r)))) := by
  subst hr
  have hb : Row w g T cur := h.own i _ hi
  exact OpTo.run _ (exec_copy d s ho g 0 n c T cur l v hd hs hb hv hne hle (by omega)) (h.upd i hi (Fr.of_grown (only_setRow g _) (fun q hq => by injection hq with hq; exact .inl hq.symm)) (rBlk g T (vb (ovr cur 0 l))) (Blk.setRow hb _) (fun q hq => .inl hq))
end
end Go.Proofs.YtpkelokaammmjaaDoor
end
