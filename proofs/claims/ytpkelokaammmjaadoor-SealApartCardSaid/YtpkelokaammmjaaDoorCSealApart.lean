/- The card of SealApart: for every input the law returns true and what came in reads as it did; the package variables that its row lists are tied to the program's text. (Texts laid one behind the other: SAlv, SApart, SealApart.) -/
import Derived.Test.YtpkelokaammmjaaDoorTie
import Derived.Test.YtpkelokaammmjaaDoorCards
import Derived.ChangeMaps5
import Derived.ProofKit
import Derived.OpenShut
import Derived.LaidMore
import Derived.Lay
import Derived.SevenTiedAt
import Derived.Stop.Joined
import Derived.Test.YtpkelokaammmjaaDoorCA7
/-! The document's example, of layer 6. -/
section
namespace Go.Proofs.YtpkelokaammmjaaDoor
open Go.RowKit Go.QT
set_option maxRecDepth 100000 in
set_option maxHeartbeats 4000000 in
theorem lalive_any (w : World) : Calls Tryd.prog 6 #[] w (NPost w (.bool true)) := by
  have h0 := Hp.nil (fun _ => False) w
  refine enter 55 Tryd.func6 rfl rfl ?_
  refine wp_reset 55 [] (fun x0 => ?_)
  refine wp_seq_k ?_
  intro K1 hK1
  refine reg_lit ?_
  refine wq_p 1 [(0, (Value.bool false))] ?_
  refine wl_end rfl ?_
  refine seq_n hK1 ?_
  refine wp_seq_k ?_
  intro K2 hK2
  refine reg_lit ?_
  refine wq_to (some 6) (x_bsl h0 [115, 101, 101, 100] (by kernel_rfl)) ?_
  rintro _ w3 ⟨g3, rfl, hw3, hg3, hq3, h3⟩
  refine wq_to (some 7) (x_bcv hq3 [115, 101, 101, 100] hw3 g3 hg3 (.tmp 6) (by kernel_rfl) (by kernel_rfl) (by decide)) ?_
  rintro _ w4 ⟨rfl, h4⟩
  refine wq_to (some 8) (x_rnew h4 ([115, 101, 101, 100]) (Value.slice (some ⟨g3, 0, none⟩) 4 4) (by kernel_rfl) (h4.rd 0 rfl) (by first | (show _ ≤ _; decide) | (rw [box_len]; decide))) ?_
  rintro _ w5 ⟨m5, A5, c5, rfl, h5⟩
  refine wq_p 1 [(1, (pt m5 0))] ?_
  refine wl_end rfl ?_
  refine seq_n hK2 ?_
  refine wp_seq_k ?_
  intro K6 hK6
  refine wp_seq_k ?_
  intro K7 hK7
  refine reg_lit ?_
  refine wq_p 2 [(10, (Value.bool false)), (9, (pt m5 0))] ?_
  refine wl_end rfl ?_
  refine seq_n hK7 ?_
  refine wp_cond_false (by kernel_rfl) ?_
  refine wp_skip ?_
  refine seq_n hK6 ?_
  refine wp_seq_k ?_
  intro K8 hK8
  refine reg_lit ?_
  refine wq_p 1 [(11, (pt m5 0))] ?_
  refine wq_to (some 12) (x_rfresh h5 0 0 (x := ((0))) (y := ((0))) (seed := [115, 101, 101, 100]) rfl rfl (by kernel_rfl) (by omega) (by first | (show _ ≤ _; decide) | (rw [box_len]; decide))) ?_
  rintro _ w9 ⟨K9, rfl, hK9, h9⟩
  refine wq_to (some 2) (x_new h9 28 (vb (List.replicate 16 0)) (fun r => pt r 0) (by kernel_rfl)) ?_
  rintro _ w10 ⟨g10, rfl, h10⟩
  refine wq_to none (x_stores h10 0 rfl 28 (.tmp 2) (.tmp 12) (by kernel_rfl) 0 (vb (kl K9)) (vb (kl K9)) (by kernel_rfl) (by kernel_rfl) (by kernel_rfl) (by kernel_rfl) (by kernel_rfl) (by kernel_rfl)) ?_
  rintro _ w11 h11
  refine wl_end rfl ?_
  refine seq_n hK8 ?_
  refine wp_seq_k ?_
  intro K12 hK12
  refine reg_lit ?_
  refine wq_p 1 [(13, (pt m5 0))] ?_
  refine wq_v (some 14) (Value.agg (vb (kl K9)).toArray) (e_loads (h11.at_ 0 rfl) 28 (.tmp 2) (by kernel_rfl) 0 (vb (kl K9)) (by kernel_rfl) (by kernel_rfl) (by kernel_rfl)) ?_
  refine wq_to (some 15) (x_bsl h11 [97, 98, 99] (by kernel_rfl)) ?_
  rintro _ w13 ⟨g13, rfl, hw13, hg13, hq13, h13⟩
  refine wq_to (some 16) (x_bcv hq13 [97, 98, 99] hw13 g13 hg13 (.tmp 15) (by kernel_rfl) (by kernel_rfl) (by decide)) ?_
  rintro _ w14 ⟨rfl, h14⟩
  refine wq_to (some 17) (x_rseal h14 1 (y := ((0))) rfl K9 2 ⟨#[50]⟩ itoa_is2 (by decide) (Value.slice (some ⟨g13, 0, none⟩) 3 3) ([97, 98, 99]) (by kernel_rfl) (h14.rd 0 rfl) (djR h14 (k := 0) (i := 1) rfl rfl) (by omega) (by first | (show _ ≤ _; decide) | (rw [box_len]; decide)) (boxR (((0)) + 1) (kl K9) [50] ([97, 98, 99])) rfl (27) (by rw [box_len]; rfl)) ?_
  rintro _ w15 ⟨A15, c15, rfl, h15⟩
  refine wq_p 1 [(3, (Value.slice A15 27 c15))] ?_
  refine wl_end rfl ?_
  refine seq_n hK12 ?_
  refine wp_seq_k ?_
  intro K16 hK16
  refine reg_lit ?_
  refine wq_p 1 [(19, (pt m5 0))] ?_
  refine wq_v (some 20) (Value.agg (vb (kl K9)).toArray) (e_loads (h15.at_ 2 rfl) 28 (.tmp 2) (by kernel_rfl) 0 (vb (kl K9)) (by kernel_rfl) (by kernel_rfl) (by kernel_rfl)) ?_
  refine wq_p 1 [(21, (Value.slice A15 27 c15))] ?_
  refine wq_to (some 22) (x_ropen h15 K9 2 ⟨#[50]⟩ itoa_is2 (by decide) (pt m5 0) (Value.slice A15 27 c15) (boxR (((0)) + 1) (kl K9) [50] ([97, 98, 99])) (by kernel_rfl) (OB.sb (h15.at_ 1 rfl)) (by rw [box_len]; decide) ([97, 98, 99]) (open_box _ _ _ _)) ?_
  rintro _ w17 ⟨A17, c17, rfl, h17⟩
  refine wq_p 5 [(5, (Value.bool true)), (4, (Value.slice A17 3 c17)), (24, (Value.bool true)), (23, (Value.slice A17 3 c17)), (18, (Value.tuple #[(Value.slice A17 3 c17), (Value.bool true)]))] ?_
  refine wl_end rfl ?_
  refine seq_n hK16 ?_
  refine wp_seq_k ?_
  intro K18 hK18
  refine wp_reset 55 [(0, (Value.bool false)), (1, (pt m5 0)), (2, (pt g10 0)), (3, (Value.slice A15 27 c15)), (4, (Value.slice A17 3 c17)), (5, (Value.bool true)), (10, (Value.bool false))] (fun x19 => ?_)
  refine pR_go h17 30 (fun W => (rOB ((Value.slice A15 27 c15)) (boxR (((0)) + 1) (kl K9) [50] ([97, 98, 99]))).Φ W ∧ (rBlk g10 28 (vb (kl K9))).Φ W ∧ True) [(26, [5], 0), (27, [25], 1), (28, [3, 26], 2), (29, [27, 26], 6), (30, [28, 26], 10), (31, [26, 29], 18), (32, [30], 34), (33, [3, 31], 64), (34, [32, 31], 192), (35, [33, 31], 320), (36, [34, 31], 576), (37, [31, 35], 1088), (38, [36], 2112), (39, [4, 37], 4096), (40, [37], 4096), (41, [39, 37], 20480), (42, [38, 40, 37], 45056), (43, [37, 41], 69632), (44, [42], 196608), (45, [2, 43], 262144), (46, [1, 43], 262144), (47, [45, 43], 1310720), (48, [44, 46, 43], 2883584), (49, [43, 47], 4456448), (50, [48], 10485760), (51, [1, 49], 16777216), (52, [50, 49], 50331648), (53, [51, 49], 83886080), (54, [52, 49], 150994944), (55, [49, 53], 285212672), (1, [54], 1073741823)] rfl (fun _ d _ _ _ h => by cases d <;> exact h) ?_
  intro hs20 w20 h20
  refine pR_p 23 [0, 1, 2, 3, 4, 5, 6, 7] [(32, (Value.slice A15 27 c15)), (31, (Value.bool true)), (30, (Value.bool true)), (29, (Value.bool true)), (28, (Value.int .i64 27)), (27, (Value.slice A15 27 c15)), (26, (Value.bool true)), (25, (Value.bool true))] 255 hs20 ⟨h20.at_ 2 rfl, h20.at_ 3 rfl, trivial⟩ ?_
  refine pR_v 8 (some 33) (eAt A15 (7 * 1 + 0)) 511 rfl hs20 ⟨h20.at_ 2 rfl, h20.at_ 3 rfl, trivial⟩ (fun W hW => e_idxN (SB.rvn (OB.sb (h20.at_ 2 rfl))).2 7 27 (SB.rvn (OB.sb (h20.at_ 2 rfl))).1 (by first | (rw [box_len]; decide) | decide) 22 (.tmp 32) (.const (Value.int .i64 7)) (by kernel_rfl) .i64 (by kernel_rfl) (by kernel_rfl) 5 (by kernel_rfl) (by kernel_rfl) _) ?_
  refine pR_v 9 (some 34) (Value.int .u8 (ub (gb (boxR (((0)) + 1) (kl K9) [50] ([97, 98, 99])) (7)))) 1023 rfl hs20 ⟨h20.at_ 2 rfl, h20.at_ 3 rfl, trivial⟩ (fun W hW => e_elemN (SB.rvn (OB.sb hW.1)).2 7 0 ([(Value.int .u8 (ub (gb (boxR (((0)) + 1) (kl K9) [50] ([97, 98, 99])) (7))))]) (bx_get _ _ (by first | (rw [box_len]; decide) | decide)) 5 (.tmp 33) (by kernel_rfl) (Value.int .u8 (ub (gb (boxR (((0)) + 1) (kl K9) [50] ([97, 98, 99])) (7)))) (by kernel_rfl) (by kernel_rfl) (by kernel_rfl)) ?_
  refine pR_v 10 (some 35) (Value.bool true) 2047 rfl hs20 ⟨h20.at_ 2 rfl, h20.at_ 3 rfl, trivial⟩ (fun W hW => eq_is (v := (Value.bool ((ub (gb (boxR (((0)) + 1) (kl K9) [50] ([97, 98, 99])) (7))) == 1))) (by kernel_rfl) (congrArg Value.bool (by rw [box_7]; kernel_rfl))) ?_
  refine pR_p 17 [11, 12, 13] [(38, (Value.slice A17 3 c17)), (37, (Value.bool true)), (36, (Value.bool true))] 16383 hs20 ⟨h20.at_ 2 rfl, h20.at_ 3 rfl, trivial⟩ ?_
  refine pR_to 14 (some 39) 32767 rfl hs20 (x_bsl h20 [97, 98, 99] (by kernel_rfl)) ?_
  rintro _ w21 ⟨g21, rfl, hw21, hg21, hq21, h21⟩
  refine ⟨fun _ => ⟨h21.at_ 3 rfl, h21.at_ 4 rfl, trivial⟩, ?_⟩
  refine pR_to 15 (some 40) 65535 rfl hs20 (x_bcv hq21 [97, 98, 99] hw21 g21 hg21 (.tmp 39) (by kernel_rfl) (by kernel_rfl) (by decide)) ?_
  rintro _ w22 ⟨rfl, h22⟩
  refine ⟨fun _ => ⟨h22.at_ 2 rfl, h22.at_ 3 rfl, trivial⟩, ?_⟩
  refine pR_to 16 (some 41) 131071 rfl hs20 (x_same h22 ([97, 98, 99]) ([97, 98, 99]) (Value.slice A17 3 c17) (Value.slice (some ⟨g21, 0, none⟩) 3 3) (by kernel_rfl) (OB.sb (h22.at_ 0 rfl)) (h22.rd 0 rfl) true (by decide)) ?_
  rintro _ w23 ⟨rfl, h23⟩
  refine ⟨fun _ => ⟨h23.at_ 2 rfl, h23.at_ 3 rfl, trivial⟩, ?_⟩
  refine pR_p 11 [17, 18, 20] [(45, (pt m5 0)), (43, (Value.bool true)), (42, (Value.bool true))] 1572863 hs20 ⟨h23.at_ 2 rfl, h23.at_ 3 rfl, trivial⟩ ?_
  refine pR_v 19 (some 44) (Value.agg (vb (kl K9)).toArray) 2097151 rfl hs20 ⟨h23.at_ 2 rfl, h23.at_ 3 rfl, trivial⟩ (fun W hW => e_loads hW.2.1 28 (.tmp 2) (by kernel_rfl) 0 (vb (kl K9)) (by kernel_rfl) (by kernel_rfl) (by kernel_rfl)) ?_
  refine pR_to 21 (some 46) 4194303 rfl hs20 (x_rfresh h23 1 2 (x := ((((0)) + 1))) (y := ((((0)) + 1))) (seed := [115, 101, 101, 100]) rfl rfl (by kernel_rfl) (by omega) (by first | (show _ ≤ _; decide) | (rw [box_len]; decide))) ?_
  rintro _ w24 ⟨K24, rfl, hK24, h24⟩
  refine ⟨fun _ => ⟨h24.at_ 2 rfl, h24.at_ 3 rfl, trivial⟩, ?_⟩
  refine pR_v 22 (some 47) (Value.bool true) 8388607 rfl hs20 ⟨h24.at_ 2 rfl, h24.at_ 3 rfl, trivial⟩ (fun W hW => e_kne K9 K24 28 28 (.tmp 44) (.tmp 46) (by kernel_rfl) (by kernel_rfl) (by kernel_rfl) (by kernel_rfl) (by kernel_rfl) true (decide_eq_true (by rw [hK9, hK24]; exact of_decide_eq_false fresh_two)) _) ?_
  refine pR_p 5 [23, 24, 25] [(50, (pt m5 0)), (49, (Value.bool true)), (48, (Value.bool true))] 67108863 hs20 ⟨h24.at_ 2 rfl, h24.at_ 3 rfl, trivial⟩ ?_
  refine pR_to 26 (some 51) 134217727 rfl hs20 (x_rdigest h24 (pt m5 0) (Value.slice none 0 0) ([]) (by kernel_rfl) (OB.sb (OB.nil _ 0)) (by first | (show _ ≤ _; decide) | (rw [box_len]; decide))) ?_
  rintro _ w25 ⟨A25, c25, rfl, hd25, h25⟩
  refine ⟨fun _ => ⟨h25.at_ 2 rfl, h25.at_ 3 rfl, trivial⟩, ?_⟩
  refine pR_p 1 [27, 28, 29] [(54, (Value.bool true)), (53, (Value.bool true)), (52, (Value.int .i64 16))] 1073741823 hs20 ⟨h25.at_ 2 rfl, h25.at_ 3 rfl, trivial⟩ ?_
  refine pR_to 30 (some 0) 2147483647 rfl hs20 (OpTo.run (Value.bool true) (pureOp_run (by kernel_rfl) _) (R := fun v w => v = (Value.bool true) ∧ w25 = w) ⟨rfl, rfl⟩) ?_
  rintro _ _ ⟨rfl, rfl⟩
  refine ⟨fun h => absurd h (by decide), ?_⟩
  refine pR_done hs20 ?_ _
  refine seq_n hK18 ?_
  refine wp_ret ?_
  refine post_1 rfl (by kernel_rfl) (rtmp (v := (Value.bool true)) (by kernel_rfl)) ?_
  exact ⟨rfl, h25.below0⟩
end Go.Proofs.YtpkelokaammmjaaDoor
end
/-! The law SealApart. -/
section
namespace Go.Proofs.YtpkelokaammmjaaDoor
open Go.RowKit Go.QT
theorem last_succ (K D b : Bytes) (i : Nat) : boxR (i + 1) K D b = lastB K D b (i + 1) := (if_neg (by omega)).symm
set_option maxRecDepth 100000 in
set_option maxHeartbeats 4000000 in
theorem sealApart_any (sv : Value) (seed : Bytes) (K : Fin 16 → UInt8) (bv : Value) (b : Bytes) (n : Int) (w : World) (h1 : SB w sv seed) (h2 : SB w bv b) : Calls Tryd.prog 5 #[sv, .agg (vb (kl K)).toArray, bv, .int .i64 n] w (NPost w (.bool true)) := by
  obtain ⟨A, c, rfl, ha1, ha2⟩ := sb_form h1
  obtain ⟨B, d, rfl, hb1, hb2⟩ := sb_form h2
  have h0 := (Hp.ro1 (rSB (.slice B b.length d) b) h2).addR (rSB (.slice A seed.length c) seed) h1 (by simp)
  refine enter 104 Tryd.func5 rfl rfl ?_
  refine wp_reset 108 [(0, (Value.slice A seed.length c)), (1, (Value.agg (vb (kl K)).toArray)), (2, (Value.slice B b.length d)), (3, (Value.int .i64 n))] (fun x0 => ?_)
  refine wp_seq_k ?_
  intro K1 hK1
  refine reg_lit ?_
  refine wq_to (some 5) (x_new h0 23 (vb (kl K)) (fun r => pt r 0) (by kernel_rfl)) ?_
  rintro _ w2 ⟨g2, rfl, h2⟩
  refine wq_p 1 [(8, (Value.bool false))] ?_
  refine wl_end rfl ?_
  refine seq_n hK1 ?_
  refine wp_seq_k ?_
  intro K3 hK3
  refine wp_seq_k ?_
  intro K4 hK4
  refine reg_lit ?_
  refine wq_to (some 17) (OpTo.enter 6 [] (by kernel_rfl) (lalive_any _) (R := fun u w' => u = Value.bool true ∧ Below w2.heap.size w2 w') (fun e w' hq => ⟨_, hq.1, rfl, hq.2⟩)) ?_
  rintro _ w5 ⟨rfl, hb5⟩
  have h5 := h2.below hb5
  refine wq_p 1 [(18, (Value.bool false))] ?_
  refine wl_end rfl ?_
  refine seq_n hK4 ?_
  refine wp_cond_false (by kernel_rfl) ?_
  refine wp_skip ?_
  refine seq_n hK3 ?_
  refine wp_seq_k ?_
  intro K6 hK6
  refine wp_seq_k ?_
  intro K7 hK7
  rcases (show (100 < seed.length) ∨ (¬ 100 < seed.length ∧ 100 < b.length) ∨ (¬ 100 < seed.length ∧ ¬ 100 < b.length) by omega) with hq | ⟨hq1, hq⟩ | ⟨hq1, hq2⟩
  ·
   refine reg_lit ?_
   refine wq_p 2 [(20, (Value.int .i64 ((seed.length : Int)))), (19, (Value.slice A seed.length c))] ?_
   refine wq_v (some 21) (.bool true) (eq_is (v := (Value.bool (decide ((seed.length : Int) > 100)))) (by kernel_rfl) (by simp; omega)) ?_
   refine wq_p 3 [(24, undef), (23, undef), (22, (Value.bool true))] ?_
   refine wq_p 1 [(25, undef)] ?_
   refine wq_p 1 [(26, (Value.bool true))] ?_
   refine wl_end rfl ?_
   refine seq_n hK7 ?_
   refine wp_cond_true (by kernel_rfl) ?_
   refine wp_seq_k ?_
   intro K9 hK9
   refine reg_lit ?_
   refine wq_p 1 [(8, (Value.bool true))] ?_
   refine wl_end rfl ?_
   refine seq_n hK9 ?_
   refine wp_ret ?_
   refine seq_r ?_
   refine post_1 rfl (by kernel_rfl) (rtmp (v := (Value.bool true)) (by kernel_rfl)) ?_
   exact ⟨rfl, h5.below0⟩
  ·
   refine reg_lit ?_
   refine wq_p 2 [(20, (Value.int .i64 ((seed.length : Int)))), (19, (Value.slice A seed.length c))] ?_
   refine wq_v (some 21) (.bool false) (eq_is (v := (Value.bool (decide ((seed.length : Int) > 100)))) (by kernel_rfl) (by simp; omega)) ?_
   refine wq_p 3 [(24, (Value.int .i64 ((b.length : Int)))), (23, (Value.slice B b.length d)), (22, (Value.bool false))] ?_
   refine wq_v (some 25) (.bool true) (eq_is (v := (Value.bool (decide ((b.length : Int) > 100)))) (by kernel_rfl) (by simp; omega)) ?_
   refine wq_p 1 [(26, (Value.bool true))] ?_
   refine wl_end rfl ?_
   refine seq_n hK7 ?_
   refine wp_cond_true (by kernel_rfl) ?_
   refine wp_seq_k ?_
   intro K10 hK10
   refine reg_lit ?_
   refine wq_p 1 [(8, (Value.bool true))] ?_
   refine wl_end rfl ?_
   refine seq_n hK10 ?_
   refine wp_ret ?_
   refine seq_r ?_
   refine post_1 rfl (by kernel_rfl) (rtmp (v := (Value.bool true)) (by kernel_rfl)) ?_
   exact ⟨rfl, h5.below0⟩
  ·
   refine reg_lit ?_
   refine wq_p 2 [(20, (Value.int .i64 ((seed.length : Int)))), (19, (Value.slice A seed.length c))] ?_
   refine wq_v (some 21) (.bool false) (eq_is (v := (Value.bool (decide ((seed.length : Int) > 100)))) (by kernel_rfl) (by simp; omega)) ?_
   refine wq_p 3 [(24, (Value.int .i64 ((b.length : Int)))), (23, (Value.slice B b.length d)), (22, (Value.bool false))] ?_
   refine wq_v (some 25) (.bool false) (eq_is (v := (Value.bool (decide ((b.length : Int) > 100)))) (by kernel_rfl) (by simp; omega)) ?_
   refine wq_p 1 [(26, (Value.bool false))] ?_
   refine wl_end rfl ?_
   refine seq_n hK7 ?_
   refine wp_cond_false (by kernel_rfl) ?_
   refine wp_skip ?_
   refine seq_n hK6 ?_
   refine wp_seq_k ?_
   intro K11 hK11
   refine reg_lit ?_
   refine wq_p 1 [(27, (Value.slice A seed.length c))] ?_
   refine wq_to (some 28) (x_rnew h5 (seed) (Value.slice A seed.length c) (by kernel_rfl) (h5.rd 0 rfl) (by first | omega | (rw [box_len]; omega) | (simp; omega))) ?_
   rintro _ w12 ⟨m12, A12, c12, rfl, h12⟩
   refine wq_to (some 29) (x_bs0B h12 (by kernel_rfl)) ?_
   rintro _ w13 ⟨A13, rfl, h13⟩
   refine wq_p 1 [(30, (Value.slice A seed.length c))] ?_
   refine wq_to (some 31) (x_appG h13 0 rfl (.tmp 29) (.tmp 30) (by kernel_rfl) (Value.slice A seed.length c) (by kernel_rfl) (by kernel_rfl) (h13.rd 1 rfl) (by simp; omega) (seed) (seed.length) rfl rfl) ?_
   rintro _ w14 ⟨A14, c14, rfl, h14⟩
   refine wq_to (some 32) (x_rnew h14 (seed) (Value.slice A14 seed.length c14) (by kernel_rfl) (OB.sb (h14.at_ 0 rfl)) (by first | omega | (rw [box_len]; omega) | (simp; omega))) ?_
   rintro _ w15 ⟨m15, A15, c15, rfl, h15⟩
   refine wq_p 2 [(10, (pt m15 0)), (9, (pt m12 0))] ?_
   refine wl_end rfl ?_
   refine seq_n hK11 ?_
   refine wp_seq_k ?_
   intro K16 hK16
   refine reg_lit ?_
   refine wq_to (some 33) (x_bs0B h15 (by kernel_rfl)) ?_
   rintro _ w17 ⟨A17, rfl, h17⟩
   refine wq_p 1 [(11, (Value.slice A17 0 0))] ?_
   refine wl_end rfl ?_
   refine seq_n hK16 ?_
   refine wp_seq_k ?_
   intro K18 hK18
   refine wp_seq_k ?_
   intro K19 hK19
   refine wp_reset 108 [(0, (Value.slice A seed.length c)), (1, (Value.agg (vb (kl K)).toArray)), (2, (Value.slice B b.length d)), (3, (Value.int .i64 n)), (5, (pt g2 0)), (8, (Value.bool false)), (9, (pt m12 0)), (10, (pt m15 0)), (11, (Value.slice A17 0 0)), (18, (Value.bool false)), (26, (Value.bool false))] (fun x20 => ?_)
   refine reg_lit ?_
   refine wq_p 1 [(34, (Value.int .i64 n))] ?_
   obtain ⟨M21, hM21, hb21⟩ := and_mask n 7 (by decide)
   refine wq_v (some 35) (Value.int .i64 ((M21 : Int))) (eq_is (v := Value.int .i64 (bits .and .i64 n 7)) (by kernel_rfl) (congrArg (Value.int .i64) hM21)) ?_
   refine wq_p 1 [(36, (Value.int .i64 0))] ?_
   refine wl_end rfl ?_
   refine seq_n hK19 ?_
   refine wp_block ?_
   refine wp_loopm (fun mM xX aA wL => ∃ (i : Nat) (Al : Option Addr) (cl : Nat) (ll : Bytes), (i ≤ M21) ∧ (ll = lastB (kl K) [53] b (i)) ∧ mM = M21 - (i) ∧ aA = patch xX 108 [(0, (Value.slice A seed.length c)), (1, (Value.agg (vb (kl K)).toArray)), (2, (Value.slice B b.length d)), (3, (Value.int .i64 n)), (5, (pt g2 0)), (9, (pt m12 0)), (10, (pt m15 0)), (11, (Value.slice Al ll.length cl)), (18, (Value.bool false)), (26, (Value.bool false)), (35, (Value.int .i64 ((M21 : Int)))), (36, (Value.int .i64 ((i : Int))))] ∧ Hp (fun _ => False) w wL [rSB ((Value.slice A15 seed.length c15)) seed, rSB ((Value.slice A12 seed.length c12)) seed, rSB ((Value.slice A seed.length c)) seed, rSB ((Value.slice B b.length d)) b] [rBlk m12 47 ([(Value.slice A12 seed.length c12), (Value.int .u64 (((i : Nat) : Int))), (Value.int .u64 (((i : Nat) : Int)))]), rBlk m15 47 ([(Value.slice A15 seed.length c15), (Value.int .u64 (((i : Nat) : Int))), (Value.int .u64 (((0 : Nat) : Int)))]), rOB ((Value.slice Al ll.length cl)) ll, rBlk g2 23 (vb (kl K))]) ⟨_, 0, A17, 0, (([] : Bytes)), (by omega), rfl, rfl, (patch_eq _ 108 _ (by kernel_rfl) (by kernel_rfl) (by kernel_rfl)), h17.sel [3, 1, 0, 4] [0, 1, 2, 3] (by kernel_rfl) rfl rfl⟩ ?_
   rintro _ x22 _ w22 ⟨i, Al, cl, ll, hi, hll, rfl, rfl, h22⟩
   refine wp_seq_k ?_
   intro K23 hK23
   refine reg_lit ?_
   refine wq_p 1 [(37, (Value.bool (decide ((i : Int) < (M21 : Int)))))] ?_
   refine wl_end rfl ?_
   refine seq_n hK23 ?_
   refine wp_seq_k ?_
   intro K24 hK24
   refine wp_if ((i : Int) < (M21 : Int)) (by kernel_rfl) (fun b25 => ?_) (fun b25 => ?_)
   ·
    refine wp_skip ?_
    refine seq_n hK24 ?_
    refine wp_seq_k ?_
    intro K26 hK26
    refine wp_block ?_
    refine wp_seq_k ?_
    intro K27 hK27
    refine reg_lit ?_
    refine wq_p 1 [(38, (pt m12 0))] ?_
    refine wq_v (some 39) (Value.agg (vb (kl K)).toArray) (e_loads (h22.at_ 3 rfl) 23 (.tmp 5) (by kernel_rfl) 0 (vb (kl K)) (by kernel_rfl) (by kernel_rfl) (by kernel_rfl)) ?_
    refine wq_p 1 [(40, (Value.slice B b.length d))] ?_
    refine wq_to (some 41) (x_rseal h22 0 (y := ((i))) rfl K 5 ⟨#[53]⟩ itoa_is5 (by decide) (Value.slice B b.length d) (b) (by kernel_rfl) (h22.rd 3 rfl) (djR h22 (k := 3) (i := 0) rfl rfl) (by omega) (by first | omega | (rw [box_len]; omega) | (simp; omega)) (boxR (((i)) + 1) (kl K) [53] b) rfl ((boxR (((i)) + 1) (kl K) [53] b).length) rfl) ?_
    rintro _ w28 ⟨A28, c28, rfl, h28⟩
    refine wq_p 1 [(12, (Value.slice A28 (((boxR (((i)) + 1) (kl K) [53] b).length)) c28))] ?_
    refine wl_end rfl ?_
    refine seq_n hK27 ?_
    refine wp_seq_k ?_
    intro K29 hK29
    refine wp_seq_k ?_
    intro K30 hK30
    refine reg_lit ?_
    refine wq_p 2 [(43, (Value.slice Al ll.length cl)), (42, (Value.slice A28 (((boxR (((i)) + 1) (kl K) [53] b).length)) c28))] ?_
    refine wq_to (some 44) (x_same h28 (boxR (((i)) + 1) (kl K) [53] b) ll (Value.slice A28 (((boxR (((i)) + 1) (kl K) [53] b).length)) c28) (Value.slice Al ll.length cl) (by kernel_rfl) (OB.sb (h28.at_ 1 rfl)) (OB.sb (h28.at_ 3 rfl)) false (by rw [hll]; exact box_ne _ _ _ _ (by omega))) ?_
    rintro _ w31 ⟨rfl, h31⟩
    refine wq_p 5 [(49, (Value.int .i64 ((b.length : Int)))), (48, (Value.slice B b.length d)), (47, (Value.int .i64 ((((boxR (((i)) + 1) (kl K) [53] b).length) : Int)))), (46, (Value.slice A28 (((boxR (((i)) + 1) (kl K) [53] b).length)) c28)), (45, (Value.bool false))] ?_
    refine wq_v (some 50) (Value.int .i64 ((b.length : Int) + 24)) (exec_add _ _ _ _ rfl ((b.length : Int)) 24 (by kernel_rfl) (by kernel_rfl) ((b.length : Int) + 24) rfl (by omega) (by omega) _) ?_
    refine wq_v (some 51) (Value.bool false) (eq_is (v := (Value.bool (((((boxR (((i)) + 1) (kl K) [53] b).length) : Int)) != ((b.length : Int) + 24)))) (by kernel_rfl) (congrArg Value.bool (by rw [box_len, bne_eq_false_iff_eq]; omega))) ?_
    refine wq_p 1 [(52, (Value.bool false))] ?_
    refine wl_end rfl ?_
    refine seq_n hK30 ?_
    refine wp_cond_false (by kernel_rfl) ?_
    refine wp_skip ?_
    refine seq_n hK29 ?_
    refine wp_seq_k ?_
    intro K32 hK32
    refine reg_lit ?_
    refine wq_p 1 [(54, (pt m12 0))] ?_
    refine wq_v (some 55) (Value.agg (vb (kl K)).toArray) (e_loads (h31.at_ 4 rfl) 23 (.tmp 5) (by kernel_rfl) 0 (vb (kl K)) (by kernel_rfl) (by kernel_rfl) (by kernel_rfl)) ?_
    refine wq_p 1 [(56, (Value.slice A28 (((boxR (((i)) + 1) (kl K) [53] b).length)) c28))] ?_
    refine wq_to (some 57) (x_ropen h31 K 5 ⟨#[53]⟩ itoa_is5 (by decide) (pt m12 0) (Value.slice A28 (((boxR (((i)) + 1) (kl K) [53] b).length)) c28) (boxR (((i)) + 1) (kl K) [53] b) (by kernel_rfl) (OB.sb (h31.at_ 1 rfl)) (by rw [box_len]; omega) (b) (open_box _ _ _ _)) ?_
    rintro _ w33 ⟨A33, c33, rfl, h33⟩
    refine wq_p 5 [(14, (Value.bool true)), (13, (Value.slice A33 b.length c33)), (59, (Value.bool true)), (58, (Value.slice A33 b.length c33)), (53, (Value.tuple #[(Value.slice A33 b.length c33), (Value.bool true)]))] ?_
    refine wl_end rfl ?_
    refine seq_n hK32 ?_
    refine wp_seq_k ?_
    intro K34 hK34
    refine reg_lit ?_
    refine wq_p 1 [(61, (pt m15 0))] ?_
    refine wq_v (some 62) (Value.agg (vb (kl K)).toArray) (e_loads (h33.at_ 5 rfl) 23 (.tmp 5) (by kernel_rfl) 0 (vb (kl K)) (by kernel_rfl) (by kernel_rfl) (by kernel_rfl)) ?_
    refine wq_p 1 [(63, (Value.slice A28 (((boxR (((i)) + 1) (kl K) [53] b).length)) c28))] ?_
    refine wq_to (some 64) (x_ropen h33 K 5 ⟨#[53]⟩ itoa_is5 (by decide) (pt m15 0) (Value.slice A28 (((boxR (((i)) + 1) (kl K) [53] b).length)) c28) (boxR (((i)) + 1) (kl K) [53] b) (by kernel_rfl) (OB.sb (h33.at_ 2 rfl)) (by rw [box_len]; omega) (b) (open_box _ _ _ _)) ?_
    rintro _ w35 ⟨A35, c35, rfl, h35⟩
    refine wq_p 5 [(16, (Value.bool true)), (15, (Value.slice A35 b.length c35)), (66, (Value.bool true)), (65, (Value.slice A35 b.length c35)), (60, (Value.tuple #[(Value.slice A35 b.length c35), (Value.bool true)]))] ?_
    refine wl_end rfl ?_
    refine seq_n hK34 ?_
    refine wp_seq_k ?_
    intro K36 hK36
    refine wp_seq_k ?_
    intro K37 hK37
    refine wp_reset 108 [(0, (Value.slice A seed.length c)), (1, (Value.agg (vb (kl K)).toArray)), (2, (Value.slice B b.length d)), (3, (Value.int .i64 n)), (5, (pt g2 0)), (9, (pt m12 0)), (10, (pt m15 0)), (11, (Value.slice Al ll.length cl)), (12, (Value.slice A28 (((boxR (((i)) + 1) (kl K) [53] b).length)) c28)), (13, (Value.slice A33 b.length c33)), (14, (Value.bool true)), (15, (Value.slice A35 b.length c35)), (16, (Value.bool true)), (18, (Value.bool false)), (26, (Value.bool false)), (35, (Value.int .i64 ((M21 : Int)))), (36, (Value.int .i64 ((i : Int)))), (37, (Value.bool (decide ((i : Int) < (M21 : Int))))), (52, (Value.bool false))] (fun x38 => ?_)
    refine reg_lit ?_
    refine wq_p 9 [(75, (Value.slice B b.length d)), (74, (Value.slice A33 b.length c33)), (73, (Value.bool false)), (72, (Value.bool false)), (71, (Value.bool false)), (70, (Value.bool true)), (69, (Value.bool false)), (68, (Value.bool false)), (67, (Value.bool true))] ?_
    refine wq_to (some 76) (x_same h35 b b (Value.slice A33 b.length c33) (Value.slice B b.length d) (by kernel_rfl) (OB.sb (h35.at_ 1 rfl)) (h35.rd 3 rfl) true (decide_eq_true rfl)) ?_
    rintro _ w39 ⟨rfl, h39⟩
    refine wq_p 5 [(81, (Value.slice B b.length d)), (80, (Value.slice A35 b.length c35)), (79, (Value.bool false)), (78, (Value.bool false)), (77, (Value.bool false))] ?_
    refine wq_to (some 82) (x_same h39 b b (Value.slice A35 b.length c35) (Value.slice B b.length d) (by kernel_rfl) (OB.sb (h39.at_ 0 rfl)) (h39.rd 3 rfl) true (decide_eq_true rfl)) ?_
    rintro _ w40 ⟨rfl, h40⟩
    refine wq_p 4 [(86, (pt m12 0)), (85, (Value.bool false)), (84, (Value.bool false)), (83, (Value.bool false))] ?_
    refine wq_to (some 87) (x_rfresh h40 2 1 (x := ((i))) (y := ((((i)) + 1))) (seed := seed) rfl rfl (by kernel_rfl) (by omega) (by first | omega | (rw [box_len]; omega) | (simp; omega))) ?_
    rintro _ w41 ⟨K41, rfl, hK41, h41⟩
    refine wq_p 1 [(88, (pt m15 0))] ?_
    refine wq_to (some 89) (x_rfresh h41 4 0 (x := ((i))) (y := ((0))) (seed := seed) rfl rfl (by kernel_rfl) (by omega) (by first | omega | (rw [box_len]; omega) | (simp; omega))) ?_
    rintro _ w42 ⟨K42, rfl, hK42, h42⟩
    refine wq_v (some 90) (Value.bool false) (e_kne K41 K42 28 28 (.tmp 87) (.tmp 89) (by kernel_rfl) (by kernel_rfl) (by kernel_rfl) (by kernel_rfl) (by kernel_rfl) false (decide_eq_false (fun hh => hh (by rw [hK41, hK42]))) _) ?_
    refine wq_p 1 [(91, (Value.bool false))] ?_
    refine wl_end rfl ?_
    refine seq_n hK37 ?_
    refine wp_cond_false (by kernel_rfl) ?_
    refine wp_skip ?_
    refine seq_n hK36 ?_
    refine reg_lit ?_
    refine wq_p 2 [(11, (Value.slice A28 (((boxR (((i)) + 1) (kl K) [53] b).length)) c28)), (92, (Value.slice A28 (((boxR (((i)) + 1) (kl K) [53] b).length)) c28))] ?_
    refine wl_end rfl ?_
    refine blk_n ?_
    refine seq_n hK26 ?_
    refine reg_lit ?_
    refine wq_v (some 93) (Value.int .i64 ((i : Int) + 1)) (exec_add _ _ _ _ rfl ((i : Int)) 1 (by kernel_rfl) (by kernel_rfl) ((i : Int) + 1) rfl (by omega) (by omega) _) ?_
    refine wq_p 1 [(36, (Value.int .i64 ((i : Int) + 1)))] ?_
    refine wl_end rfl ?_
    refine ⟨M21 - (i + 1), (by omega), (i + 1), A28, c28, ((boxR (i + 1) (kl K) [53] b)), (by omega), (last_succ _ _ _ _), rfl, (patch_eq _ 108 _ (by kernel_rfl) (by kernel_rfl) (by kernel_rfl)), h42.sel [2, 4, 3, 6] [0, 1, 2, 3] (by kernel_rfl) rfl rfl⟩
   ·
    refine wp_exit ?_
    refine seq_e ?_
    refine seq_e ?_
    refine blk_e ?_
    refine seq_n hK18 ?_
    refine wp_seq_k ?_
    intro K43 hK43
    refine pR_go h22 14 (fun W => (rBlk g2 23 (vb (kl K))).Φ W ∧ True) [(95, [9], 0), (96, [94], 1), (97, [10], 0), (98, [96], 6), (99, [95, 97], 10), (100, [98], 24), (101, [9, 99], 32), (102, [5, 99], 32), (103, [100, 101, 99], 224), (104, [10, 99], 32), (105, [5, 99], 32), (106, [103, 104, 99], 1824), (107, [102, 105, 99], 2336), (108, [99, 106], 4128), (9, [107], 16383)] rfl (fun _ d _ _ _ h => by cases d <;> exact h) ?_
    intro hs44 w44 h44
    refine pR_p 13 [0, 2] [(96, (pt m15 0)), (94, (pt m12 0))] 5 hs44 ⟨h44.at_ 3 rfl, trivial⟩ ?_
    refine pR_to 1 (some 95) 7 rfl hs44 (x_key h44 (l := textS [97] [98]) 18 [(pt m12 0), (Value.string (⟨#[97]⟩)), (Value.string (⟨#[98]⟩))] (by kernel_rfl) (text_len _ _) (rtext_any (pt m12 0) (⟨#[97]⟩) (⟨#[98]⟩) (by decide) (by decide) _)) ?_
    rintro _ w45 ⟨K45, rfl, hK45, h45⟩
    refine ⟨fun _ => ⟨h45.at_ 3 rfl, trivial⟩, ?_⟩
    refine pR_to 3 (some 97) 15 rfl hs44 (x_key h45 (l := textS [97] [98]) 18 [(pt m15 0), (Value.string (⟨#[97]⟩)), (Value.string (⟨#[98]⟩))] (by kernel_rfl) (text_len _ _) (rtext_any (pt m15 0) (⟨#[97]⟩) (⟨#[98]⟩) (by decide) (by decide) _)) ?_
    rintro _ w46 ⟨K46, rfl, hK46, h46⟩
    refine ⟨fun _ => ⟨h46.at_ 3 rfl, trivial⟩, ?_⟩
    refine pR_v 4 (some 98) (Value.bool true) 31 rfl hs44 ⟨h46.at_ 3 rfl, trivial⟩ (fun W hW => e_keq K45 K46 28 28 (.tmp 95) (.tmp 97) (by kernel_rfl) (by kernel_rfl) (by kernel_rfl) (by kernel_rfl) (by kernel_rfl) true (decide_eq_true (by rw [hK45, hK46])) _) ?_
    refine pR_p 7 [5, 6, 9] [(103, (pt m15 0)), (100, (pt m12 0)), (99, (Value.bool true))] 639 hs44 ⟨h46.at_ 3 rfl, trivial⟩ ?_
    refine pR_v 7 (some 101) (Value.agg (vb (kl K)).toArray) 767 rfl hs44 ⟨h46.at_ 3 rfl, trivial⟩ (fun W hW => e_loads hW.1 23 (.tmp 5) (by kernel_rfl) 0 (vb (kl K)) (by kernel_rfl) (by kernel_rfl) (by kernel_rfl)) ?_
    refine pR_v 10 (some 104) (Value.agg (vb (kl K)).toArray) 1791 rfl hs44 ⟨h46.at_ 3 rfl, trivial⟩ (fun W hW => e_loads hW.1 23 (.tmp 5) (by kernel_rfl) 0 (vb (kl K)) (by kernel_rfl) (by kernel_rfl) (by kernel_rfl)) ?_
    refine pR_to 8 (some 102) 2047 rfl hs44 (x_key h46 (l := derF (kl K) [120]) 19 [(pt m12 0), (Value.agg (vb (kl K)).toArray), (Value.string (⟨#[120]⟩))] (by kernel_rfl) (der_len _ _) (rderive_any (pt m12 0) K (⟨#[120]⟩) (by decide) _)) ?_
    rintro _ w47 ⟨K47, rfl, hK47, h47⟩
    refine ⟨fun _ => ⟨h47.at_ 3 rfl, trivial⟩, ?_⟩
    refine pR_to 11 (some 105) 4095 rfl hs44 (x_key h47 (l := derF (kl K) [120]) 19 [(pt m15 0), (Value.agg (vb (kl K)).toArray), (Value.string (⟨#[120]⟩))] (by kernel_rfl) (der_len _ _) (rderive_any (pt m15 0) K (⟨#[120]⟩) (by decide) _)) ?_
    rintro _ w48 ⟨K48, rfl, hK48, h48⟩
    refine ⟨fun _ => ⟨h48.at_ 3 rfl, trivial⟩, ?_⟩
    refine pR_v 12 (some 106) (Value.bool true) 8191 rfl hs44 ⟨h48.at_ 3 rfl, trivial⟩ (fun W hW => e_keq K47 K48 28 28 (.tmp 102) (.tmp 105) (by kernel_rfl) (by kernel_rfl) (by kernel_rfl) (by kernel_rfl) (by kernel_rfl) true (decide_eq_true (by rw [hK47, hK48])) _) ?_
    refine pR_p 1 [13] [(107, (Value.bool true))] 16383 hs44 ⟨h48.at_ 3 rfl, trivial⟩ ?_
    refine pR_to 14 (some 8) 32767 rfl hs44 (OpTo.run (Value.bool true) (pureOp_run (by kernel_rfl) _) (R := fun v w => v = (Value.bool true) ∧ w48 = w) ⟨rfl, rfl⟩) ?_
    rintro _ _ ⟨rfl, rfl⟩
    refine ⟨fun h => absurd h (by decide), ?_⟩
    refine pR_done hs44 ?_ _
    refine seq_n hK43 ?_
    refine wp_ret ?_
    refine post_1 rfl (by kernel_rfl) (rtmp (v := (Value.bool true)) (by kernel_rfl)) ?_
    exact ⟨rfl, h48.below0⟩
end Go.Proofs.YtpkelokaammmjaaDoor
end
/-! The card of SealApart: for every input the law returns true and what came in reads as it did; the package variables that its row lists are tied to the program's text. -/
section
namespace Go.Proofs.YtpkelokaammmjaaDoor
open Go.ChangeShapes Go.WideShapes Go.ChangeAt Go.RowKit
set_option maxRecDepth 100000 in
theorem sealApart_lifted (os : Os) (started : os.Started) (H : Type) (enc : TypeId × Value → H) :
    ReturnsInHanded {} Tryd.checked os 5 .any (fun w args => (Rows.sealApartSpec.pre enc Tryd.prog Tryd.f5 Rows.sealApartRow.domain false w args ∧ laidMetH Tryd.prog Rows.sealApartRow.laid w) ∧ sizedMet enc Tryd.prog Tryd.f5 (OpenSpec.ofChange Rows.sealApartSpec) false w args)
      (Rows.sealApartSpec.post enc Tryd.prog Tryd.f5 false true false false) := by
  refine returnsInHanded_of_change_and (C := Tryd.checked) (X := fun w _ => laidMetH Tryd.prog Rows.sealApartRow.laid w) (fun _ _ _ hh h => h.of_heap hh) Tryd.own started (by kernel_rfl) Tryd.func5
    (ChangeSpec.witness_shaped (enc := enc) (C := Tryd.checked) (os := os) (X := fun w _ => laidMetH Tryd.prog Rows.sealApartRow.laid w) false (World.laidAll Tryd.prog os Rows.sealApartRow.laid) #[.slice none 0 0, .agg (vb (List.replicate 16 0)).toArray, .slice none 0 0, .int .i64 0] 8 (World.laidAll_os _ _ _)
      (World.shaped_of_ZipB (by kernel_rfl) (by kernel_rfl)) (by kernel_rfl) (by kernel_rfl) (by kernel_rfl)
      (by rw [MakeChecks.laidMetH_plain _ _ _ (by kernel_rfl)]; exact laidMet_laidAll _ (by kernel_rfl) (by kernel_rfl))) ?_
  intro W base args ds gs before hval0 hW hcnd _ hL _
  have hval : ∀ (j : Nat) t v, Tryd.f5.params[j]? = some t → args[j]? = some v → Value.okWide Tryd.prog W .any base t v := hval0
  have hpost : ∀ W', Below W.heap.size W W' → Rows.sealApartSpec.post enc Tryd.prog Tryd.f5 false true false false W args (.bool true) W' := fun W' hb =>
    law_post Tryd.laidOut (by kernel_rfl) Tryd.underlying4 rfl rfl (fun ds hds => by
      have hn : ds.length = 4 := hds
      match ds, hn with
      | [_, _, _, _], _ => rfl) hW hb
  obtain ⟨p, q, hA0, hV, rfl, hfz, hnd⟩ := hW
  have hA : DataW.TrodAll enc Tryd.prog W 0 (fun _ => true) true Tryd.f5.params.toList args.toList ds p := hA0
  rw [Tryd.params5] at hA hval
  clear hA0 hval0
  obtain ⟨v0, v1, v2, v3, d0, d1, d2, d3, p0, p1, p2, p3, rfl, rfl, rfl, h0, h1, h2, h3⟩ := trodAll_four hA
  obtain ⟨b0, hb0⟩ := open_bs (hval 0 22 v0 rfl rfl) h0
  obtain ⟨k1, hk1, rfl, rfl, rfl⟩ := open_b16 (hval 1 23 v1 rfl rfl) h1
  obtain ⟨K1, rfl⟩ := kl_of k1 hk1
  obtain ⟨b2, hb2⟩ := open_bs (hval 2 22 v2 rfl rfl) h2
  obtain ⟨n3, rfl, rfl, rfl, hn3⟩ := open_int (t := 3) (k := .i64) (by kernel_rfl) (hval 3 3 v3 rfl rfl) h3
  refine (sealApart_any v0 b0 K1 v2 b2 n3 W hb0 hb2).mono fun e W' ⟨he, hw⟩ => ?_
  subst he
  exact ⟨_, rfl, hpost W' hw⟩
theorem sealApart_row : Rows.SealApartSaid :=
  OpenClaim.holds_of_wide 5 Tryd.f5 rfl rfl rfl rfl rfl rfl rfl ⟨rfl, rfl, rfl, rfl, rfl⟩ rfl rfl rfl rfl rfl (by kernel_rfl) Tryd.func5 (by kernel_rfl)
    (of_decide_eq_true (by kernel_rfl)) (by unfold Func.isWrapper; first | (rw [if_pos (by decide +kernel)]; kernel_rfl) | (rw [if_neg (by decide +kernel)]; exact ⟨rfl, rfl⟩))
    (fun os started H enc _ => sealApart_lifted os started H enc)
theorem sealApart_holds : Rows.SealApartCardSaid :=
  Claim7.holds_tied_plain_at .later [] [.data, .data, .data] true (true, "e7b9034f2301074b325c8164a6a50a9a815a2a934f62b7730be328fd992ece11") false sealApart_row (fun _ h => by cases h) (by kernel_rfl) (fun _ h => by cases h) sealApart_row_tie rfl ⟨rfl, rfl⟩ (by kernel_rfl) rfl
    (fun f fn hf hfn => by
      obtain rfl : f = 5 := Option.some.inj ((show Tryd.prog.funcNamed "compeer/compeerlaw06.SealApart" = some 5 by kernel_rfl).symm.trans hf) |>.symm
      obtain rfl : fn = Tryd.f5 := (Option.some.inj (Tryd.func5.symm.trans hfn)).symm
      exact ⟨by kernel_rfl, fun j t ht => by
        rw [Tryd.params5] at ht
        have hm : t ∈ [22, 23, 22, 3] := by simpa using Array.mem_of_getElem? ht
        have hall : ([22, 23, 22, 3].all fun u => !Tryd.prog.wantsStandIn u) = true := by kernel_rfl
        exact (show Tryd.prog.wantsStandIn t = false by simpa using List.all_eq_true.1 hall t hm)⟩)
    (by kernel_rfl)
end Go.Proofs.YtpkelokaammmjaaDoor
end
