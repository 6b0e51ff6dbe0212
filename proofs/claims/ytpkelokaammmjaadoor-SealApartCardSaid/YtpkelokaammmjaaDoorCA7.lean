/- Five parameters. (Texts laid one behind the other: SealP, SealW, SealL, OpenB, RowL, Five.) -/
import Derived.ProofKit
import Derived.Carry
import Derived.ChangeShapes
import Derived.Test.YtpkelokaammmjaaDoorCA6
/-! The walks of strconv.Itoa at two numbers, and of seal.from, part, New. -/
section
namespace Go.Proofs.YtpkelokaammmjaaDoor
open Go.RowKit Go.QT
set_option maxRecDepth 100000 in
set_option maxHeartbeats 4000000 in
theorem small_lit2 (w : World) : Calls Tryd.prog 66 #[(Value.int .i64 2)] w (NPost w (.string ⟨#[50]⟩)) := by
  have h0 := Hp.nil (fun _ => False) w
  refine enter 14 Tryd.func66 rfl rfl ?_
  refine wp_reset 15 [(0, (Value.int .i64 2))] (fun x0 => ?_)
  refine wp_seq_k ?_
  intro K1 hK1
  refine reg_lit ?_
  refine wq_p 1 [(2, (Value.string (⟨#[]⟩)))] ?_
  refine wl_end rfl ?_
  refine seq_n hK1 ?_
  refine wp_seq_k ?_
  intro K2 hK2
  refine wp_seq_k ?_
  intro K3 hK3
  refine reg_lit ?_
  refine wq_p 2 [(4, (Value.bool true)), (3, (Value.int .i64 2))] ?_
  refine wl_end rfl ?_
  refine seq_n hK3 ?_
  refine wp_cond_true (by kernel_rfl) ?_
  refine wp_seq_k ?_
  intro K4 hK4
  refine reg_lit ?_
  refine wq_p 3 [(7, (Value.int .i64 3)), (6, (Value.int .i64 2)), (5, (Value.int .i64 2))] ?_
  refine wq_v (some 8) (Value.string (⟨#[50]⟩)) (pureOp_run (by kernel_rfl) _) ?_
  refine wq_p 1 [(2, (Value.string (⟨#[50]⟩)))] ?_
  refine wl_end rfl ?_
  refine seq_n hK4 ?_
  refine wp_ret ?_
  refine seq_r ?_
  refine post_1 rfl (by kernel_rfl) (rtmp (v := (Value.string (⟨#[50]⟩))) (by kernel_rfl)) ?_
  exact ⟨rfl, h0.below0⟩
set_option maxRecDepth 100000 in
set_option maxHeartbeats 4000000 in
theorem fmt_lit2 (w : World) : Calls Tryd.prog 61 #[(Value.int .i64 2), (Value.int .i64 10)] w (NPost w (.string ⟨#[50]⟩)) := by
  have h0 := Hp.nil (fun _ => False) w
  refine enter 52 Tryd.func61 rfl rfl ?_
  refine wp_reset 54 [(0, (Value.int .i64 2)), (1, (Value.int .i64 10))] (fun x0 => ?_)
  refine wp_seq_k ?_
  intro K1 hK1
  refine reg_lit ?_
  refine wq_p 1 [(4, (Value.string (⟨#[]⟩)))] ?_
  refine wl_end rfl ?_
  refine seq_n hK1 ?_
  refine wp_seq_k ?_
  intro K2 hK2
  refine wp_seq_k ?_
  intro K3 hK3
  refine reg_lit ?_
  refine wq_p 2 [(11, (Value.bool true)), (10, (Value.int .i64 10))] ?_
  refine wl_end rfl ?_
  refine seq_n hK3 ?_
  refine wp_cond_true (by kernel_rfl) ?_
  refine wp_seq_k ?_
  intro K4 hK4
  refine wp_seq_k ?_
  intro K5 hK5
  refine reg_lit ?_
  refine wq_p 6 [(17, (Value.bool true)), (16, (Value.bool true)), (15, (Value.int .i64 2)), (14, (Value.bool true)), (13, (Value.bool true)), (12, (Value.int .i64 2))] ?_
  refine wl_end rfl ?_
  refine seq_n hK5 ?_
  refine wp_cond_true (by kernel_rfl) ?_
  refine wp_seq_k ?_
  intro K6 hK6
  refine reg_lit ?_
  refine wq_p 1 [(18, (Value.int .i64 2))] ?_
  refine wq_to (some 19) (x_np h0 66 [(Value.int .i64 2)] (by kernel_rfl) (small_lit2  _)) ?_
  rintro _ w7 ⟨rfl, h7⟩
  refine wq_p 1 [(4, (Value.string (⟨#[50]⟩)))] ?_
  refine wl_end rfl ?_
  refine seq_n hK6 ?_
  refine wp_ret ?_
  refine seq_r ?_
  refine seq_r ?_
  refine post_1 rfl (by kernel_rfl) (rtmp (v := (Value.string (⟨#[50]⟩))) (by kernel_rfl)) ?_
  exact ⟨rfl, h7.below0⟩
set_option maxRecDepth 100000 in
set_option maxHeartbeats 4000000 in
theorem itoa2_lit2 (w : World) : Calls Tryd.prog 54 #[(Value.int .i64 2)] w (NPost w (.string ⟨#[50]⟩)) := by
  have h0 := Hp.nil (fun _ => False) w
  refine enter 4 Tryd.func54 rfl rfl ?_
  refine wp_reset 5 [(0, (Value.int .i64 2))] (fun x0 => ?_)
  refine wp_seq_k ?_
  intro K1 hK1
  refine reg_lit ?_
  refine wq_p 1 [(2, (Value.string (⟨#[]⟩)))] ?_
  refine wl_end rfl ?_
  refine seq_n hK1 ?_
  refine wp_seq_k ?_
  intro K2 hK2
  refine reg_lit ?_
  refine wq_p 1 [(3, (Value.int .i64 2))] ?_
  refine wq_to (some 4) (x_np h0 61 [(Value.int .i64 2), (Value.int .i64 10)] (by kernel_rfl) (fmt_lit2  _)) ?_
  rintro _ w3 ⟨rfl, h3⟩
  refine wq_p 1 [(2, (Value.string (⟨#[50]⟩)))] ?_
  refine wl_end rfl ?_
  refine seq_n hK2 ?_
  refine wp_ret ?_
  refine post_1 rfl (by kernel_rfl) (rtmp (v := (Value.string (⟨#[50]⟩))) (by kernel_rfl)) ?_
  exact ⟨rfl, h3.below0⟩
set_option maxRecDepth 100000 in
set_option maxHeartbeats 4000000 in
theorem itoa_lit2 (w : World) : Calls Tryd.prog 43 #[(Value.int .i64 2)] w (NPost w (.string ⟨#[50]⟩)) := by
  have h0 := Hp.nil (fun _ => False) w
  refine enter 4 Tryd.func43 rfl rfl ?_
  refine wp_reset 5 [(0, (Value.int .i64 2))] (fun x0 => ?_)
  refine wp_seq_k ?_
  intro K1 hK1
  refine reg_lit ?_
  refine wq_p 1 [(2, (Value.string (⟨#[]⟩)))] ?_
  refine wl_end rfl ?_
  refine seq_n hK1 ?_
  refine wp_seq_k ?_
  intro K2 hK2
  refine reg_lit ?_
  refine wq_p 1 [(3, (Value.int .i64 2))] ?_
  refine wq_to (some 4) (x_np h0 54 [(Value.int .i64 2)] (by kernel_rfl) (itoa2_lit2  _)) ?_
  rintro _ w3 ⟨rfl, h3⟩
  refine wq_p 1 [(2, (Value.string (⟨#[50]⟩)))] ?_
  refine wl_end rfl ?_
  refine seq_n hK2 ?_
  refine wp_ret ?_
  refine post_1 rfl (by kernel_rfl) (rtmp (v := (Value.string (⟨#[50]⟩))) (by kernel_rfl)) ?_
  exact ⟨rfl, h3.below0⟩
theorem itoa_is2 : ItoaIs 2 ⟨#[50]⟩ := fun w => itoa_lit2 w
set_option maxRecDepth 100000 in
set_option maxHeartbeats 4000000 in
theorem small_lit5 (w : World) : Calls Tryd.prog 66 #[(Value.int .i64 5)] w (NPost w (.string ⟨#[53]⟩)) := by
  have h0 := Hp.nil (fun _ => False) w
  refine enter 14 Tryd.func66 rfl rfl ?_
  refine wp_reset 15 [(0, (Value.int .i64 5))] (fun x0 => ?_)
  refine wp_seq_k ?_
  intro K1 hK1
  refine reg_lit ?_
  refine wq_p 1 [(2, (Value.string (⟨#[]⟩)))] ?_
  refine wl_end rfl ?_
  refine seq_n hK1 ?_
  refine wp_seq_k ?_
  intro K2 hK2
  refine wp_seq_k ?_
  intro K3 hK3
  refine reg_lit ?_
  refine wq_p 2 [(4, (Value.bool true)), (3, (Value.int .i64 5))] ?_
  refine wl_end rfl ?_
  refine seq_n hK3 ?_
  refine wp_cond_true (by kernel_rfl) ?_
  refine wp_seq_k ?_
  intro K4 hK4
  refine reg_lit ?_
  refine wq_p 3 [(7, (Value.int .i64 6)), (6, (Value.int .i64 5)), (5, (Value.int .i64 5))] ?_
  refine wq_v (some 8) (Value.string (⟨#[53]⟩)) (pureOp_run (by kernel_rfl) _) ?_
  refine wq_p 1 [(2, (Value.string (⟨#[53]⟩)))] ?_
  refine wl_end rfl ?_
  refine seq_n hK4 ?_
  refine wp_ret ?_
  refine seq_r ?_
  refine post_1 rfl (by kernel_rfl) (rtmp (v := (Value.string (⟨#[53]⟩))) (by kernel_rfl)) ?_
  exact ⟨rfl, h0.below0⟩
set_option maxRecDepth 100000 in
set_option maxHeartbeats 4000000 in
theorem fmt_lit5 (w : World) : Calls Tryd.prog 61 #[(Value.int .i64 5), (Value.int .i64 10)] w (NPost w (.string ⟨#[53]⟩)) := by
  have h0 := Hp.nil (fun _ => False) w
  refine enter 52 Tryd.func61 rfl rfl ?_
  refine wp_reset 54 [(0, (Value.int .i64 5)), (1, (Value.int .i64 10))] (fun x0 => ?_)
  refine wp_seq_k ?_
  intro K1 hK1
  refine reg_lit ?_
  refine wq_p 1 [(4, (Value.string (⟨#[]⟩)))] ?_
  refine wl_end rfl ?_
  refine seq_n hK1 ?_
  refine wp_seq_k ?_
  intro K2 hK2
  refine wp_seq_k ?_
  intro K3 hK3
  refine reg_lit ?_
  refine wq_p 2 [(11, (Value.bool true)), (10, (Value.int .i64 10))] ?_
  refine wl_end rfl ?_
  refine seq_n hK3 ?_
  refine wp_cond_true (by kernel_rfl) ?_
  refine wp_seq_k ?_
  intro K4 hK4
  refine wp_seq_k ?_
  intro K5 hK5
  refine reg_lit ?_
  refine wq_p 6 [(17, (Value.bool true)), (16, (Value.bool true)), (15, (Value.int .i64 5)), (14, (Value.bool true)), (13, (Value.bool true)), (12, (Value.int .i64 5))] ?_
  refine wl_end rfl ?_
  refine seq_n hK5 ?_
  refine wp_cond_true (by kernel_rfl) ?_
  refine wp_seq_k ?_
  intro K6 hK6
  refine reg_lit ?_
  refine wq_p 1 [(18, (Value.int .i64 5))] ?_
  refine wq_to (some 19) (x_np h0 66 [(Value.int .i64 5)] (by kernel_rfl) (small_lit5  _)) ?_
  rintro _ w7 ⟨rfl, h7⟩
  refine wq_p 1 [(4, (Value.string (⟨#[53]⟩)))] ?_
  refine wl_end rfl ?_
  refine seq_n hK6 ?_
  refine wp_ret ?_
  refine seq_r ?_
  refine seq_r ?_
  refine post_1 rfl (by kernel_rfl) (rtmp (v := (Value.string (⟨#[53]⟩))) (by kernel_rfl)) ?_
  exact ⟨rfl, h7.below0⟩
set_option maxRecDepth 100000 in
set_option maxHeartbeats 4000000 in
theorem itoa2_lit5 (w : World) : Calls Tryd.prog 54 #[(Value.int .i64 5)] w (NPost w (.string ⟨#[53]⟩)) := by
  have h0 := Hp.nil (fun _ => False) w
  refine enter 4 Tryd.func54 rfl rfl ?_
  refine wp_reset 5 [(0, (Value.int .i64 5))] (fun x0 => ?_)
  refine wp_seq_k ?_
  intro K1 hK1
  refine reg_lit ?_
  refine wq_p 1 [(2, (Value.string (⟨#[]⟩)))] ?_
  refine wl_end rfl ?_
  refine seq_n hK1 ?_
  refine wp_seq_k ?_
  intro K2 hK2
  refine reg_lit ?_
  refine wq_p 1 [(3, (Value.int .i64 5))] ?_
  refine wq_to (some 4) (x_np h0 61 [(Value.int .i64 5), (Value.int .i64 10)] (by kernel_rfl) (fmt_lit5  _)) ?_
  rintro _ w3 ⟨rfl, h3⟩
  refine wq_p 1 [(2, (Value.string (⟨#[53]⟩)))] ?_
  refine wl_end rfl ?_
  refine seq_n hK2 ?_
  refine wp_ret ?_
  refine post_1 rfl (by kernel_rfl) (rtmp (v := (Value.string (⟨#[53]⟩))) (by kernel_rfl)) ?_
  exact ⟨rfl, h3.below0⟩
set_option maxRecDepth 100000 in
set_option maxHeartbeats 4000000 in
theorem itoa_lit5 (w : World) : Calls Tryd.prog 43 #[(Value.int .i64 5)] w (NPost w (.string ⟨#[53]⟩)) := by
  have h0 := Hp.nil (fun _ => False) w
  refine enter 4 Tryd.func43 rfl rfl ?_
  refine wp_reset 5 [(0, (Value.int .i64 5))] (fun x0 => ?_)
  refine wp_seq_k ?_
  intro K1 hK1
  refine reg_lit ?_
  refine wq_p 1 [(2, (Value.string (⟨#[]⟩)))] ?_
  refine wl_end rfl ?_
  refine seq_n hK1 ?_
  refine wp_seq_k ?_
  intro K2 hK2
  refine reg_lit ?_
  refine wq_p 1 [(3, (Value.int .i64 5))] ?_
  refine wq_to (some 4) (x_np h0 54 [(Value.int .i64 5)] (by kernel_rfl) (itoa2_lit5  _)) ?_
  rintro _ w3 ⟨rfl, h3⟩
  refine wq_p 1 [(2, (Value.string (⟨#[53]⟩)))] ?_
  refine wl_end rfl ?_
  refine seq_n hK2 ?_
  refine wp_ret ?_
  refine post_1 rfl (by kernel_rfl) (rtmp (v := (Value.string (⟨#[53]⟩))) (by kernel_rfl)) ?_
  exact ⟨rfl, h3.below0⟩
theorem itoa_is5 : ItoaIs 5 ⟨#[53]⟩ := fun w => itoa_lit5 w
set_option maxRecDepth 100000 in
set_option maxHeartbeats 4000000 in
theorem from_any (v : Value) (l : Bytes) (hl : l.length = 8) (w : World) (hv : SB w v l) : Calls Tryd.prog 24 #[v] w (APost w (l ++ List.replicate 8 0)) := by
  obtain ⟨A, c, rfl, hc1, hc2⟩ := sb_form hv
  have hov : l ++ List.replicate 8 0 = ovr (List.replicate 16 0) 0 l := by
    unfold ovr; rw [hl]; simp
  obtain ⟨K, hK⟩ := kl_of (l ++ List.replicate 8 0) (by simp [hl])
  have h0 := Hp.ro1 (rSB (.slice A l.length c) l) hv
  refine enter 7 Tryd.func24 rfl rfl ?_
  refine wp_reset 8 [(0, (Value.slice A l.length c))] (fun x0 => ?_)
  refine wp_seq_k ?_
  intro K1 hK1
  refine reg_lit ?_
  refine wq_to (some 2) (x_new h0 23 (vb (List.replicate 16 0)) (fun r => pt r 0) (by kernel_rfl)) ?_
  rintro _ w2 ⟨g2, rfl, h2⟩
  refine wl_end rfl ?_
  refine seq_n hK1 ?_
  refine wp_seq_k ?_
  intro K3 hK3
  refine reg_lit ?_
  refine wq_to (some 3) (x_new h2 23 (vb (List.replicate 16 0)) (fun r => pt r 0) (by kernel_rfl)) ?_
  rintro _ w4 ⟨g4, rfl, h4⟩
  refine wl_end rfl ?_
  refine seq_n hK3 ?_
  refine wp_seq_k ?_
  intro K5 hK5
  refine reg_lit ?_
  refine wq_p 2 [(5, (Value.slice A l.length c)), (4, (Value.slice (some ⟨g4, 0, none⟩) 16 16))] ?_
  refine wq_to (some 6) (x_copyN h4 0 rfl (.tmp 4) (.tmp 5) (by kernel_rfl) 16 16 l (kl K) (Value.slice A l.length c) (by kernel_rfl) (by kernel_rfl) (h4.rd 0 rfl) (by rintro rfl; cases hl) (by omega) (by simp [hl]) (by rw [← hK, hov])) ?_
  rintro u6 w6 h6
  refine wl_end rfl ?_
  refine seq_n hK5 ?_
  refine wp_seq_k ?_
  intro K7 hK7
  refine reg_lit ?_
  refine wq_v (some 7) (Value.agg (vb (kl K)).toArray) (e_loads (h6.at_ 0 rfl) 23 (.tmp 3) (by kernel_rfl) 0 (vb (kl K)) (by kernel_rfl) (by kernel_rfl) (by kernel_rfl)) ?_
  refine wq_to none (x_stores h6 1 rfl 23 (.tmp 2) (.tmp 7) (by kernel_rfl) 0 (vb (kl K)) (vb (kl K)) (by kernel_rfl) (by kernel_rfl) (by kernel_rfl) (by kernel_rfl) (by kernel_rfl) (by kernel_rfl)) ?_
  rintro _ w8 h8
  refine wl_end rfl ?_
  refine seq_n hK7 ?_
  refine wp_ret ?_
  refine post_1 rfl (by kernel_rfl) (rcell (h8.at_ 1 rfl) (by kernel_rfl) (by kernel_rfl)) ?_
  exact ⟨by rw [hK], h8.below0⟩
set_option maxRecDepth 100000 in
set_option maxHeartbeats 4000000 in
theorem part_any (K : Fin 16 → UInt8) (n : Int) (D : ByteArray) (x : UInt8) (hi : ItoaIs n D) (hD : D.size ≤ 1000) (w : World) : Calls Tryd.prog 22 #[.agg (vb (kl K)).toArray, .int .i64 n, .string ⟨#[x]⟩] w (APost w (partK (kl K) D.data.toList x)) := by
  have hs : (⟨#[x]⟩ ++ D : ByteArray).size ≤ 1048576 := by rw [ByteArray.size_append]; have : (⟨#[x]⟩ : ByteArray).size = 1 := rfl; omega
  have hcat : (⟨#[x]⟩ ++ D : ByteArray).data.toList = [x] ++ D.data.toList := by simp
  obtain ⟨S, hS⟩ : ∃ S : ByteArray, S = ⟨#[x]⟩ ++ D := ⟨_, rfl⟩
  rw [← hS] at hs hcat
  have h0 := Hp.nil (fun _ => False) w
  refine enter 10 Tryd.func22 rfl rfl ?_
  refine wp_reset 13 [(0, (Value.agg (vb (kl K)).toArray)), (1, (Value.int .i64 n)), (2, (Value.string (⟨#[x]⟩)))] (fun x0 => ?_)
  refine wp_seq_k ?_
  intro K1 hK1
  refine reg_lit ?_
  refine wq_to (some 3) (x_new h0 28 (vb (kl K)) (fun r => pt r 0) (by kernel_rfl)) ?_
  rintro _ w2 ⟨g2, rfl, h2⟩
  refine wq_to (some 6) (x_new h2 28 (vb (List.replicate 16 0)) (fun r => pt r 0) (by kernel_rfl)) ?_
  rintro _ w3 ⟨g3, rfl, h3⟩
  refine wl_end rfl ?_
  refine seq_n hK1 ?_
  refine wp_seq_k ?_
  intro K4 hK4
  refine pR_go h3 6 (fun W => (rBlk g2 28 (vb (kl K))).Φ W ∧ True) [(8, [3], 0), (9, [2], 0), (10, [1], 0), (11, [9], 4), (12, [8, 10], 10), (13, [7, 11], 25), (0, [6, 12], 63)] rfl (fun _ d _ _ _ h => by cases d <;> exact h) ?_
  intro hs5 w5 h5
  refine pR_p 5 [1, 2] [(9, (Value.int .i64 n)), (8, (Value.string (⟨#[x]⟩)))] 6 hs5 ⟨h5.at_ 1 rfl, trivial⟩ ?_
  refine pR_v 0 (some 7) (Value.agg (vb (kl K)).toArray) 7 rfl hs5 ⟨h5.at_ 1 rfl, trivial⟩ (fun W hW => e_loads hW.1 28 (.tmp 3) (by kernel_rfl) 0 (vb (kl K)) (by kernel_rfl) (by kernel_rfl) (by kernel_rfl)) ?_
  refine pR_to 3 (some 10) 15 rfl hs5 (x_itoa h5 hi (by kernel_rfl)) ?_
  rintro _ w6 ⟨rfl, h6⟩
  refine ⟨fun _ => ⟨h6.at_ 1 rfl, trivial⟩, ?_⟩
  refine pR_v 4 (some 11) (Value.string S) 31 rfl hs5 ⟨h6.at_ 1 rfl, trivial⟩ (fun W hW => hS ▸ e_sadd (.tmp 8) (.tmp 10) 9 9 (by kernel_rfl) ⟨#[x]⟩ D (by kernel_rfl) (by kernel_rfl) (by show 1 ≤ 1000000; decide) (by omega) _) ?_
  refine pR_to 5 (some 12) 63 rfl hs5 (x_key h6 (l := derF (kl K) (S.data.toList)) 40 [(Value.agg (vb (kl K)).toArray), (Value.string S)] (by kernel_rfl) (der_len _ _) (mderive_any K S hs _)) ?_
  rintro _ w7 ⟨K7, rfl, hK7, h7⟩
  refine ⟨fun _ => ⟨h7.at_ 1 rfl, trivial⟩, ?_⟩
  refine pR_to 6 none 127 rfl hs5 (x_stores h7 0 rfl 28 (.tmp 6) (.tmp 12) (by kernel_rfl) 0 (vb (kl K7)) (vb (kl K7)) (by kernel_rfl) (by kernel_rfl) (by kernel_rfl) (by kernel_rfl) (by kernel_rfl) (by kernel_rfl)) ?_
  rintro _ w8 h8
  refine ⟨fun h => absurd h (by decide), ?_⟩
  refine pR_done hs5 ?_ _
  refine seq_n hK4 ?_
  refine wp_ret ?_
  refine post_1 rfl (by kernel_rfl) (rcell (h8.at_ 0 rfl) (by kernel_rfl) (by kernel_rfl)) ?_
  exact ⟨by unfold partK; rw [hK7, hcat], h8.below0⟩
def RNewPost (w : World) (seed : Bytes) (e : Ending) (w' : World) : Prop := ∃ m A c, e = .returned (pt m 0) ∧ Hp (fun _ => False) w w' [] [rBlk m 47 [.slice A seed.length c, .int .u64 0, .int .u64 0], rOB (.slice A seed.length c) seed]
set_option maxRecDepth 100000 in
set_option maxHeartbeats 4000000 in
theorem rnew_any (v : Value) (l : Bytes) (hl : l.length ≤ 1048576) (w : World) (hv : SB w v l) : Calls Tryd.prog 7 #[v] w (RNewPost w l) := by
  obtain ⟨A, c, rfl, hc1, hc2⟩ := sb_form hv
  have h0 := Hp.ro1 (rSB (.slice A l.length c) l) hv
  refine enter 6 Tryd.func7 rfl rfl ?_
  refine wp_reset 7 [(0, (Value.slice A l.length c))] (fun x0 => ?_)
  refine wp_seq_k ?_
  intro K1 hK1
  refine reg_lit ?_
  refine wq_p 1 [(2, (Value.pointer none))] ?_
  refine wl_end rfl ?_
  refine seq_n hK1 ?_
  refine wp_seq_k ?_
  intro K2 hK2
  have h3 := h0.obNil
  
  refine reg_lit ?_
  refine wq_p 1 [(3, (Value.slice A l.length c))] ?_
  refine wq_to (some 4) (x_appG h3 0 rfl (.const (Value.slice none 0 0)) (.tmp 3) (by kernel_rfl) (Value.slice A l.length c) (by kernel_rfl) (by kernel_rfl) (h3.rd 0 rfl) (by simp; omega) (l) (l.length) rfl rfl) ?_
  rintro _ w4 ⟨A4, c4, rfl, h4⟩
  refine wq_p 1 [(5, (Value.agg ([(Value.slice A4 l.length c4), (Value.int .u64 0), (Value.int .u64 0)]).toArray))] ?_
  refine wq_to (some 6) (x_new h4 47 ([(Value.slice A4 l.length c4), (Value.int .u64 0), (Value.int .u64 0)]) (fun r => pt r 0) (by kernel_rfl)) ?_
  rintro _ w5 ⟨g5, rfl, h5⟩
  refine wq_p 1 [(2, (pt g5 0))] ?_
  refine wl_end rfl ?_
  refine seq_n hK2 ?_
  refine wp_ret ?_
  refine post_1 rfl (by kernel_rfl) (rtmp (v := (pt g5 0)) (by kernel_rfl)) ?_
  exact ⟨_, _, _, rfl, h5.sel [0, 1] [] (by kernel_rfl) rfl rfl⟩
end Go.Proofs.YtpkelokaammmjaaDoor
end
/-! The walks of a tape's methods. -/
section
namespace Go.Proofs.YtpkelokaammmjaaDoor
open Go.RowKit Go.QT
set_option maxRecDepth 100000 in
set_option maxHeartbeats 4000000 in
theorem rfresh_any (m : Nat) (A : Option Addr) (c : Nat) (seed : Bytes) (a b : Nat) (w : World) (H : Hp (fun q => q = m) w w [rSB (.slice A seed.length c) seed] [rBlk m 47 [.slice A seed.length c, .int .u64 ((a : Nat) : Int), .int .u64 ((b : Nat) : Int)]]) (ha : a < 4294967296) (hs : seed.length ≤ 1048576) :
    Calls Tryd.prog 9 #[pt m 0] w fun e w' => e = .returned (.agg (vb (freshR seed (a + 1))).toArray) ∧ Blk w' m 47 [.slice A seed.length c, .int .u64 ((a + 1 : Nat) : Int), .int .u64 ((b : Nat) : Int)] ∧ Fr (fun q => q = m) w w' := by
  have h0 := H
  refine enter 28 Tryd.func9 rfl rfl ?_
  refine wp_reset 29 [(0, (pt m 0))] (fun x0 => ?_)
  refine wp_seq_k ?_
  intro K1 hK1
  refine reg_lit ?_
  refine wq_to (some 2) (x_new h0 28 (vb (List.replicate 16 0)) (fun r => pt r 0) (by kernel_rfl)) ?_
  rintro _ w2 ⟨g2, rfl, h2⟩
  refine wl_end rfl ?_
  refine seq_n hK1 ?_
  refine wp_seq_k ?_
  intro K3 hK3
  refine reg_lit ?_
  refine wq_p 3 [(7, (pt m 1)), (6, (pt m 0)), (5, (pt m 0))] ?_
  refine wq_v (some 8) (Value.int .u64 (((a : Nat) : Int))) (e_load (h2.at_ 1 rfl) 34 (.tmp 7) (by kernel_rfl) 1 (Value.int .u64 (((a : Nat) : Int))) (by kernel_rfl) (by kernel_rfl) (by kernel_rfl)) ?_
  refine wq_v (some 9) (Value.int .u64 ((((((a))) + 1 : Nat) : Int))) (e_add64 _ _ _ _ rfl (((a))) 1 (by kernel_rfl) (by kernel_rfl) ((((a))) + 1) rfl (by omega) _) ?_
  refine wq_p 2 [(11, (pt m 1)), (10, (pt m 0))] ?_
  refine wq_to none (x_store h2 1 rfl 34 (.tmp 11) (.tmp 9) (by kernel_rfl) 1 (Value.int .u64 ((((((a))) + 1 : Nat) : Int))) ([(Value.slice A seed.length c), (Value.int .u64 ((((((a))) + 1 : Nat) : Int))), (Value.int .u64 (((b : Nat) : Int)))]) (by kernel_rfl) (by kernel_rfl) (by kernel_rfl) (by kernel_rfl) rfl rfl (by kernel_rfl)) ?_
  rintro _ w4 h4
  refine wl_end rfl ?_
  refine seq_n hK3 ?_
  refine wp_seq_k ?_
  intro K5 hK5
  refine pR_go h4 18 (fun W => (rBlk m 47 ([(Value.slice A seed.length c), (Value.int .u64 ((((((a))) + 1 : Nat) : Int))), (Value.int .u64 (((b : Nat) : Int)))])).Φ W ∧ True) [(14, [0], 0), (15, [13], 1), (16, [14], 2), (17, [15], 4), (18, [0], 0), (19, [17], 16), (20, [18], 32), (21, [19], 64), (22, [20], 128), (23, [21], 256), (24, [16, 22], 776), (25, [23], 1024), (26, [24], 3072), (13, [25], 4096), (27, [12], 8192), (28, [12], 8192), (4, [], 0), (0, [3, 26], 98303), (5, [27], 262143)] rfl (fun _ d _ _ _ h => by cases d <;> exact h) ?_
  intro hs6 w6 h6
  refine pR_p 13 [0, 1, 2, 4, 5, 6] [(19, (pt m 1)), (18, (pt m 0)), (17, (pt m 0)), (15, (pt m 0)), (14, (pt m 0)), (13, (pt m 0))] 119 hs6 ⟨h6.at_ 1 rfl, trivial⟩ ?_
  refine pR_v 3 (some 16) (Value.slice A seed.length c) 127 rfl hs6 ⟨h6.at_ 1 rfl, trivial⟩ (fun W hW => e_load hW.1 22 (.tmp 15) (by kernel_rfl) 0 (Value.slice A seed.length c) (by kernel_rfl) (by kernel_rfl) (by kernel_rfl)) ?_
  refine pR_v 7 (some 20) (Value.int .u64 ((((((a))) + 1 : Nat) : Int))) 255 rfl hs6 ⟨h6.at_ 1 rfl, trivial⟩ (fun W hW => e_load hW.1 34 (.tmp 19) (by kernel_rfl) 1 (Value.int .u64 ((((((a))) + 1 : Nat) : Int))) (by kernel_rfl) (by kernel_rfl) (by kernel_rfl)) ?_
  refine pR_or 8 16 hs6 ?_ ?_
  ·
   refine pR_op 8 (some 21) 511 rfl (x_bytesE h6 20 [(Value.int .u64 ((((((a))) + 1 : Nat) : Int)))] (by kernel_rfl) (put_any ((((((a))) + 1))) _) (put8 ((((((a))) + 1)))) (8) rfl rfl) ?_
   rintro _ w7 ⟨A7, c7, rfl, h7⟩
   refine ⟨fun _ => ⟨h7.at_ 2 rfl, trivial⟩, ?_⟩
   refine pR_or 9 16 hs6 ?_ ?_
   ·
    refine pR_op 9 (some 22) 1023 rfl (x_bs h7 22 ([(Value.slice A7 8 c7)]) 1 (by kernel_rfl)) ?_
    rintro _ w8 ⟨g8, rfl, h8⟩
    refine ⟨fun _ => ⟨h8.at_ 3 rfl, trivial⟩, ?_⟩
    refine pR_or 10 16 hs6 ?_ ?_
    ·
     refine pR_op 10 (some 23) 2047 rfl (x_bytesE h8 26 [(Value.slice A seed.length c), (Value.slice (some ⟨g8, 0, none⟩) 1 1)] (by kernel_rfl) (sum_any (Value.slice A seed.length c) seed (Value.slice (some ⟨g8, 0, none⟩) 1 1) [put8 ((((((a))) + 1)))] _ (h8.rd 0 rfl) (bs1 (h8.at_ 0 rfl) (OB.sb (h8.at_ 1 rfl))) (by first | omega | (simp [mac_len, put8_len]; done) | (simp [bsize]; omega) | (rw [kl_len]; decide)) (by simp) (by first | (simp [put8_len]; done) | (simp [mac_len, put8_len, bsize]; omega))) (macF seed ((put8 ((((((a))) + 1)))))) (32) (by simp) (mac_len _ _).symm) ?_
     rintro _ w9 ⟨A9, c9, rfl, h9⟩
     refine ⟨fun _ => ⟨h9.at_ 4 rfl, trivial⟩, ?_⟩
     refine pR_v 11 (some 24) (cutS (Value.slice A9 32 c9) 0 16) 4095 rfl hs6 ⟨h9.at_ 4 rfl, trivial⟩ (fun W hW => e_cut_h (OB.sb (h9.at_ 0 rfl)) (.tmp 23) (.const (Value.int .i64 16)) (by kernel_rfl) (by kernel_rfl) .i64 16 (by kernel_rfl) (by first | omega | (rw [mac_len]; decide) | (rw [sha_len]; decide) | (rw [put8_len]; decide)) _) ?_
     refine pR_or 12 16 hs6 ?_ ?_
     ·
      refine pR_op 12 (some 25) 8191 rfl (x_okey h9 (((macF seed ((put8 ((((((a))) + 1)))))).take 16).drop 0) (cutS (Value.slice A9 32 c9) 0 16) (by kernel_rfl) (SB.cut (OB.sb (h9.at_ 0 rfl)) 0 16 (by first | omega | (rw [mac_len]; decide) | (rw [sha_len]; decide) | (rw [put8_len]; decide))) (by first | (rw [len_cut _ _ _ (by rw [mac_len]; decide)]) | (simp [mac_len]; done))) ?_
      rintro _ w10 ⟨K10, rfl, hK10, h10⟩
      refine ⟨fun _ => ⟨h10.at_ 4 rfl, trivial⟩, ?_⟩
      refine pR_p 3 [13, 14, 15] [(27, (Value.bool true)), (26, (Value.agg (vb (kl K10)).toArray)), (12, (Value.tuple #[(Value.agg (vb (kl K10)).toArray), (Value.bool true)]))] 65535 hs6 ⟨h10.at_ 4 rfl, trivial⟩ ?_
      refine pR_to 16 (some 3) 131071 rfl hs6 (x_new h10 28 (vb (List.replicate 16 0)) (fun r => pt r 0) (by kernel_rfl)) ?_
      rintro _ w11 ⟨g11, rfl, h11⟩
      refine ⟨fun _ => ⟨h11.at_ 5 rfl, trivial⟩, ?_⟩
      refine pR_to 17 none 262143 rfl hs6 (x_stores h11 0 rfl 28 (.tmp 3) (.tmp 26) (by kernel_rfl) 0 (vb (kl K10)) (vb (kl K10)) (by kernel_rfl) (by kernel_rfl) (by kernel_rfl) (by kernel_rfl) (by kernel_rfl) (by kernel_rfl)) ?_
      rintro _ w12 h12
      refine ⟨fun _ => ⟨h12.at_ 5 rfl, trivial⟩, ?_⟩
      refine pR_to 18 (some 4) 524287 rfl hs6 (OpTo.run (Value.bool true) (pureOp_run (by kernel_rfl) _) (R := fun v w => v = (Value.bool true) ∧ w12 = w) ⟨rfl, rfl⟩) ?_
      rintro _ _ ⟨rfl, rfl⟩
      refine ⟨fun h => absurd h (by decide), ?_⟩
      refine pR_done hs6 ?_ _
      refine seq_n hK5 ?_
      refine wp_seq_k ?_
      intro K13 hK13
      refine reg_lit ?_
      refine wq_v (some 28) (Value.agg (vb (kl K10)).toArray) (e_loads (h12.at_ 0 rfl) 28 (.tmp 3) (by kernel_rfl) 0 (vb (kl K10)) (by kernel_rfl) (by kernel_rfl) (by kernel_rfl)) ?_
      refine wq_to none (x_stores h12 4 rfl 28 (.tmp 2) (.tmp 28) (by kernel_rfl) 0 (vb (kl K10)) (vb (kl K10)) (by kernel_rfl) (by kernel_rfl) (by kernel_rfl) (by kernel_rfl) (by kernel_rfl) (by kernel_rfl)) ?_
      rintro _ w14 h14
      refine wl_end rfl ?_
      refine seq_n hK13 ?_
      refine wp_ret ?_
      refine post_1 rfl (by kernel_rfl) (rcell (h14.at_ 4 rfl) (by kernel_rfl) (by kernel_rfl)) ?_
      exact ⟨by rw [hK10]; rfl, h14.at_ 5 rfl, h14.fr⟩
     ·
      refine pR_op 16 (some 3) 69631 rfl (x_new h9 28 (vb (List.replicate 16 0)) (fun r => pt r 0) (by kernel_rfl)) ?_
      rintro _ w15 ⟨g15, rfl, h15⟩
      refine ⟨fun _ => ⟨h15.at_ 5 rfl, trivial⟩, ?_⟩
      refine pR_to 12 (some 25) 73727 rfl hs6 (x_okey h15 (((macF seed ((put8 ((((((a))) + 1)))))).take 16).drop 0) (cutS (Value.slice A9 32 c9) 0 16) (by kernel_rfl) (SB.cut (OB.sb (h15.at_ 1 rfl)) 0 16 (by first | omega | (rw [mac_len]; decide) | (rw [sha_len]; decide) | (rw [put8_len]; decide))) (by first | (rw [len_cut _ _ _ (by rw [mac_len]; decide)]) | (simp [mac_len]; done))) ?_
      rintro _ w16 ⟨K16, rfl, hK16, h16⟩
      refine ⟨fun _ => ⟨h16.at_ 5 rfl, trivial⟩, ?_⟩
      refine pR_p 2 [13, 14, 15] [(27, (Value.bool true)), (26, (Value.agg (vb (kl K16)).toArray)), (12, (Value.tuple #[(Value.agg (vb (kl K16)).toArray), (Value.bool true)]))] 131071 hs6 ⟨h16.at_ 5 rfl, trivial⟩ ?_
      refine pR_to 17 none 262143 rfl hs6 (x_stores h16 0 rfl 28 (.tmp 3) (.tmp 26) (by kernel_rfl) 0 (vb (kl K16)) (vb (kl K16)) (by kernel_rfl) (by kernel_rfl) (by kernel_rfl) (by kernel_rfl) (by kernel_rfl) (by kernel_rfl)) ?_
      rintro _ w17 h17
      refine ⟨fun _ => ⟨h17.at_ 5 rfl, trivial⟩, ?_⟩
      refine pR_to 18 (some 4) 524287 rfl hs6 (OpTo.run (Value.bool true) (pureOp_run (by kernel_rfl) _) (R := fun v w => v = (Value.bool true) ∧ w17 = w) ⟨rfl, rfl⟩) ?_
      rintro _ _ ⟨rfl, rfl⟩
      refine ⟨fun h => absurd h (by decide), ?_⟩
      refine pR_done hs6 ?_ _
      refine seq_n hK5 ?_
      refine wp_seq_k ?_
      intro K18 hK18
      refine reg_lit ?_
      refine wq_v (some 28) (Value.agg (vb (kl K16)).toArray) (e_loads (h17.at_ 0 rfl) 28 (.tmp 3) (by kernel_rfl) 0 (vb (kl K16)) (by kernel_rfl) (by kernel_rfl) (by kernel_rfl)) ?_
      refine wq_to none (x_stores h17 4 rfl 28 (.tmp 2) (.tmp 28) (by kernel_rfl) 0 (vb (kl K16)) (vb (kl K16)) (by kernel_rfl) (by kernel_rfl) (by kernel_rfl) (by kernel_rfl) (by kernel_rfl) (by kernel_rfl)) ?_
      rintro _ w19 h19
      refine wl_end rfl ?_
      refine seq_n hK18 ?_
      refine wp_ret ?_
      refine post_1 rfl (by kernel_rfl) (rcell (h19.at_ 4 rfl) (by kernel_rfl) (by kernel_rfl)) ?_
      exact ⟨by rw [hK16]; rfl, h19.at_ 5 rfl, h19.fr⟩
    ·
     refine pR_op 16 (some 3) 66559 rfl (x_new h8 28 (vb (List.replicate 16 0)) (fun r => pt r 0) (by kernel_rfl)) ?_
     rintro _ w20 ⟨g20, rfl, h20⟩
     refine ⟨fun _ => ⟨h20.at_ 4 rfl, trivial⟩, ?_⟩
     refine pR_to 10 (some 23) 67583 rfl hs6 (x_bytesE h20 26 [(Value.slice A seed.length c), (Value.slice (some ⟨g8, 0, none⟩) 1 1)] (by kernel_rfl) (sum_any (Value.slice A seed.length c) seed (Value.slice (some ⟨g8, 0, none⟩) 1 1) [put8 ((((((a))) + 1)))] _ (h20.rd 0 rfl) (bs1 (h20.at_ 1 rfl) (OB.sb (h20.at_ 2 rfl))) (by first | omega | (simp [mac_len, put8_len]; done) | (simp [bsize]; omega) | (rw [kl_len]; decide)) (by simp) (by first | (simp [put8_len]; done) | (simp [mac_len, put8_len, bsize]; omega))) (macF seed ((put8 ((((((a))) + 1)))))) (32) (by simp) (mac_len _ _).symm) ?_
     rintro _ w21 ⟨A21, c21, rfl, h21⟩
     refine ⟨fun _ => ⟨h21.at_ 5 rfl, trivial⟩, ?_⟩
     refine pR_v 11 (some 24) (cutS (Value.slice A21 32 c21) 0 16) 69631 rfl hs6 ⟨h21.at_ 5 rfl, trivial⟩ (fun W hW => e_cut_h (OB.sb (h21.at_ 0 rfl)) (.tmp 23) (.const (Value.int .i64 16)) (by kernel_rfl) (by kernel_rfl) .i64 16 (by kernel_rfl) (by first | omega | (rw [mac_len]; decide) | (rw [sha_len]; decide) | (rw [put8_len]; decide)) _) ?_
     refine pR_to 12 (some 25) 73727 rfl hs6 (x_okey h21 (((macF seed ((put8 ((((((a))) + 1)))))).take 16).drop 0) (cutS (Value.slice A21 32 c21) 0 16) (by kernel_rfl) (SB.cut (OB.sb (h21.at_ 0 rfl)) 0 16 (by first | omega | (rw [mac_len]; decide) | (rw [sha_len]; decide) | (rw [put8_len]; decide))) (by first | (rw [len_cut _ _ _ (by rw [mac_len]; decide)]) | (simp [mac_len]; done))) ?_
     rintro _ w22 ⟨K22, rfl, hK22, h22⟩
     refine ⟨fun _ => ⟨h22.at_ 5 rfl, trivial⟩, ?_⟩
     refine pR_p 2 [13, 14, 15] [(27, (Value.bool true)), (26, (Value.agg (vb (kl K22)).toArray)), (12, (Value.tuple #[(Value.agg (vb (kl K22)).toArray), (Value.bool true)]))] 131071 hs6 ⟨h22.at_ 5 rfl, trivial⟩ ?_
     refine pR_to 17 none 262143 rfl hs6 (x_stores h22 1 rfl 28 (.tmp 3) (.tmp 26) (by kernel_rfl) 0 (vb (kl K22)) (vb (kl K22)) (by kernel_rfl) (by kernel_rfl) (by kernel_rfl) (by kernel_rfl) (by kernel_rfl) (by kernel_rfl)) ?_
     rintro _ w23 h23
     refine ⟨fun _ => ⟨h23.at_ 5 rfl, trivial⟩, ?_⟩
     refine pR_to 18 (some 4) 524287 rfl hs6 (OpTo.run (Value.bool true) (pureOp_run (by kernel_rfl) _) (R := fun v w => v = (Value.bool true) ∧ w23 = w) ⟨rfl, rfl⟩) ?_
     rintro _ _ ⟨rfl, rfl⟩
     refine ⟨fun h => absurd h (by decide), ?_⟩
     refine pR_done hs6 ?_ _
     refine seq_n hK5 ?_
     refine wp_seq_k ?_
     intro K24 hK24
     refine reg_lit ?_
     refine wq_v (some 28) (Value.agg (vb (kl K22)).toArray) (e_loads (h23.at_ 1 rfl) 28 (.tmp 3) (by kernel_rfl) 0 (vb (kl K22)) (by kernel_rfl) (by kernel_rfl) (by kernel_rfl)) ?_
     refine wq_to none (x_stores h23 4 rfl 28 (.tmp 2) (.tmp 28) (by kernel_rfl) 0 (vb (kl K22)) (vb (kl K22)) (by kernel_rfl) (by kernel_rfl) (by kernel_rfl) (by kernel_rfl) (by kernel_rfl) (by kernel_rfl)) ?_
     rintro _ w25 h25
     refine wl_end rfl ?_
     refine seq_n hK24 ?_
     refine wp_ret ?_
     refine post_1 rfl (by kernel_rfl) (rcell (h25.at_ 4 rfl) (by kernel_rfl) (by kernel_rfl)) ?_
     exact ⟨by rw [hK22]; rfl, h25.at_ 5 rfl, h25.fr⟩
   ·
    refine pR_op 16 (some 3) 66047 rfl (x_new h7 28 (vb (List.replicate 16 0)) (fun r => pt r 0) (by kernel_rfl)) ?_
    rintro _ w26 ⟨g26, rfl, h26⟩
    refine ⟨fun _ => ⟨h26.at_ 3 rfl, trivial⟩, ?_⟩
    refine pR_to 9 (some 22) 66559 rfl hs6 (x_bs h26 22 ([(Value.slice A7 8 c7)]) 1 (by kernel_rfl)) ?_
    rintro _ w27 ⟨g27, rfl, h27⟩
    refine ⟨fun _ => ⟨h27.at_ 4 rfl, trivial⟩, ?_⟩
    refine pR_to 10 (some 23) 67583 rfl hs6 (x_bytesE h27 26 [(Value.slice A seed.length c), (Value.slice (some ⟨g27, 0, none⟩) 1 1)] (by kernel_rfl) (sum_any (Value.slice A seed.length c) seed (Value.slice (some ⟨g27, 0, none⟩) 1 1) [put8 ((((((a))) + 1)))] _ (h27.rd 0 rfl) (bs1 (h27.at_ 0 rfl) (OB.sb (h27.at_ 2 rfl))) (by first | omega | (simp [mac_len, put8_len]; done) | (simp [bsize]; omega) | (rw [kl_len]; decide)) (by simp) (by first | (simp [put8_len]; done) | (simp [mac_len, put8_len, bsize]; omega))) (macF seed ((put8 ((((((a))) + 1)))))) (32) (by simp) (mac_len _ _).symm) ?_
    rintro _ w28 ⟨A28, c28, rfl, h28⟩
    refine ⟨fun _ => ⟨h28.at_ 5 rfl, trivial⟩, ?_⟩
    refine pR_v 11 (some 24) (cutS (Value.slice A28 32 c28) 0 16) 69631 rfl hs6 ⟨h28.at_ 5 rfl, trivial⟩ (fun W hW => e_cut_h (OB.sb (h28.at_ 0 rfl)) (.tmp 23) (.const (Value.int .i64 16)) (by kernel_rfl) (by kernel_rfl) .i64 16 (by kernel_rfl) (by first | omega | (rw [mac_len]; decide) | (rw [sha_len]; decide) | (rw [put8_len]; decide)) _) ?_
    refine pR_to 12 (some 25) 73727 rfl hs6 (x_okey h28 (((macF seed ((put8 ((((((a))) + 1)))))).take 16).drop 0) (cutS (Value.slice A28 32 c28) 0 16) (by kernel_rfl) (SB.cut (OB.sb (h28.at_ 0 rfl)) 0 16 (by first | omega | (rw [mac_len]; decide) | (rw [sha_len]; decide) | (rw [put8_len]; decide))) (by first | (rw [len_cut _ _ _ (by rw [mac_len]; decide)]) | (simp [mac_len]; done))) ?_
    rintro _ w29 ⟨K29, rfl, hK29, h29⟩
    refine ⟨fun _ => ⟨h29.at_ 5 rfl, trivial⟩, ?_⟩
    refine pR_p 2 [13, 14, 15] [(27, (Value.bool true)), (26, (Value.agg (vb (kl K29)).toArray)), (12, (Value.tuple #[(Value.agg (vb (kl K29)).toArray), (Value.bool true)]))] 131071 hs6 ⟨h29.at_ 5 rfl, trivial⟩ ?_
    refine pR_to 17 none 262143 rfl hs6 (x_stores h29 2 rfl 28 (.tmp 3) (.tmp 26) (by kernel_rfl) 0 (vb (kl K29)) (vb (kl K29)) (by kernel_rfl) (by kernel_rfl) (by kernel_rfl) (by kernel_rfl) (by kernel_rfl) (by kernel_rfl)) ?_
    rintro _ w30 h30
    refine ⟨fun _ => ⟨h30.at_ 5 rfl, trivial⟩, ?_⟩
    refine pR_to 18 (some 4) 524287 rfl hs6 (OpTo.run (Value.bool true) (pureOp_run (by kernel_rfl) _) (R := fun v w => v = (Value.bool true) ∧ w30 = w) ⟨rfl, rfl⟩) ?_
    rintro _ _ ⟨rfl, rfl⟩
    refine ⟨fun h => absurd h (by decide), ?_⟩
    refine pR_done hs6 ?_ _
    refine seq_n hK5 ?_
    refine wp_seq_k ?_
    intro K31 hK31
    refine reg_lit ?_
    refine wq_v (some 28) (Value.agg (vb (kl K29)).toArray) (e_loads (h30.at_ 2 rfl) 28 (.tmp 3) (by kernel_rfl) 0 (vb (kl K29)) (by kernel_rfl) (by kernel_rfl) (by kernel_rfl)) ?_
    refine wq_to none (x_stores h30 4 rfl 28 (.tmp 2) (.tmp 28) (by kernel_rfl) 0 (vb (kl K29)) (vb (kl K29)) (by kernel_rfl) (by kernel_rfl) (by kernel_rfl) (by kernel_rfl) (by kernel_rfl) (by kernel_rfl)) ?_
    rintro _ w32 h32
    refine wl_end rfl ?_
    refine seq_n hK31 ?_
    refine wp_ret ?_
    refine post_1 rfl (by kernel_rfl) (rcell (h32.at_ 4 rfl) (by kernel_rfl) (by kernel_rfl)) ?_
    exact ⟨by rw [hK29]; rfl, h32.at_ 5 rfl, h32.fr⟩
  ·
   refine pR_op 16 (some 3) 65791 rfl (x_new h6 28 (vb (List.replicate 16 0)) (fun r => pt r 0) (by kernel_rfl)) ?_
   rintro _ w33 ⟨g33, rfl, h33⟩
   refine ⟨fun _ => ⟨h33.at_ 2 rfl, trivial⟩, ?_⟩
   refine pR_to 8 (some 21) 66047 rfl hs6 (x_bytesE h33 20 [(Value.int .u64 ((((((a))) + 1 : Nat) : Int)))] (by kernel_rfl) (put_any ((((((a))) + 1))) _) (put8 ((((((a))) + 1)))) (8) rfl rfl) ?_
   rintro _ w34 ⟨A34, c34, rfl, h34⟩
   refine ⟨fun _ => ⟨h34.at_ 3 rfl, trivial⟩, ?_⟩
   refine pR_to 9 (some 22) 66559 rfl hs6 (x_bs h34 22 ([(Value.slice A34 8 c34)]) 1 (by kernel_rfl)) ?_
   rintro _ w35 ⟨g35, rfl, h35⟩
   refine ⟨fun _ => ⟨h35.at_ 4 rfl, trivial⟩, ?_⟩
   refine pR_to 10 (some 23) 67583 rfl hs6 (x_bytesE h35 26 [(Value.slice A seed.length c), (Value.slice (some ⟨g35, 0, none⟩) 1 1)] (by kernel_rfl) (sum_any (Value.slice A seed.length c) seed (Value.slice (some ⟨g35, 0, none⟩) 1 1) [put8 ((((((a))) + 1)))] _ (h35.rd 0 rfl) (bs1 (h35.at_ 0 rfl) (OB.sb (h35.at_ 1 rfl))) (by first | omega | (simp [mac_len, put8_len]; done) | (simp [bsize]; omega) | (rw [kl_len]; decide)) (by simp) (by first | (simp [put8_len]; done) | (simp [mac_len, put8_len, bsize]; omega))) (macF seed ((put8 ((((((a))) + 1)))))) (32) (by simp) (mac_len _ _).symm) ?_
   rintro _ w36 ⟨A36, c36, rfl, h36⟩
   refine ⟨fun _ => ⟨h36.at_ 5 rfl, trivial⟩, ?_⟩
   refine pR_v 11 (some 24) (cutS (Value.slice A36 32 c36) 0 16) 69631 rfl hs6 ⟨h36.at_ 5 rfl, trivial⟩ (fun W hW => e_cut_h (OB.sb (h36.at_ 0 rfl)) (.tmp 23) (.const (Value.int .i64 16)) (by kernel_rfl) (by kernel_rfl) .i64 16 (by kernel_rfl) (by first | omega | (rw [mac_len]; decide) | (rw [sha_len]; decide) | (rw [put8_len]; decide)) _) ?_
   refine pR_to 12 (some 25) 73727 rfl hs6 (x_okey h36 (((macF seed ((put8 ((((((a))) + 1)))))).take 16).drop 0) (cutS (Value.slice A36 32 c36) 0 16) (by kernel_rfl) (SB.cut (OB.sb (h36.at_ 0 rfl)) 0 16 (by first | omega | (rw [mac_len]; decide) | (rw [sha_len]; decide) | (rw [put8_len]; decide))) (by first | (rw [len_cut _ _ _ (by rw [mac_len]; decide)]) | (simp [mac_len]; done))) ?_
   rintro _ w37 ⟨K37, rfl, hK37, h37⟩
   refine ⟨fun _ => ⟨h37.at_ 5 rfl, trivial⟩, ?_⟩
   refine pR_p 2 [13, 14, 15] [(27, (Value.bool true)), (26, (Value.agg (vb (kl K37)).toArray)), (12, (Value.tuple #[(Value.agg (vb (kl K37)).toArray), (Value.bool true)]))] 131071 hs6 ⟨h37.at_ 5 rfl, trivial⟩ ?_
   refine pR_to 17 none 262143 rfl hs6 (x_stores h37 3 rfl 28 (.tmp 3) (.tmp 26) (by kernel_rfl) 0 (vb (kl K37)) (vb (kl K37)) (by kernel_rfl) (by kernel_rfl) (by kernel_rfl) (by kernel_rfl) (by kernel_rfl) (by kernel_rfl)) ?_
   rintro _ w38 h38
   refine ⟨fun _ => ⟨h38.at_ 5 rfl, trivial⟩, ?_⟩
   refine pR_to 18 (some 4) 524287 rfl hs6 (OpTo.run (Value.bool true) (pureOp_run (by kernel_rfl) _) (R := fun v w => v = (Value.bool true) ∧ w38 = w) ⟨rfl, rfl⟩) ?_
   rintro _ _ ⟨rfl, rfl⟩
   refine ⟨fun h => absurd h (by decide), ?_⟩
   refine pR_done hs6 ?_ _
   refine seq_n hK5 ?_
   refine wp_seq_k ?_
   intro K39 hK39
   refine reg_lit ?_
   refine wq_v (some 28) (Value.agg (vb (kl K37)).toArray) (e_loads (h38.at_ 3 rfl) 28 (.tmp 3) (by kernel_rfl) 0 (vb (kl K37)) (by kernel_rfl) (by kernel_rfl) (by kernel_rfl)) ?_
   refine wq_to none (x_stores h38 4 rfl 28 (.tmp 2) (.tmp 28) (by kernel_rfl) 0 (vb (kl K37)) (vb (kl K37)) (by kernel_rfl) (by kernel_rfl) (by kernel_rfl) (by kernel_rfl) (by kernel_rfl) (by kernel_rfl)) ?_
   rintro _ w40 h40
   refine wl_end rfl ?_
   refine seq_n hK39 ?_
   refine wp_ret ?_
   refine post_1 rfl (by kernel_rfl) (rcell (h40.at_ 4 rfl) (by kernel_rfl) (by kernel_rfl)) ?_
   exact ⟨by rw [hK37]; rfl, h40.at_ 5 rfl, h40.fr⟩
set_option maxRecDepth 100000 in
set_option maxHeartbeats 4000000 in
theorem rseal_any (m : Nat) (sv av : Value) (b : Nat) (w : World) (K : Fin 16 → UInt8) (n : Int) (D : ByteArray) (hi : ItoaIs n D) (hD : D.size ≤ 1000) (bv : Value) (body : Bytes) (H : Hp (fun q => q = m) w w [rSB bv body] [rBlk m 47 [sv, av, .int .u64 ((b : Nat) : Int)]]) (hb : b < 4294967296) (hl : body.length ≤ 1048576) :
    Calls Tryd.prog 8 #[pt m 0, .agg (vb (kl K)).toArray, .int .i64 n, bv] w fun e w' => ∃ A c, e = .returned (.slice A (boxR (b + 1) (kl K) D.data.toList body).length c) ∧
      Hp (fun q => q = m) w w' [] [rBlk m 47 [sv, av, .int .u64 ((b + 1 : Nat) : Int)], rOB (.slice A (boxR (b + 1) (kl K) D.data.toList body).length c) (boxR (b + 1) (kl K) D.data.toList body)] := by
  obtain ⟨B, d, rfl, hc1, hc2⟩ := sb_form (H.rd 0 rfl)
  have h0 := H
  refine enter 41 Tryd.func8 rfl rfl ?_
  refine wp_reset 45 [(0, (pt m 0)), (1, (Value.agg (vb (kl K)).toArray)), (2, (Value.int .i64 n)), (3, (Value.slice B body.length d))] (fun x0 => ?_)
  refine wp_seq_k ?_
  intro K1 hK1
  refine reg_lit ?_
  refine wq_to (some 5) (x_new h0 28 (vb (kl K)) (fun r => pt r 0) (by kernel_rfl)) ?_
  rintro _ w2 ⟨g2, rfl, h2⟩
  refine wq_p 1 [(8, (Value.slice none 0 0))] ?_
  refine wl_end rfl ?_
  refine seq_n hK1 ?_
  refine wp_seq_k ?_
  intro K3 hK3
  refine reg_lit ?_
  refine wq_p 3 [(14, (pt m 2)), (13, (pt m 0)), (12, (pt m 0))] ?_
  refine wq_v (some 15) (Value.int .u64 (((b : Nat) : Int))) (e_load (h2.at_ 1 rfl) 34 (.tmp 14) (by kernel_rfl) 2 (Value.int .u64 (((b : Nat) : Int))) (by kernel_rfl) (by kernel_rfl) (by kernel_rfl)) ?_
  refine wq_v (some 16) (Value.int .u64 ((((((b))) + 1 : Nat) : Int))) (e_add64 _ _ _ _ rfl (((b))) 1 (by kernel_rfl) (by kernel_rfl) ((((b))) + 1) rfl (by omega) _) ?_
  refine wq_p 2 [(18, (pt m 2)), (17, (pt m 0))] ?_
  refine wq_to none (x_store h2 1 rfl 34 (.tmp 18) (.tmp 16) (by kernel_rfl) 2 (Value.int .u64 ((((((b))) + 1 : Nat) : Int))) ([sv, av, (Value.int .u64 ((((((b))) + 1 : Nat) : Int)))]) (by kernel_rfl) (by kernel_rfl) (by kernel_rfl) (by kernel_rfl) rfl rfl (by kernel_rfl)) ?_
  rintro _ w4 h4
  refine wl_end rfl ?_
  refine seq_n hK3 ?_
  refine wp_seq_k ?_
  intro K5 hK5
  refine reg_lit ?_
  refine wq_p 3 [(21, (pt m 2)), (20, (pt m 0)), (19, (pt m 0))] ?_
  refine wq_v (some 22) (Value.int .u64 ((((((b))) + 1 : Nat) : Int))) (e_load (h4.at_ 1 rfl) 34 (.tmp 21) (by kernel_rfl) 2 (Value.int .u64 ((((((b))) + 1 : Nat) : Int))) (by kernel_rfl) (by kernel_rfl) (by kernel_rfl)) ?_
  refine wq_to (some 23) (x_bytesE h4 20 [(Value.int .u64 ((((((b))) + 1 : Nat) : Int)))] (by kernel_rfl) (put_any ((((((b))) + 1))) _) (put8 ((((((b))) + 1)))) (8) rfl rfl) ?_
  rintro _ w6 ⟨A6, c6, rfl, h6⟩
  refine wq_p 1 [(9, (Value.slice A6 8 c6))] ?_
  refine wl_end rfl ?_
  refine seq_n hK5 ?_
  refine wp_seq_k ?_
  intro K7 hK7
  refine reg_lit ?_
  refine wq_v (some 24) (Value.agg (vb (kl K)).toArray) (e_loads (h6.at_ 1 rfl) 28 (.tmp 5) (by kernel_rfl) 0 (vb (kl K)) (by kernel_rfl) (by kernel_rfl) (by kernel_rfl)) ?_
  refine wq_p 1 [(25, (Value.int .i64 n))] ?_
  refine wq_to (some 26) (x_key h6 (l := partK (kl K) D.data.toList 101) 22 [(Value.agg (vb (kl K)).toArray), (Value.int .i64 n), (Value.string (⟨#[101]⟩))] (by kernel_rfl) (part_len _ _ _) (part_any K n D 101 hi hD _)) ?_
  rintro _ w8 ⟨K8, rfl, hK8, h8⟩
  refine wq_to (some 27) (x_aesNew h8 K8 (by kernel_rfl)) ?_
  rintro _ w9 ⟨ci9, bx9, rfl, h9⟩
  refine wq_p 1 [(28, (Value.slice A6 8 c6))] ?_
  refine wq_to (some 29) (x_key h9 (l := (put8 ((((((b))) + 1)))) ++ List.replicate 8 0) 24 [(Value.slice A6 8 c6)] (by kernel_rfl) (by have e8 : (put8 ((((((b))) + 1)))).length = 8 := (put8_len _); rw [List.length_append, List.length_replicate, e8]) (from_any (Value.slice A6 8 c6) (put8 ((((((b))) + 1)))) (put8_len _) _ (OB.sb (h9.at_ 0 rfl)))) ?_
  rintro _ w10 ⟨K10, rfl, hK10, h10⟩
  refine wq_p 1 [(30, (Value.slice B body.length d))] ?_
  refine wq_to (some 31) (x_bytesE h10 23 [(pt ci9 0), (Value.agg (vb (kl K10)).toArray), (Value.slice B body.length d)] (by kernel_rfl) (stream_any ci9 bx9 sbox (keys sbox (kl K8)) (kl K10) (body) (Value.slice B body.length d) _ (h10.rd 0 rfl) (kl_len _) (h10.rd 1 rfl) (by omega)) (ciph (kl K) D.data.toList (put8 ((((((b))) + 1)))) body) (body.length) (by rw [hK8, hK10]; rfl) (ciph_len _ _ _ _).symm) ?_
  rintro _ w11 ⟨A11, c11, rfl, h11⟩
  refine wq_p 1 [(10, (Value.slice A11 body.length c11))] ?_
  refine wl_end rfl ?_
  refine seq_n hK7 ?_
  refine wp_seq_k ?_
  intro K12 hK12
  refine reg_lit ?_
  refine wq_v (some 32) (Value.agg (vb (kl K)).toArray) (e_loads (h11.at_ 2 rfl) 28 (.tmp 5) (by kernel_rfl) 0 (vb (kl K)) (by kernel_rfl) (by kernel_rfl) (by kernel_rfl)) ?_
  refine wq_p 1 [(33, (Value.int .i64 n))] ?_
  refine wq_to (some 34) (x_key h11 (l := partK (kl K) D.data.toList 109) 22 [(Value.agg (vb (kl K)).toArray), (Value.int .i64 n), (Value.string (⟨#[109]⟩))] (by kernel_rfl) (part_len _ _ _) (part_any K n D 109 hi hD _)) ?_
  rintro _ w13 ⟨K13, rfl, hK13, h13⟩
  refine wq_to (some 11) (x_new h13 28 (vb (List.replicate 16 0)) (fun r => pt r 0) (by kernel_rfl)) ?_
  rintro _ w14 ⟨g14, rfl, h14⟩
  refine wq_to none (x_stores h14 0 rfl 28 (.tmp 11) (.tmp 34) (by kernel_rfl) 0 (vb (kl K13)) (vb (kl K13)) (by kernel_rfl) (by kernel_rfl) (by kernel_rfl) (by kernel_rfl) (by kernel_rfl) (by kernel_rfl)) ?_
  rintro _ w15 h15
  refine wl_end rfl ?_
  refine seq_n hK12 ?_
  refine wp_seq_k ?_
  intro K16 hK16
  refine wp_reset 45 [(0, (pt m 0)), (1, (Value.agg (vb (kl K)).toArray)), (2, (Value.int .i64 n)), (3, (Value.slice B body.length d)), (5, (pt g2 0)), (8, (Value.slice none 0 0)), (9, (Value.slice A6 8 c6)), (10, (Value.slice A11 body.length c11)), (11, (pt g14 0))] (fun x17 => ?_)
  refine reg_lit ?_
  refine wq_p 5 [(39, (Value.slice A11 body.length c11)), (38, (Value.slice A6 8 c6)), (37, (Value.slice (some ⟨g14, 0, none⟩) 16 16)), (36, (Value.slice A11 body.length c11)), (35, (Value.slice A6 8 c6))] ?_
  refine wq_to (some 40) (x_bs h15 22 ([(Value.slice A6 8 c6), (Value.slice A11 body.length c11)]) 2 (by kernel_rfl)) ?_
  rintro _ w18 ⟨g18, rfl, h18⟩
  refine wq_to (some 41) (x_bytesE h18 26 [(Value.slice (some ⟨g14, 0, none⟩) 16 16), (Value.slice (some ⟨g18, 0, none⟩) 2 2)] (by kernel_rfl) (sum_any (Value.slice (some ⟨g14, 0, none⟩) 16 16) (kl K13) (Value.slice (some ⟨g18, 0, none⟩) 2 2) [put8 ((((((b))) + 1))), ciph (kl K) D.data.toList (put8 ((((((b))) + 1)))) body] _ (SB.blk16 (K := K13) (h18.at_ 1 rfl)) (bs2 (h18.at_ 0 rfl) (OB.sb (h18.at_ 3 rfl)) (OB.sb (h18.at_ 2 rfl))) (by rw [kl_len]; decide) (by simp) (by simp [put8_len, ciph_len]; omega)) (macF (kl K13) ((put8 ((((((b))) + 1)))) ++ (ciph (kl K) D.data.toList (put8 ((((((b))) + 1)))) body))) (32) (by simp) (mac_len _ _).symm) ?_
  rintro _ w19 ⟨A19, c19, rfl, h19⟩
  refine wq_v (some 42) (cutS (Value.slice A19 32 c19) 0 16) (e_cut_h (OB.sb (h19.at_ 0 rfl)) (.tmp 41) (.const (Value.int .i64 16)) (by kernel_rfl) (by kernel_rfl) .i64 16 (by kernel_rfl) (by first | omega | (rw [mac_len]; decide) | (rw [sha_len]; decide) | (rw [put8_len]; decide)) _) ?_
  refine wq_to (some 43) (x_bs h19 22 ([(Value.slice A6 8 c6), (Value.slice A11 body.length c11), (cutS (Value.slice A19 32 c19) 0 16)]) 3 (by kernel_rfl)) ?_
  rintro _ w20 ⟨g20, rfl, h20⟩
  refine wq_to (some 44) (x_bytesE h20 25 [(Value.slice (some ⟨g20, 0, none⟩) 3 3)] (by kernel_rfl) (joined_any (Value.slice (some ⟨g20, 0, none⟩) 3 3) [put8 ((((((b))) + 1))), ciph (kl K) D.data.toList (put8 ((((((b))) + 1)))) body, ((macF (kl K13) ((put8 ((((((b))) + 1)))) ++ (ciph (kl K) D.data.toList (put8 ((((((b))) + 1)))) body))).take 16).drop 0] _ (bs3 (h20.at_ 0 rfl) (OB.sb (h20.at_ 5 rfl)) (OB.sb (h20.at_ 4 rfl)) (SB.cut (OB.sb (h20.at_ 1 rfl)) 0 16 (by first | omega | (rw [mac_len]; decide) | (rw [sha_len]; decide) | (rw [put8_len]; decide)))) (by simp [put8_len, ciph_len, mac_len]; omega)) ((put8 ((((((b))) + 1)))) ++ (ciph (kl K) D.data.toList (put8 ((((((b))) + 1)))) body) ++ (((macF (kl K13) ((put8 ((((((b))) + 1)))) ++ (ciph (kl K) D.data.toList (put8 ((((((b))) + 1)))) body))).take 16).drop 0)) (((put8 ((((((b))) + 1)))) ++ (ciph (kl K) D.data.toList (put8 ((((((b))) + 1)))) body) ++ (((macF (kl K13) ((put8 ((((((b))) + 1)))) ++ (ciph (kl K) D.data.toList (put8 ((((((b))) + 1)))) body))).take 16).drop 0)).length) (by simp) rfl) ?_
  rintro _ w21 ⟨A21, c21, rfl, h21⟩
  refine wq_p 1 [(8, (Value.slice A21 (((put8 ((((((b))) + 1)))) ++ (ciph (kl K) D.data.toList (put8 ((((((b))) + 1)))) body) ++ (((macF (kl K13) ((put8 ((((((b))) + 1)))) ++ (ciph (kl K) D.data.toList (put8 ((((((b))) + 1)))) body))).take 16).drop 0)).length) c21))] ?_
  refine wl_end rfl ?_
  refine seq_n hK16 ?_
  refine wp_ret ?_
  refine post_1 rfl (by kernel_rfl) (rtmp (v := (Value.slice A21 (((put8 ((((((b))) + 1)))) ++ (ciph (kl K) D.data.toList (put8 ((((((b))) + 1)))) body) ++ (((macF (kl K13) ((put8 ((((((b))) + 1)))) ++ (ciph (kl K) D.data.toList (put8 ((((((b))) + 1)))) body))).take 16).drop 0)).length) c21)) (by kernel_rfl)) ?_
  have e22 : (put8 ((((((b))) + 1)))) ++ (ciph (kl K) D.data.toList (put8 ((((((b))) + 1)))) body) ++ (((macF (kl K13) ((put8 ((((((b))) + 1)))) ++ (ciph (kl K) D.data.toList (put8 ((((((b))) + 1)))) body))).take 16).drop 0) = boxR (b + 1) (kl K) D.data.toList body := by rw [hK13]; unfold boxR tagOf; rw [List.drop_zero, List.append_assoc]
  rw [e22] at h21
  exact ⟨_, _, by rw [e22], h21.sel [8, 0] [] (by decide) rfl rfl⟩
def ROPost (w : World) (r : Option Bytes) (e : Ending) (w' : World) : Prop := ∃ v, e = .returned (.tuple #[v, .bool r.isSome]) ∧ OB w' w.heap.size v (r.getD []) ∧ Below w.heap.size w w'
theorem ropost_of {w w' : World} {ro rs : List Res} {r : Bytes} {v : Value} {x : Option Bytes} (h : Hp (fun _ => False) w w' ro rs) (i : Nat) (hi : rs[i]? = some (rOB v r)) (e : x = some r) : ROPost w x (.returned (.tuple #[v, .bool true])) w' := by
  subst e
  obtain ⟨v', he, ho, hb⟩ := bpost_of h i hi rfl
  injection he with he
  subst he
  exact ⟨v, rfl, ho, hb⟩
theorem ropost_no {w w' : World} {x : Option Bytes} (e : x = none) (hb : Below w.heap.size w w') : ROPost w x (.returned (.tuple #[.slice none 0 0, .bool false])) w' := by
  subst e
  exact ⟨_, rfl, OB.nil _ _, hb⟩
set_option maxRecDepth 100000 in
set_option maxHeartbeats 4000000 in
theorem ropen_any (mv : Value) (K : Fin 16 → UInt8) (n : Int) (D : ByteArray) (hi : ItoaIs n D) (hD : D.size ≤ 1000) (bv : Value) (box : Bytes) (hl : box.length ≤ 1048576) (w : World) (hv : SB w bv box) :
    Calls Tryd.prog 10 #[mv, .agg (vb (kl K)).toArray, .int .i64 n, bv] w (ROPost w (openR (kl K) D.data.toList box)) := by
  obtain ⟨B, d, rfl, hc1, hc2⟩ := sb_form hv
  have h0 := Hp.ro1 (rSB (.slice B box.length d) box) hv
  refine enter 45 Tryd.func10 rfl rfl ?_
  refine wp_reset 49 [(0, mv), (1, (Value.agg (vb (kl K)).toArray)), (2, (Value.int .i64 n)), (3, (Value.slice B box.length d))] (fun x0 => ?_)
  refine wp_seq_k ?_
  intro K1 hK1
  refine reg_lit ?_
  refine wq_to (some 5) (x_new h0 28 (vb (kl K)) (fun r => pt r 0) (by kernel_rfl)) ?_
  rintro _ w2 ⟨g2, rfl, h2⟩
  refine wq_p 2 [(9, (Value.bool false)), (8, (Value.slice none 0 0))] ?_
  refine wl_end rfl ?_
  refine seq_n hK1 ?_
  refine wp_seq_k ?_
  intro K3 hK3
  refine wp_seq_k ?_
  intro K4 hK4
  refine reg_lit ?_
  refine wq_p 3 [(16, (Value.bool (decide ((box.length : Int) < 24)))), (15, (Value.int .i64 ((box.length : Int)))), (14, (Value.slice B box.length d))] ?_
  refine wl_end rfl ?_
  refine seq_n hK4 ?_
  refine wp_if ((box.length : Int) < 24) (by kernel_rfl) (fun b5 => ?_) (fun b5 => ?_)
  ·
   refine wp_seq_k ?_
   intro K6 hK6
   refine reg_lit ?_
   refine wq_p 2 [(9, (Value.bool false)), (8, (Value.slice none 0 0))] ?_
   refine wl_end rfl ?_
   refine seq_n hK6 ?_
   refine wp_ret ?_
   refine seq_r ?_
   refine post_2 rfl (by kernel_rfl) (rtmp (v := (Value.slice none 0 0)) (by kernel_rfl)) (rtmp (v := (Value.bool false)) (by kernel_rfl)) ?_
   exact ropost_no (if_pos (by omega)) h2.below0
  ·
   refine wp_skip ?_
   refine seq_n hK3 ?_
   refine wp_seq_k ?_
   intro K7 hK7
   refine pR_go h2 14 (fun W => True) [(18, [3], 0), (19, [17], 1), (20, [3], 0), (21, [3], 0), (22, [20], 8), (23, [21], 16), (24, [19, 22], 36), (25, [3], 0), (26, [3], 0), (27, [25], 256), (28, [26], 512), (29, [24, 27], 1152), (11, [18], 3), (12, [23], 4223), (13, [28], 16383)] rfl (fun _ d _ _ _ h => by cases d <;> exact h) ?_
   intro hs8 w8 h8
   refine pR_p 8 [0, 2, 3, 4, 7, 8, 9] [(26, (Value.int .i64 ((box.length : Int)))), (25, (Value.slice B box.length d)), (24, (Value.slice B box.length d)), (21, (Value.int .i64 ((box.length : Int)))), (20, (Value.slice B box.length d)), (19, (Value.slice B box.length d)), (17, (Value.slice B box.length d))] 925 hs8 trivial ?_
   refine pR_v 1 (some 18) (cutS (Value.slice B box.length d) 0 8) 927 rfl hs8 trivial (fun W hW => e_cut_h (h8.rd 0 rfl) (.tmp 17) (.const (Value.int .i64 8)) (by kernel_rfl) (by kernel_rfl) .i64 8 (by kernel_rfl) (by first | omega | (rw [mac_len]; decide)) _) ?_
   refine pR_p 6 [12] [(10, (cutS (Value.slice B box.length d) 0 8))] 5023 hs8 trivial ?_
   refine pR_v 5 (some 22) (Value.int .i64 ((((box.length) - 16 : Nat) : Int))) 5055 rfl hs8 trivial (fun W hW => exec_sub _ _ _ _ rfl ((box.length : Int)) 16 (by kernel_rfl) (by kernel_rfl) ((((box.length) - 16 : Nat) : Int)) (by omega) (by omega) (by omega) _) ?_
   refine pR_v 6 (some 23) (cutS (Value.slice B box.length d) 8 ((((box.length) - 16)))) 5119 rfl hs8 trivial (fun W hW => e_cut_lh (h8.rd 0 rfl) (.tmp 19) (.const (Value.int .i64 8)) (.tmp 22) (by kernel_rfl) (by kernel_rfl) .i64 .i64 8 ((((box.length) - 16))) (by kernel_rfl) (by kernel_rfl) (by first | omega | (rw [mac_len]; decide)) (by first | omega | (rw [mac_len]; decide)) _) ?_
   refine pR_p 3 [13] [(11, (cutS (Value.slice B box.length d) 8 ((((box.length) - 16)))))] 13311 hs8 trivial ?_
   refine pR_v 10 (some 27) (Value.int .i64 ((((box.length) - 16 : Nat) : Int))) 14335 rfl hs8 trivial (fun W hW => exec_sub _ _ _ _ rfl ((box.length : Int)) 16 (by kernel_rfl) (by kernel_rfl) ((((box.length) - 16 : Nat) : Int)) (by omega) (by omega) (by omega) _) ?_
   refine pR_v 11 (some 28) (cutS (Value.slice B box.length d) ((((box.length) - 16))) ((box).length)) 16383 rfl hs8 trivial (fun W hW => e_cut_l (h8.rd 0 rfl) (.tmp 24) (.tmp 27) (by kernel_rfl) (by kernel_rfl) .i64 ((((box.length) - 16))) (by kernel_rfl) (by first | omega | (rw [mac_len]; decide)) _) ?_
   refine pR_to 14 (some 12) 32767 rfl hs8 (OpTo.run (cutS (Value.slice B box.length d) ((((box.length) - 16))) ((box).length)) (pureOp_run (by kernel_rfl) _) (R := fun v w => v = (cutS (Value.slice B box.length d) ((((box.length) - 16))) ((box).length)) ∧ w8 = w) ⟨rfl, rfl⟩) ?_
   rintro _ _ ⟨rfl, rfl⟩
   refine ⟨fun h => absurd h (by decide), ?_⟩
   refine pR_done hs8 ?_ _
   refine seq_n hK7 ?_
   refine wp_seq_k ?_
   intro K9 hK9
   refine reg_lit ?_
   refine wq_v (some 29) (Value.agg (vb (kl K)).toArray) (e_loads (h8.at_ 0 rfl) 28 (.tmp 5) (by kernel_rfl) 0 (vb (kl K)) (by kernel_rfl) (by kernel_rfl) (by kernel_rfl)) ?_
   refine wq_p 1 [(30, (Value.int .i64 n))] ?_
   refine wq_to (some 31) (x_key h8 (l := partK (kl K) D.data.toList 109) 22 [(Value.agg (vb (kl K)).toArray), (Value.int .i64 n), (Value.string (⟨#[109]⟩))] (by kernel_rfl) (part_len _ _ _) (part_any K n D 109 hi hD _)) ?_
   rintro _ w10 ⟨K10, rfl, hK10, h10⟩
   refine wq_to (some 13) (x_new h10 28 (vb (List.replicate 16 0)) (fun r => pt r 0) (by kernel_rfl)) ?_
   rintro _ w11 ⟨g11, rfl, h11⟩
   refine wq_to none (x_stores h11 0 rfl 28 (.tmp 13) (.tmp 31) (by kernel_rfl) 0 (vb (kl K10)) (vb (kl K10)) (by kernel_rfl) (by kernel_rfl) (by kernel_rfl) (by kernel_rfl) (by kernel_rfl) (by kernel_rfl)) ?_
   rintro _ w12 h12
   refine wl_end rfl ?_
   refine seq_n hK9 ?_
   refine wp_seq_k ?_
   intro K13 hK13
   refine wp_seq_k ?_
   intro K14 hK14
   by_cases b15 : tagOf (kl K) D.data.toList (box.take 8) (midOf box) = box.drop (box.length - 16)
   ·
    refine reg_lit ?_
    refine wq_p 3 [(34, (cutS (Value.slice B box.length d) 8 ((((box.length) - 16))))), (33, (cutS (Value.slice B box.length d) 0 8)), (32, (Value.slice (some ⟨g11, 0, none⟩) 16 16))] ?_
    refine wq_to (some 35) (x_bs h12 22 ([(cutS (Value.slice B box.length d) 0 8), (cutS (Value.slice B box.length d) 8 ((((box.length) - 16))))]) 2 (by kernel_rfl)) ?_
    rintro _ w16 ⟨g16, rfl, h16⟩
    refine wq_to (some 36) (x_bytesE h16 26 [(Value.slice (some ⟨g11, 0, none⟩) 16 16), (Value.slice (some ⟨g16, 0, none⟩) 2 2)] (by kernel_rfl) (sum_any (Value.slice (some ⟨g11, 0, none⟩) 16 16) (kl K10) (Value.slice (some ⟨g16, 0, none⟩) 2 2) [((box).take 8).drop 0, ((box).take ((((box.length) - 16)))).drop 8] _ (SB.blk16 (K := K10) (h16.at_ 1 rfl)) (bs2 (h16.at_ 0 rfl) (SB.cut (h16.rd 0 rfl) 0 8 (by first | omega | (rw [mac_len]; decide))) (SB.cut (h16.rd 0 rfl) 8 ((((box.length) - 16))) (by first | omega | (rw [mac_len]; decide)))) (by rw [kl_len]; decide) (by simp) (by simp; omega)) (macF (kl K10) ((((box).take 8).drop 0) ++ (((box).take ((((box.length) - 16)))).drop 8))) (32) (by simp) (mac_len _ _).symm) ?_
    rintro _ w17 ⟨A17, c17, rfl, h17⟩
    refine wq_v (some 37) (cutS (Value.slice A17 32 c17) 0 16) (e_cut_h (OB.sb (h17.at_ 0 rfl)) (.tmp 36) (.const (Value.int .i64 16)) (by kernel_rfl) (by kernel_rfl) .i64 16 (by kernel_rfl) (by first | omega | (rw [mac_len]; decide)) _) ?_
    refine wq_p 1 [(38, (cutS (Value.slice B box.length d) ((((box.length) - 16))) ((box).length)))] ?_
    refine wq_to (some 39) (x_equal h17 (((macF (kl K10) ((((box).take 8).drop 0) ++ (((box).take ((((box.length) - 16)))).drop 8))).take 16).drop 0) (((box).take ((box).length)).drop ((((box.length) - 16)))) (cutS (Value.slice A17 32 c17) 0 16) (cutS (Value.slice B box.length d) ((((box.length) - 16))) ((box).length)) (by kernel_rfl) (SB.cut (OB.sb (h17.at_ 0 rfl)) 0 16 (by first | omega | (rw [mac_len]; decide))) (SB.cut (h17.rd 0 rfl) ((((box.length) - 16))) ((box).length) (by first | omega | (rw [mac_len]; decide))) true (by rw [hK10]; have e1 : (box.take box.length).drop (box.length - 16) = box.drop (box.length - 16) := (by rw [List.take_length]); rw [e1]; exact decide_eq_true b15)) ?_
    rintro _ w18 ⟨rfl, h18⟩
    refine wq_p 1 [(40, (Value.bool false))] ?_
    refine wl_end rfl ?_
    refine seq_n hK14 ?_
    refine wp_cond_false (by kernel_rfl) ?_
    refine wp_skip ?_
    refine seq_n hK13 ?_
    refine wp_seq_k ?_
    intro K19 hK19
    refine wp_reset 49 [(1, (Value.agg (vb (kl K)).toArray)), (2, (Value.int .i64 n)), (3, (Value.slice B box.length d)), (5, (pt g2 0)), (8, (Value.slice none 0 0)), (9, (Value.bool false)), (10, (cutS (Value.slice B box.length d) 0 8)), (11, (cutS (Value.slice B box.length d) 8 ((((box.length) - 16))))), (12, (cutS (Value.slice B box.length d) ((((box.length) - 16))) ((box).length))), (13, (pt g11 0)), (16, (Value.bool (decide ((box.length : Int) < 24)))), (40, (Value.bool false))] (fun x20 => ?_)
    refine reg_lit ?_
    refine wq_v (some 41) (Value.agg (vb (kl K)).toArray) (e_loads (h18.at_ 3 rfl) 28 (.tmp 5) (by kernel_rfl) 0 (vb (kl K)) (by kernel_rfl) (by kernel_rfl) (by kernel_rfl)) ?_
    refine wq_p 1 [(42, (Value.int .i64 n))] ?_
    refine wq_to (some 43) (x_key h18 (l := partK (kl K) D.data.toList 101) 22 [(Value.agg (vb (kl K)).toArray), (Value.int .i64 n), (Value.string (⟨#[101]⟩))] (by kernel_rfl) (part_len _ _ _) (part_any K n D 101 hi hD _)) ?_
    rintro _ w21 ⟨K21, rfl, hK21, h21⟩
    refine wq_to (some 44) (x_aesNew h21 K21 (by kernel_rfl)) ?_
    rintro _ w22 ⟨ci22, bx22, rfl, h22⟩
    refine wq_p 1 [(45, (cutS (Value.slice B box.length d) 0 8))] ?_
    refine wq_to (some 46) (x_key h22 (l := (((box).take 8).drop 0) ++ List.replicate 8 0) 24 [(cutS (Value.slice B box.length d) 0 8)] (by kernel_rfl) (by have e8 : (((box).take 8).drop 0).length = 8 := (by rw [len_cut _ _ _ (by omega)]); rw [List.length_append, List.length_replicate, e8]) (from_any (cutS (Value.slice B box.length d) 0 8) (((box).take 8).drop 0) (by rw [len_cut _ _ _ (by omega)]) _ (SB.cut (h22.rd 1 rfl) 0 8 (by first | omega | (rw [mac_len]; decide))))) ?_
    rintro _ w23 ⟨K23, rfl, hK23, h23⟩
    refine wq_p 1 [(47, (cutS (Value.slice B box.length d) 8 ((((box.length) - 16)))))] ?_
    refine wq_to (some 48) (x_bytesE h23 23 [(pt ci22 0), (Value.agg (vb (kl K23)).toArray), (cutS (Value.slice B box.length d) 8 ((((box.length) - 16))))] (by kernel_rfl) (stream_any ci22 bx22 sbox (keys sbox (kl K21)) (kl K23) (((box).take ((((box.length) - 16)))).drop 8) (cutS (Value.slice B box.length d) 8 ((((box.length) - 16)))) _ (h23.rd 0 rfl) (kl_len _) (SB.cut (h23.rd 1 rfl) 8 ((((box.length) - 16))) (by first | omega | (rw [mac_len]; decide))) (by simp; omega)) (ciph (kl K) D.data.toList (box.take 8) (midOf box)) ((midOf box).length) (by rw [hK21, hK23]; rfl) (ciph_len _ _ _ _).symm) ?_
    rintro _ w24 ⟨A24, c24, rfl, h24⟩
    refine wq_p 2 [(9, (Value.bool true)), (8, (Value.slice A24 ((midOf box).length) c24))] ?_
    refine wl_end rfl ?_
    refine seq_n hK19 ?_
    refine wp_ret ?_
    refine post_2 rfl (by kernel_rfl) (rtmp (v := (Value.slice A24 ((midOf box).length) c24)) (by kernel_rfl)) (rtmp (v := (Value.bool true)) (by kernel_rfl)) ?_
    exact ropost_of h24 0 rfl (by unfold openR; rw [if_neg (by omega), if_pos b15])
   ·
    refine reg_lit ?_
    refine wq_p 3 [(34, (cutS (Value.slice B box.length d) 8 ((((box.length) - 16))))), (33, (cutS (Value.slice B box.length d) 0 8)), (32, (Value.slice (some ⟨g11, 0, none⟩) 16 16))] ?_
    refine wq_to (some 35) (x_bs h12 22 ([(cutS (Value.slice B box.length d) 0 8), (cutS (Value.slice B box.length d) 8 ((((box.length) - 16))))]) 2 (by kernel_rfl)) ?_
    rintro _ w25 ⟨g25, rfl, h25⟩
    refine wq_to (some 36) (x_bytesE h25 26 [(Value.slice (some ⟨g11, 0, none⟩) 16 16), (Value.slice (some ⟨g25, 0, none⟩) 2 2)] (by kernel_rfl) (sum_any (Value.slice (some ⟨g11, 0, none⟩) 16 16) (kl K10) (Value.slice (some ⟨g25, 0, none⟩) 2 2) [((box).take 8).drop 0, ((box).take ((((box.length) - 16)))).drop 8] _ (SB.blk16 (K := K10) (h25.at_ 1 rfl)) (bs2 (h25.at_ 0 rfl) (SB.cut (h25.rd 0 rfl) 0 8 (by first | omega | (rw [mac_len]; decide))) (SB.cut (h25.rd 0 rfl) 8 ((((box.length) - 16))) (by first | omega | (rw [mac_len]; decide)))) (by rw [kl_len]; decide) (by simp) (by simp; omega)) (macF (kl K10) ((((box).take 8).drop 0) ++ (((box).take ((((box.length) - 16)))).drop 8))) (32) (by simp) (mac_len _ _).symm) ?_
    rintro _ w26 ⟨A26, c26, rfl, h26⟩
    refine wq_v (some 37) (cutS (Value.slice A26 32 c26) 0 16) (e_cut_h (OB.sb (h26.at_ 0 rfl)) (.tmp 36) (.const (Value.int .i64 16)) (by kernel_rfl) (by kernel_rfl) .i64 16 (by kernel_rfl) (by first | omega | (rw [mac_len]; decide)) _) ?_
    refine wq_p 1 [(38, (cutS (Value.slice B box.length d) ((((box.length) - 16))) ((box).length)))] ?_
    refine wq_to (some 39) (x_equal h26 (((macF (kl K10) ((((box).take 8).drop 0) ++ (((box).take ((((box.length) - 16)))).drop 8))).take 16).drop 0) (((box).take ((box).length)).drop ((((box.length) - 16)))) (cutS (Value.slice A26 32 c26) 0 16) (cutS (Value.slice B box.length d) ((((box.length) - 16))) ((box).length)) (by kernel_rfl) (SB.cut (OB.sb (h26.at_ 0 rfl)) 0 16 (by first | omega | (rw [mac_len]; decide))) (SB.cut (h26.rd 0 rfl) ((((box.length) - 16))) ((box).length) (by first | omega | (rw [mac_len]; decide))) false (by rw [hK10]; have e1 : (box.take box.length).drop (box.length - 16) = box.drop (box.length - 16) := (by rw [List.take_length]); rw [e1]; exact decide_eq_false b15)) ?_
    rintro _ w27 ⟨rfl, h27⟩
    refine wq_p 1 [(40, (Value.bool true))] ?_
    refine wl_end rfl ?_
    refine seq_n hK14 ?_
    refine wp_cond_true (by kernel_rfl) ?_
    refine wp_seq_k ?_
    intro K28 hK28
    refine wp_reset 49 [(1, (Value.agg (vb (kl K)).toArray)), (2, (Value.int .i64 n)), (3, (Value.slice B box.length d)), (5, (pt g2 0)), (8, (Value.slice none 0 0)), (9, (Value.bool false)), (10, (cutS (Value.slice B box.length d) 0 8)), (11, (cutS (Value.slice B box.length d) 8 ((((box.length) - 16))))), (12, (cutS (Value.slice B box.length d) ((((box.length) - 16))) ((box).length))), (13, (pt g11 0)), (16, (Value.bool (decide ((box.length : Int) < 24)))), (40, (Value.bool true))] (fun x29 => ?_)
    refine reg_lit ?_
    refine wq_p 2 [(9, (Value.bool false)), (8, (Value.slice none 0 0))] ?_
    refine wl_end rfl ?_
    refine seq_n hK28 ?_
    refine wp_ret ?_
    refine seq_r ?_
    refine post_2 rfl (by kernel_rfl) (rtmp (v := (Value.slice none 0 0)) (by kernel_rfl)) (rtmp (v := (Value.bool false)) (by kernel_rfl)) ?_
    exact ropost_no (by unfold openR; rw [if_neg (by omega), if_neg b15]) h27.below0
set_option maxRecDepth 100000 in
set_option maxHeartbeats 4000000 in
theorem rdigest_any (mv bv : Value) (b : Bytes) (hl : b.length ≤ 1048576) (w : World) (hv : SB w bv b) :
    Calls Tryd.prog 14 #[mv, bv] w fun e w' => ∃ A c, e = .returned (.slice A 16 c) ∧ SB w' (.slice A 16 c) ((shaF b).take 16) ∧ Below w.heap.size w w' := by
  obtain ⟨B, d, rfl, hc1, hc2⟩ := sb_form hv
  have h0 := Hp.ro1 (rSB (.slice B b.length d) b) hv
  refine enter 7 Tryd.func14 rfl rfl ?_
  refine wp_reset 9 [(0, mv), (1, (Value.slice B b.length d))] (fun x0 => ?_)
  refine wp_seq_k ?_
  intro K1 hK1
  refine reg_lit ?_
  refine wq_p 1 [(4, (Value.slice none 0 0))] ?_
  refine wl_end rfl ?_
  refine seq_n hK1 ?_
  refine wp_seq_k ?_
  intro K2 hK2
  refine reg_lit ?_
  refine wq_p 1 [(5, (Value.slice B b.length d))] ?_
  refine wq_to (some 6) (x_bs h0 22 ([(Value.slice B b.length d)]) 1 (by kernel_rfl)) ?_
  rintro _ w3 ⟨g3, rfl, h3⟩
  refine wq_to (some 7) (x_bytesE h3 35 [(Value.slice (some ⟨g3, 0, none⟩) 1 1)] (by kernel_rfl) (of_any (Value.slice (some ⟨g3, 0, none⟩) 1 1) [b] _ (bs1 (h3.at_ 0 rfl) (h3.rd 0 rfl)) (by simp; omega)) (shaF (b)) (32) (by simp) (sha_len _).symm) ?_
  rintro _ w4 ⟨A4, c4, rfl, h4⟩
  refine wq_v (some 8) (cutS (Value.slice A4 32 c4) 0 16) (e_cut_h (OB.sb (h4.at_ 0 rfl)) (.tmp 7) (.const (Value.int .i64 16)) (by kernel_rfl) (by kernel_rfl) .i64 16 (by kernel_rfl) (by first | omega | (rw [mac_len]; decide) | (rw [sha_len]; decide) | (rw [put8_len]; decide)) _) ?_
  refine wq_p 1 [(4, (cutS (Value.slice A4 32 c4) 0 16))] ?_
  refine wl_end rfl ?_
  refine seq_n hK2 ?_
  refine wp_ret ?_
  refine post_1 rfl (by kernel_rfl) (rtmp (v := (cutS (Value.slice A4 32 c4) 0 16)) (by kernel_rfl)) ?_
  exact ⟨_, _, rfl, (SB.cut (OB.sb (h4.at_ 0 rfl)) 0 16 (by first | omega | (rw [mac_len]; decide) | (rw [sha_len]; decide) | (rw [put8_len]; decide))), h4.below0⟩
set_option maxRecDepth 100000 in
set_option maxHeartbeats 4000000 in
theorem rtext_any (mv : Value) (p s : ByteArray) (hp : p.size ≤ 1048576) (hs : s.size ≤ 1048576) (w : World) : Calls Tryd.prog 18 #[mv, .string p, .string s] w (APost w (textS p.data.toList s.data.toList)) := by
  have h0 := Hp.nil (fun _ => False) w
  refine enter 7 Tryd.func18 rfl rfl ?_
  refine wp_reset 10 [(0, mv), (1, (Value.string p)), (2, (Value.string s))] (fun x0 => ?_)
  refine wp_seq_k ?_
  intro K1 hK1
  refine reg_lit ?_
  refine wq_to (some 6) (x_new h0 28 (vb (List.replicate 16 0)) (fun r => pt r 0) (by kernel_rfl)) ?_
  rintro _ w2 ⟨g2, rfl, h2⟩
  refine wl_end rfl ?_
  refine seq_n hK1 ?_
  refine wp_seq_k ?_
  intro K3 hK3
  refine reg_lit ?_
  refine wq_p 2 [(8, (Value.string s)), (7, (Value.string p))] ?_
  refine wq_to (some 9) (x_key h2 (l := textS p.data.toList s.data.toList) 39 [(Value.string p), (Value.string s)] (by kernel_rfl) (text_len _ _) (mtext_any p s hp hs _)) ?_
  rintro _ w4 ⟨K4, rfl, hK4, h4⟩
  refine wq_to none (x_stores h4 0 rfl 28 (.tmp 6) (.tmp 9) (by kernel_rfl) 0 (vb (kl K4)) (vb (kl K4)) (by kernel_rfl) (by kernel_rfl) (by kernel_rfl) (by kernel_rfl) (by kernel_rfl) (by kernel_rfl)) ?_
  rintro _ w5 h5
  refine wl_end rfl ?_
  refine seq_n hK3 ?_
  refine wp_ret ?_
  refine post_1 rfl (by kernel_rfl) (rcell (h5.at_ 0 rfl) (by kernel_rfl) (by kernel_rfl)) ?_
  exact ⟨by rw [hK4], h5.below0⟩
set_option maxRecDepth 100000 in
set_option maxHeartbeats 4000000 in
theorem rderive_any (mv : Value) (K : Fin 16 → UInt8) (s : ByteArray) (hs : s.size ≤ 1048576) (w : World) : Calls Tryd.prog 19 #[mv, .agg (vb (kl K)).toArray, .string s] w (APost w (derF (kl K) s.data.toList)) := by
  have h0 := Hp.nil (fun _ => False) w
  refine enter 7 Tryd.func19 rfl rfl ?_
  refine wp_reset 10 [(0, mv), (1, (Value.agg (vb (kl K)).toArray)), (2, (Value.string s))] (fun x0 => ?_)
  refine wp_seq_k ?_
  intro K1 hK1
  refine reg_lit ?_
  refine wq_to (some 4) (x_new h0 28 (vb (kl K)) (fun r => pt r 0) (by kernel_rfl)) ?_
  rintro _ w2 ⟨g2, rfl, h2⟩
  refine wq_to (some 6) (x_new h2 28 (vb (List.replicate 16 0)) (fun r => pt r 0) (by kernel_rfl)) ?_
  rintro _ w3 ⟨g3, rfl, h3⟩
  refine wl_end rfl ?_
  refine seq_n hK1 ?_
  refine wp_seq_k ?_
  intro K4 hK4
  refine reg_lit ?_
  refine wq_v (some 7) (Value.agg (vb (kl K)).toArray) (e_loads (h3.at_ 1 rfl) 28 (.tmp 4) (by kernel_rfl) 0 (vb (kl K)) (by kernel_rfl) (by kernel_rfl) (by kernel_rfl)) ?_
  refine wq_p 1 [(8, (Value.string s))] ?_
  refine wq_to (some 9) (x_key h3 (l := derF (kl K) s.data.toList) 40 [(Value.agg (vb (kl K)).toArray), (Value.string s)] (by kernel_rfl) (der_len _ _) (mderive_any K s hs _)) ?_
  rintro _ w5 ⟨K5, rfl, hK5, h5⟩
  refine wq_to none (x_stores h5 0 rfl 28 (.tmp 6) (.tmp 9) (by kernel_rfl) 0 (vb (kl K5)) (vb (kl K5)) (by kernel_rfl) (by kernel_rfl) (by kernel_rfl) (by kernel_rfl) (by kernel_rfl) (by kernel_rfl)) ?_
  rintro _ w6 h6
  refine wl_end rfl ?_
  refine seq_n hK4 ?_
  refine wp_ret ?_
  refine post_1 rfl (by kernel_rfl) (rcell (h6.at_ 0 rfl) (by kernel_rfl) (by kernel_rfl)) ?_
  exact ⟨by rw [hK5], h6.below0⟩
end Go.Proofs.YtpkelokaammmjaaDoor
end
/-! Steps: calls of package seal; plain laws on boxes. -/
section
namespace Go.Proofs.YtpkelokaammmjaaDoor
open Go.RowKit Go.QT
section
variable {o : Oper} {a : Act} {w w' : World} {F0 : Nat → Prop} {w0 : World} {ro rs : List Res}
theorem Hp.oneR (h : Hp F0 w0 w ro rs) (i : Nat) {r t : Res} (hi : rs[i]? = some r) (ht : t.Φ w) (d : t.dj r) : Hp r.F w w [t] [r] :=
  (Hp.one r (h.own i r hi)).addR t ht fun k u hk => by
    cases k with
    | zero => injection hk with hk; subst hk; exact d
    | succ k => simp at hk
theorem x_rnew (h : Hp F0 w0 w ro rs) (l : Bytes) (bv : Value) (hp : pureVal Tryd.prog (execOp a.eval o) = some (.enter 7 #[bv])) (hb : SB w bv l) (hl : l.length ≤ 1048576) :
    OpTo Tryd.prog o a w (fun u w' => ∃ m A c, u = pt m 0 ∧ Hp F0 w0 w' (rSB (.slice A l.length c) l :: ro) (rBlk m 47 [.slice A l.length c, .int .u64 ((0 : Nat) : Int), .int .u64 ((0 : Nat) : Int)] :: rs)) :=
  OpTo.enter 7 [bv] hp (rnew_any bv l hl w hb) fun e w' hq => by
    obtain ⟨m, A, c, he, hc⟩ := hq
    exact ⟨_, he, m, A, c, rfl, by simpa using (h.call0 hc).shareO 1 rfl⟩
theorem x_rfresh (h : Hp F0 w0 w ro rs) (i k : Nat) {m c x y : Nat} {A : Option Addr} {seed : Bytes} (hi : rs[i]? = some (rBlk m 47 [.slice A seed.length c, .int .u64 ((x : Nat) : Int), .int .u64 ((y : Nat) : Int)])) (hk : ro[k]? = some (rSB (.slice A seed.length c) seed))
    (hp : pureVal Tryd.prog (execOp a.eval o) = some (.enter 9 #[pt m 0])) (hx : x < 4294967296) (hl : seed.length ≤ 1048576) :
    OpTo Tryd.prog o a w (fun u w' => ∃ K, u = .agg (vb (kl K)).toArray ∧ kl K = freshR seed (x + 1) ∧ Hp F0 w0 w' ro (rs.set i (rBlk m 47 [.slice A seed.length c, .int .u64 ((x + 1 : Nat) : Int), .int .u64 ((y : Nat) : Int)]))) :=
  OpTo.enter 9 [pt m 0] hp (rfresh_any m A c seed x y w (h.oneR i hi (h.red k _ hk) (h.rdis k i _ _ hk hi)) hx hl) fun e w' hq => by
    obtain ⟨K, hK⟩ := kl_of (freshR seed (x + 1)) (fresh_len _ _)
    obtain ⟨he, hb, hf⟩ := hq
    exact ⟨_, he, K, by rw [hK], hK.symm, h.upd i hi hf _ hb (fun q hq => .inl hq)⟩
theorem x_rseal (h : Hp F0 w0 w ro rs) (i : Nat) {m y : Nat} {sv av : Value} (hi : rs[i]? = some (rBlk m 47 [sv, av, .int .u64 ((y : Nat) : Int)])) (K : Fin 16 → UInt8) (n : Int) (D : ByteArray) (hn : ItoaIs n D) (hD : D.size ≤ 1000) (bv : Value) (body : Bytes)
    (hp : pureVal Tryd.prog (execOp a.eval o) = some (.enter 8 #[pt m 0, .agg (vb (kl K)).toArray, .int .i64 n, bv])) (hb : SB w bv body) (hd : (rSB bv body).dj (rBlk m 47 [sv, av, .int .u64 ((y : Nat) : Int)])) (hy : y < 4294967296) (hl : body.length ≤ 1048576) (bx : Bytes) (hbx : bx = boxR (y + 1) (kl K) D.data.toList body) (ln : Nat) (hln : ln = bx.length) :
    OpTo Tryd.prog o a w (fun u w' => ∃ A c, u = .slice A ln c ∧ Hp F0 w0 w' ro (rBlk m 47 [sv, av, .int .u64 ((y + 1 : Nat) : Int)] :: rOB (.slice A ln c) bx :: rs.eraseIdx i)) :=
  OpTo.enter 8 [pt m 0, .agg (vb (kl K)).toArray, .int .i64 n, bv] hp (rseal_any m sv av y w K n D hn hD bv body (h.oneR i hi hb hd) hy hl) fun e w' hq => by
    subst hbx; subst hln
    obtain ⟨A, c, he, hc⟩ := hq
    exact ⟨_, he, A, c, rfl, h.call1 i hi hc⟩
theorem x_ropen (h : Hp F0 w0 w ro rs) (K : Fin 16 → UInt8) (n : Int) (D : ByteArray) (hn : ItoaIs n D) (hD : D.size ≤ 1000) (mv bv : Value) (box : Bytes)
    (hp : pureVal Tryd.prog (execOp a.eval o) = some (.enter 10 #[mv, .agg (vb (kl K)).toArray, .int .i64 n, bv])) (hb : SB w bv box) (hl : box.length ≤ 1048576) (r : Bytes) (hr : openR (kl K) D.data.toList box = some r) :
    OpTo Tryd.prog o a w (fun u w' => ∃ A c, u = .tuple #[.slice A r.length c, .bool true] ∧ Hp F0 w0 w' ro (rOB (.slice A r.length c) r :: rs)) :=
  OpTo.enter 10 [mv, .agg (vb (kl K)).toArray, .int .i64 n, bv] hp (ropen_any mv K n D hn hD bv box hl w hb) fun e w' hq => by
    rw [hr] at hq
    obtain ⟨v, he, ho, hbl⟩ := hq
    obtain ⟨A, c, rfl, _⟩ := ho.sb
    exact ⟨_, he, A, c, rfl, h.newS hbl _ (ho.mono (Nat.zero_le _)) (fun q hq => (ho.own q hq).1)⟩
theorem x_rdigest (h : Hp F0 w0 w ro rs) (mv bv : Value) (b : Bytes) (hp : pureVal Tryd.prog (execOp a.eval o) = some (.enter 14 #[mv, bv])) (hb : SB w bv b) (hl : b.length ≤ 1048576) :
    OpTo Tryd.prog o a w (fun u w' => ∃ A c, u = .slice A 16 c ∧ SB w' (.slice A 16 c) ((shaF b).take 16) ∧ Hp F0 w0 w' ro rs) :=
  OpTo.enter 14 [mv, bv] hp (rdigest_any mv bv b hl w hb) fun e w' hq => by
    obtain ⟨A, c, he, hs, hbl⟩ := hq
    exact ⟨_, he, A, c, rfl, hs, h.below hbl⟩
theorem djR {i k : Nat} {r : Res} {u : Value} {m : Bytes} (h : Hp F0 w0 w ro rs) (hk : ro[k]? = some (rSB u m)) (hi : rs[i]? = some r) : (rSB u m).dj r := h.rdis k i _ _ hk hi
end
/-! ### Boxes -/
theorem box_len (n : Nat) (K D b : Bytes) : (boxR n K D b).length = b.length + 24 := by
  unfold boxR
  rw [List.length_append, List.length_append, put8_len, ciph_len, tag_len]; omega
theorem box_take (n : Nat) (K D b : Bytes) : (boxR n K D b).take 8 = put8 n := by
  unfold boxR
  rw [List.append_assoc, List.take_append_of_le_length (by rw [put8_len]; omega), List.take_of_length_le (by rw [put8_len]; omega)]
theorem box_drop (n : Nat) (K D b : Bytes) : (boxR n K D b).drop ((boxR n K D b).length - 16) = tagOf K D (put8 n) (ciph K D (put8 n) b) := by
  rw [box_len]
  unfold boxR
  have h : (put8 n ++ ciph K D (put8 n) b).length = b.length + 24 - 16 := by rw [List.length_append, put8_len, ciph_len]; omega
  rw [← h, List.drop_left]
theorem box_mid (n : Nat) (K D b : Bytes) : midOf (boxR n K D b) = ciph K D (put8 n) b := by
  unfold midOf
  rw [box_len]
  unfold boxR
  have h : (put8 n ++ ciph K D (put8 n) b).length = b.length + 24 - 16 := by rw [List.length_append, put8_len, ciph_len]; omega
  rw [← h, List.take_left]
  show List.drop (put8 n).length _ = _
  exact List.drop_left
theorem open_box (n : Nat) (K D b : Bytes) : openR K D (boxR n K D b) = some b := by
  unfold openR
  rw [if_neg (by rw [box_len]; omega), box_take, box_mid, box_drop, if_pos rfl]
  unfold ciph
  rw [stream_back]
theorem put8_inj {m n : Nat} (hm : m < 4294967296) (hn : n < 4294967296) (h : put8 m = put8 n) : m = n := by
  have e : ∀ k, k < 8 → UInt8.ofNat (m / 256 ^ (7 - k)) = UInt8.ofNat (n / 256 ^ (7 - k)) := by
    intro k hk
    have h1 := congrArg (fun l => l[k]?) h
    simpa [put8, hk] using h1
  have f : ∀ k, k < 8 → m / 256 ^ (7 - k) % 256 = n / 256 ^ (7 - k) % 256 := by
    intro k hk
    have := congrArg UInt8.toNat (e k hk)
    simpa using this
  have f0 := f 7 (by omega)
  have f1 := f 6 (by omega)
  have f2 := f 5 (by omega)
  have f3 := f 4 (by omega)
  simp at f0 f1 f2 f3
  omega
def lastB (K D b : Bytes) (i : Nat) : Bytes := if i = 0 then [] else boxR i K D b
theorem box_ne (K D b : Bytes) (i : Nat) (hi : i < 1000) : decide (boxR (i + 1) K D b = lastB K D b i) = false := by
  refine decide_eq_false fun h => ?_
  unfold lastB at h
  by_cases h0 : i = 0
  · rw [if_pos h0] at h
    have := congrArg List.length h
    rw [box_len] at this
    simp at this
  · rw [if_neg h0] at h
    have := congrArg (List.take 8) h
    rw [box_take, box_take] at this
    have := put8_inj (by omega) (by omega) this
    omega
theorem box_7 (K D b : Bytes) : gb (boxR (0 + 1) K D b) 7 = 1 := by
  unfold boxR
  rfl
theorem fresh_two : decide (freshR [115, 101, 101, 100] (0 + 1) = freshR [115, 101, 101, 100] (0 + 1 + 1)) = false := by decide +kernel
end Go.Proofs.YtpkelokaammmjaaDoor
end
/-! An array of sixteen bytes, opened and shut. -/
section
namespace Go.Proofs.YtpkelokaammmjaaDoor
open Go.ChangeShapes Go.WideShapes Go.ChangeAt Go.RowKit
set_option maxRecDepth 100000
variable {H : Type} {enc : TypeId × Value → H} {w : World} {base : Nat} {spare : Nat → Bool} {held : Bool}
theorem wf_ub (a : UInt8) : (Lit.int .u8 (ub a)).wf = true := by
  have := nb_lt a
  simp [Lit.wf, IntKind.min, IntKind.max, IntKind.signed, IntKind.bits, ub]
  unfold nb at this; omega
theorem tb1 (m : Nat) (a : UInt8) : DataW.trod enc Tryd.prog w base spare held (m+1) 5 [.int .u8 (ub a)] = some (.lit (.int .u8 (ub a)), []) := by
  simp [DataW.trod, Tryd.underlying5, wf_ub]
def db {H : Type} (b : Bytes) : DataW H := .agg (b.map fun a => .lit (.int .u8 (ub a)))
theorem all_vb (cs : List Value) (h : ∀ c ∈ cs, ∃ a, c = .int .u8 (ub a)) : ∃ b : Bytes, cs = vb b := by
  induction cs with
  | nil => exact ⟨[], rfl⟩
  | cons c cs ih =>
    obtain ⟨a, rfl⟩ := h c (by simp)
    obtain ⟨b, rfl⟩ := ih fun c hc => h c (by simp [hc])
    exact ⟨a :: b, rfl⟩
theorem c22 : Tryd.prog.cellsOf 23 = 16 := by kernel_rfl
theorem c5 : Tryd.prog.cellsOf 5 = 1 := by kernel_rfl
theorem tb16 (m : Nat) (b : Bytes) (hb : b.length = 16) : DataW.trod enc Tryd.prog w base spare held (m+2) 23 (vb b) = some (db b, []) := by
  unfold DataW.trod
  rw [Tryd.underlying23]
  match b, hb with
  | [a0, a1, a2, a3, a4, a5, a6, a7, a8, a9, a10, a11, a12, a13, a14, a15], _ =>
  have r16 : List.range 16 = [0, 1, 2, 3, 4, 5, 6, 7, 8, 9, 10, 11, 12, 13, 14, 15] := rfl
  simp [c22, c5, r16, vb, tb1, db]
theorem tb_int {m : Nat} {c : Value} {x : DataW H × List MemPlace} (h : DataW.trod enc Tryd.prog w base spare held m 5 [c] = some x) : ∃ a, c = .int .u8 (ub a) := by
  obtain ⟨n, hc, _, hw⟩ := DataW.trod_int Tryd.underlying5 h
  have := bounds_u8 hw
  exact ⟨toB n, by rw [ub_u8 (by omega) (by omega)]; simpa using hc⟩
theorem open_b16 {r : Reach} {b0 : Nat} {v : Value} {d : DataW H} {p : List MemPlace} (hv : Value.okWide Tryd.prog w r b0 23 v) (h : DataW.Trod enc Tryd.prog w base spare held 23 v d p) :
    ∃ b : Bytes, b.length = 16 ∧ v = .agg (vb b).toArray ∧ d = db b ∧ p = [] := by
  unfold Value.okWide at hv
  rw [Tryd.underlying23] at hv
  obtain ⟨cs, rfl, hc, _⟩ := hv
  obtain ⟨fuel, h⟩ := h
  obtain ⟨l, rfl⟩ : ∃ l : List Value, cs = l.toArray := ⟨cs.toList, by simp⟩
  simp only [Value.cells] at h
  rw [c22] at hc
  have hl : l.length = 16 := by simpa using hc
  obtain ⟨xs, m, rfl, hx, _, hxs, hi⟩ := DataW.trod_array Tryd.underlying23 h
  rw [c5] at hi
  obtain ⟨b, rfl⟩ := all_vb l (by
    intro c hcm
    obtain ⟨i, hil, rfl⟩ := List.getElem_of_mem hcm
    have hi' := hi i (by omega)
    have : (l.drop (i * 1)).take 1 = [l[i]] := by
      rw [Nat.mul_one, List.drop_eq_getElem_cons hil]; rfl
    rw [this, List.getElem?_eq_getElem (by omega)] at hi'
    exact tb_int hi')
  have hb : b.length = 16 := by simpa [vb] using hl
  refine ⟨b, hb, rfl, ?_⟩
  cases m with
  | zero =>
    have := hi 0 (by omega)
    rw [List.getElem?_eq_getElem (by omega)] at this
    simp [DataW.trod] at this
  | succ m =>
    rw [tb16 m b hb] at h
    simp only [Option.some.injEq, Prod.mk.injEq] at h
    exact ⟨h.1.symm, h.2.symm⟩
theorem shut_b16 {b : Bytes} (hb : b.length = 16) : DataW.Trod enc Tryd.prog w base spare held 23 (.agg (vb b).toArray) (db b) [] :=
  ⟨2, tb16 0 b hb⟩
end Go.Proofs.YtpkelokaammmjaaDoor
end
/-! What every law's row needs: from 'the call returns true and what was there is as it was' to the row's post; slices of bytes that came in. -/
section
namespace Go.Proofs.YtpkelokaammmjaaDoor
open Go.ChangeShapes Go.WideShapes Go.ChangeAt Go.RowKit
theorem Tryd.own : ownKnob Tryd.prog.godebug = none := by kernel_rfl
theorem Tryd.laidOut : laidOutB Tryd.prog = true := by kernel_rfl
section
variable {H : Type} {enc : TypeId × Value → H} {P : Program}
theorem trodAll_stays {W W' : World} {sp' : Nat → Bool} (hl : laidOutB P = true) : ∀ (ts : List TypeId) (vs : List Value) (ds : List (DataW H)) (ps : List MemPlace),
    (ts.all fun t => P.readableRec t && decide (t < P.types.size)) = true → DataW.TrodAll enc P W 0 (fun _ => true) true ts vs ds ps →
    (∀ p ∈ ps, W.sameAt W' p) → (∀ p ∈ ps, sp' p.block = true) → DataW.TrodAll enc P W' 0 sp' true ts vs ds ps
  | [], _, _, _, _, h, _, _ => by
    obtain ⟨rfl, rfl, rfl⟩ := trodAll_nil h
    exact rfl
  | t :: ts, _, _, _, ht, h, hs, hsp => by
    obtain ⟨v, vs, d, ds, a, b, rfl, rfl, rfl, h1, h2⟩ := trodAll_cons h
    rw [List.all_cons, Bool.and_eq_true, Bool.and_eq_true, decide_eq_true_eq] at ht
    exact ⟨a, b, WideElems.Trod_stays hl ht.1.1 ht.1.2 h1 (fun p hp => hs p (by simp [hp])) (fun p hp => hsp p (by simp [hp])),
      trodAll_stays hl ts vs ds b ht.2 h2 (fun p hp => hs p (by simp [hp])) (fun p hp => hsp p (by simp [hp])), rfl⟩
theorem post_of_below {f : Func} {s : ChangeSpec} {apart fresh handsOn again : Bool} {W W' : World} {args : Array Value} {v : Value} {ds gs : List (DataW H)} {before pa pv : List MemPlace}
    (hW : DataW.Whole enc P f.params.toList s.vars apart W args.toList ds gs before)
    (hres : ∀ (b : Nat) (sp : Nat → Bool) (hd : Bool), DataW.TrodAll enc P W' b sp hd f.resultTypes.toList (v.resultList f.resultTypes.size) (s.fn H (ds ++ gs)).results [])
    (hargs : ∀ sp : Nat → Bool, (∀ p ∈ before, sp p.block = true) → DataW.TrodAll enc P W' 0 sp true f.params.toList args.toList (s.fn H (ds ++ gs)).args pa)
    (hvars : ∀ sp : Nat → Bool, (∀ p ∈ before, sp p.block = true) → DataW.TrodVars enc P W' sp s.vars (s.fn H (ds ++ gs)).vars pv)
    (hps : before = pa ++ pv) (hb : Below W.heap.size W W')
    (hok : ∀ (j : Nat) (t : TypeId) (r : Value), f.resultTypes[j]? = some t → (v.resultList f.resultTypes.size)[j]? = some r → Value.okWide P W' .any 0 t r) :
    s.post enc P f apart fresh handsOn again W args v W' := by
  have hlt : ∀ p ∈ before, p.block < W.heap.size := fun p hp => hW.lt p hp
  have hold : ∀ p ∈ before, (fun b => decide (b < W.heap.size)) p.block = true := fun p hp => by simpa using hlt p hp
  refine ⟨ds, gs, before, [], pa, pv, hW, hres _ _ _, hargs _ hold, hvars _ hold, World.keptBut_mono (fun p hp => ⟨hp, ?_⟩) (hb.frame (· ∈ before)), fun _ => ?_⟩
  · rw [hps, List.mem_append] at hp
    exact Or.inr hp
  · obtain ⟨_, _, _, _, _, hz, hn⟩ := hW
    refine ⟨hok, _, _, ([] ++ pa) ++ pv, ⟨[] ++ pa, pv, trodAll_append (hargs _ (fun _ _ => rfl)) (hres _ _ _), hvars _ (fun _ _ => rfl), rfl, ?_, ?_⟩, ?_⟩
    · intro b off hp
      have hin : MemPlace.cell b off ∈ before := by rw [hps]; simpa using hp
      rw [hb.frozen (hlt _ hin)]
      exact hz b off hin
    · intro ha
      have := hn ha
      rw [hps] at this
      simpa using this
    · intro p hp _
      rw [hps]
      simpa using hp
/-- A law's post: it returned true, and what was there is as it was. -/
theorem law_post {f : Func} {s : ChangeSpec} {apart fresh handsOn again : Bool} {W W' : World} {args : Array Value} {ds gs : List (DataW H)} {before : List MemPlace} {tb : TypeId}
    (hl : laidOutB P = true) (hts : (f.params.toList.all fun t => P.readableRec t && decide (t < P.types.size)) = true) (htb : P.underlying tb = some .bool) (hr : f.resultTypes = #[tb]) (hv : s.vars = [])
    (hfn : ∀ ds : List (DataW H), ds.length = f.params.size → s.fn H ds = ⟨[.lit (.bool true)], ds, []⟩)
    (hW : DataW.Whole enc P f.params.toList s.vars apart W args.toList ds gs before) (hb : Below W.heap.size W W') :
    s.post enc P f apart fresh handsOn again W args (.bool true) W' := by
  have hW' := hW
  have hlt : ∀ p ∈ before, p.block < W.heap.size := fun p hp => hW.lt p hp
  obtain ⟨p, q, hA, hV, rfl, hfz, hnd⟩ := hW
  rw [hv] at hV
  obtain ⟨rfl, rfl⟩ := trodVars_none hV
  have hlen : ds.length = f.params.size := by
    have : ∀ (ts : List TypeId) (vs : List Value) (ds : List (DataW H)) (p : List MemPlace), DataW.TrodAll enc P W 0 (fun _ => true) true ts vs ds p → ds.length = ts.length := by
      intro ts
      induction ts with
      | nil => intro vs ds p h; obtain ⟨rfl, rfl, rfl⟩ := trodAll_nil h; rfl
      | cons t ts ih =>
        intro vs ds p h
        obtain ⟨v, vs, d, ds, a, b, rfl, rfl, rfl, h1, h2⟩ := trodAll_cons h
        simp [ih _ _ _ h2]
    simpa using this _ _ _ _ hA
  simp only [List.append_nil] at hW' hlt
  have hds : s.fn H (ds ++ []) = ⟨[.lit (.bool true)], ds, []⟩ := by rw [List.append_nil]; exact hfn ds hlen
  refine post_of_below (pa := p) (pv := []) (gs := []) hW' ?_ ?_ ?_ (by simp) hb ?_
  · intro b sp hd
    rw [hds, hr]
    exact trodAll_mk1 (shut_bool htb true)
  · intro sp hsp
    rw [hds]
    exact trodAll_stays hl _ _ _ _ hts hA (fun x hx => hb.same (hlt x hx)) hsp
  · intro sp _
    rw [hds, hv]
    exact rfl
  · exact ok_one hr rfl (okWide_bool_mk htb true)
end
section
variable {H : Type} {enc : TypeId × Value → H} {w : World} {base : Nat}
set_option maxRecDepth 100000 in
/-- A slice of bytes that came in. -/
theorem open_bs {b0 : Nat} {v : Value} {d : DataW H} {p : List MemPlace} {sp : Nat → Bool} (hv : Value.okWide Tryd.prog w .any b0 22 v) (h : DataW.Trod enc Tryd.prog w base sp true 22 v d p) : ∃ l : Bytes, SB w v l := by
  obtain ⟨a1, len, cap, rfl⟩ := okWide_slice Tryd.underlying22 hv
  obtain ⟨fuel, hf⟩ := h
  rcases open_ints Tryd.underlying22 Tryd.underlying5 c5 hf with ⟨hcs, hx⟩ | ⟨a, len', cap', zs, hcs, _, hl, hm, hz, hx, hcell, hwz⟩
  · simp [Value.cells] at hcs
    obtain ⟨rfl, rfl, rfl⟩ := hcs
    exact ⟨[], SB.nil _ _ (Nat.zero_le _) _⟩
  · simp [Value.cells] at hcs
    obtain ⟨rfl, rfl, rfl⟩ := hcs
    have hzl : len ≤ zs.length := by rw [hz]; split <;> omega
    refine ⟨(zs.take len).map toB, some a, cap, ?_, ?_, hm, ?_⟩
    · simp; omega
    · simp; omega
    intro hne
    have hlen : 0 < len := by
      rcases Nat.eq_zero_or_pos len with h0 | h0
      · subst h0; simp at hne
      · exact h0
    obtain ⟨ab, ao, spot⟩ := a
    have h0 := hcell 0 (by omega)
    have hspot : spot = none := by simpa [Addr.add] using World.cell?_spot h0
    subst hspot
    refine ⟨ab, ao, rfl, ?_, fun i hi => ?_⟩
    · rcases Nat.lt_or_ge ab w.heap.size with h' | h'
      · exact h'
      · rw [Addr.add_lit] at h0
        simp [World.cell?, Array.getElem?_eq_none h'] at h0
    · have hi' : i < len := by simpa [Nat.min_eq_left hzl] using hi
      have hc := hcell i (by omega)
      rw [Addr.add_lit] at hc
      rw [hc]
      have e : zs.getD i 0 = zs[i]'(by omega) := by simp [List.getD, List.getElem?_eq_getElem (show i < zs.length by omega)]
      have hb : 0 ≤ zs.getD i 0 ∧ zs.getD i 0 ≤ 255 := by rw [List.getD_eq_getElem?_getD]; exact range_u8 hwz i
      have e2 : gb ((zs.take len).map toB) i = toB (zs.getD i 0) := by
        rw [e]
        simp [gb, hi', show i < zs.length by omega]
      rw [e2, ub_u8 (by omega) (by omega)]
end
end Go.Proofs.YtpkelokaammmjaaDoor
end
/-! Five parameters. -/
section
namespace Go.Proofs.YtpkelokaammmjaaDoor
open Go.ChangeShapes
variable {H : Type} {enc : TypeId × Value → H} {P : Program} {w : World} {base : Nat} {spare : Nat → Bool} {held : Bool}
theorem trodAll_five {t t' t'' t3 t4 : TypeId} {args : Array Value} {ds : List (DataW H)} {ps : List MemPlace} (h : DataW.TrodAll enc P w base spare held [t, t', t'', t3, t4] args.toList ds ps) :
    ∃ v v' v'' v3 v4 d d' d'' d3 d4 p p' p'' p3 p4, args = #[v, v', v'', v3, v4] ∧ ds = [d, d', d'', d3, d4] ∧ ps = p ++ p' ++ p'' ++ p3 ++ p4 ∧ DataW.Trod enc P w base spare held t v d p ∧ DataW.Trod enc P w base spare held t' v' d' p' ∧ DataW.Trod enc P w base spare held t'' v'' d'' p'' ∧ DataW.Trod enc P w base spare held t3 v3 d3 p3 ∧ DataW.Trod enc P w base spare held t4 v4 d4 p4 := by
  obtain ⟨v, vs, d, ds', p, q, hargs, rfl, rfl, hd, hrest⟩ := trodAll_cons h
  obtain ⟨v', vs', d', ds'', p', q', rfl, rfl, rfl, hd', hrest'⟩ := trodAll_cons hrest
  obtain ⟨v'', vs'', d'', ds''', p'', q'', rfl, rfl, rfl, hd'', hrest''⟩ := trodAll_cons hrest'
  obtain ⟨v3, vs3, d3, ds3, p3, q3, rfl, rfl, rfl, hd3, hrest3⟩ := trodAll_cons hrest''
  obtain ⟨v4, vs4, d4, ds4, p4, q4, rfl, rfl, rfl, hd4, hrest4⟩ := trodAll_cons hrest3
  obtain ⟨rfl, rfl, rfl⟩ := trodAll_nil hrest4
  exact ⟨v, v', v'', v3, v4, d, d', d'', d3, d4, p, p', p'', p3, p4, by cases args; simp_all, rfl, by simp, hd, hd', hd'', hd3, hd4⟩
end Go.Proofs.YtpkelokaammmjaaDoor
end
