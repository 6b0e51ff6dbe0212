/- Steps for the walks of compeerref03: numbers of 64 bits that wrap, slices of numbers and of words. (Texts laid one behind the other: SealP, SealW, SealL, SAlv, RShFn, RShX.) -/
import Derived.Test.YtpkelokaammmjaaDoorCA6
/-! The walks of strconv.Itoa at two numbers, and of seal.from, part, New. -/
section
namespace Go.Proofs.YtpkelokaammmjaaDoor
open Go.RowKit Go.QT
set_option maxRecDepth 100000 in
set_option maxHeartbeats 4000000 in
theorem small_lit2 (w : World) : Calls Tryd.prog 66 #[(Value.int .i64 2)] w (NPost w (.string ⟨#[50]⟩)) := by
  have h0 := Hp.nil (fun _ => False) w
  refine enter 14 Tryd.func66 rfl rfl ?_
  refine wp_reset 15 [(0, (Value.int .i64 2))] (fun x0 => ?_)
  refine wp_seq_k ?_
  intro K1 hK1
  refine reg_lit ?_
  refine wq_p 1 [(2, (Value.string (⟨#[]⟩)))] ?_
  refine wl_end rfl ?_
  refine seq_n hK1 ?_
  refine wp_seq_k ?_
  intro K2 hK2
  refine wp_seq_k ?_
  intro K3 hK3
  refine reg_lit ?_
  refine wq_p 2 [(4, (Value.bool true)), (3, (Value.int .i64 2))] ?_
  refine wl_end rfl ?_
  refine seq_n hK3 ?_
  refine wp_cond_true (by kernel_rfl) ?_
  refine wp_seq_k ?_
  intro K4 hK4
  refine reg_lit ?_
  refine wq_p 3 [(7, (Value.int .i64 3)), (6, (Value.int .i64 2)), (5, (Value.int .i64 2))] ?_
  refine wq_v (some 8) (Value.string (⟨#[50]⟩)) (pureOp_run (by kernel_rfl) _) ?_
  refine wq_p 1 [(2, (Value.string (⟨#[50]⟩)))] ?_
  refine wl_end rfl ?_
  refine seq_n hK4 ?_
  refine wp_ret ?_
  refine seq_r ?_
  refine post_1 rfl (by kernel_rfl) (rtmp (v := (Value.string (⟨#[50]⟩))) (by kernel_rfl)) ?_
  exact ⟨rfl, h0.below0⟩
set_option maxRecDepth 100000 in
set_option maxHeartbeats 4000000 in
theorem fmt_lit2 (w : World) : Calls Tryd.prog 61 #[(Value.int .i64 2), (Value.int .i64 10)] w (NPost w (.string ⟨#[50]⟩)) := by
  have h0 := Hp.nil (fun _ => False) w
  refine enter 52 Tryd.func61 rfl rfl ?_
  refine wp_reset 54 [(0, (Value.int .i64 2)), (1, (Value.int .i64 10))] (fun x0 => ?_)
  refine wp_seq_k ?_
  intro K1 hK1
  refine reg_lit ?_
  refine wq_p 1 [(4, (Value.string (⟨#[]⟩)))] ?_
  refine wl_end rfl ?_
  refine seq_n hK1 ?_
  refine wp_seq_k ?_
  intro K2 hK2
  refine wp_seq_k ?_
  intro K3 hK3
  refine reg_lit ?_
  refine wq_p 2 [(11, (Value.bool true)), (10, (Value.int .i64 10))] ?_
  refine wl_end rfl ?_
  refine seq_n hK3 ?_
  refine wp_cond_true (by kernel_rfl) ?_
  refine wp_seq_k ?_
  intro K4 hK4
  refine wp_seq_k ?_
  intro K5 hK5
  refine reg_lit ?_
  refine wq_p 6 [(17, (Value.bool true)), (16, (Value.bool true)), (15, (Value.int .i64 2)), (14, (Value.bool true)), (13, (Value.bool true)), (12, (Value.int .i64 2))] ?_
  refine wl_end rfl ?_
  refine seq_n hK5 ?_
  refine wp_cond_true (by kernel_rfl) ?_
  refine wp_seq_k ?_
  intro K6 hK6
  refine reg_lit ?_
  refine wq_p 1 [(18, (Value.int .i64 2))] ?_
  refine wq_to (some 19) (x_np h0 66 [(Value.int .i64 2)] (by kernel_rfl) (small_lit2  _)) ?_
  rintro _ w7 ⟨rfl, h7⟩
  refine wq_p 1 [(4, (Value.string (⟨#[50]⟩)))] ?_
  refine wl_end rfl ?_
  refine seq_n hK6 ?_
  refine wp_ret ?_
  refine seq_r ?_
  refine seq_r ?_
  refine post_1 rfl (by kernel_rfl) (rtmp (v := (Value.string (⟨#[50]⟩))) (by kernel_rfl)) ?_
  exact ⟨rfl, h7.below0⟩
set_option maxRecDepth 100000 in
set_option maxHeartbeats 4000000 in
theorem itoa2_lit2 (w : World) : Calls Tryd.prog 54 #[(Value.int .i64 2)] w (NPost w (.string ⟨#[50]⟩)) := by
  have h0 := Hp.nil (fun _ => False) w
  refine enter 4 Tryd.func54 rfl rfl ?_
  refine wp_reset 5 [(0, (Value.int .i64 2))] (fun x0 => ?_)
  refine wp_seq_k ?_
  intro K1 hK1
  refine reg_lit ?_
  refine wq_p 1 [(2, (Value.string (⟨#[]⟩)))] ?_
  refine wl_end rfl ?_
  refine seq_n hK1 ?_
  refine wp_seq_k ?_
  intro K2 hK2
  refine reg_lit ?_
  refine wq_p 1 [(3, (Value.int .i64 2))] ?_
  refine wq_to (some 4) (x_np h0 61 [(Value.int .i64 2), (Value.int .i64 10)] (by kernel_rfl) (fmt_lit2  _)) ?_
  rintro _ w3 ⟨rfl, h3⟩
  refine wq_p 1 [(2, (Value.string (⟨#[50]⟩)))] ?_
  refine wl_end rfl ?_
  refine seq_n hK2 ?_
  refine wp_ret ?_
  refine post_1 rfl (by kernel_rfl) (rtmp (v := (Value.string (⟨#[50]⟩))) (by kernel_rfl)) ?_
  exact ⟨rfl, h3.below0⟩
set_option maxRecDepth 100000 in
set_option maxHeartbeats 4000000 in
theorem itoa_lit2 (w : World) : Calls Tryd.prog 43 #[(Value.int .i64 2)] w (NPost w (.string ⟨#[50]⟩)) := by
  have h0 := Hp.nil (fun _ => False) w
  refine enter 4 Tryd.func43 rfl rfl ?_
  refine wp_reset 5 [(0, (Value.int .i64 2))] (fun x0 => ?_)
  refine wp_seq_k ?_
  intro K1 hK1
  refine reg_lit ?_
  refine wq_p 1 [(2, (Value.string (⟨#[]⟩)))] ?_
  refine wl_end rfl ?_
  refine seq_n hK1 ?_
  refine wp_seq_k ?_
  intro K2 hK2
  refine reg_lit ?_
  refine wq_p 1 [(3, (Value.int .i64 2))] ?_
  refine wq_to (some 4) (x_np h0 54 [(Value.int .i64 2)] (by kernel_rfl) (itoa2_lit2  _)) ?_
  rintro _ w3 ⟨rfl, h3⟩
  refine wq_p 1 [(2, (Value.string (⟨#[50]⟩)))] ?_
  refine wl_end rfl ?_
  refine seq_n hK2 ?_
  refine wp_ret ?_
  refine post_1 rfl (by kernel_rfl) (rtmp (v := (Value.string (⟨#[50]⟩))) (by kernel_rfl)) ?_
  exact ⟨rfl, h3.below0⟩
theorem itoa_is2 : ItoaIs 2 ⟨#[50]⟩ := fun w => itoa_lit2 w
set_option maxRecDepth 100000 in
set_option maxHeartbeats 4000000 in
theorem small_lit5 (w : World) : Calls Tryd.prog 66 #[(Value.int .i64 5)] w (NPost w (.string ⟨#[53]⟩)) := by
  have h0 := Hp.nil (fun _ => False) w
  refine enter 14 Tryd.func66 rfl rfl ?_
  refine wp_reset 15 [(0, (Value.int .i64 5))] (fun x0 => ?_)
  refine wp_seq_k ?_
  intro K1 hK1
  refine reg_lit ?_
  refine wq_p 1 [(2, (Value.string (⟨#[]⟩)))] ?_
  refine wl_end rfl ?_
  refine seq_n hK1 ?_
  refine wp_seq_k ?_
  intro K2 hK2
  refine wp_seq_k ?_
  intro K3 hK3
  refine reg_lit ?_
  refine wq_p 2 [(4, (Value.bool true)), (3, (Value.int .i64 5))] ?_
  refine wl_end rfl ?_
  refine seq_n hK3 ?_
  refine wp_cond_true (by kernel_rfl) ?_
  refine wp_seq_k ?_
  intro K4 hK4
  refine reg_lit ?_
  refine wq_p 3 [(7, (Value.int .i64 6)), (6, (Value.int .i64 5)), (5, (Value.int .i64 5))] ?_
  refine wq_v (some 8) (Value.string (⟨#[53]⟩)) (pureOp_run (by kernel_rfl) _) ?_
  refine wq_p 1 [(2, (Value.string (⟨#[53]⟩)))] ?_
  refine wl_end rfl ?_
  refine seq_n hK4 ?_
  refine wp_ret ?_
  refine seq_r ?_
  refine post_1 rfl (by kernel_rfl) (rtmp (v := (Value.string (⟨#[53]⟩))) (by kernel_rfl)) ?_
  exact ⟨rfl, h0.below0⟩
set_option maxRecDepth 100000 in
set_option maxHeartbeats 4000000 in
theorem fmt_lit5 (w : World) : Calls Tryd.prog 61 #[(Value.int .i64 5), (Value.int .i64 10)] w (NPost w (.string ⟨#[53]⟩)) := by
  have h0 := Hp.nil (fun _ => False) w
  refine enter 52 Tryd.func61 rfl rfl ?_
  refine wp_reset 54 [(0, (Value.int .i64 5)), (1, (Value.int .i64 10))] (fun x0 => ?_)
  refine wp_seq_k ?_
  intro K1 hK1
  refine reg_lit ?_
  refine wq_p 1 [(4, (Value.string (⟨#[]⟩)))] ?_
  refine wl_end rfl ?_
  refine seq_n hK1 ?_
  refine wp_seq_k ?_
  intro K2 hK2
  refine wp_seq_k ?_
  intro K3 hK3
  refine reg_lit ?_
  refine wq_p 2 [(11, (Value.bool true)), (10, (Value.int .i64 10))] ?_
  refine wl_end rfl ?_
  refine seq_n hK3 ?_
  refine wp_cond_true (by kernel_rfl) ?_
  refine wp_seq_k ?_
  intro K4 hK4
  refine wp_seq_k ?_
  intro K5 hK5
  refine reg_lit ?_
  refine wq_p 6 [(17, (Value.bool true)), (16, (Value.bool true)), (15, (Value.int .i64 5)), (14, (Value.bool true)), (13, (Value.bool true)), (12, (Value.int .i64 5))] ?_
  refine wl_end rfl ?_
  refine seq_n hK5 ?_
  refine wp_cond_true (by kernel_rfl) ?_
  refine wp_seq_k ?_
  intro K6 hK6
  refine reg_lit ?_
  refine wq_p 1 [(18, (Value.int .i64 5))] ?_
  refine wq_to (some 19) (x_np h0 66 [(Value.int .i64 5)] (by kernel_rfl) (small_lit5  _)) ?_
  rintro _ w7 ⟨rfl, h7⟩
  refine wq_p 1 [(4, (Value.string (⟨#[53]⟩)))] ?_
  refine wl_end rfl ?_
  refine seq_n hK6 ?_
  refine wp_ret ?_
  refine seq_r ?_
  refine seq_r ?_
  refine post_1 rfl (by kernel_rfl) (rtmp (v := (Value.string (⟨#[53]⟩))) (by kernel_rfl)) ?_
  exact ⟨rfl, h7.below0⟩
set_option maxRecDepth 100000 in
set_option maxHeartbeats 4000000 in
theorem itoa2_lit5 (w : World) : Calls Tryd.prog 54 #[(Value.int .i64 5)] w (NPost w (.string ⟨#[53]⟩)) := by
  have h0 := Hp.nil (fun _ => False) w
  refine enter 4 Tryd.func54 rfl rfl ?_
  refine wp_reset 5 [(0, (Value.int .i64 5))] (fun x0 => ?_)
  refine wp_seq_k ?_
  intro K1 hK1
  refine reg_lit ?_
  refine wq_p 1 [(2, (Value.string (⟨#[]⟩)))] ?_
  refine wl_end rfl ?_
  refine seq_n hK1 ?_
  refine wp_seq_k ?_
  intro K2 hK2
  refine reg_lit ?_
  refine wq_p 1 [(3, (Value.int .i64 5))] ?_
  refine wq_to (some 4) (x_np h0 61 [(Value.int .i64 5), (Value.int .i64 10)] (by kernel_rfl) (fmt_lit5  _)) ?_
  rintro _ w3 ⟨rfl, h3⟩
  refine wq_p 1 [(2, (Value.string (⟨#[53]⟩)))] ?_
  refine wl_end rfl ?_
  refine seq_n hK2 ?_
  refine wp_ret ?_
  refine post_1 rfl (by kernel_rfl) (rtmp (v := (Value.string (⟨#[53]⟩))) (by kernel_rfl)) ?_
  exact ⟨rfl, h3.below0⟩
set_option maxRecDepth 100000 in
set_option maxHeartbeats 4000000 in
theorem itoa_lit5 (w : World) : Calls Tryd.prog 43 #[(Value.int .i64 5)] w (NPost w (.string ⟨#[53]⟩)) := by
  have h0 := Hp.nil (fun _ => False) w
  refine enter 4 Tryd.func43 rfl rfl ?_
  refine wp_reset 5 [(0, (Value.int .i64 5))] (fun x0 => ?_)
  refine wp_seq_k ?_
  intro K1 hK1
  refine reg_lit ?_
  refine wq_p 1 [(2, (Value.string (⟨#[]⟩)))] ?_
  refine wl_end rfl ?_
  refine seq_n hK1 ?_
  refine wp_seq_k ?_
  intro K2 hK2
  refine reg_lit ?_
  refine wq_p 1 [(3, (Value.int .i64 5))] ?_
  refine wq_to (some 4) (x_np h0 54 [(Value.int .i64 5)] (by kernel_rfl) (itoa2_lit5  _)) ?_
  rintro _ w3 ⟨rfl, h3⟩
  refine wq_p 1 [(2, (Value.string (⟨#[53]⟩)))] ?_
  refine wl_end rfl ?_
  refine seq_n hK2 ?_
  refine wp_ret ?_
  refine post_1 rfl (by kernel_rfl) (rtmp (v := (Value.string (⟨#[53]⟩))) (by kernel_rfl)) ?_
  exact ⟨rfl, h3.below0⟩
theorem itoa_is5 : ItoaIs 5 ⟨#[53]⟩ := fun w => itoa_lit5 w
set_option maxRecDepth 100000 in
set_option maxHeartbeats 4000000 in
theorem from_any (v : Value) (l : Bytes) (hl : l.length = 8) (w : World) (hv : SB w v l) : Calls Tryd.prog 24 #[v] w (APost w (l ++ List.replicate 8 0)) := by
  obtain ⟨A, c, rfl, hc1, hc2⟩ := sb_form hv
  have hov : l ++ List.replicate 8 0 = ovr (List.replicate 16 0) 0 l := by
    unfold ovr; rw [hl]; simp
  obtain ⟨K, hK⟩ := kl_of (l ++ List.replicate 8 0) (by simp [hl])
  have h0 := Hp.ro1 (rSB (.slice A l.length c) l) hv
  refine enter 7 Tryd.func24 rfl rfl ?_
  refine wp_reset 8 [(0, (Value.slice A l.length c))] (fun x0 => ?_)
  refine wp_seq_k ?_
  intro K1 hK1
  refine reg_lit ?_
  refine wq_to (some 2) (x_new h0 23 (vb (List.replicate 16 0)) (fun r => pt r 0) (by kernel_rfl)) ?_
  rintro _ w2 ⟨g2, rfl, h2⟩
  refine wl_end rfl ?_
  refine seq_n hK1 ?_
  refine wp_seq_k ?_
  intro K3 hK3
  refine reg_lit ?_
  refine wq_to (some 3) (x_new h2 23 (vb (List.replicate 16 0)) (fun r => pt r 0) (by kernel_rfl)) ?_
  rintro _ w4 ⟨g4, rfl, h4⟩
  refine wl_end rfl ?_
  refine seq_n hK3 ?_
  refine wp_seq_k ?_
  intro K5 hK5
  refine reg_lit ?_
  refine wq_p 2 [(5, (Value.slice A l.length c)), (4, (Value.slice (some ⟨g4, 0, none⟩) 16 16))] ?_
  refine wq_to (some 6) (x_copyN h4 0 rfl (.tmp 4) (.tmp 5) (by kernel_rfl) 16 16 l (kl K) (Value.slice A l.length c) (by kernel_rfl) (by kernel_rfl) (h4.rd 0 rfl) (by rintro rfl; cases hl) (by omega) (by simp [hl]) (by rw [← hK, hov])) ?_
  rintro u6 w6 h6
  refine wl_end rfl ?_
  refine seq_n hK5 ?_
  refine wp_seq_k ?_
  intro K7 hK7
  refine reg_lit ?_
  refine wq_v (some 7) (Value.agg (vb (kl K)).toArray) (e_loads (h6.at_ 0 rfl) 23 (.tmp 3) (by kernel_rfl) 0 (vb (kl K)) (by kernel_rfl) (by kernel_rfl) (by kernel_rfl)) ?_
  refine wq_to none (x_stores h6 1 rfl 23 (.tmp 2) (.tmp 7) (by kernel_rfl) 0 (vb (kl K)) (vb (kl K)) (by kernel_rfl) (by kernel_rfl) (by kernel_rfl) (by kernel_rfl) (by kernel_rfl) (by kernel_rfl)) ?_
  rintro _ w8 h8
  refine wl_end rfl ?_
  refine seq_n hK7 ?_
  refine wp_ret ?_
  refine post_1 rfl (by kernel_rfl) (rcell (h8.at_ 1 rfl) (by kernel_rfl) (by kernel_rfl)) ?_
  exact ⟨by rw [hK], h8.below0⟩
set_option maxRecDepth 100000 in
set_option maxHeartbeats 4000000 in
theorem part_anyW (G : Nat → Prop) (K : Fin 16 → UInt8) (n : Int) (D : ByteArray) (x : UInt8) (hD : D.size ≤ 1000) (w : World) (hi : (rIt G n D).Φ w) : Calls Tryd.prog 22 #[.agg (vb (kl K)).toArray, .int .i64 n, .string ⟨#[x]⟩] w (APost w (partK (kl K) D.data.toList x)) := by
  have hs : (⟨#[x]⟩ ++ D : ByteArray).size ≤ 1048576 := by rw [ByteArray.size_append]; have : (⟨#[x]⟩ : ByteArray).size = 1 := rfl; omega
  have hcat : (⟨#[x]⟩ ++ D : ByteArray).data.toList = [x] ++ D.data.toList := by simp
  obtain ⟨S, hS⟩ : ∃ S : ByteArray, S = ⟨#[x]⟩ ++ D := ⟨_, rfl⟩
  rw [← hS] at hs hcat
  have h0 := Hp.ro1 (rIt G n D) hi
  refine enter 10 Tryd.func22 rfl rfl ?_
  refine wp_reset 13 [(0, (Value.agg (vb (kl K)).toArray)), (1, (Value.int .i64 n)), (2, (Value.string (⟨#[x]⟩)))] (fun x0 => ?_)
  refine wp_seq_k ?_
  intro K1 hK1
  refine reg_lit ?_
  refine wq_to (some 3) (x_new h0 28 (vb (kl K)) (fun r => pt r 0) (by kernel_rfl)) ?_
  rintro _ w2 ⟨g2, rfl, h2⟩
  refine wq_to (some 6) (x_new h2 28 (vb (List.replicate 16 0)) (fun r => pt r 0) (by kernel_rfl)) ?_
  rintro _ w3 ⟨g3, rfl, h3⟩
  refine wl_end rfl ?_
  refine seq_n hK1 ?_
  refine wp_seq_k ?_
  intro K4 hK4
  refine pR_go h3 6 (fun W => (rBlk g2 28 (vb (kl K))).Φ W ∧ True) [(8, [3], 0), (9, [2], 0), (10, [1], 0), (11, [9], 4), (12, [8, 10], 10), (13, [7, 11], 25), (0, [6, 12], 63)] rfl (fun _ d _ _ _ h => by cases d <;> exact h) ?_
  intro hs5 w5 h5
  refine pR_p 5 [1, 2] [(9, (Value.int .i64 n)), (8, (Value.string (⟨#[x]⟩)))] 6 hs5 ⟨h5.at_ 1 rfl, trivial⟩ ?_
  refine pR_v 0 (some 7) (Value.agg (vb (kl K)).toArray) 7 rfl hs5 ⟨h5.at_ 1 rfl, trivial⟩ (fun W hW => e_loads hW.1 28 (.tmp 3) (by kernel_rfl) 0 (vb (kl K)) (by kernel_rfl) (by kernel_rfl) (by kernel_rfl)) ?_
  refine pR_to 3 (some 10) 15 rfl hs5 (x_itoaW h5 0 rfl (by kernel_rfl)) ?_
  rintro _ w6 ⟨rfl, h6⟩
  refine ⟨fun _ => ⟨h6.at_ 1 rfl, trivial⟩, ?_⟩
  refine pR_v 4 (some 11) (Value.string S) 31 rfl hs5 ⟨h6.at_ 1 rfl, trivial⟩ (fun W hW => hS ▸ e_sadd (.tmp 8) (.tmp 10) 9 9 (by kernel_rfl) ⟨#[x]⟩ D (by kernel_rfl) (by kernel_rfl) (by show 1 ≤ 1000000; decide) (by omega) _) ?_
  refine pR_to 5 (some 12) 63 rfl hs5 (x_key h6 (l := derF (kl K) (S.data.toList)) 40 [(Value.agg (vb (kl K)).toArray), (Value.string S)] (by kernel_rfl) (der_len _ _) (mderive_any K S hs _)) ?_
  rintro _ w7 ⟨K7, rfl, hK7, h7⟩
  refine ⟨fun _ => ⟨h7.at_ 1 rfl, trivial⟩, ?_⟩
  refine pR_to 6 none 127 rfl hs5 (x_stores h7 0 rfl 28 (.tmp 6) (.tmp 12) (by kernel_rfl) 0 (vb (kl K7)) (vb (kl K7)) (by kernel_rfl) (by kernel_rfl) (by kernel_rfl) (by kernel_rfl) (by kernel_rfl) (by kernel_rfl)) ?_
  rintro _ w8 h8
  refine ⟨fun h => absurd h (by decide), ?_⟩
  refine pR_done hs5 ?_ _
  refine seq_n hK4 ?_
  refine wp_ret ?_
  refine post_1 rfl (by kernel_rfl) (rcell (h8.at_ 0 rfl) (by kernel_rfl) (by kernel_rfl)) ?_
  exact ⟨by unfold partK; rw [hK7, hcat], h8.below0⟩
theorem part_any (K : Fin 16 → UInt8) (n : Int) (D : ByteArray) (x : UInt8) (hi : ItoaIs n D) (hD : D.size ≤ 1000) (w : World) : Calls Tryd.prog 22 #[.agg (vb (kl K)).toArray, .int .i64 n, .string ⟨#[x]⟩] w (APost w (partK (kl K) D.data.toList x)) :=
  part_anyW (fun _ => False) K n D x hD w (rIt_of hi w)
def RNewPost (w : World) (seed : Bytes) (e : Ending) (w' : World) : Prop := ∃ m A c, e = .returned (pt m 0) ∧ Hp (fun _ => False) w w' [] [rBlk m 47 [.slice A seed.length c, .int .u64 0, .int .u64 0], rOB (.slice A seed.length c) seed]
set_option maxRecDepth 100000 in
set_option maxHeartbeats 4000000 in
theorem rnew_any (v : Value) (l : Bytes) (hl : l.length ≤ 1048576) (w : World) (hv : SB w v l) : Calls Tryd.prog 7 #[v] w (RNewPost w l) := by
  obtain ⟨A, c, rfl, hc1, hc2⟩ := sb_form hv
  have h0 := Hp.ro1 (rSB (.slice A l.length c) l) hv
  refine enter 6 Tryd.func7 rfl rfl ?_
  refine wp_reset 7 [(0, (Value.slice A l.length c))] (fun x0 => ?_)
  refine wp_seq_k ?_
  intro K1 hK1
  refine reg_lit ?_
  refine wq_p 1 [(2, (Value.pointer none))] ?_
  refine wl_end rfl ?_
  refine seq_n hK1 ?_
  refine wp_seq_k ?_
  intro K2 hK2
  have h3 := h0.obNil
  
  refine reg_lit ?_
  refine wq_p 1 [(3, (Value.slice A l.length c))] ?_
  refine wq_to (some 4) (x_appG h3 0 rfl (.const (Value.slice none 0 0)) (.tmp 3) (by kernel_rfl) (Value.slice A l.length c) (by kernel_rfl) (by kernel_rfl) (h3.rd 0 rfl) (by simp; omega) (l) (l.length) rfl rfl) ?_
  rintro _ w4 ⟨A4, c4, rfl, h4⟩
  refine wq_p 1 [(5, (Value.agg ([(Value.slice A4 l.length c4), (Value.int .u64 0), (Value.int .u64 0)]).toArray))] ?_
  refine wq_to (some 6) (x_new h4 47 ([(Value.slice A4 l.length c4), (Value.int .u64 0), (Value.int .u64 0)]) (fun r => pt r 0) (by kernel_rfl)) ?_
  rintro _ w5 ⟨g5, rfl, h5⟩
  refine wq_p 1 [(2, (pt g5 0))] ?_
  refine wl_end rfl ?_
  refine seq_n hK2 ?_
  refine wp_ret ?_
  refine post_1 rfl (by kernel_rfl) (rtmp (v := (pt g5 0)) (by kernel_rfl)) ?_
  exact ⟨_, _, _, rfl, h5.sel [0, 1] [] (by kernel_rfl) rfl rfl⟩
end Go.Proofs.YtpkelokaammmjaaDoor
end
/-! The walks of a tape's methods. -/
section
namespace Go.Proofs.YtpkelokaammmjaaDoor
open Go.RowKit Go.QT
set_option maxRecDepth 100000 in
set_option maxHeartbeats 4000000 in
theorem rfresh_any (m : Nat) (A : Option Addr) (c : Nat) (seed : Bytes) (a b : Nat) (w : World) (H : Hp (fun q => q = m) w w [rSB (.slice A seed.length c) seed] [rBlk m 47 [.slice A seed.length c, .int .u64 ((a : Nat) : Int), .int .u64 ((b : Nat) : Int)]]) (ha : a < 4294967296) (hs : seed.length ≤ 1048576) :
    Calls Tryd.prog 9 #[pt m 0] w fun e w' => e = .returned (.agg (vb (freshR seed (a + 1))).toArray) ∧ Blk w' m 47 [.slice A seed.length c, .int .u64 ((a + 1 : Nat) : Int), .int .u64 ((b : Nat) : Int)] ∧ Fr (fun q => q = m) w w' := by
  have h0 := H
  refine enter 28 Tryd.func9 rfl rfl ?_
  refine wp_reset 29 [(0, (pt m 0))] (fun x0 => ?_)
  refine wp_seq_k ?_
  intro K1 hK1
  refine reg_lit ?_
  refine wq_to (some 2) (x_new h0 28 (vb (List.replicate 16 0)) (fun r => pt r 0) (by kernel_rfl)) ?_
  rintro _ w2 ⟨g2, rfl, h2⟩
  refine wl_end rfl ?_
  refine seq_n hK1 ?_
  refine wp_seq_k ?_
  intro K3 hK3
  refine reg_lit ?_
  refine wq_p 3 [(7, (pt m 1)), (6, (pt m 0)), (5, (pt m 0))] ?_
  refine wq_v (some 8) (Value.int .u64 (((a : Nat) : Int))) (e_load (h2.at_ 1 rfl) 34 (.tmp 7) (by kernel_rfl) 1 (Value.int .u64 (((a : Nat) : Int))) (by kernel_rfl) (by kernel_rfl) (by kernel_rfl)) ?_
  refine wq_v (some 9) (Value.int .u64 ((((((a))) + 1 : Nat) : Int))) (e_add64 _ _ _ _ rfl (((a))) 1 (by kernel_rfl) (by kernel_rfl) ((((a))) + 1) rfl (by omega) _) ?_
  refine wq_p 2 [(11, (pt m 1)), (10, (pt m 0))] ?_
  refine wq_to none (x_store h2 1 rfl 34 (.tmp 11) (.tmp 9) (by kernel_rfl) 1 (Value.int .u64 ((((((a))) + 1 : Nat) : Int))) ([(Value.slice A seed.length c), (Value.int .u64 ((((((a))) + 1 : Nat) : Int))), (Value.int .u64 (((b : Nat) : Int)))]) (by kernel_rfl) (by kernel_rfl) (by kernel_rfl) (by kernel_rfl) rfl rfl (by kernel_rfl)) ?_
  rintro _ w4 h4
  refine wl_end rfl ?_
  refine seq_n hK3 ?_
  refine wp_seq_k ?_
  intro K5 hK5
  refine pR_go h4 18 (fun W => (rBlk m 47 ([(Value.slice A seed.length c), (Value.int .u64 ((((((a))) + 1 : Nat) : Int))), (Value.int .u64 (((b : Nat) : Int)))])).Φ W ∧ True) [(14, [0], 0), (15, [13], 1), (16, [14], 2), (17, [15], 4), (18, [0], 0), (19, [17], 16), (20, [18], 32), (21, [19], 64), (22, [20], 128), (23, [21], 256), (24, [16, 22], 776), (25, [23], 1024), (26, [24], 3072), (13, [25], 4096), (27, [12], 8192), (28, [12], 8192), (4, [], 0), (0, [3, 26], 98303), (5, [27], 262143)] rfl (fun _ d _ _ _ h => by cases d <;> exact h) ?_
  intro hs6 w6 h6
  refine pR_p 13 [0, 1, 2, 4, 5, 6] [(19, (pt m 1)), (18, (pt m 0)), (17, (pt m 0)), (15, (pt m 0)), (14, (pt m 0)), (13, (pt m 0))] 119 hs6 ⟨h6.at_ 1 rfl, trivial⟩ ?_
  refine pR_v 3 (some 16) (Value.slice A seed.length c) 127 rfl hs6 ⟨h6.at_ 1 rfl, trivial⟩ (fun W hW => e_load hW.1 22 (.tmp 15) (by kernel_rfl) 0 (Value.slice A seed.length c) (by kernel_rfl) (by kernel_rfl) (by kernel_rfl)) ?_
  refine pR_v 7 (some 20) (Value.int .u64 ((((((a))) + 1 : Nat) : Int))) 255 rfl hs6 ⟨h6.at_ 1 rfl, trivial⟩ (fun W hW => e_load hW.1 34 (.tmp 19) (by kernel_rfl) 1 (Value.int .u64 ((((((a))) + 1 : Nat) : Int))) (by kernel_rfl) (by kernel_rfl) (by kernel_rfl)) ?_
  refine pR_or 8 16 hs6 ?_ ?_
  ·
   refine pR_op 8 (some 21) 511 rfl (x_bytesE h6 20 [(Value.int .u64 ((((((a))) + 1 : Nat) : Int)))] (by kernel_rfl) (put_any ((((((a))) + 1))) _) (put8 ((((((a))) + 1)))) (8) rfl rfl) ?_
   rintro _ w7 ⟨A7, c7, rfl, h7⟩
   refine ⟨fun _ => ⟨h7.at_ 2 rfl, trivial⟩, ?_⟩
   refine pR_or 9 16 hs6 ?_ ?_
   ·
    refine pR_op 9 (some 22) 1023 rfl (x_bs h7 22 ([(Value.slice A7 8 c7)]) 1 (by kernel_rfl)) ?_
    rintro _ w8 ⟨g8, rfl, h8⟩
    refine ⟨fun _ => ⟨h8.at_ 3 rfl, trivial⟩, ?_⟩
    refine pR_or 10 16 hs6 ?_ ?_
    ·
     refine pR_op 10 (some 23) 2047 rfl (x_bytesE h8 26 [(Value.slice A seed.length c), (Value.slice (some ⟨g8, 0, none⟩) 1 1)] (by kernel_rfl) (sum_any (Value.slice A seed.length c) seed (Value.slice (some ⟨g8, 0, none⟩) 1 1) [put8 ((((((a))) + 1)))] _ (h8.rd 0 rfl) (bs1 (h8.at_ 0 rfl) (OB.sb (h8.at_ 1 rfl))) (by first | omega | (simp [mac_len, put8_len]; done) | (simp [bsize]; omega) | (rw [kl_len]; decide)) (by simp) (by first | (simp [put8_len]; done) | (simp [mac_len, put8_len, bsize]; omega))) (macF seed ((put8 ((((((a))) + 1)))))) (32) (by simp) (mac_len _ _).symm) ?_
     rintro _ w9 ⟨A9, c9, rfl, h9⟩
     refine ⟨fun _ => ⟨h9.at_ 4 rfl, trivial⟩, ?_⟩
     refine pR_v 11 (some 24) (cutS (Value.slice A9 32 c9) 0 16) 4095 rfl hs6 ⟨h9.at_ 4 rfl, trivial⟩ (fun W hW => e_cut_h (OB.sb (h9.at_ 0 rfl)) (.tmp 23) (.const (Value.int .i64 16)) (by kernel_rfl) (by kernel_rfl) .i64 16 (by kernel_rfl) (by first | omega | (rw [mac_len]; decide) | (rw [sha_len]; decide) | (rw [put8_len]; decide)) _) ?_
     refine pR_or 12 16 hs6 ?_ ?_
     ·
      refine pR_op 12 (some 25) 8191 rfl (x_okey h9 (((macF seed ((put8 ((((((a))) + 1)))))).take 16).drop 0) (cutS (Value.slice A9 32 c9) 0 16) (by kernel_rfl) (SB.cut (OB.sb (h9.at_ 0 rfl)) 0 16 (by first | omega | (rw [mac_len]; decide) | (rw [sha_len]; decide) | (rw [put8_len]; decide))) (by first | (rw [len_cut _ _ _ (by rw [mac_len]; decide)]) | (simp [mac_len]; done))) ?_
      rintro _ w10 ⟨K10, rfl, hK10, h10⟩
      refine ⟨fun _ => ⟨h10.at_ 4 rfl, trivial⟩, ?_⟩
      refine pR_p 3 [13, 14, 15] [(27, (Value.bool true)), (26, (Value.agg (vb (kl K10)).toArray)), (12, (Value.tuple #[(Value.agg (vb (kl K10)).toArray), (Value.bool true)]))] 65535 hs6 ⟨h10.at_ 4 rfl, trivial⟩ ?_
      refine pR_to 16 (some 3) 131071 rfl hs6 (x_new h10 28 (vb (List.replicate 16 0)) (fun r => pt r 0) (by kernel_rfl)) ?_
      rintro _ w11 ⟨g11, rfl, h11⟩
      refine ⟨fun _ => ⟨h11.at_ 5 rfl, trivial⟩, ?_⟩
      refine pR_to 17 none 262143 rfl hs6 (x_stores h11 0 rfl 28 (.tmp 3) (.tmp 26) (by kernel_rfl) 0 (vb (kl K10)) (vb (kl K10)) (by kernel_rfl) (by kernel_rfl) (by kernel_rfl) (by kernel_rfl) (by kernel_rfl) (by kernel_rfl)) ?_
      rintro _ w12 h12
      refine ⟨fun _ => ⟨h12.at_ 5 rfl, trivial⟩, ?_⟩
      refine pR_to 18 (some 4) 524287 rfl hs6 (OpTo.run (Value.bool true) (pureOp_run (by kernel_rfl) _) (R := fun v w => v = (Value.bool true) ∧ w12 = w) ⟨rfl, rfl⟩) ?_
      rintro _ _ ⟨rfl, rfl⟩
      refine ⟨fun h => absurd h (by decide), ?_⟩
      refine pR_done hs6 ?_ _
      refine seq_n hK5 ?_
      refine wp_seq_k ?_
      intro K13 hK13
      refine reg_lit ?_
      refine wq_v (some 28) (Value.agg (vb (kl K10)).toArray) (e_loads (h12.at_ 0 rfl) 28 (.tmp 3) (by kernel_rfl) 0 (vb (kl K10)) (by kernel_rfl) (by kernel_rfl) (by kernel_rfl)) ?_
      refine wq_to none (x_stores h12 4 rfl 28 (.tmp 2) (.tmp 28) (by kernel_rfl) 0 (vb (kl K10)) (vb (kl K10)) (by kernel_rfl) (by kernel_rfl) (by kernel_rfl) (by kernel_rfl) (by kernel_rfl) (by kernel_rfl)) ?_
      rintro _ w14 h14
      refine wl_end rfl ?_
      refine seq_n hK13 ?_
      refine wp_ret ?_
      refine post_1 rfl (by kernel_rfl) (rcell (h14.at_ 4 rfl) (by kernel_rfl) (by kernel_rfl)) ?_
      exact ⟨by rw [hK10]; rfl, h14.at_ 5 rfl, h14.fr⟩
     ·
      refine pR_op 16 (some 3) 69631 rfl (x_new h9 28 (vb (List.replicate 16 0)) (fun r => pt r 0) (by kernel_rfl)) ?_
      rintro _ w15 ⟨g15, rfl, h15⟩
      refine ⟨fun _ => ⟨h15.at_ 5 rfl, trivial⟩, ?_⟩
      refine pR_to 12 (some 25) 73727 rfl hs6 (x_okey h15 (((macF seed ((put8 ((((((a))) + 1)))))).take 16).drop 0) (cutS (Value.slice A9 32 c9) 0 16) (by kernel_rfl) (SB.cut (OB.sb (h15.at_ 1 rfl)) 0 16 (by first | omega | (rw [mac_len]; decide) | (rw [sha_len]; decide) | (rw [put8_len]; decide))) (by first | (rw [len_cut _ _ _ (by rw [mac_len]; decide)]) | (simp [mac_len]; done))) ?_
      rintro _ w16 ⟨K16, rfl, hK16, h16⟩
      refine ⟨fun _ => ⟨h16.at_ 5 rfl, trivial⟩, ?_⟩
      refine pR_p 2 [13, 14, 15] [(27, (Value.bool true)), (26, (Value.agg (vb (kl K16)).toArray)), (12, (Value.tuple #[(Value.agg (vb (kl K16)).toArray), (Value.bool true)]))] 131071 hs6 ⟨h16.at_ 5 rfl, trivial⟩ ?_
      refine pR_to 17 none 262143 rfl hs6 (x_stores h16 0 rfl 28 (.tmp 3) (.tmp 26) (by kernel_rfl) 0 (vb (kl K16)) (vb (kl K16)) (by kernel_rfl) (by kernel_rfl) (by kernel_rfl) (by kernel_rfl) (by kernel_rfl) (by kernel_rfl)) ?_
      rintro _ w17 h17
      refine ⟨fun _ => ⟨h17.at_ 5 rfl, trivial⟩, ?_⟩
      refine pR_to 18 (some 4) 524287 rfl hs6 (OpTo.run (Value.bool true) (pureOp_run (by kernel_rfl) _) (R := fun v w => v = (Value.bool true) ∧ w17 = w) ⟨rfl, rfl⟩) ?_
      rintro _ _ ⟨rfl, rfl⟩
      refine ⟨fun h => absurd h (by decide), ?_⟩
      refine pR_done hs6 ?_ _
      refine seq_n hK5 ?_
      refine wp_seq_k ?_
      intro K18 hK18
      refine reg_lit ?_
      refine wq_v (some 28) (Value.agg (vb (kl K16)).toArray) (e_loads (h17.at_ 0 rfl) 28 (.tmp 3) (by kernel_rfl) 0 (vb (kl K16)) (by kernel_rfl) (by kernel_rfl) (by kernel_rfl)) ?_
      refine wq_to none (x_stores h17 4 rfl 28 (.tmp 2) (.tmp 28) (by kernel_rfl) 0 (vb (kl K16)) (vb (kl K16)) (by kernel_rfl) (by kernel_rfl) (by kernel_rfl) (by kernel_rfl) (by kernel_rfl) (by kernel_rfl)) ?_
      rintro _ w19 h19
      refine wl_end rfl ?_
      refine seq_n hK18 ?_
      refine wp_ret ?_
      refine post_1 rfl (by kernel_rfl) (rcell (h19.at_ 4 rfl) (by kernel_rfl) (by kernel_rfl)) ?_
      exact ⟨by rw [hK16]; rfl, h19.at_ 5 rfl, h19.fr⟩
    ·
     refine pR_op 16 (some 3) 66559 rfl (x_new h8 28 (vb (List.replicate 16 0)) (fun r => pt r 0) (by kernel_rfl)) ?_
     rintro _ w20 ⟨g20, rfl, h20⟩
     refine ⟨fun _ => ⟨h20.at_ 4 rfl, trivial⟩, ?_⟩
     refine pR_to 10 (some 23) 67583 rfl hs6 (x_bytesE h20 26 [(Value.slice A seed.length c), (Value.slice (some ⟨g8, 0, none⟩) 1 1)] (by kernel_rfl) (sum_any (Value.slice A seed.length c) seed (Value.slice (some ⟨g8, 0, none⟩) 1 1) [put8 ((((((a))) + 1)))] _ (h20.rd 0 rfl) (bs1 (h20.at_ 1 rfl) (OB.sb (h20.at_ 2 rfl))) (by first | omega | (simp [mac_len, put8_len]; done) | (simp [bsize]; omega) | (rw [kl_len]; decide)) (by simp) (by first | (simp [put8_len]; done) | (simp [mac_len, put8_len, bsize]; omega))) (macF seed ((put8 ((((((a))) + 1)))))) (32) (by simp) (mac_len _ _).symm) ?_
     rintro _ w21 ⟨A21, c21, rfl, h21⟩
     refine ⟨fun _ => ⟨h21.at_ 5 rfl, trivial⟩, ?_⟩
     refine pR_v 11 (some 24) (cutS (Value.slice A21 32 c21) 0 16) 69631 rfl hs6 ⟨h21.at_ 5 rfl, trivial⟩ (fun W hW => e_cut_h (OB.sb (h21.at_ 0 rfl)) (.tmp 23) (.const (Value.int .i64 16)) (by kernel_rfl) (by kernel_rfl) .i64 16 (by kernel_rfl) (by first | omega | (rw [mac_len]; decide) | (rw [sha_len]; decide) | (rw [put8_len]; decide)) _) ?_
     refine pR_to 12 (some 25) 73727 rfl hs6 (x_okey h21 (((macF seed ((put8 ((((((a))) + 1)))))).take 16).drop 0) (cutS (Value.slice A21 32 c21) 0 16) (by kernel_rfl) (SB.cut (OB.sb (h21.at_ 0 rfl)) 0 16 (by first | omega | (rw [mac_len]; decide) | (rw [sha_len]; decide) | (rw [put8_len]; decide))) (by first | (rw [len_cut _ _ _ (by rw [mac_len]; decide)]) | (simp [mac_len]; done))) ?_
     rintro _ w22 ⟨K22, rfl, hK22, h22⟩
     refine ⟨fun _ => ⟨h22.at_ 5 rfl, trivial⟩, ?_⟩
     refine pR_p 2 [13, 14, 15] [(27, (Value.bool true)), (26, (Value.agg (vb (kl K22)).toArray)), (12, (Value.tuple #[(Value.agg (vb (kl K22)).toArray), (Value.bool true)]))] 131071 hs6 ⟨h22.at_ 5 rfl, trivial⟩ ?_
     refine pR_to 17 none 262143 rfl hs6 (x_stores h22 1 rfl 28 (.tmp 3) (.tmp 26) (by kernel_rfl) 0 (vb (kl K22)) (vb (kl K22)) (by kernel_rfl) (by kernel_rfl) (by kernel_rfl) (by kernel_rfl) (by kernel_rfl) (by kernel_rfl)) ?_
     rintro _ w23 h23
     refine ⟨fun _ => ⟨h23.at_ 5 rfl, trivial⟩, ?_⟩
     refine pR_to 18 (some 4) 524287 rfl hs6 (OpTo.run (Value.bool true) (pureOp_run (by kernel_rfl) _) (R := fun v w => v = (Value.bool true) ∧ w23 = w) ⟨rfl, rfl⟩) ?_
     rintro _ _ ⟨rfl, rfl⟩
     refine ⟨fun h => absurd h (by decide), ?_⟩
     refine pR_done hs6 ?_ _
     refine seq_n hK5 ?_
     refine wp_seq_k ?_
     intro K24 hK24
     refine reg_lit ?_
     refine wq_v (some 28) (Value.agg (vb (kl K22)).toArray) (e_loads (h23.at_ 1 rfl) 28 (.tmp 3) (by kernel_rfl) 0 (vb (kl K22)) (by kernel_rfl) (by kernel_rfl) (by kernel_rfl)) ?_
     refine wq_to none (x_stores h23 4 rfl 28 (.tmp 2) (.tmp 28) (by kernel_rfl) 0 (vb (kl K22)) (vb (kl K22)) (by kernel_rfl) (by kernel_rfl) (by kernel_rfl) (by kernel_rfl) (by kernel_rfl) (by kernel_rfl)) ?_
     rintro _ w25 h25
     refine wl_end rfl ?_
     refine seq_n hK24 ?_
     refine wp_ret ?_
     refine post_1 rfl (by kernel_rfl) (rcell (h25.at_ 4 rfl) (by kernel_rfl) (by kernel_rfl)) ?_
     exact ⟨by rw [hK22]; rfl, h25.at_ 5 rfl, h25.fr⟩
   ·
    refine pR_op 16 (some 3) 66047 rfl (x_new h7 28 (vb (List.replicate 16 0)) (fun r => pt r 0) (by kernel_rfl)) ?_
    rintro _ w26 ⟨g26, rfl, h26⟩
    refine ⟨fun _ => ⟨h26.at_ 3 rfl, trivial⟩, ?_⟩
    refine pR_to 9 (some 22) 66559 rfl hs6 (x_bs h26 22 ([(Value.slice A7 8 c7)]) 1 (by kernel_rfl)) ?_
    rintro _ w27 ⟨g27, rfl, h27⟩
    refine ⟨fun _ => ⟨h27.at_ 4 rfl, trivial⟩, ?_⟩
    refine pR_to 10 (some 23) 67583 rfl hs6 (x_bytesE h27 26 [(Value.slice A seed.length c), (Value.slice (some ⟨g27, 0, none⟩) 1 1)] (by kernel_rfl) (sum_any (Value.slice A seed.length c) seed (Value.slice (some ⟨g27, 0, none⟩) 1 1) [put8 ((((((a))) + 1)))] _ (h27.rd 0 rfl) (bs1 (h27.at_ 0 rfl) (OB.sb (h27.at_ 2 rfl))) (by first | omega | (simp [mac_len, put8_len]; done) | (simp [bsize]; omega) | (rw [kl_len]; decide)) (by simp) (by first | (simp [put8_len]; done) | (simp [mac_len, put8_len, bsize]; omega))) (macF seed ((put8 ((((((a))) + 1)))))) (32) (by simp) (mac_len _ _).symm) ?_
    rintro _ w28 ⟨A28, c28, rfl, h28⟩
    refine ⟨fun _ => ⟨h28.at_ 5 rfl, trivial⟩, ?_⟩
    refine pR_v 11 (some 24) (cutS (Value.slice A28 32 c28) 0 16) 69631 rfl hs6 ⟨h28.at_ 5 rfl, trivial⟩ (fun W hW => e_cut_h (OB.sb (h28.at_ 0 rfl)) (.tmp 23) (.const (Value.int .i64 16)) (by kernel_rfl) (by kernel_rfl) .i64 16 (by kernel_rfl) (by first | omega | (rw [mac_len]; decide) | (rw [sha_len]; decide) | (rw [put8_len]; decide)) _) ?_
    refine pR_to 12 (some 25) 73727 rfl hs6 (x_okey h28 (((macF seed ((put8 ((((((a))) + 1)))))).take 16).drop 0) (cutS (Value.slice A28 32 c28) 0 16) (by kernel_rfl) (SB.cut (OB.sb (h28.at_ 0 rfl)) 0 16 (by first | omega | (rw [mac_len]; decide) | (rw [sha_len]; decide) | (rw [put8_len]; decide))) (by first | (rw [len_cut _ _ _ (by rw [mac_len]; decide)]) | (simp [mac_len]; done))) ?_
    rintro _ w29 ⟨K29, rfl, hK29, h29⟩
    refine ⟨fun _ => ⟨h29.at_ 5 rfl, trivial⟩, ?_⟩
    refine pR_p 2 [13, 14, 15] [(27, (Value.bool true)), (26, (Value.agg (vb (kl K29)).toArray)), (12, (Value.tuple #[(Value.agg (vb (kl K29)).toArray), (Value.bool true)]))] 131071 hs6 ⟨h29.at_ 5 rfl, trivial⟩ ?_
    refine pR_to 17 none 262143 rfl hs6 (x_stores h29 2 rfl 28 (.tmp 3) (.tmp 26) (by kernel_rfl) 0 (vb (kl K29)) (vb (kl K29)) (by kernel_rfl) (by kernel_rfl) (by kernel_rfl) (by kernel_rfl) (by kernel_rfl) (by kernel_rfl)) ?_
    rintro _ w30 h30
    refine ⟨fun _ => ⟨h30.at_ 5 rfl, trivial⟩, ?_⟩
    refine pR_to 18 (some 4) 524287 rfl hs6 (OpTo.run (Value.bool true) (pureOp_run (by kernel_rfl) _) (R := fun v w => v = (Value.bool true) ∧ w30 = w) ⟨rfl, rfl⟩) ?_
    rintro _ _ ⟨rfl, rfl⟩
    refine ⟨fun h => absurd h (by decide), ?_⟩
    refine pR_done hs6 ?_ _
    refine seq_n hK5 ?_
    refine wp_seq_k ?_
    intro K31 hK31
    refine reg_lit ?_
    refine wq_v (some 28) (Value.agg (vb (kl K29)).toArray) (e_loads (h30.at_ 2 rfl) 28 (.tmp 3) (by kernel_rfl) 0 (vb (kl K29)) (by kernel_rfl) (by kernel_rfl) (by kernel_rfl)) ?_
    refine wq_to none (x_stores h30 4 rfl 28 (.tmp 2) (.tmp 28) (by kernel_rfl) 0 (vb (kl K29)) (vb (kl K29)) (by kernel_rfl) (by kernel_rfl) (by kernel_rfl) (by kernel_rfl) (by kernel_rfl) (by kernel_rfl)) ?_
    rintro _ w32 h32
    refine wl_end rfl ?_
    refine seq_n hK31 ?_
    refine wp_ret ?_
    refine post_1 rfl (by kernel_rfl) (rcell (h32.at_ 4 rfl) (by kernel_rfl) (by kernel_rfl)) ?_
    exact ⟨by rw [hK29]; rfl, h32.at_ 5 rfl, h32.fr⟩
  ·
   refine pR_op 16 (some 3) 65791 rfl (x_new h6 28 (vb (List.replicate 16 0)) (fun r => pt r 0) (by kernel_rfl)) ?_
   rintro _ w33 ⟨g33, rfl, h33⟩
   refine ⟨fun _ => ⟨h33.at_ 2 rfl, trivial⟩, ?_⟩
   refine pR_to 8 (some 21) 66047 rfl hs6 (x_bytesE h33 20 [(Value.int .u64 ((((((a))) + 1 : Nat) : Int)))] (by kernel_rfl) (put_any ((((((a))) + 1))) _) (put8 ((((((a))) + 1)))) (8) rfl rfl) ?_
   rintro _ w34 ⟨A34, c34, rfl, h34⟩
   refine ⟨fun _ => ⟨h34.at_ 3 rfl, trivial⟩, ?_⟩
   refine pR_to 9 (some 22) 66559 rfl hs6 (x_bs h34 22 ([(Value.slice A34 8 c34)]) 1 (by kernel_rfl)) ?_
   rintro _ w35 ⟨g35, rfl, h35⟩
   refine ⟨fun _ => ⟨h35.at_ 4 rfl, trivial⟩, ?_⟩
   refine pR_to 10 (some 23) 67583 rfl hs6 (x_bytesE h35 26 [(Value.slice A seed.length c), (Value.slice (some ⟨g35, 0, none⟩) 1 1)] (by kernel_rfl) (sum_any (Value.slice A seed.length c) seed (Value.slice (some ⟨g35, 0, none⟩) 1 1) [put8 ((((((a))) + 1)))] _ (h35.rd 0 rfl) (bs1 (h35.at_ 0 rfl) (OB.sb (h35.at_ 1 rfl))) (by first | omega | (simp [mac_len, put8_len]; done) | (simp [bsize]; omega) | (rw [kl_len]; decide)) (by simp) (by first | (simp [put8_len]; done) | (simp [mac_len, put8_len, bsize]; omega))) (macF seed ((put8 ((((((a))) + 1)))))) (32) (by simp) (mac_len _ _).symm) ?_
   rintro _ w36 ⟨A36, c36, rfl, h36⟩
   refine ⟨fun _ => ⟨h36.at_ 5 rfl, trivial⟩, ?_⟩
   refine pR_v 11 (some 24) (cutS (Value.slice A36 32 c36) 0 16) 69631 rfl hs6 ⟨h36.at_ 5 rfl, trivial⟩ (fun W hW => e_cut_h (OB.sb (h36.at_ 0 rfl)) (.tmp 23) (.const (Value.int .i64 16)) (by kernel_rfl) (by kernel_rfl) .i64 16 (by kernel_rfl) (by first | omega | (rw [mac_len]; decide) | (rw [sha_len]; decide) | (rw [put8_len]; decide)) _) ?_
   refine pR_to 12 (some 25) 73727 rfl hs6 (x_okey h36 (((macF seed ((put8 ((((((a))) + 1)))))).take 16).drop 0) (cutS (Value.slice A36 32 c36) 0 16) (by kernel_rfl) (SB.cut (OB.sb (h36.at_ 0 rfl)) 0 16 (by first | omega | (rw [mac_len]; decide) | (rw [sha_len]; decide) | (rw [put8_len]; decide))) (by first | (rw [len_cut _ _ _ (by rw [mac_len]; decide)]) | (simp [mac_len]; done))) ?_
   rintro _ w37 ⟨K37, rfl, hK37, h37⟩
   refine ⟨fun _ => ⟨h37.at_ 5 rfl, trivial⟩, ?_⟩
   refine pR_p 2 [13, 14, 15] [(27, (Value.bool true)), (26, (Value.agg (vb (kl K37)).toArray)), (12, (Value.tuple #[(Value.agg (vb (kl K37)).toArray), (Value.bool true)]))] 131071 hs6 ⟨h37.at_ 5 rfl, trivial⟩ ?_
   refine pR_to 17 none 262143 rfl hs6 (x_stores h37 3 rfl 28 (.tmp 3) (.tmp 26) (by kernel_rfl) 0 (vb (kl K37)) (vb (kl K37)) (by kernel_rfl) (by kernel_rfl) (by kernel_rfl) (by kernel_rfl) (by kernel_rfl) (by kernel_rfl)) ?_
   rintro _ w38 h38
   refine ⟨fun _ => ⟨h38.at_ 5 rfl, trivial⟩, ?_⟩
   refine pR_to 18 (some 4) 524287 rfl hs6 (OpTo.run (Value.bool true) (pureOp_run (by kernel_rfl) _) (R := fun v w => v = (Value.bool true) ∧ w38 = w) ⟨rfl, rfl⟩) ?_
   rintro _ _ ⟨rfl, rfl⟩
   refine ⟨fun h => absurd h (by decide), ?_⟩
   refine pR_done hs6 ?_ _
   refine seq_n hK5 ?_
   refine wp_seq_k ?_
   intro K39 hK39
   refine reg_lit ?_
   refine wq_v (some 28) (Value.agg (vb (kl K37)).toArray) (e_loads (h38.at_ 3 rfl) 28 (.tmp 3) (by kernel_rfl) 0 (vb (kl K37)) (by kernel_rfl) (by kernel_rfl) (by kernel_rfl)) ?_
   refine wq_to none (x_stores h38 4 rfl 28 (.tmp 2) (.tmp 28) (by kernel_rfl) 0 (vb (kl K37)) (vb (kl K37)) (by kernel_rfl) (by kernel_rfl) (by kernel_rfl) (by kernel_rfl) (by kernel_rfl) (by kernel_rfl)) ?_
   rintro _ w40 h40
   refine wl_end rfl ?_
   refine seq_n hK39 ?_
   refine wp_ret ?_
   refine post_1 rfl (by kernel_rfl) (rcell (h40.at_ 4 rfl) (by kernel_rfl) (by kernel_rfl)) ?_
   exact ⟨by rw [hK37]; rfl, h40.at_ 5 rfl, h40.fr⟩
set_option maxRecDepth 100000 in
set_option maxHeartbeats 4000000 in
theorem rseal_anyW (m : Nat) (sv av : Value) (b : Nat) (w : World) (G : Nat → Prop) (K : Fin 16 → UInt8) (n : Int) (D : ByteArray) (hD : D.size ≤ 1000) (bv : Value) (body : Bytes) (H : Hp (fun q => q = m) w w [rIt G n D, rSB bv body] [rBlk m 47 [sv, av, .int .u64 ((b : Nat) : Int)]]) (hb : b < 4294967296) (hl : body.length ≤ 1048576) :
    Calls Tryd.prog 8 #[pt m 0, .agg (vb (kl K)).toArray, .int .i64 n, bv] w fun e w' => ∃ A c, e = .returned (.slice A (boxR (b + 1) (kl K) D.data.toList body).length c) ∧
      Hp (fun q => q = m) w w' [] [rBlk m 47 [sv, av, .int .u64 ((b + 1 : Nat) : Int)], rOB (.slice A (boxR (b + 1) (kl K) D.data.toList body).length c) (boxR (b + 1) (kl K) D.data.toList body)] := by
  obtain ⟨B, d, rfl, hc1, hc2⟩ := sb_form (H.rd 1 rfl)
  have h0 := H
  refine enter 41 Tryd.func8 rfl rfl ?_
  refine wp_reset 45 [(0, (pt m 0)), (1, (Value.agg (vb (kl K)).toArray)), (2, (Value.int .i64 n)), (3, (Value.slice B body.length d))] (fun x0 => ?_)
  refine wp_seq_k ?_
  intro K1 hK1
  refine reg_lit ?_
  refine wq_to (some 5) (x_new h0 28 (vb (kl K)) (fun r => pt r 0) (by kernel_rfl)) ?_
  rintro _ w2 ⟨g2, rfl, h2⟩
  refine wq_p 1 [(8, (Value.slice none 0 0))] ?_
  refine wl_end rfl ?_
  refine seq_n hK1 ?_
  refine wp_seq_k ?_
  intro K3 hK3
  refine reg_lit ?_
  refine wq_p 3 [(14, (pt m 2)), (13, (pt m 0)), (12, (pt m 0))] ?_
  refine wq_v (some 15) (Value.int .u64 (((b : Nat) : Int))) (e_load (h2.at_ 1 rfl) 34 (.tmp 14) (by kernel_rfl) 2 (Value.int .u64 (((b : Nat) : Int))) (by kernel_rfl) (by kernel_rfl) (by kernel_rfl)) ?_
  refine wq_v (some 16) (Value.int .u64 ((((((b))) + 1 : Nat) : Int))) (e_add64 _ _ _ _ rfl (((b))) 1 (by kernel_rfl) (by kernel_rfl) ((((b))) + 1) rfl (by omega) _) ?_
  refine wq_p 2 [(18, (pt m 2)), (17, (pt m 0))] ?_
  refine wq_to none (x_store h2 1 rfl 34 (.tmp 18) (.tmp 16) (by kernel_rfl) 2 (Value.int .u64 ((((((b))) + 1 : Nat) : Int))) ([sv, av, (Value.int .u64 ((((((b))) + 1 : Nat) : Int)))]) (by kernel_rfl) (by kernel_rfl) (by kernel_rfl) (by kernel_rfl) rfl rfl (by kernel_rfl)) ?_
  rintro _ w4 h4
  refine wl_end rfl ?_
  refine seq_n hK3 ?_
  refine wp_seq_k ?_
  intro K5 hK5
  refine reg_lit ?_
  refine wq_p 3 [(21, (pt m 2)), (20, (pt m 0)), (19, (pt m 0))] ?_
  refine wq_v (some 22) (Value.int .u64 ((((((b))) + 1 : Nat) : Int))) (e_load (h4.at_ 1 rfl) 34 (.tmp 21) (by kernel_rfl) 2 (Value.int .u64 ((((((b))) + 1 : Nat) : Int))) (by kernel_rfl) (by kernel_rfl) (by kernel_rfl)) ?_
  refine wq_to (some 23) (x_bytesE h4 20 [(Value.int .u64 ((((((b))) + 1 : Nat) : Int)))] (by kernel_rfl) (put_any ((((((b))) + 1))) _) (put8 ((((((b))) + 1)))) (8) rfl rfl) ?_
  rintro _ w6 ⟨A6, c6, rfl, h6⟩
  refine wq_p 1 [(9, (Value.slice A6 8 c6))] ?_
  refine wl_end rfl ?_
  refine seq_n hK5 ?_
  refine wp_seq_k ?_
  intro K7 hK7
  refine reg_lit ?_
  refine wq_v (some 24) (Value.agg (vb (kl K)).toArray) (e_loads (h6.at_ 1 rfl) 28 (.tmp 5) (by kernel_rfl) 0 (vb (kl K)) (by kernel_rfl) (by kernel_rfl) (by kernel_rfl)) ?_
  refine wq_p 1 [(25, (Value.int .i64 n))] ?_
  refine wq_to (some 26) (x_key h6 (l := partK (kl K) D.data.toList 101) 22 [(Value.agg (vb (kl K)).toArray), (Value.int .i64 n), (Value.string (⟨#[101]⟩))] (by kernel_rfl) (part_len _ _ _) (part_anyW G K n D 101 hD _ (h6.rd 0 rfl))) ?_
  rintro _ w8 ⟨K8, rfl, hK8, h8⟩
  refine wq_to (some 27) (x_aesNew h8 K8 (by kernel_rfl)) ?_
  rintro _ w9 ⟨ci9, bx9, rfl, h9⟩
  refine wq_p 1 [(28, (Value.slice A6 8 c6))] ?_
  refine wq_to (some 29) (x_key h9 (l := (put8 ((((((b))) + 1)))) ++ List.replicate 8 0) 24 [(Value.slice A6 8 c6)] (by kernel_rfl) (by have e8 : (put8 ((((((b))) + 1)))).length = 8 := (put8_len _); rw [List.length_append, List.length_replicate, e8]) (from_any (Value.slice A6 8 c6) (put8 ((((((b))) + 1)))) (put8_len _) _ (OB.sb (h9.at_ 0 rfl)))) ?_
  rintro _ w10 ⟨K10, rfl, hK10, h10⟩
  refine wq_p 1 [(30, (Value.slice B body.length d))] ?_
  refine wq_to (some 31) (x_bytesE h10 23 [(pt ci9 0), (Value.agg (vb (kl K10)).toArray), (Value.slice B body.length d)] (by kernel_rfl) (stream_any ci9 bx9 sbox (keys sbox (kl K8)) (kl K10) (body) (Value.slice B body.length d) _ (h10.rd 0 rfl) (kl_len _) (h10.rd 2 rfl) (by omega)) (ciph (kl K) D.data.toList (put8 ((((((b))) + 1)))) body) (body.length) (by rw [hK8, hK10]; rfl) (ciph_len _ _ _ _).symm) ?_
  rintro _ w11 ⟨A11, c11, rfl, h11⟩
  refine wq_p 1 [(10, (Value.slice A11 body.length c11))] ?_
  refine wl_end rfl ?_
  refine seq_n hK7 ?_
  refine wp_seq_k ?_
  intro K12 hK12
  refine reg_lit ?_
  refine wq_v (some 32) (Value.agg (vb (kl K)).toArray) (e_loads (h11.at_ 2 rfl) 28 (.tmp 5) (by kernel_rfl) 0 (vb (kl K)) (by kernel_rfl) (by kernel_rfl) (by kernel_rfl)) ?_
  refine wq_p 1 [(33, (Value.int .i64 n))] ?_
  refine wq_to (some 34) (x_key h11 (l := partK (kl K) D.data.toList 109) 22 [(Value.agg (vb (kl K)).toArray), (Value.int .i64 n), (Value.string (⟨#[109]⟩))] (by kernel_rfl) (part_len _ _ _) (part_anyW G K n D 109 hD _ (h11.rd 1 rfl))) ?_
  rintro _ w13 ⟨K13, rfl, hK13, h13⟩
  refine wq_to (some 11) (x_new h13 28 (vb (List.replicate 16 0)) (fun r => pt r 0) (by kernel_rfl)) ?_
  rintro _ w14 ⟨g14, rfl, h14⟩
  refine wq_to none (x_stores h14 0 rfl 28 (.tmp 11) (.tmp 34) (by kernel_rfl) 0 (vb (kl K13)) (vb (kl K13)) (by kernel_rfl) (by kernel_rfl) (by kernel_rfl) (by kernel_rfl) (by kernel_rfl) (by kernel_rfl)) ?_
  rintro _ w15 h15
  refine wl_end rfl ?_
  refine seq_n hK12 ?_
  refine wp_seq_k ?_
  intro K16 hK16
  refine wp_reset 45 [(0, (pt m 0)), (1, (Value.agg (vb (kl K)).toArray)), (2, (Value.int .i64 n)), (3, (Value.slice B body.length d)), (5, (pt g2 0)), (8, (Value.slice none 0 0)), (9, (Value.slice A6 8 c6)), (10, (Value.slice A11 body.length c11)), (11, (pt g14 0))] (fun x17 => ?_)
  refine reg_lit ?_
  refine wq_p 5 [(39, (Value.slice A11 body.length c11)), (38, (Value.slice A6 8 c6)), (37, (Value.slice (some ⟨g14, 0, none⟩) 16 16)), (36, (Value.slice A11 body.length c11)), (35, (Value.slice A6 8 c6))] ?_
  refine wq_to (some 40) (x_bs h15 22 ([(Value.slice A6 8 c6), (Value.slice A11 body.length c11)]) 2 (by kernel_rfl)) ?_
  rintro _ w18 ⟨g18, rfl, h18⟩
  refine wq_to (some 41) (x_bytesE h18 26 [(Value.slice (some ⟨g14, 0, none⟩) 16 16), (Value.slice (some ⟨g18, 0, none⟩) 2 2)] (by kernel_rfl) (sum_any (Value.slice (some ⟨g14, 0, none⟩) 16 16) (kl K13) (Value.slice (some ⟨g18, 0, none⟩) 2 2) [put8 ((((((b))) + 1))), ciph (kl K) D.data.toList (put8 ((((((b))) + 1)))) body] _ (SB.blk16 (K := K13) (h18.at_ 1 rfl)) (bs2 (h18.at_ 0 rfl) (OB.sb (h18.at_ 3 rfl)) (OB.sb (h18.at_ 2 rfl))) (by rw [kl_len]; decide) (by simp) (by simp [put8_len, ciph_len]; omega)) (macF (kl K13) ((put8 ((((((b))) + 1)))) ++ (ciph (kl K) D.data.toList (put8 ((((((b))) + 1)))) body))) (32) (by simp) (mac_len _ _).symm) ?_
  rintro _ w19 ⟨A19, c19, rfl, h19⟩
  refine wq_v (some 42) (cutS (Value.slice A19 32 c19) 0 16) (e_cut_h (OB.sb (h19.at_ 0 rfl)) (.tmp 41) (.const (Value.int .i64 16)) (by kernel_rfl) (by kernel_rfl) .i64 16 (by kernel_rfl) (by first | omega | (rw [mac_len]; decide) | (rw [sha_len]; decide) | (rw [put8_len]; decide)) _) ?_
  refine wq_to (some 43) (x_bs h19 22 ([(Value.slice A6 8 c6), (Value.slice A11 body.length c11), (cutS (Value.slice A19 32 c19) 0 16)]) 3 (by kernel_rfl)) ?_
  rintro _ w20 ⟨g20, rfl, h20⟩
  refine wq_to (some 44) (x_bytesE h20 25 [(Value.slice (some ⟨g20, 0, none⟩) 3 3)] (by kernel_rfl) (joined_any (Value.slice (some ⟨g20, 0, none⟩) 3 3) [put8 ((((((b))) + 1))), ciph (kl K) D.data.toList (put8 ((((((b))) + 1)))) body, ((macF (kl K13) ((put8 ((((((b))) + 1)))) ++ (ciph (kl K) D.data.toList (put8 ((((((b))) + 1)))) body))).take 16).drop 0] _ (bs3 (h20.at_ 0 rfl) (OB.sb (h20.at_ 5 rfl)) (OB.sb (h20.at_ 4 rfl)) (SB.cut (OB.sb (h20.at_ 1 rfl)) 0 16 (by first | omega | (rw [mac_len]; decide) | (rw [sha_len]; decide) | (rw [put8_len]; decide)))) (by simp [put8_len, ciph_len, mac_len]; omega)) ((put8 ((((((b))) + 1)))) ++ (ciph (kl K) D.data.toList (put8 ((((((b))) + 1)))) body) ++ (((macF (kl K13) ((put8 ((((((b))) + 1)))) ++ (ciph (kl K) D.data.toList (put8 ((((((b))) + 1)))) body))).take 16).drop 0)) (((put8 ((((((b))) + 1)))) ++ (ciph (kl K) D.data.toList (put8 ((((((b))) + 1)))) body) ++ (((macF (kl K13) ((put8 ((((((b))) + 1)))) ++ (ciph (kl K) D.data.toList (put8 ((((((b))) + 1)))) body))).take 16).drop 0)).length) (by simp) rfl) ?_
  rintro _ w21 ⟨A21, c21, rfl, h21⟩
  refine wq_p 1 [(8, (Value.slice A21 (((put8 ((((((b))) + 1)))) ++ (ciph (kl K) D.data.toList (put8 ((((((b))) + 1)))) body) ++ (((macF (kl K13) ((put8 ((((((b))) + 1)))) ++ (ciph (kl K) D.data.toList (put8 ((((((b))) + 1)))) body))).take 16).drop 0)).length) c21))] ?_
  refine wl_end rfl ?_
  refine seq_n hK16 ?_
  refine wp_ret ?_
  refine post_1 rfl (by kernel_rfl) (rtmp (v := (Value.slice A21 (((put8 ((((((b))) + 1)))) ++ (ciph (kl K) D.data.toList (put8 ((((((b))) + 1)))) body) ++ (((macF (kl K13) ((put8 ((((((b))) + 1)))) ++ (ciph (kl K) D.data.toList (put8 ((((((b))) + 1)))) body))).take 16).drop 0)).length) c21)) (by kernel_rfl)) ?_
  have e22 : (put8 ((((((b))) + 1)))) ++ (ciph (kl K) D.data.toList (put8 ((((((b))) + 1)))) body) ++ (((macF (kl K13) ((put8 ((((((b))) + 1)))) ++ (ciph (kl K) D.data.toList (put8 ((((((b))) + 1)))) body))).take 16).drop 0) = boxR (b + 1) (kl K) D.data.toList body := by rw [hK13]; unfold boxR tagOf; rw [List.drop_zero, List.append_assoc]
  rw [e22] at h21
  exact ⟨_, _, by rw [e22], h21.sel [8, 0] [] (by decide) rfl rfl⟩
theorem rseal_any (m : Nat) (sv av : Value) (b : Nat) (w : World) (K : Fin 16 → UInt8) (n : Int) (D : ByteArray) (hi : ItoaIs n D) (hD : D.size ≤ 1000) (bv : Value) (body : Bytes) (H : Hp (fun q => q = m) w w [rSB bv body] [rBlk m 47 [sv, av, .int .u64 ((b : Nat) : Int)]]) (hb : b < 4294967296) (hl : body.length ≤ 1048576) :
    Calls Tryd.prog 8 #[pt m 0, .agg (vb (kl K)).toArray, .int .i64 n, bv] w fun e w' => ∃ A c, e = .returned (.slice A (boxR (b + 1) (kl K) D.data.toList body).length c) ∧
      Hp (fun q => q = m) w w' [] [rBlk m 47 [sv, av, .int .u64 ((b + 1 : Nat) : Int)], rOB (.slice A (boxR (b + 1) (kl K) D.data.toList body).length c) (boxR (b + 1) (kl K) D.data.toList body)] :=
  rseal_anyW m sv av b w (fun _ => False) K n D hD bv body (H.addR _ (rIt_of hi w) fun _ _ _ => rIt_dj _ _ _) hb hl
def ROPost (w : World) (r : Option Bytes) (e : Ending) (w' : World) : Prop := ∃ v, e = .returned (.tuple #[v, .bool r.isSome]) ∧ OB w' w.heap.size v (r.getD []) ∧ Below w.heap.size w w'
theorem ropost_of {w w' : World} {ro rs : List Res} {r : Bytes} {v : Value} {x : Option Bytes} (h : Hp (fun _ => False) w w' ro rs) (i : Nat) (hi : rs[i]? = some (rOB v r)) (e : x = some r) : ROPost w x (.returned (.tuple #[v, .bool true])) w' := by
  subst e
  obtain ⟨v', he, ho, hb⟩ := bpost_of h i hi rfl
  injection he with he
  subst he
  exact ⟨v, rfl, ho, hb⟩
theorem ropost_no {w w' : World} {x : Option Bytes} (e : x = none) (hb : Below w.heap.size w w') : ROPost w x (.returned (.tuple #[.slice none 0 0, .bool false])) w' := by
  subst e
  exact ⟨_, rfl, OB.nil _ _, hb⟩
set_option maxRecDepth 100000 in
set_option maxHeartbeats 4000000 in
theorem ropen_anyW (mv : Value) (G : Nat → Prop) (K : Fin 16 → UInt8) (n : Int) (D : ByteArray) (hD : D.size ≤ 1000) (bv : Value) (box : Bytes) (hl : box.length ≤ 1048576) (w : World) (hv : SB w bv box) (hi : (rIt G n D).Φ w) :
    Calls Tryd.prog 10 #[mv, .agg (vb (kl K)).toArray, .int .i64 n, bv] w (ROPost w (openR (kl K) D.data.toList box)) := by
  obtain ⟨B, d, rfl, hc1, hc2⟩ := sb_form hv
  have h0 := (Hp.ro1 (rSB (.slice B box.length d) box) hv).addR (rIt G n D) hi (by simp)
  refine enter 45 Tryd.func10 rfl rfl ?_
  refine wp_reset 49 [(0, mv), (1, (Value.agg (vb (kl K)).toArray)), (2, (Value.int .i64 n)), (3, (Value.slice B box.length d))] (fun x0 => ?_)
  refine wp_seq_k ?_
  intro K1 hK1
  refine reg_lit ?_
  refine wq_to (some 5) (x_new h0 28 (vb (kl K)) (fun r => pt r 0) (by kernel_rfl)) ?_
  rintro _ w2 ⟨g2, rfl, h2⟩
  refine wq_p 2 [(9, (Value.bool false)), (8, (Value.slice none 0 0))] ?_
  refine wl_end rfl ?_
  refine seq_n hK1 ?_
  refine wp_seq_k ?_
  intro K3 hK3
  refine wp_seq_k ?_
  intro K4 hK4
  refine reg_lit ?_
  refine wq_p 3 [(16, (Value.bool (decide ((box.length : Int) < 24)))), (15, (Value.int .i64 ((box.length : Int)))), (14, (Value.slice B box.length d))] ?_
  refine wl_end rfl ?_
  refine seq_n hK4 ?_
  refine wp_if ((box.length : Int) < 24) (by kernel_rfl) (fun b5 => ?_) (fun b5 => ?_)
  ·
   refine wp_seq_k ?_
   intro K6 hK6
   refine reg_lit ?_
   refine wq_p 2 [(9, (Value.bool false)), (8, (Value.slice none 0 0))] ?_
   refine wl_end rfl ?_
   refine seq_n hK6 ?_
   refine wp_ret ?_
   refine seq_r ?_
   refine post_2 rfl (by kernel_rfl) (rtmp (v := (Value.slice none 0 0)) (by kernel_rfl)) (rtmp (v := (Value.bool false)) (by kernel_rfl)) ?_
   exact ropost_no (if_pos (by omega)) h2.below0
  ·
   refine wp_skip ?_
   refine seq_n hK3 ?_
   refine wp_seq_k ?_
   intro K7 hK7
   refine pR_go h2 14 (fun W => True) [(18, [3], 0), (19, [17], 1), (20, [3], 0), (21, [3], 0), (22, [20], 8), (23, [21], 16), (24, [19, 22], 36), (25, [3], 0), (26, [3], 0), (27, [25], 256), (28, [26], 512), (29, [24, 27], 1152), (11, [18], 3), (12, [23], 4223), (13, [28], 16383)] rfl (fun _ d _ _ _ h => by cases d <;> exact h) ?_
   intro hs8 w8 h8
   refine pR_p 8 [0, 2, 3, 4, 7, 8, 9] [(26, (Value.int .i64 ((box.length : Int)))), (25, (Value.slice B box.length d)), (24, (Value.slice B box.length d)), (21, (Value.int .i64 ((box.length : Int)))), (20, (Value.slice B box.length d)), (19, (Value.slice B box.length d)), (17, (Value.slice B box.length d))] 925 hs8 trivial ?_
   refine pR_v 1 (some 18) (cutS (Value.slice B box.length d) 0 8) 927 rfl hs8 trivial (fun W hW => e_cut_h (h8.rd 1 rfl) (.tmp 17) (.const (Value.int .i64 8)) (by kernel_rfl) (by kernel_rfl) .i64 8 (by kernel_rfl) (by first | omega | (rw [mac_len]; decide)) _) ?_
   refine pR_p 6 [12] [(10, (cutS (Value.slice B box.length d) 0 8))] 5023 hs8 trivial ?_
   refine pR_v 5 (some 22) (Value.int .i64 ((((box.length) - 16 : Nat) : Int))) 5055 rfl hs8 trivial (fun W hW => exec_sub _ _ _ _ rfl ((box.length : Int)) 16 (by kernel_rfl) (by kernel_rfl) ((((box.length) - 16 : Nat) : Int)) (by omega) (by omega) (by omega) _) ?_
   refine pR_v 6 (some 23) (cutS (Value.slice B box.length d) 8 ((((box.length) - 16)))) 5119 rfl hs8 trivial (fun W hW => e_cut_lh (h8.rd 1 rfl) (.tmp 19) (.const (Value.int .i64 8)) (.tmp 22) (by kernel_rfl) (by kernel_rfl) .i64 .i64 8 ((((box.length) - 16))) (by kernel_rfl) (by kernel_rfl) (by first | omega | (rw [mac_len]; decide)) (by first | omega | (rw [mac_len]; decide)) _) ?_
   refine pR_p 3 [13] [(11, (cutS (Value.slice B box.length d) 8 ((((box.length) - 16)))))] 13311 hs8 trivial ?_
   refine pR_v 10 (some 27) (Value.int .i64 ((((box.length) - 16 : Nat) : Int))) 14335 rfl hs8 trivial (fun W hW => exec_sub _ _ _ _ rfl ((box.length : Int)) 16 (by kernel_rfl) (by kernel_rfl) ((((box.length) - 16 : Nat) : Int)) (by omega) (by omega) (by omega) _) ?_
   refine pR_v 11 (some 28) (cutS (Value.slice B box.length d) ((((box.length) - 16))) ((box).length)) 16383 rfl hs8 trivial (fun W hW => e_cut_l (h8.rd 1 rfl) (.tmp 24) (.tmp 27) (by kernel_rfl) (by kernel_rfl) .i64 ((((box.length) - 16))) (by kernel_rfl) (by first | omega | (rw [mac_len]; decide)) _) ?_
   refine pR_to 14 (some 12) 32767 rfl hs8 (OpTo.run (cutS (Value.slice B box.length d) ((((box.length) - 16))) ((box).length)) (pureOp_run (by kernel_rfl) _) (R := fun v w => v = (cutS (Value.slice B box.length d) ((((box.length) - 16))) ((box).length)) ∧ w8 = w) ⟨rfl, rfl⟩) ?_
   rintro _ _ ⟨rfl, rfl⟩
   refine ⟨fun h => absurd h (by decide), ?_⟩
   refine pR_done hs8 ?_ _
   refine seq_n hK7 ?_
   refine wp_seq_k ?_
   intro K9 hK9
   refine reg_lit ?_
   refine wq_v (some 29) (Value.agg (vb (kl K)).toArray) (e_loads (h8.at_ 0 rfl) 28 (.tmp 5) (by kernel_rfl) 0 (vb (kl K)) (by kernel_rfl) (by kernel_rfl) (by kernel_rfl)) ?_
   refine wq_p 1 [(30, (Value.int .i64 n))] ?_
   refine wq_to (some 31) (x_key h8 (l := partK (kl K) D.data.toList 109) 22 [(Value.agg (vb (kl K)).toArray), (Value.int .i64 n), (Value.string (⟨#[109]⟩))] (by kernel_rfl) (part_len _ _ _) (part_anyW G K n D 109 hD _ (h8.rd 0 rfl))) ?_
   rintro _ w10 ⟨K10, rfl, hK10, h10⟩
   refine wq_to (some 13) (x_new h10 28 (vb (List.replicate 16 0)) (fun r => pt r 0) (by kernel_rfl)) ?_
   rintro _ w11 ⟨g11, rfl, h11⟩
   refine wq_to none (x_stores h11 0 rfl 28 (.tmp 13) (.tmp 31) (by kernel_rfl) 0 (vb (kl K10)) (vb (kl K10)) (by kernel_rfl) (by kernel_rfl) (by kernel_rfl) (by kernel_rfl) (by kernel_rfl) (by kernel_rfl)) ?_
   rintro _ w12 h12
   refine wl_end rfl ?_
   refine seq_n hK9 ?_
   refine wp_seq_k ?_
   intro K13 hK13
   refine wp_seq_k ?_
   intro K14 hK14
   by_cases b15 : tagOf (kl K) D.data.toList (box.take 8) (midOf box) = box.drop (box.length - 16)
   ·
    refine reg_lit ?_
    refine wq_p 3 [(34, (cutS (Value.slice B box.length d) 8 ((((box.length) - 16))))), (33, (cutS (Value.slice B box.length d) 0 8)), (32, (Value.slice (some ⟨g11, 0, none⟩) 16 16))] ?_
    refine wq_to (some 35) (x_bs h12 22 ([(cutS (Value.slice B box.length d) 0 8), (cutS (Value.slice B box.length d) 8 ((((box.length) - 16))))]) 2 (by kernel_rfl)) ?_
    rintro _ w16 ⟨g16, rfl, h16⟩
    refine wq_to (some 36) (x_bytesE h16 26 [(Value.slice (some ⟨g11, 0, none⟩) 16 16), (Value.slice (some ⟨g16, 0, none⟩) 2 2)] (by kernel_rfl) (sum_any (Value.slice (some ⟨g11, 0, none⟩) 16 16) (kl K10) (Value.slice (some ⟨g16, 0, none⟩) 2 2) [((box).take 8).drop 0, ((box).take ((((box.length) - 16)))).drop 8] _ (SB.blk16 (K := K10) (h16.at_ 1 rfl)) (bs2 (h16.at_ 0 rfl) (SB.cut (h16.rd 1 rfl) 0 8 (by first | omega | (rw [mac_len]; decide))) (SB.cut (h16.rd 1 rfl) 8 ((((box.length) - 16))) (by first | omega | (rw [mac_len]; decide)))) (by rw [kl_len]; decide) (by simp) (by simp; omega)) (macF (kl K10) ((((box).take 8).drop 0) ++ (((box).take ((((box.length) - 16)))).drop 8))) (32) (by simp) (mac_len _ _).symm) ?_
    rintro _ w17 ⟨A17, c17, rfl, h17⟩
    refine wq_v (some 37) (cutS (Value.slice A17 32 c17) 0 16) (e_cut_h (OB.sb (h17.at_ 0 rfl)) (.tmp 36) (.const (Value.int .i64 16)) (by kernel_rfl) (by kernel_rfl) .i64 16 (by kernel_rfl) (by first | omega | (rw [mac_len]; decide)) _) ?_
    refine wq_p 1 [(38, (cutS (Value.slice B box.length d) ((((box.length) - 16))) ((box).length)))] ?_
    refine wq_to (some 39) (x_equal h17 (((macF (kl K10) ((((box).take 8).drop 0) ++ (((box).take ((((box.length) - 16)))).drop 8))).take 16).drop 0) (((box).take ((box).length)).drop ((((box.length) - 16)))) (cutS (Value.slice A17 32 c17) 0 16) (cutS (Value.slice B box.length d) ((((box.length) - 16))) ((box).length)) (by kernel_rfl) (SB.cut (OB.sb (h17.at_ 0 rfl)) 0 16 (by first | omega | (rw [mac_len]; decide))) (SB.cut (h17.rd 1 rfl) ((((box.length) - 16))) ((box).length) (by first | omega | (rw [mac_len]; decide))) true (by rw [hK10]; have e1 : (box.take box.length).drop (box.length - 16) = box.drop (box.length - 16) := (by rw [List.take_length]); rw [e1]; exact decide_eq_true b15)) ?_
    rintro _ w18 ⟨rfl, h18⟩
    refine wq_p 1 [(40, (Value.bool false))] ?_
    refine wl_end rfl ?_
    refine seq_n hK14 ?_
    refine wp_cond_false (by kernel_rfl) ?_
    refine wp_skip ?_
    refine seq_n hK13 ?_
    refine wp_seq_k ?_
    intro K19 hK19
    refine wp_reset 49 [(1, (Value.agg (vb (kl K)).toArray)), (2, (Value.int .i64 n)), (3, (Value.slice B box.length d)), (5, (pt g2 0)), (8, (Value.slice none 0 0)), (9, (Value.bool false)), (10, (cutS (Value.slice B box.length d) 0 8)), (11, (cutS (Value.slice B box.length d) 8 ((((box.length) - 16))))), (12, (cutS (Value.slice B box.length d) ((((box.length) - 16))) ((box).length))), (13, (pt g11 0)), (16, (Value.bool (decide ((box.length : Int) < 24)))), (40, (Value.bool false))] (fun x20 => ?_)
    refine reg_lit ?_
    refine wq_v (some 41) (Value.agg (vb (kl K)).toArray) (e_loads (h18.at_ 3 rfl) 28 (.tmp 5) (by kernel_rfl) 0 (vb (kl K)) (by kernel_rfl) (by kernel_rfl) (by kernel_rfl)) ?_
    refine wq_p 1 [(42, (Value.int .i64 n))] ?_
    refine wq_to (some 43) (x_key h18 (l := partK (kl K) D.data.toList 101) 22 [(Value.agg (vb (kl K)).toArray), (Value.int .i64 n), (Value.string (⟨#[101]⟩))] (by kernel_rfl) (part_len _ _ _) (part_anyW G K n D 101 hD _ (h18.rd 0 rfl))) ?_
    rintro _ w21 ⟨K21, rfl, hK21, h21⟩
    refine wq_to (some 44) (x_aesNew h21 K21 (by kernel_rfl)) ?_
    rintro _ w22 ⟨ci22, bx22, rfl, h22⟩
    refine wq_p 1 [(45, (cutS (Value.slice B box.length d) 0 8))] ?_
    refine wq_to (some 46) (x_key h22 (l := (((box).take 8).drop 0) ++ List.replicate 8 0) 24 [(cutS (Value.slice B box.length d) 0 8)] (by kernel_rfl) (by have e8 : (((box).take 8).drop 0).length = 8 := (by rw [len_cut _ _ _ (by omega)]); rw [List.length_append, List.length_replicate, e8]) (from_any (cutS (Value.slice B box.length d) 0 8) (((box).take 8).drop 0) (by rw [len_cut _ _ _ (by omega)]) _ (SB.cut (h22.rd 2 rfl) 0 8 (by first | omega | (rw [mac_len]; decide))))) ?_
    rintro _ w23 ⟨K23, rfl, hK23, h23⟩
    refine wq_p 1 [(47, (cutS (Value.slice B box.length d) 8 ((((box.length) - 16)))))] ?_
    refine wq_to (some 48) (x_bytesE h23 23 [(pt ci22 0), (Value.agg (vb (kl K23)).toArray), (cutS (Value.slice B box.length d) 8 ((((box.length) - 16))))] (by kernel_rfl) (stream_any ci22 bx22 sbox (keys sbox (kl K21)) (kl K23) (((box).take ((((box.length) - 16)))).drop 8) (cutS (Value.slice B box.length d) 8 ((((box.length) - 16)))) _ (h23.rd 0 rfl) (kl_len _) (SB.cut (h23.rd 2 rfl) 8 ((((box.length) - 16))) (by first | omega | (rw [mac_len]; decide))) (by simp; omega)) (ciph (kl K) D.data.toList (box.take 8) (midOf box)) ((midOf box).length) (by rw [hK21, hK23]; rfl) (ciph_len _ _ _ _).symm) ?_
    rintro _ w24 ⟨A24, c24, rfl, h24⟩
    refine wq_p 2 [(9, (Value.bool true)), (8, (Value.slice A24 ((midOf box).length) c24))] ?_
    refine wl_end rfl ?_
    refine seq_n hK19 ?_
    refine wp_ret ?_
    refine post_2 rfl (by kernel_rfl) (rtmp (v := (Value.slice A24 ((midOf box).length) c24)) (by kernel_rfl)) (rtmp (v := (Value.bool true)) (by kernel_rfl)) ?_
    exact ropost_of h24 0 rfl (by unfold openR; rw [if_neg (by omega), if_pos b15])
   ·
    refine reg_lit ?_
    refine wq_p 3 [(34, (cutS (Value.slice B box.length d) 8 ((((box.length) - 16))))), (33, (cutS (Value.slice B box.length d) 0 8)), (32, (Value.slice (some ⟨g11, 0, none⟩) 16 16))] ?_
    refine wq_to (some 35) (x_bs h12 22 ([(cutS (Value.slice B box.length d) 0 8), (cutS (Value.slice B box.length d) 8 ((((box.length) - 16))))]) 2 (by kernel_rfl)) ?_
    rintro _ w25 ⟨g25, rfl, h25⟩
    refine wq_to (some 36) (x_bytesE h25 26 [(Value.slice (some ⟨g11, 0, none⟩) 16 16), (Value.slice (some ⟨g25, 0, none⟩) 2 2)] (by kernel_rfl) (sum_any (Value.slice (some ⟨g11, 0, none⟩) 16 16) (kl K10) (Value.slice (some ⟨g25, 0, none⟩) 2 2) [((box).take 8).drop 0, ((box).take ((((box.length) - 16)))).drop 8] _ (SB.blk16 (K := K10) (h25.at_ 1 rfl)) (bs2 (h25.at_ 0 rfl) (SB.cut (h25.rd 1 rfl) 0 8 (by first | omega | (rw [mac_len]; decide))) (SB.cut (h25.rd 1 rfl) 8 ((((box.length) - 16))) (by first | omega | (rw [mac_len]; decide)))) (by rw [kl_len]; decide) (by simp) (by simp; omega)) (macF (kl K10) ((((box).take 8).drop 0) ++ (((box).take ((((box.length) - 16)))).drop 8))) (32) (by simp) (mac_len _ _).symm) ?_
    rintro _ w26 ⟨A26, c26, rfl, h26⟩
    refine wq_v (some 37) (cutS (Value.slice A26 32 c26) 0 16) (e_cut_h (OB.sb (h26.at_ 0 rfl)) (.tmp 36) (.const (Value.int .i64 16)) (by kernel_rfl) (by kernel_rfl) .i64 16 (by kernel_rfl) (by first | omega | (rw [mac_len]; decide)) _) ?_
    refine wq_p 1 [(38, (cutS (Value.slice B box.length d) ((((box.length) - 16))) ((box).length)))] ?_
    refine wq_to (some 39) (x_equal h26 (((macF (kl K10) ((((box).take 8).drop 0) ++ (((box).take ((((box.length) - 16)))).drop 8))).take 16).drop 0) (((box).take ((box).length)).drop ((((box.length) - 16)))) (cutS (Value.slice A26 32 c26) 0 16) (cutS (Value.slice B box.length d) ((((box.length) - 16))) ((box).length)) (by kernel_rfl) (SB.cut (OB.sb (h26.at_ 0 rfl)) 0 16 (by first | omega | (rw [mac_len]; decide))) (SB.cut (h26.rd 1 rfl) ((((box.length) - 16))) ((box).length) (by first | omega | (rw [mac_len]; decide))) false (by rw [hK10]; have e1 : (box.take box.length).drop (box.length - 16) = box.drop (box.length - 16) := (by rw [List.take_length]); rw [e1]; exact decide_eq_false b15)) ?_
    rintro _ w27 ⟨rfl, h27⟩
    refine wq_p 1 [(40, (Value.bool true))] ?_
    refine wl_end rfl ?_
    refine seq_n hK14 ?_
    refine wp_cond_true (by kernel_rfl) ?_
    refine wp_seq_k ?_
    intro K28 hK28
    refine wp_reset 49 [(1, (Value.agg (vb (kl K)).toArray)), (2, (Value.int .i64 n)), (3, (Value.slice B box.length d)), (5, (pt g2 0)), (8, (Value.slice none 0 0)), (9, (Value.bool false)), (10, (cutS (Value.slice B box.length d) 0 8)), (11, (cutS (Value.slice B box.length d) 8 ((((box.length) - 16))))), (12, (cutS (Value.slice B box.length d) ((((box.length) - 16))) ((box).length))), (13, (pt g11 0)), (16, (Value.bool (decide ((box.length : Int) < 24)))), (40, (Value.bool true))] (fun x29 => ?_)
    refine reg_lit ?_
    refine wq_p 2 [(9, (Value.bool false)), (8, (Value.slice none 0 0))] ?_
    refine wl_end rfl ?_
    refine seq_n hK28 ?_
    refine wp_ret ?_
    refine seq_r ?_
    refine post_2 rfl (by kernel_rfl) (rtmp (v := (Value.slice none 0 0)) (by kernel_rfl)) (rtmp (v := (Value.bool false)) (by kernel_rfl)) ?_
    exact ropost_no (by unfold openR; rw [if_neg (by omega), if_neg b15]) h27.below0
theorem ropen_any (mv : Value) (K : Fin 16 → UInt8) (n : Int) (D : ByteArray) (hi : ItoaIs n D) (hD : D.size ≤ 1000) (bv : Value) (box : Bytes) (hl : box.length ≤ 1048576) (w : World) (hv : SB w bv box) :
    Calls Tryd.prog 10 #[mv, .agg (vb (kl K)).toArray, .int .i64 n, bv] w (ROPost w (openR (kl K) D.data.toList box)) :=
  ropen_anyW mv (fun _ => False) K n D hD bv box hl w hv (rIt_of hi w)
set_option maxRecDepth 100000 in
set_option maxHeartbeats 4000000 in
theorem rdigest_any (mv bv : Value) (b : Bytes) (hl : b.length ≤ 1048576) (w : World) (hv : SB w bv b) :
    Calls Tryd.prog 14 #[mv, bv] w fun e w' => ∃ A c, e = .returned (.slice A 16 c) ∧ SB w' (.slice A 16 c) ((shaF b).take 16) ∧ Below w.heap.size w w' ∧ ∀ q, (Value.slice A 16 c).ownBlock = some q → w.heap.size ≤ q := by
  obtain ⟨B, d, rfl, hc1, hc2⟩ := sb_form hv
  have h0 := Hp.ro1 (rSB (.slice B b.length d) b) hv
  refine enter 7 Tryd.func14 rfl rfl ?_
  refine wp_reset 9 [(0, mv), (1, (Value.slice B b.length d))] (fun x0 => ?_)
  refine wp_seq_k ?_
  intro K1 hK1
  refine reg_lit ?_
  refine wq_p 1 [(4, (Value.slice none 0 0))] ?_
  refine wl_end rfl ?_
  refine seq_n hK1 ?_
  refine wp_seq_k ?_
  intro K2 hK2
  refine reg_lit ?_
  refine wq_p 1 [(5, (Value.slice B b.length d))] ?_
  refine wq_to (some 6) (x_bs h0 22 ([(Value.slice B b.length d)]) 1 (by kernel_rfl)) ?_
  rintro _ w3 ⟨g3, rfl, h3⟩
  refine wq_to (some 7) (x_bytesE h3 35 [(Value.slice (some ⟨g3, 0, none⟩) 1 1)] (by kernel_rfl) (of_any (Value.slice (some ⟨g3, 0, none⟩) 1 1) [b] _ (bs1 (h3.at_ 0 rfl) (h3.rd 0 rfl)) (by simp; omega)) (shaF (b)) (32) (by simp) (sha_len _).symm) ?_
  rintro _ w4 ⟨A4, c4, rfl, h4⟩
  refine wq_v (some 8) (cutS (Value.slice A4 32 c4) 0 16) (e_cut_h (OB.sb (h4.at_ 0 rfl)) (.tmp 7) (.const (Value.int .i64 16)) (by kernel_rfl) (by kernel_rfl) .i64 16 (by kernel_rfl) (by first | omega | (rw [mac_len]; decide) | (rw [sha_len]; decide) | (rw [put8_len]; decide)) _) ?_
  refine wq_p 1 [(4, (cutS (Value.slice A4 32 c4) 0 16))] ?_
  refine wl_end rfl ?_
  refine seq_n hK2 ?_
  refine wp_ret ?_
  refine post_1 rfl (by kernel_rfl) (rtmp (v := (cutS (Value.slice A4 32 c4) 0 16)) (by kernel_rfl)) ?_
  exact ⟨_, _, rfl, (SB.cut (OB.sb (h4.at_ 0 rfl)) 0 16 (by first | omega | (rw [mac_len]; decide) | (rw [sha_len]; decide) | (rw [put8_len]; decide))), h4.below0, fun q hq => (h4.mine 0 _ rfl q (by have h2 : (cutS (Value.slice A4 32 c4) 0 16).ownBlock = some q := hq; rw [cutS_block] at h2; exact h2)).elim (fun f => f.elim) id⟩
set_option maxRecDepth 100000 in
set_option maxHeartbeats 4000000 in
theorem rtext_any (mv : Value) (p s : ByteArray) (hp : p.size ≤ 1048576) (hs : s.size ≤ 1048576) (w : World) : Calls Tryd.prog 18 #[mv, .string p, .string s] w (APost w (textS p.data.toList s.data.toList)) := by
  have h0 := Hp.nil (fun _ => False) w
  refine enter 7 Tryd.func18 rfl rfl ?_
  refine wp_reset 10 [(0, mv), (1, (Value.string p)), (2, (Value.string s))] (fun x0 => ?_)
  refine wp_seq_k ?_
  intro K1 hK1
  refine reg_lit ?_
  refine wq_to (some 6) (x_new h0 28 (vb (List.replicate 16 0)) (fun r => pt r 0) (by kernel_rfl)) ?_
  rintro _ w2 ⟨g2, rfl, h2⟩
  refine wl_end rfl ?_
  refine seq_n hK1 ?_
  refine wp_seq_k ?_
  intro K3 hK3
  refine reg_lit ?_
  refine wq_p 2 [(8, (Value.string s)), (7, (Value.string p))] ?_
  refine wq_to (some 9) (x_key h2 (l := textS p.data.toList s.data.toList) 39 [(Value.string p), (Value.string s)] (by kernel_rfl) (text_len _ _) (mtext_any p s hp hs _)) ?_
  rintro _ w4 ⟨K4, rfl, hK4, h4⟩
  refine wq_to none (x_stores h4 0 rfl 28 (.tmp 6) (.tmp 9) (by kernel_rfl) 0 (vb (kl K4)) (vb (kl K4)) (by kernel_rfl) (by kernel_rfl) (by kernel_rfl) (by kernel_rfl) (by kernel_rfl) (by kernel_rfl)) ?_
  rintro _ w5 h5
  refine wl_end rfl ?_
  refine seq_n hK3 ?_
  refine wp_ret ?_
  refine post_1 rfl (by kernel_rfl) (rcell (h5.at_ 0 rfl) (by kernel_rfl) (by kernel_rfl)) ?_
  exact ⟨by rw [hK4], h5.below0⟩
set_option maxRecDepth 100000 in
set_option maxHeartbeats 4000000 in
theorem rderive_any (mv : Value) (K : Fin 16 → UInt8) (s : ByteArray) (hs : s.size ≤ 1048576) (w : World) : Calls Tryd.prog 19 #[mv, .agg (vb (kl K)).toArray, .string s] w (APost w (derF (kl K) s.data.toList)) := by
  have h0 := Hp.nil (fun _ => False) w
  refine enter 7 Tryd.func19 rfl rfl ?_
  refine wp_reset 10 [(0, mv), (1, (Value.agg (vb (kl K)).toArray)), (2, (Value.string s))] (fun x0 => ?_)
  refine wp_seq_k ?_
  intro K1 hK1
  refine reg_lit ?_
  refine wq_to (some 4) (x_new h0 28 (vb (kl K)) (fun r => pt r 0) (by kernel_rfl)) ?_
  rintro _ w2 ⟨g2, rfl, h2⟩
  refine wq_to (some 6) (x_new h2 28 (vb (List.replicate 16 0)) (fun r => pt r 0) (by kernel_rfl)) ?_
  rintro _ w3 ⟨g3, rfl, h3⟩
  refine wl_end rfl ?_
  refine seq_n hK1 ?_
  refine wp_seq_k ?_
  intro K4 hK4
  refine reg_lit ?_
  refine wq_v (some 7) (Value.agg (vb (kl K)).toArray) (e_loads (h3.at_ 1 rfl) 28 (.tmp 4) (by kernel_rfl) 0 (vb (kl K)) (by kernel_rfl) (by kernel_rfl) (by kernel_rfl)) ?_
  refine wq_p 1 [(8, (Value.string s))] ?_
  refine wq_to (some 9) (x_key h3 (l := derF (kl K) s.data.toList) 40 [(Value.agg (vb (kl K)).toArray), (Value.string s)] (by kernel_rfl) (der_len _ _) (mderive_any K s hs _)) ?_
  rintro _ w5 ⟨K5, rfl, hK5, h5⟩
  refine wq_to none (x_stores h5 0 rfl 28 (.tmp 6) (.tmp 9) (by kernel_rfl) 0 (vb (kl K5)) (vb (kl K5)) (by kernel_rfl) (by kernel_rfl) (by kernel_rfl) (by kernel_rfl) (by kernel_rfl) (by kernel_rfl)) ?_
  rintro _ w6 h6
  refine wl_end rfl ?_
  refine seq_n hK4 ?_
  refine wp_ret ?_
  refine post_1 rfl (by kernel_rfl) (rcell (h6.at_ 0 rfl) (by kernel_rfl) (by kernel_rfl)) ?_
  exact ⟨by rw [hK5], h6.below0⟩
end Go.Proofs.YtpkelokaammmjaaDoor
end
/-! Steps: calls of package seal; plain laws on boxes. -/
section
namespace Go.Proofs.YtpkelokaammmjaaDoor
open Go.RowKit Go.QT
section
variable {o : Oper} {a : Act} {w w' : World} {F0 : Nat → Prop} {w0 : World} {ro rs : List Res}
theorem Hp.oneR (h : Hp F0 w0 w ro rs) (i : Nat) {r t : Res} (hi : rs[i]? = some r) (ht : t.Φ w) (d : t.dj r) : Hp r.F w w [t] [r] :=
  (Hp.one r (h.own i r hi)).addR t ht fun k u hk => by
    cases k with
    | zero => injection hk with hk; subst hk; exact d
    | succ k => simp at hk
theorem x_rnew (h : Hp F0 w0 w ro rs) (l : Bytes) (bv : Value) (hp : pureVal Tryd.prog (execOp a.eval o) = some (.enter 7 #[bv])) (hb : SB w bv l) (hl : l.length ≤ 1048576) :
    OpTo Tryd.prog o a w (fun u w' => ∃ m A c, u = pt m 0 ∧ Hp F0 w0 w' (rSB (.slice A l.length c) l :: ro) (rBlk m 47 [.slice A l.length c, .int .u64 ((0 : Nat) : Int), .int .u64 ((0 : Nat) : Int)] :: rs)) :=
  OpTo.enter 7 [bv] hp (rnew_any bv l hl w hb) fun e w' hq => by
    obtain ⟨m, A, c, he, hc⟩ := hq
    exact ⟨_, he, m, A, c, rfl, by simpa using (h.call0 hc).shareO 1 rfl⟩
theorem x_rfresh (h : Hp F0 w0 w ro rs) (i k : Nat) {m c x y : Nat} {A : Option Addr} {seed : Bytes} (hi : rs[i]? = some (rBlk m 47 [.slice A seed.length c, .int .u64 ((x : Nat) : Int), .int .u64 ((y : Nat) : Int)])) (hk : ro[k]? = some (rSB (.slice A seed.length c) seed))
    (hp : pureVal Tryd.prog (execOp a.eval o) = some (.enter 9 #[pt m 0])) (hx : x < 4294967296) (hl : seed.length ≤ 1048576) :
    OpTo Tryd.prog o a w (fun u w' => ∃ K, u = .agg (vb (kl K)).toArray ∧ kl K = freshR seed (x + 1) ∧ Hp F0 w0 w' ro (rs.set i (rBlk m 47 [.slice A seed.length c, .int .u64 ((x + 1 : Nat) : Int), .int .u64 ((y : Nat) : Int)]))) :=
  OpTo.enter 9 [pt m 0] hp (rfresh_any m A c seed x y w (h.oneR i hi (h.red k _ hk) (h.rdis k i _ _ hk hi)) hx hl) fun e w' hq => by
    obtain ⟨K, hK⟩ := kl_of (freshR seed (x + 1)) (fresh_len _ _)
    obtain ⟨he, hb, hf⟩ := hq
    exact ⟨_, he, K, by rw [hK], hK.symm, h.upd i hi hf _ hb (fun q hq => .inl hq)⟩
theorem x_rseal (h : Hp F0 w0 w ro rs) (i : Nat) {m y : Nat} {sv av : Value} (hi : rs[i]? = some (rBlk m 47 [sv, av, .int .u64 ((y : Nat) : Int)])) (K : Fin 16 → UInt8) (n : Int) (D : ByteArray) (hn : ItoaIs n D) (hD : D.size ≤ 1000) (bv : Value) (body : Bytes)
    (hp : pureVal Tryd.prog (execOp a.eval o) = some (.enter 8 #[pt m 0, .agg (vb (kl K)).toArray, .int .i64 n, bv])) (hb : SB w bv body) (hd : (rSB bv body).dj (rBlk m 47 [sv, av, .int .u64 ((y : Nat) : Int)])) (hy : y < 4294967296) (hl : body.length ≤ 1048576) (bx : Bytes) (hbx : bx = boxR (y + 1) (kl K) D.data.toList body) (ln : Nat) (hln : ln = bx.length) :
    OpTo Tryd.prog o a w (fun u w' => ∃ A c, u = .slice A ln c ∧ Hp F0 w0 w' ro (rBlk m 47 [sv, av, .int .u64 ((y + 1 : Nat) : Int)] :: rOB (.slice A ln c) bx :: rs.eraseIdx i)) :=
  OpTo.enter 8 [pt m 0, .agg (vb (kl K)).toArray, .int .i64 n, bv] hp (rseal_any m sv av y w K n D hn hD bv body (h.oneR i hi hb hd) hy hl) fun e w' hq => by
    subst hbx; subst hln
    obtain ⟨A, c, he, hc⟩ := hq
    exact ⟨_, he, A, c, rfl, h.call1 i hi hc⟩
theorem x_rsealW (h : Hp F0 w0 w ro rs) (i k : Nat) {G : Nat → Prop} {m y : Nat} {sv av : Value} (hi : rs[i]? = some (rBlk m 47 [sv, av, .int .u64 ((y : Nat) : Int)])) (K : Fin 16 → UInt8) (n : Int) (D : ByteArray) (hk : ro[k]? = some (rIt G n D)) (hD : D.size ≤ 1000) (bv : Value) (body : Bytes)
    (hp : pureVal Tryd.prog (execOp a.eval o) = some (.enter 8 #[pt m 0, .agg (vb (kl K)).toArray, .int .i64 n, bv])) (hb : SB w bv body) (hd : (rSB bv body).dj (rBlk m 47 [sv, av, .int .u64 ((y : Nat) : Int)])) (hy : y < 4294967296) (hl : body.length ≤ 1048576) (bx : Bytes) (hbx : bx = boxR (y + 1) (kl K) D.data.toList body) (ln : Nat) (hln : ln = bx.length) :
    OpTo Tryd.prog o a w (fun u w' => ∃ A c, u = .slice A ln c ∧ Hp F0 w0 w' ro (rBlk m 47 [sv, av, .int .u64 ((y + 1 : Nat) : Int)] :: rOB (.slice A ln c) bx :: rs.eraseIdx i)) :=
  OpTo.enter 8 [pt m 0, .agg (vb (kl K)).toArray, .int .i64 n, bv] hp (rseal_anyW m sv av y w G K n D hD bv body ((h.oneR i hi hb hd).addR (rIt G n D) (h.red k _ hk) fun j s hj => by
      cases j with
      | zero => injection hj with hj; subst hj; exact h.rdis k i _ _ hk hi
      | succ j => simp at hj) hy hl) fun e w' hq => by
    subst hbx; subst hln
    obtain ⟨A, c, he, hc⟩ := hq
    exact ⟨_, he, A, c, rfl, h.call1 i hi hc⟩
theorem x_ropenW (h : Hp F0 w0 w ro rs) (k : Nat) {G : Nat → Prop} (K : Fin 16 → UInt8) (n : Int) (D : ByteArray) (hk : ro[k]? = some (rIt G n D)) (hD : D.size ≤ 1000) (mv bv : Value) (box : Bytes)
    (hp : pureVal Tryd.prog (execOp a.eval o) = some (.enter 10 #[mv, .agg (vb (kl K)).toArray, .int .i64 n, bv])) (hb : SB w bv box) (hl : box.length ≤ 1048576) (r : Option Bytes) (hr : openR (kl K) D.data.toList box = r) (l : Bytes) (hrl : r.getD [] = l) (b : Bool) (hrb : r.isSome = b) :
    OpTo Tryd.prog o a w (fun u w' => ∃ A c, u = .tuple #[.slice A l.length c, .bool b] ∧ Hp F0 w0 w' ro (rOB (.slice A l.length c) l :: rs)) :=
  OpTo.enter 10 [mv, .agg (vb (kl K)).toArray, .int .i64 n, bv] hp (ropen_anyW mv G K n D hD bv box hl w hb (h.red k _ hk)) fun e w' hq => by
    rw [hr] at hq
    subst hrl; subst hrb
    obtain ⟨v, he, ho, hbl⟩ := hq
    obtain ⟨A, c, rfl, _⟩ := ho.sb
    exact ⟨_, he, A, c, rfl, h.newS hbl _ (ho.mono (Nat.zero_le _)) (fun q hq => (ho.own q hq).1)⟩
theorem x_ropen (h : Hp F0 w0 w ro rs) (K : Fin 16 → UInt8) (n : Int) (D : ByteArray) (hn : ItoaIs n D) (hD : D.size ≤ 1000) (mv bv : Value) (box : Bytes)
    (hp : pureVal Tryd.prog (execOp a.eval o) = some (.enter 10 #[mv, .agg (vb (kl K)).toArray, .int .i64 n, bv])) (hb : SB w bv box) (hl : box.length ≤ 1048576) (r : Bytes) (hr : openR (kl K) D.data.toList box = some r) :
    OpTo Tryd.prog o a w (fun u w' => ∃ A c, u = .tuple #[.slice A r.length c, .bool true] ∧ Hp F0 w0 w' ro (rOB (.slice A r.length c) r :: rs)) :=
  OpTo.enter 10 [mv, .agg (vb (kl K)).toArray, .int .i64 n, bv] hp (ropen_any mv K n D hn hD bv box hl w hb) fun e w' hq => by
    rw [hr] at hq
    obtain ⟨v, he, ho, hbl⟩ := hq
    obtain ⟨A, c, rfl, _⟩ := ho.sb
    exact ⟨_, he, A, c, rfl, h.newS hbl _ (ho.mono (Nat.zero_le _)) (fun q hq => (ho.own q hq).1)⟩
theorem x_rdigest (h : Hp F0 w0 w ro rs) (mv bv : Value) (b : Bytes) (hp : pureVal Tryd.prog (execOp a.eval o) = some (.enter 14 #[mv, bv])) (hb : SB w bv b) (hl : b.length ≤ 1048576) :
    OpTo Tryd.prog o a w (fun u w' => ∃ A c, u = .slice A 16 c ∧ SB w' (.slice A 16 c) ((shaF b).take 16) ∧ Hp F0 w0 w' ro rs) :=
  OpTo.enter 14 [mv, bv] hp (rdigest_any mv bv b hl w hb) fun e w' hq => by
    obtain ⟨A, c, he, hs, hbl, _⟩ := hq
    exact ⟨_, he, A, c, rfl, hs, h.below hbl⟩
theorem x_rdigestR (h : Hp F0 w0 w ro rs) (mv bv : Value) (b : Bytes) (hp : pureVal Tryd.prog (execOp a.eval o) = some (.enter 14 #[mv, bv])) (hb : SB w bv b) (hl : b.length ≤ 1048576) :
    OpTo Tryd.prog o a w (fun u w' => ∃ A c, u = .slice A 16 c ∧ Hp F0 w0 w' (rSB (.slice A 16 c) ((shaF b).take 16) :: ro) rs) :=
  OpTo.enter 14 [mv, bv] hp (rdigest_any mv bv b hl w hb) fun e w' hq => by
    obtain ⟨A, c, he, hs, hbl, hF⟩ := hq
    exact ⟨_, he, A, c, rfl, h.newR hbl (rSB _ _) hs (fun q hq => hF q hq.2)⟩
theorem djR {i k : Nat} {r : Res} {u : Value} {m : Bytes} (h : Hp F0 w0 w ro rs) (hk : ro[k]? = some (rSB u m)) (hi : rs[i]? = some r) : (rSB u m).dj r := h.rdis k i _ _ hk hi
end
/-! ### Boxes -/
theorem box_len (n : Nat) (K D b : Bytes) : (boxR n K D b).length = b.length + 24 := by
  unfold boxR
  rw [List.length_append, List.length_append, put8_len, ciph_len, tag_len]; omega
theorem box_take (n : Nat) (K D b : Bytes) : (boxR n K D b).take 8 = put8 n := by
  unfold boxR
  rw [List.append_assoc, List.take_append_of_le_length (by rw [put8_len]; omega), List.take_of_length_le (by rw [put8_len]; omega)]
theorem box_drop (n : Nat) (K D b : Bytes) : (boxR n K D b).drop ((boxR n K D b).length - 16) = tagOf K D (put8 n) (ciph K D (put8 n) b) := by
  rw [box_len]
  unfold boxR
  have h : (put8 n ++ ciph K D (put8 n) b).length = b.length + 24 - 16 := by rw [List.length_append, put8_len, ciph_len]; omega
  rw [← h, List.drop_left]
theorem box_mid (n : Nat) (K D b : Bytes) : midOf (boxR n K D b) = ciph K D (put8 n) b := by
  unfold midOf
  rw [box_len]
  unfold boxR
  have h : (put8 n ++ ciph K D (put8 n) b).length = b.length + 24 - 16 := by rw [List.length_append, put8_len, ciph_len]; omega
  rw [← h, List.take_left]
  show List.drop (put8 n).length _ = _
  exact List.drop_left
theorem open_box (n : Nat) (K D b : Bytes) : openR K D (boxR n K D b) = some b := by
  unfold openR
  rw [if_neg (by rw [box_len]; omega), box_take, box_mid, box_drop, if_pos rfl]
  unfold ciph
  rw [stream_back]
theorem put8_inj {m n : Nat} (hm : m < 4294967296) (hn : n < 4294967296) (h : put8 m = put8 n) : m = n := by
  have e : ∀ k, k < 8 → UInt8.ofNat (m / 256 ^ (7 - k)) = UInt8.ofNat (n / 256 ^ (7 - k)) := by
    intro k hk
    have h1 := congrArg (fun l => l[k]?) h
    simpa [put8, hk] using h1
  have f : ∀ k, k < 8 → m / 256 ^ (7 - k) % 256 = n / 256 ^ (7 - k) % 256 := by
    intro k hk
    have := congrArg UInt8.toNat (e k hk)
    simpa using this
  have f0 := f 7 (by omega)
  have f1 := f 6 (by omega)
  have f2 := f 5 (by omega)
  have f3 := f 4 (by omega)
  simp at f0 f1 f2 f3
  omega
def lastB (K D b : Bytes) (i : Nat) : Bytes := if i = 0 then [] else boxR i K D b
theorem box_ne (K D b : Bytes) (i : Nat) (hi : i < 1000) : decide (boxR (i + 1) K D b = lastB K D b i) = false := by
  refine decide_eq_false fun h => ?_
  unfold lastB at h
  by_cases h0 : i = 0
  · rw [if_pos h0] at h
    have := congrArg List.length h
    rw [box_len] at this
    simp at this
  · rw [if_neg h0] at h
    have := congrArg (List.take 8) h
    rw [box_take, box_take] at this
    have := put8_inj (by omega) (by omega) this
    omega
theorem box_7 (K D b : Bytes) : gb (boxR (0 + 1) K D b) 7 = 1 := by
  unfold boxR
  rfl
theorem fresh_two : decide (freshR [115, 101, 101, 100] (0 + 1) = freshR [115, 101, 101, 100] (0 + 1 + 1)) = false := by decide +kernel
end Go.Proofs.YtpkelokaammmjaaDoor
end
/-! The document's example, of layer 6. -/
section
namespace Go.Proofs.YtpkelokaammmjaaDoor
open Go.RowKit Go.QT
set_option maxRecDepth 100000 in
set_option maxHeartbeats 4000000 in
theorem lalive_any (w : World) : Calls Tryd.prog 6 #[] w (NPost w (.bool true)) := by
  have h0 := Hp.nil (fun _ => False) w
  refine enter 55 Tryd.func6 rfl rfl ?_
  refine wp_reset 55 [] (fun x0 => ?_)
  refine wp_seq_k ?_
  intro K1 hK1
  refine reg_lit ?_
  refine wq_p 1 [(0, (Value.bool false))] ?_
  refine wl_end rfl ?_
  refine seq_n hK1 ?_
  refine wp_seq_k ?_
  intro K2 hK2
  refine reg_lit ?_
  refine wq_to (some 6) (x_bsl h0 [115, 101, 101, 100] (by kernel_rfl)) ?_
  rintro _ w3 ⟨g3, rfl, hw3, hg3, hq3, h3⟩
  refine wq_to (some 7) (x_bcv hq3 [115, 101, 101, 100] hw3 g3 hg3 (.tmp 6) (by kernel_rfl) (by kernel_rfl) (by decide)) ?_
  rintro _ w4 ⟨rfl, h4⟩
  refine wq_to (some 8) (x_rnew h4 ([115, 101, 101, 100]) (Value.slice (some ⟨g3, 0, none⟩) 4 4) (by kernel_rfl) (h4.rd 0 rfl) (by first | (show _ ≤ _; decide) | (rw [box_len]; decide))) ?_
  rintro _ w5 ⟨m5, A5, c5, rfl, h5⟩
  refine wq_p 1 [(1, (pt m5 0))] ?_
  refine wl_end rfl ?_
  refine seq_n hK2 ?_
  refine wp_seq_k ?_
  intro K6 hK6
  refine wp_seq_k ?_
  intro K7 hK7
  refine reg_lit ?_
  refine wq_p 2 [(10, (Value.bool false)), (9, (pt m5 0))] ?_
  refine wl_end rfl ?_
  refine seq_n hK7 ?_
  refine wp_cond_false (by kernel_rfl) ?_
  refine wp_skip ?_
  refine seq_n hK6 ?_
  refine wp_seq_k ?_
  intro K8 hK8
  refine reg_lit ?_
  refine wq_p 1 [(11, (pt m5 0))] ?_
  refine wq_to (some 12) (x_rfresh h5 0 0 (x := ((0))) (y := ((0))) (seed := [115, 101, 101, 100]) rfl rfl (by kernel_rfl) (by omega) (by first | (show _ ≤ _; decide) | (rw [box_len]; decide))) ?_
  rintro _ w9 ⟨K9, rfl, hK9, h9⟩
  refine wq_to (some 2) (x_new h9 28 (vb (List.replicate 16 0)) (fun r => pt r 0) (by kernel_rfl)) ?_
  rintro _ w10 ⟨g10, rfl, h10⟩
  refine wq_to none (x_stores h10 0 rfl 28 (.tmp 2) (.tmp 12) (by kernel_rfl) 0 (vb (kl K9)) (vb (kl K9)) (by kernel_rfl) (by kernel_rfl) (by kernel_rfl) (by kernel_rfl) (by kernel_rfl) (by kernel_rfl)) ?_
  rintro _ w11 h11
  refine wl_end rfl ?_
  refine seq_n hK8 ?_
  refine wp_seq_k ?_
  intro K12 hK12
  refine reg_lit ?_
  refine wq_p 1 [(13, (pt m5 0))] ?_
  refine wq_v (some 14) (Value.agg (vb (kl K9)).toArray) (e_loads (h11.at_ 0 rfl) 28 (.tmp 2) (by kernel_rfl) 0 (vb (kl K9)) (by kernel_rfl) (by kernel_rfl) (by kernel_rfl)) ?_
  refine wq_to (some 15) (x_bsl h11 [97, 98, 99] (by kernel_rfl)) ?_
  rintro _ w13 ⟨g13, rfl, hw13, hg13, hq13, h13⟩
  refine wq_to (some 16) (x_bcv hq13 [97, 98, 99] hw13 g13 hg13 (.tmp 15) (by kernel_rfl) (by kernel_rfl) (by decide)) ?_
  rintro _ w14 ⟨rfl, h14⟩
  refine wq_to (some 17) (x_rseal h14 1 (y := ((0))) rfl K9 2 ⟨#[50]⟩ itoa_is2 (by decide) (Value.slice (some ⟨g13, 0, none⟩) 3 3) ([97, 98, 99]) (by kernel_rfl) (h14.rd 0 rfl) (djR h14 (k := 0) (i := 1) rfl rfl) (by omega) (by first | (show _ ≤ _; decide) | (rw [box_len]; decide)) (boxR (((0)) + 1) (kl K9) [50] ([97, 98, 99])) rfl (27) (by rw [box_len]; rfl)) ?_
  rintro _ w15 ⟨A15, c15, rfl, h15⟩
  refine wq_p 1 [(3, (Value.slice A15 27 c15))] ?_
  refine wl_end rfl ?_
  refine seq_n hK12 ?_
  refine wp_seq_k ?_
  intro K16 hK16
  refine reg_lit ?_
  refine wq_p 1 [(19, (pt m5 0))] ?_
  refine wq_v (some 20) (Value.agg (vb (kl K9)).toArray) (e_loads (h15.at_ 2 rfl) 28 (.tmp 2) (by kernel_rfl) 0 (vb (kl K9)) (by kernel_rfl) (by kernel_rfl) (by kernel_rfl)) ?_
  refine wq_p 1 [(21, (Value.slice A15 27 c15))] ?_
  refine wq_to (some 22) (x_ropen h15 K9 2 ⟨#[50]⟩ itoa_is2 (by decide) (pt m5 0) (Value.slice A15 27 c15) (boxR (((0)) + 1) (kl K9) [50] ([97, 98, 99])) (by kernel_rfl) (OB.sb (h15.at_ 1 rfl)) (by rw [box_len]; decide) ([97, 98, 99]) (open_box _ _ _ _)) ?_
  rintro _ w17 ⟨A17, c17, rfl, h17⟩
  refine wq_p 5 [(5, (Value.bool true)), (4, (Value.slice A17 3 c17)), (24, (Value.bool true)), (23, (Value.slice A17 3 c17)), (18, (Value.tuple #[(Value.slice A17 3 c17), (Value.bool true)]))] ?_
  refine wl_end rfl ?_
  refine seq_n hK16 ?_
  refine wp_seq_k ?_
  intro K18 hK18
  refine wp_reset 55 [(0, (Value.bool false)), (1, (pt m5 0)), (2, (pt g10 0)), (3, (Value.slice A15 27 c15)), (4, (Value.slice A17 3 c17)), (5, (Value.bool true)), (10, (Value.bool false))] (fun x19 => ?_)
  refine pR_go h17 30 (fun W => (rOB ((Value.slice A15 27 c15)) (boxR (((0)) + 1) (kl K9) [50] ([97, 98, 99]))).Φ W ∧ (rBlk g10 28 (vb (kl K9))).Φ W ∧ True) [(26, [5], 0), (27, [25], 1), (28, [3, 26], 2), (29, [27, 26], 6), (30, [28, 26], 10), (31, [26, 29], 18), (32, [30], 34), (33, [3, 31], 64), (34, [32, 31], 192), (35, [33, 31], 320), (36, [34, 31], 576), (37, [31, 35], 1088), (38, [36], 2112), (39, [4, 37], 4096), (40, [37], 4096), (41, [39, 37], 20480), (42, [38, 40, 37], 45056), (43, [37, 41], 69632), (44, [42], 196608), (45, [2, 43], 262144), (46, [1, 43], 262144), (47, [45, 43], 1310720), (48, [44, 46, 43], 2883584), (49, [43, 47], 4456448), (50, [48], 10485760), (51, [1, 49], 16777216), (52, [50, 49], 50331648), (53, [51, 49], 83886080), (54, [52, 49], 150994944), (55, [49, 53], 285212672), (1, [54], 1073741823)] rfl (fun _ d _ _ _ h => by cases d <;> exact h) ?_
  intro hs20 w20 h20
  refine pR_p 23 [0, 1, 2, 3, 4, 5, 6, 7] [(32, (Value.slice A15 27 c15)), (31, (Value.bool true)), (30, (Value.bool true)), (29, (Value.bool true)), (28, (Value.int .i64 27)), (27, (Value.slice A15 27 c15)), (26, (Value.bool true)), (25, (Value.bool true))] 255 hs20 ⟨h20.at_ 2 rfl, h20.at_ 3 rfl, trivial⟩ ?_
  refine pR_v 8 (some 33) (eAt A15 (7 * 1 + 0)) 511 rfl hs20 ⟨h20.at_ 2 rfl, h20.at_ 3 rfl, trivial⟩ (fun W hW => e_idxN (SB.rvn (OB.sb (h20.at_ 2 rfl))).2 7 27 (SB.rvn (OB.sb (h20.at_ 2 rfl))).1 (by first | (rw [box_len]; decide) | decide) 22 (.tmp 32) (.const (Value.int .i64 7)) (by kernel_rfl) .i64 (by kernel_rfl) (by kernel_rfl) 5 (by kernel_rfl) (by kernel_rfl) _) ?_
  refine pR_v 9 (some 34) (Value.int .u8 (ub (gb (boxR (((0)) + 1) (kl K9) [50] ([97, 98, 99])) (7)))) 1023 rfl hs20 ⟨h20.at_ 2 rfl, h20.at_ 3 rfl, trivial⟩ (fun W hW => e_elemN (SB.rvn (OB.sb hW.1)).2 7 0 ([(Value.int .u8 (ub (gb (boxR (((0)) + 1) (kl K9) [50] ([97, 98, 99])) (7))))]) (bx_get _ _ (by first | (rw [box_len]; decide) | decide)) 5 (.tmp 33) (by kernel_rfl) (Value.int .u8 (ub (gb (boxR (((0)) + 1) (kl K9) [50] ([97, 98, 99])) (7)))) (by kernel_rfl) (by kernel_rfl) (by kernel_rfl)) ?_
  refine pR_v 10 (some 35) (Value.bool true) 2047 rfl hs20 ⟨h20.at_ 2 rfl, h20.at_ 3 rfl, trivial⟩ (fun W hW => eq_is (v := (Value.bool ((ub (gb (boxR (((0)) + 1) (kl K9) [50] ([97, 98, 99])) (7))) == 1))) (by kernel_rfl) (congrArg Value.bool (by rw [box_7]; kernel_rfl))) ?_
  refine pR_p 17 [11, 12, 13] [(38, (Value.slice A17 3 c17)), (37, (Value.bool true)), (36, (Value.bool true))] 16383 hs20 ⟨h20.at_ 2 rfl, h20.at_ 3 rfl, trivial⟩ ?_
  refine pR_to 14 (some 39) 32767 rfl hs20 (x_bsl h20 [97, 98, 99] (by kernel_rfl)) ?_
  rintro _ w21 ⟨g21, rfl, hw21, hg21, hq21, h21⟩
  refine ⟨fun _ => ⟨h21.at_ 3 rfl, h21.at_ 4 rfl, trivial⟩, ?_⟩
  refine pR_to 15 (some 40) 65535 rfl hs20 (x_bcv hq21 [97, 98, 99] hw21 g21 hg21 (.tmp 39) (by kernel_rfl) (by kernel_rfl) (by decide)) ?_
  rintro _ w22 ⟨rfl, h22⟩
  refine ⟨fun _ => ⟨h22.at_ 2 rfl, h22.at_ 3 rfl, trivial⟩, ?_⟩
  refine pR_to 16 (some 41) 131071 rfl hs20 (x_same h22 ([97, 98, 99]) ([97, 98, 99]) (Value.slice A17 3 c17) (Value.slice (some ⟨g21, 0, none⟩) 3 3) (by kernel_rfl) (OB.sb (h22.at_ 0 rfl)) (h22.rd 0 rfl) true (by decide)) ?_
  rintro _ w23 ⟨rfl, h23⟩
  refine ⟨fun _ => ⟨h23.at_ 2 rfl, h23.at_ 3 rfl, trivial⟩, ?_⟩
  refine pR_p 11 [17, 18, 20] [(45, (pt m5 0)), (43, (Value.bool true)), (42, (Value.bool true))] 1572863 hs20 ⟨h23.at_ 2 rfl, h23.at_ 3 rfl, trivial⟩ ?_
  refine pR_v 19 (some 44) (Value.agg (vb (kl K9)).toArray) 2097151 rfl hs20 ⟨h23.at_ 2 rfl, h23.at_ 3 rfl, trivial⟩ (fun W hW => e_loads hW.2.1 28 (.tmp 2) (by kernel_rfl) 0 (vb (kl K9)) (by kernel_rfl) (by kernel_rfl) (by kernel_rfl)) ?_
  refine pR_to 21 (some 46) 4194303 rfl hs20 (x_rfresh h23 1 2 (x := ((((0)) + 1))) (y := ((((0)) + 1))) (seed := [115, 101, 101, 100]) rfl rfl (by kernel_rfl) (by omega) (by first | (show _ ≤ _; decide) | (rw [box_len]; decide))) ?_
  rintro _ w24 ⟨K24, rfl, hK24, h24⟩
  refine ⟨fun _ => ⟨h24.at_ 2 rfl, h24.at_ 3 rfl, trivial⟩, ?_⟩
  refine pR_v 22 (some 47) (Value.bool true) 8388607 rfl hs20 ⟨h24.at_ 2 rfl, h24.at_ 3 rfl, trivial⟩ (fun W hW => e_kne K9 K24 28 28 (.tmp 44) (.tmp 46) (by kernel_rfl) (by kernel_rfl) (by kernel_rfl) (by kernel_rfl) (by kernel_rfl) true (decide_eq_true (by rw [hK9, hK24]; exact of_decide_eq_false fresh_two)) _) ?_
  refine pR_p 5 [23, 24, 25] [(50, (pt m5 0)), (49, (Value.bool true)), (48, (Value.bool true))] 67108863 hs20 ⟨h24.at_ 2 rfl, h24.at_ 3 rfl, trivial⟩ ?_
  refine pR_to 26 (some 51) 134217727 rfl hs20 (x_rdigest h24 (pt m5 0) (Value.slice none 0 0) ([]) (by kernel_rfl) (OB.sb (OB.nil _ 0)) (by first | (show _ ≤ _; decide) | (rw [box_len]; decide))) ?_
  rintro _ w25 ⟨A25, c25, rfl, hd25, h25⟩
  refine ⟨fun _ => ⟨h25.at_ 2 rfl, h25.at_ 3 rfl, trivial⟩, ?_⟩
  refine pR_p 1 [27, 28, 29] [(54, (Value.bool true)), (53, (Value.bool true)), (52, (Value.int .i64 16))] 1073741823 hs20 ⟨h25.at_ 2 rfl, h25.at_ 3 rfl, trivial⟩ ?_
  refine pR_to 30 (some 0) 2147483647 rfl hs20 (OpTo.run (Value.bool true) (pureOp_run (by kernel_rfl) _) (R := fun v w => v = (Value.bool true) ∧ w25 = w) ⟨rfl, rfl⟩) ?_
  rintro _ _ ⟨rfl, rfl⟩
  refine ⟨fun h => absurd h (by decide), ?_⟩
  refine pR_done hs20 ?_ _
  refine seq_n hK18 ?_
  refine wp_ret ?_
  refine post_1 rfl (by kernel_rfl) (rtmp (v := (Value.bool true)) (by kernel_rfl)) ?_
  exact ⟨rfl, h25.below0⟩
end Go.Proofs.YtpkelokaammmjaaDoor
end
/-! Plain functions of compeerref03: limbs, roots, primes; the words of a block. -/
section
namespace Go.Proofs.YtpkelokaammmjaaDoor
def gn (l : List Nat) (i : Nat) : Nat := l.getD i 0
def tmIn (a b : List Nat) (i : Nat) (out : List Nat) : Nat → List Nat
  | 0 => out
  | j+1 => (tmIn a b i out j).set (i+j) ((gn (tmIn a b i out j) (i+j) + gn a i * gn b j % 18446744073709551616) % 18446744073709551616)
def tmOut (a b : List Nat) : Nat → List Nat
  | 0 => List.replicate (a.length + b.length) 0
  | i+1 => tmIn a b i (tmOut a b i) b.length
def carr1 (l : List Nat) (k : Nat) : List Nat := l.set (k+1) ((gn l (k+1) + gn l k / 262144) % 18446744073709551616)
def tmCarry (l : List Nat) : Nat → List Nat
  | 0 => l
  | k+1 => (carr1 (tmCarry l k) k).set k (gn (carr1 (tmCarry l k) k) k % 262144)
/-- compeerref03.times. -/
def timesN (a b : List Nat) : List Nat := tmCarry (tmOut a b a.length) (a.length + b.length - 1)
def abvGo (p q : List Nat) : Nat → Bool
  | 0 => false
  | k+1 => if gn p k = gn q k then abvGo p q k else decide (gn q k < gn p k)
def limbs (y : Nat) : List Nat := [y % 262144, y / 262144]
def wantN (n : Nat) : List Nat := [0, 0, 0, 0, 0, n * 64 % 18446744073709551616 % 262144, n * 64 % 18446744073709551616 / 262144]
/-- compeerref03.above. -/
def abvN (y n : Nat) : Bool := abvGo (timesN (timesN (limbs y) (limbs y)) (limbs y)) (wantN n) 9
def cubeTo (n : Nat) : Nat → Nat
  | 0 => 0
  | i+1 => if abvN ((cubeTo n i + 2 ^ (35 - i)) % 18446744073709551616) n then cubeTo n i else (cubeTo n i + 2 ^ (35 - i)) % 18446744073709551616
def primeTo (l : List Nat) (p : Nat) : Nat → Bool
  | 0 => true
  | k+1 => if p % gn l k = 0 then false else primeTo l p k
def prTo : Nat → List Nat
  | 0 => []
  | p+1 => if primeTo (prTo p) (p + 2) (prTo p).length then prTo p ++ [p + 2] else prTo p
def primes64 : List Nat := [2, 3, 5, 7, 11, 13, 17, 19, 23, 29, 31, 37, 41, 43, 47, 53, 59, 61, 67, 71, 73, 79, 83, 89, 97, 101, 103, 107, 109, 113, 127, 131, 137, 139, 149, 151, 157, 163, 167, 173, 179, 181, 191, 193, 197, 199, 211, 223, 227, 229, 233, 239, 241, 251, 257, 263, 269, 271, 277, 281, 283, 293, 307, 311]
theorem tmIn_len (a b : List Nat) (i : Nat) (out : List Nat) (j : Nat) : (tmIn a b i out j).length = out.length := by
  induction j with
  | zero => rfl
  | succ j ih => simp only [tmIn, List.length_set, ih]
theorem tmOut_len (a b : List Nat) (i : Nat) : (tmOut a b i).length = a.length + b.length := by
  induction i with
  | zero => simp [tmOut]
  | succ i ih => rw [tmOut, tmIn_len, ih]
theorem carr1_len (l : List Nat) (k : Nat) : (carr1 l k).length = l.length := by simp [carr1]
theorem tmCarry_len (l : List Nat) (k : Nat) : (tmCarry l k).length = l.length := by
  induction k with
  | zero => rfl
  | succ k ih => rw [tmCarry, List.length_set, carr1_len, ih]
theorem timesN_len (a b : List Nat) : (timesN a b).length = a.length + b.length := by rw [timesN, tmCarry_len, tmOut_len]
/-- A byte as a word. -/
def w8 (x : UInt8) : UInt32 := UInt32.ofNat x.toNat
/-- A word of four bytes. -/
def rbe (b : Bytes) (k : Nat) : UInt32 := ((wsl (w8 (gb b (4 * k))) 24 ||| wsl (w8 (gb b (4 * k + 1))) 16) ||| wsl (w8 (gb b (4 * k + 2))) 8) ||| w8 (gb b (4 * k + 3))
def rwTo (b : Bytes) : Nat → List UInt32
  | 0 => []
  | k+1 => rwTo b k ++ [if k < 16 then rbe b k else nwd (rwTo b k) k]
theorem rwTo_len (b : Bytes) (k : Nat) : (rwTo b k).length = k := by
  induction k with
  | zero => rfl
  | succ k ih => rw [rwTo, List.length_append, ih]; rfl
end Go.Proofs.YtpkelokaammmjaaDoor
end
/-! Steps for the walks of compeerref03: numbers of 64 bits that wrap, slices of numbers and of words. -/
section
namespace Go.Proofs.YtpkelokaammmjaaDoor
open Go.RowKit Go.QT
/-- Numbers, words as elements. -/
def nx (l : List Nat) : List (List Value) := l.map fun n => [.int .u64 ((n : Nat) : Int)]
def wx (l : List UInt32) : List (List Value) := l.map fun x => [.int .u32 (uw x)]
@[simp] theorem nx_len (l : List Nat) : (nx l).length = l.length := by simp [nx]
@[simp] theorem wx_len (l : List UInt32) : (wx l).length = l.length := by simp [wx]
theorem nx_get (l : List Nat) (i : Nat) (h : i < l.length) : (nx l)[i]? = some [.int .u64 ((gn l i : Nat) : Int)] := by simp [nx, gn, h]
theorem wx_get (l : List UInt32) (i : Nat) (h : i < l.length) : (wx l)[i]? = some [.int .u32 (uw (gw l i))] := by simp [wx, gw, h]
theorem nx_set (l : List Nat) (i n : Nat) : nx (l.set i n) = (nx l).set i [.int .u64 ((n : Nat) : Int)] := by simp [nx, List.map_set]
theorem nx_app (l : List Nat) (n : Nat) : nx (l ++ [n]) = nx l ++ [[.int .u64 ((n : Nat) : Int)]] := by simp [nx]
theorem wx_app (l : List UInt32) (x : UInt32) : wx (l ++ [x]) = wx l ++ [[.int .u32 (uw x)]] := by simp [wx]
/-- Numbers of 64 bits. -/
def Lt64 (l : List Nat) : Prop := ∀ x ∈ l, x < 18446744073709551616
theorem Lt64.gn {l : List Nat} (h : Lt64 l) (i : Nat) : gn l i < 18446744073709551616 := by
  unfold Go.Proofs.YtpkelokaammmjaaDoor.gn
  rw [List.getD_eq_getElem?_getD]
  by_cases hi : i < l.length
  · rw [List.getElem?_eq_getElem hi]; exact h _ (List.getElem_mem hi)
  · rw [List.getElem?_eq_none (by omega)]; decide
theorem Lt64.set {l : List Nat} (h : Lt64 l) (i : Nat) {x : Nat} (hx : x < 18446744073709551616) : Lt64 (l.set i x) := fun y hy => by
  rcases List.mem_or_eq_of_mem_set hy with hy | rfl
  · exact h y hy
  · exact hx
theorem Lt64.zero (n : Nat) : Lt64 (List.replicate n 0) := fun x hx => by rw [List.eq_of_mem_replicate hx]; decide
theorem tmIn_lt (a b : List Nat) (i : Nat) {out : List Nat} (h : Lt64 out) (j : Nat) : Lt64 (tmIn a b i out j) := by
  induction j with
  | zero => exact h
  | succ j ih => exact ih.set _ (Nat.mod_lt _ (by decide))
theorem tmOut_lt (a b : List Nat) (i : Nat) : Lt64 (tmOut a b i) := by
  induction i with
  | zero => exact Lt64.zero _
  | succ i ih => exact tmIn_lt a b i ih _
theorem Lt64.carry {l : List Nat} (h : Lt64 l) (k : Nat) : Lt64 ((carr1 l k).set k (Go.Proofs.YtpkelokaammmjaaDoor.gn (carr1 l k) k % 262144)) :=
  Lt64.set (Lt64.set h _ (Nat.mod_lt _ (by decide))) _ (Nat.lt_of_lt_of_le (Nat.mod_lt _ (by decide)) (by decide))
theorem nxL {l : List Nat} {n : Nat} {Q : Prop} (h : (nx l).length = n ∧ Q) : l.length = n ∧ Q := ⟨(nx_len l).symm.trans h.1, h.2⟩
theorem wxL {l : List UInt32} {n : Nat} {Q : Prop} (h : (wx l).length = n ∧ Q) : l.length = n ∧ Q := ⟨(wx_len l).symm.trans h.1, h.2⟩
section
variable {P : Program} {o : Oper} {a : Act} {w w' : World} {F0 : Nat → Prop} {w0 : World} {ro rs : List Res}
theorem e_add64w (t t' : TypeId) (x y : Operand) (ho : o.op = .binOp .add t x y t') (m n : Nat) (hx : a.eval x = .int .u64 (m : Int)) (hy : a.eval y = .int .u64 (n : Int)) (w : World) :
    (execOp a.eval o).run P w = .ok (.value (.int .u64 (((m + n) % 18446744073709551616 : Nat) : Int))) w := by
  have e : IntKind.u64.wrap ((m : Int) + (n : Int)) = (((m + n) % 18446744073709551616 : Nat) : Int) := by rw [IntKind.wrap_u64]; omega
  have h3 : (eqGuard .add t x y (.int .u64 (m : Int)) (.int .u64 (n : Int))).run P w = .ok () w := by simp [eqGuard]
  have h4 : (binOp .add t (.int .u64 (m : Int)) (.int .u64 (n : Int))).run P w = .ok (.int .u64 (((m + n) % 18446744073709551616 : Nat) : Int)) w := by
    show (pure (Value.int .u64 (IntKind.u64.wrap ((m : Int) + (n : Int)))) : Sem Value).run P w = _
    rw [e]; rfl
  unfold execOp
  simp only [ho, hx, hy, Sem.run_bind, h3, h4, Result.andThen_ok, Sem.run_pure]
theorem e_mul64w (t t' : TypeId) (x y : Operand) (ho : o.op = .binOp .mul t x y t') (m n : Nat) (hx : a.eval x = .int .u64 (m : Int)) (hy : a.eval y = .int .u64 (n : Int)) (w : World) :
    (execOp a.eval o).run P w = .ok (.value (.int .u64 ((m * n % 18446744073709551616 : Nat) : Int))) w := by
  have e : IntKind.u64.wrap ((m : Int) * (n : Int)) = ((m * n % 18446744073709551616 : Nat) : Int) := by
    rw [IntKind.wrap_u64, ← Int.natCast_mul]
    generalize m * n = q
    omega
  have h3 : (eqGuard .mul t x y (.int .u64 (m : Int)) (.int .u64 (n : Int))).run P w = .ok () w := by simp [eqGuard]
  have h4 : (binOp .mul t (.int .u64 (m : Int)) (.int .u64 (n : Int))).run P w = .ok (.int .u64 ((m * n % 18446744073709551616 : Nat) : Int)) w := by
    show (pure (Value.int .u64 (IntKind.u64.wrap ((m : Int) * (n : Int)))) : Sem Value).run P w = _
    rw [e]; rfl
  unfold execOp
  simp only [ho, hx, hy, Sem.run_bind, h3, h4, Result.andThen_ok, Sem.run_pure]
theorem e_sub64n (t t' : TypeId) (x y : Operand) (ho : o.op = .binOp .sub t x y t') (m n : Nat) (hx : a.eval x = .int .u64 (m : Int)) (hy : a.eval y = .int .u64 (n : Int)) (h1 : n ≤ m) (h2 : m < 18446744073709551616) (w : World) :
    (execOp a.eval o).run P w = .ok (.value (.int .u64 ((m - n : Nat) : Int))) w := by
  have e : IntKind.u64.wrap ((m : Int) - (n : Int)) = ((m - n : Nat) : Int) := by rw [IntKind.wrap_u64]; omega
  have h3 : (eqGuard .sub t x y (.int .u64 (m : Int)) (.int .u64 (n : Int))).run P w = .ok () w := by simp [eqGuard]
  have h4 : (binOp .sub t (.int .u64 (m : Int)) (.int .u64 (n : Int))).run P w = .ok (.int .u64 ((m - n : Nat) : Int)) w := by
    show (pure (Value.int .u64 (IntKind.u64.wrap ((m : Int) - (n : Int)))) : Sem Value).run P w = _
    rw [e]; rfl
  unfold execOp
  simp only [ho, hx, hy, Sem.run_bind, h3, h4, Result.andThen_ok, Sem.run_pure]
theorem e_rem64 (x y : Operand) (t t' : TypeId) (ho : o.op = .binOp .rem t x y t') (m n : Nat) (hx : a.eval x = .int .u64 (m : Int)) (hy : a.eval y = .int .u64 (n : Int)) (hn : n ≠ 0) (W : World) :
    (execOp a.eval o).run P W = .ok (.value (.int .u64 ((m % n : Nat) : Int))) W := by
  have h0 : ¬ ((n : Int) = 0) := by omega
  unfold execOp
  simp only [ho, hx, hy, eqGuard_rem, binOp_rem, Op.intDiv, Sem.run_bind, Sem.run_pure, Result.andThen_ok, if_neg h0, Int.ofNat_tmod]
theorem e_quo64 (x y : Operand) (t t' : TypeId) (ho : o.op = .binOp .quo t x y t') (m n : Nat) (hx : a.eval x = .int .u64 (m : Int)) (hy : a.eval y = .int .u64 (n : Int)) (hn : n ≠ 0) (hm : m < 18446744073709551616) (W : World) :
    (execOp a.eval o).run P W = .ok (.value (.int .u64 ((m / n : Nat) : Int))) W := by
  have h0 : ¬ ((n : Int) = 0) := by omega
  have e : IntKind.u64.wrap ((m : Int).tdiv (n : Int)) = ((m / n : Nat) : Int) := by
    have h1 : m / n < 18446744073709551616 := Nat.lt_of_le_of_lt (Nat.div_le_self _ _) hm
    rw [Int.tdiv_eq_ediv_of_nonneg (Int.natCast_nonneg _), ← Int.natCast_ediv, IntKind.wrap_u64]
    generalize m / n = q at *
    omega
  unfold execOp
  simp only [ho, hx, hy, eqGuard_quo, binOp_quo, Op.intDiv, Sem.run_bind, Sem.run_pure, Result.andThen_ok, if_neg h0, e]
theorem e_shr64 (t t' : TypeId) (x y : Operand) (ho : o.op = .binOp .shr t x y t') (m : Nat) (k : IntKind) (n : Nat) (hn : n ≤ 64) (hx : a.eval x = .int .u64 (m : Int)) (hy : a.eval y = .int k (n : Int)) (W : World) :
    (execOp a.eval o).run P W = .ok (.value (.int .u64 ((m / 2 ^ n : Nat) : Int))) W := by
  have h3 : (eqGuard .shr t x y (.int .u64 (m : Int)) (.int k (n : Int))).run P W = .ok () W := by simp [eqGuard]
  have e : ((m : Int)).fdiv (2 ^ n) = ((m / 2 ^ n : Nat) : Int) := by
    have h2 : (2 : Int) ^ n = ((2 ^ n : Nat) : Int) := by simp
    rw [h2, Int.fdiv_eq_ediv_of_nonneg _ (Int.natCast_nonneg _), ← Int.natCast_ediv]
  have h4 : (binOp .shr t (.int .u64 (m : Int)) (.int k (n : Int))).run P W = .ok (.int .u64 ((m / 2 ^ n : Nat) : Int)) W := by
    have hm : min ((n : Int)).toNat IntKind.u64.bits = n := by
      show min ((n : Int)).toNat 64 = n
      omega
    have h0 : ¬ ((n : Int) < 0) := by omega
    unfold binOp Op.shift
    simp only [if_neg h0, hm, e, Sem.run_pure]
  unfold execOp
  simp only [ho, hx, hy, Sem.run_bind, h3, h4, Result.andThen_ok, Sem.run_pure]
theorem e_shl1 (t t' : TypeId) (x y : Operand) (ho : o.op = .binOp .shl t x y t') (k : IntKind) (n : Nat) (hn : n < 64) (hx : a.eval x = .int .u64 1) (hy : a.eval y = .int k (n : Int)) (W : World) :
    (execOp a.eval o).run P W = .ok (.value (.int .u64 ((2 ^ n : Nat) : Int))) W := by
  have h3 : (eqGuard .shl t x y (.int .u64 1) (.int k (n : Int))).run P W = .ok () W := by simp [eqGuard]
  have e : IntKind.u64.wrap (1 * 2 ^ n) = ((2 ^ n : Nat) : Int) := by
    have h2 : (2 : Int) ^ n = ((2 ^ n : Nat) : Int) := by simp
    have h1 : 2 ^ n ≤ 2 ^ 63 := Nat.pow_le_pow_right (by omega) (by omega)
    rw [IntKind.wrap_u64, h2, Int.one_mul]
    generalize 2 ^ n = q at *
    omega
  have h4 : (binOp .shl t (.int .u64 1) (.int k (n : Int))).run P W = .ok (.int .u64 ((2 ^ n : Nat) : Int)) W := by
    have hm : min ((n : Int)).toNat IntKind.u64.bits = n := by
      show min ((n : Int)).toNat 64 = n
      omega
    have h0 : ¬ ((n : Int) < 0) := by omega
    unfold binOp Op.shift
    simp only [if_neg h0, hm, e, Sem.run_pure]
  unfold execOp
  simp only [ho, hx, hy, Sem.run_bind, h3, h4, Result.andThen_ok, Sem.run_pure]
/-- Conversions. -/
theorem w_of8 (b : UInt8) : Value.int .u32 (IntKind.u32.wrap (ub b)) = Value.int .u32 (uw (w8 b)) := by
  congr 1
  rw [wrap32u, w8, uw_ofNat]; unfold ub; rfl
theorem b_of64 (n : Nat) : Value.int .u8 (IntKind.u8.wrap ((n : Nat) : Int)) = Value.int .u8 (ub (UInt8.ofNat n)) := by
  congr 1
  rw [IntKind.wrap_u8, ub_ofNat]
theorem b_of32 (u : UInt32) : Value.int .u8 (IntKind.u8.wrap (uw u)) = Value.int .u8 (ub (UInt8.ofNat u.toNat)) := by
  congr 1
  rw [IntKind.wrap_u8, ub_ofNat, uw_nat]
/-- A cell is stored into an element of a row of the call's own. -/
theorem x_storeV (h : Hp F0 w0 w ro rs) (i : Nat) {E : TypeId} {A : Option Addr} {n c : Nat} {xs : List (List Value)} (hi : rs[i]? = some (rOV E 1 (.slice A n c) xs)) (j : Nat) (hj : j < xs.length) (t : TypeId) (x y : Operand) (ho : o.op = .store t x y) (v : Value) (hx : a.eval x = eAt A (j * 1 + 0)) (hy : a.eval y = v) (hsz : (P.info? t).map (·.size) = some 1)
    (h1 : v.oneCell' = true) (hv1 : v.cells = #[v]) (ys : List (List Value)) (hys : ys = xs.set j [v]) :
    OpTo P o a w (fun _ w' => Hp F0 w0 w' ro (rs.set i (rOV E 1 (.slice A n c) ys))) := by
  subst hys
  have hv : OV w 0 E 1 (.slice A n c) xs := h.own i _ hi
  obtain ⟨⟨h1', h2⟩, hlen, hone⟩ := id hv
  rcases h2 with ⟨e, h0⟩ | ⟨g, cap, cur, e, hg, hh, hn, hm, hs, ht⟩
  · omega
  · injection e with e1 e2 e3
    subst e1; subst e2; subst e3
    have hb : Blk w g E cur.toList := by unfold Blk; simpa using hh
    have hx' : a.eval x = .pointer (some ⟨g, j, none⟩) := by
      rw [hx]; simp only [eAt, Addr.add, Nat.mul_one, Nat.add_zero, Nat.zero_add]
      by_cases h0 : j = 0
      · subst h0; rfl
      · simp [h0]
    have hl : j < cur.toList.length := by simp; omega
    refine OpTo.runs (w' := w.setCell ⟨g, j, none⟩ v) (exec_storeCell t x y ho g j _ hx' hy E cur.toList hb hl hsz h1 hv1) ?_
    have hf := Fr.setCell w g j v
    refine h.upd i hi ⟨hf.os, hf.tape, hf.output, hf.size, fun k hk hn => hf.block k hk (fun e => hn (by subst e; rfl))⟩ (rOV E 1 (.slice (some ⟨g, 0, none⟩) xs.length c) (xs.set j [v])) ?_ (fun q hq => .inl hq)
    have hflat : (xs.set j [v]).flatten = xs.flatten.set j v := by
      clear hx hx' hl ht hs hn hone h1' hb hh hv hi hf
      induction xs generalizing j with
      | nil => simp at hj
      | cons x xs ih =>
        have hx1 : x.length = 1 := hlen x (by simp)
        match x, hx1 with
        | [u], _ =>
          cases j with
          | zero => rfl
          | succ j =>
            have := ih j (by simpa using hj) (fun y hy => hlen y (by simp [hy]))
            simpa using this
    refine ⟨⟨?_, .inr ⟨g, c, cur.setIfInBounds j v, by simp, hg, heap_setCell_same w g j cur E _ hh, by simpa using hn, hm, by simpa using hs, ?_⟩⟩, ?_, ?_⟩
    · rw [hflat]; simpa using h1'
    · rw [hflat, ← ht]
      simp only [Array.toList_setIfInBounds, List.length_set]
      rw [List.take_set]
    · intro y hy
      rcases List.mem_or_eq_of_mem_set hy with hy | rfl
      · exact hlen y hy
      · rfl
    · intro y hy u hu
      rcases List.mem_or_eq_of_mem_set hy with hy | rfl
      · exact hone y hy u hu
      · have : u = v := by simpa using hu
        rw [this]; exact h1
/-- A call that leaves a new row. -/
def VOPost (w : World) (E : TypeId) (sz : Nat) (xs : List (List Value)) (e : Ending) (w' : World) : Prop := ∃ v, e = .returned v ∧ OV w' w.heap.size E sz v xs ∧ Below w.heap.size w w'
theorem x_ovE (h : Hp F0 w0 w ro rs) {E : TypeId} {sz : Nat} {xs : List (List Value)} (fn : FuncId) (al : List Value) (hp : pureVal P (execOp a.eval o) = some (.enter fn al.toArray)) (hc : Calls P fn al.toArray w (VOPost w E sz xs)) (ys : List (List Value)) (n : Nat) (hy : ys = xs) (hn : ys.length = n) :
    OpTo P o a w (fun u w' => ∃ A cc, u = .slice A n cc ∧ Hp F0 w0 w' ro (rOV E sz (.slice A n cc) ys :: rs)) :=
  OpTo.enter fn al hp hc fun e w' hq => by
    obtain ⟨v, he, ho, hb⟩ := hq
    obtain ⟨A, cc, rfl, _⟩ := ho.form
    subst hy; subst hn
    exact ⟨_, he, A, cc, rfl, h.newS hb (rOV E sz _ _) (ho.mono (Nat.zero_le _)) (fun q hq => (ho.block q hq).1)⟩
theorem vopost_of {E : TypeId} {sz : Nat} {xs ys : List (List Value)} {v : Value} (h : Hp (fun _ => False) w0 w ro rs) (i : Nat) (hi : rs[i]? = some (rOV E sz v ys)) (e : ys = xs) : VOPost w0 E sz xs (.returned v) w := by
  subst e
  have ho : OV w 0 E sz v ys := h.own i _ hi
  refine ⟨v, rfl, ⟨⟨ho.own.1, ?_⟩, ho.len, ho.one⟩, h.below0⟩
  rcases ho.own.2 with h2 | ⟨g, cap, cur, rfl, _, rest⟩
  · exact .inl h2
  · refine .inr ⟨g, cap, cur, rfl, ?_, rest⟩
    rcases h.mine i _ hi g rfl with h3 | h3
    · exact h3.elim
    · exact h3
/-- A block of cells is a row of the call's own. -/
theorem OV.new1 {E : TypeId} (g : Nat) (cs : List Value) (hb : Blk w g E cs) (h1 : ∀ u ∈ cs, u.oneCell' = true) (hl : cs.length ≤ maxLen) : OV w 0 E 1 (.slice (some ⟨g, 0, none⟩) cs.length cs.length) (cs.map fun c => [c]) := by
  have hf : (cs.map fun c => [c]).flatten = cs := by
    clear hb h1 hl
    induction cs with
    | nil => rfl
    | cons c cs ih => rw [List.map_cons, List.flatten_cons, ih]; rfl
  refine ⟨⟨by rw [hf, List.length_map, Nat.mul_one], .inr ⟨g, cs.length, cs.toArray, by simp, Nat.zero_le _, hb, by simp, hl, by simp, ?_⟩⟩, ?_, ?_⟩
  · rw [hf, List.length_map, Nat.mul_one]
    exact List.take_of_length_le (Nat.le_refl _)
  · intro x hx; obtain ⟨c, _, rfl⟩ := List.mem_map.1 hx; rfl
  · intro x hx u hu
    obtain ⟨c, hc, rfl⟩ := List.mem_map.1 hx
    have : u = c := by simpa using hu
    rw [this]; exact h1 c hc
theorem Hp.blkOV (h : Hp F0 w0 w ro rs) (i : Nat) {g : Nat} {E : TypeId} {cs : List Value} (hi : rs[i]? = some (rBlk g E cs)) (h1 : cs.all (·.oneCell') = true) (n : Nat) (hn : cs.length = n) (hl : decide (n ≤ 1000000) = true) (ys : List (List Value)) (hy : ys = cs.map fun c => [c]) : Hp F0 w0 w ro (rs.set i (rOV E 1 (.slice (some ⟨g, 0, none⟩) n n) ys)) := by
  subst hn; subst hy
  have hl := of_decide_eq_true hl
  refine h.upd i hi (Fr.refl _ _) _ (OV.new1 g cs (h.own i _ hi) (by simpa using h1) (by unfold maxLen; omega)) (fun q hq => .inl ?_)
  have : g = q := by simpa [rOV, Value.ownBlock] using hq
  exact this.symm
theorem RV.blk1 {E : TypeId} {g : Nat} {cs : List Value} (hb : Blk w g E cs) (h1 : cs.all (·.oneCell') = true) (n : Nat) (hn : cs.length = n) (hl : decide (n ≤ 1000000) = true) (ys : List (List Value)) (hy : ys = cs.map fun c => [c]) : ys.length = n ∧ RV w 1 (some ⟨g, 0, none⟩) n ys := by
  subst hn; subst hy
  have hl := of_decide_eq_true hl
  exact OV.rvn (OV.new1 g cs hb (by simpa using h1) (by unfold maxLen; omega))
end
end Go.Proofs.YtpkelokaammmjaaDoor
end
