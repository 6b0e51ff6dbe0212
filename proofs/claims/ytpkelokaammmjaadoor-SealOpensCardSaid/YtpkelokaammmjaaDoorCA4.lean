/- Steps for the walks of sha, mac: calls that leave bytes, Write's call; laws on what is taken in. (Texts laid one behind the other: ShaB, OC, Joined, ShaY, ShaW, ShaZ.) -/
import Derived.ArgAppend
import Derived.Laws.OwnMore
import Derived.Test.YtpkelokaammmjaaDoorCA3
/-! The walk of block: sixty-four bytes are taken in. -/
section
namespace Go.Proofs.YtpkelokaammmjaaDoor
open Go.RowKit Go.QT
theorem w64_next (b : Bytes) (i : Nat) (h : 16 ≤ i) : w64 b (i + 1 - 16) = (w64 b (i - 16)).set i (nwd (w64 b (i - 16)) i) := by
  obtain ⟨n, rfl⟩ : ∃ n, i = n + 16 := ⟨i - 16, by omega⟩
  rw [show n + 16 + 1 - 16 = n + 1 by omega, Nat.add_sub_cancel]
  rfl
theorem blk8_eq (h : S8) (b : Bytes) (Wl L : List UInt32) (s : S8) (j i : Nat) (hW : Hd (Wl = w64 b 48)) (hs : s = rnN Wl h i) (hi : i = 64) (hL : L = addN h s j) (hj : j = 8) : L = (blk8 h b).l := by
  have hW := hW.out; rw [hL, hj, hs, hi, hW, addN_all]; rfl
set_option maxRecDepth 100000 in
set_option maxHeartbeats 4000000 in
theorem sblock_any (g : Nat) (h : S8) (rv nv : Value) (u : Value) (b : Bytes) (w : World) (H : Hp (fun q => q = g) w w [rSB u b] [rBlk g 92 (vw h.l ++ [rv, nv])]) (hb : b.length = 64) :
    Calls Tryd.prog 58 #[pt g 0, u] w fun e w' => e = .returned (.tuple #[]) ∧ Blk w' g 92 (vw (blk8 h b).l ++ [rv, nv]) ∧ Fr (fun q => q = g) w w' := by
  obtain ⟨A, c, rfl, hc1, hc2⟩ := sb_form (H.rd 0 rfl)
  have h0 := H
  refine enter 173 Tryd.func58 rfl rfl ?_
  refine wp_reset 175 [(0, (pt g 0)), (1, (Value.slice A b.length c))] (fun x0 => ?_)
  refine wp_seq_k ?_
  intro K1 hK1
  refine reg_lit ?_
  refine wq_to (some 4) (x_new h0 96 (vw (List.replicate 64 0)) (fun r => pt r 0) (by kernel_rfl)) ?_
  rintro _ w2 ⟨g2, rfl, h2⟩
  refine wl_end rfl ?_
  refine seq_n hK1 ?_
  refine wp_seq_k ?_
  intro K3 hK3
  refine wp_seq_k ?_
  intro K4 hK4
  refine reg_lit ?_
  refine wq_p 1 [(19, (Value.int .i64 0))] ?_
  refine wl_end rfl ?_
  refine seq_n hK4 ?_
  refine wp_block ?_
  refine wp_loopm (fun mM xX aA wL => ∃ (i : Nat), (i ≤ 16) ∧ mM = 16 - (i) ∧ aA = patch xX 175 [(0, (pt g 0)), (1, (Value.slice A b.length c)), (4, (pt g2 0)), (19, (Value.int .i64 ((i : Int))))] ∧ Hp (fun q => q = g) w wL [rSB ((Value.slice A b.length c)) b] [rBlk g2 96 (vw (w16 b i)), rBlk g 92 (vw h.l ++ [rv, nv])]) ⟨_, 0, (by omega), rfl, (patch_eq _ 175 _ (by kernel_rfl) (by kernel_rfl) (by kernel_rfl)), h2.sel [0, 1] [0] (by kernel_rfl) rfl rfl⟩ ?_
  rintro _ x5 _ w5 ⟨i, hi, rfl, rfl, h5⟩
  refine wp_seq_k ?_
  intro K6 hK6
  refine reg_lit ?_
  refine wq_p 1 [(20, (Value.bool (decide ((i : Int) < 16))))] ?_
  refine wl_end rfl ?_
  refine seq_n hK6 ?_
  refine wp_seq_k ?_
  intro K7 hK7
  refine wp_if ((i : Int) < 16) (by kernel_rfl) (fun b8 => ?_) (fun b8 => ?_)
  ·
   refine wp_skip ?_
   refine seq_n hK7 ?_
   refine wp_seq_k ?_
   intro K9 hK9
   refine wp_block ?_
   refine wp_seq_k ?_
   intro K10 hK10
   refine reg_lit ?_
   refine wq_p 2 [(5, (Value.int .i64 ((i : Int)))), (21, (Value.int .i64 ((i : Int))))] ?_
   refine wl_end rfl ?_
   refine seq_n hK10 ?_
   refine wp_seq_k ?_
   intro K11 hK11
   refine reg_lit ?_
   refine wq_p 2 [(24, (Value.int .i64 ((i : Int)))), (23, (Value.slice A b.length c))] ?_
   refine wq_v (some 25) (Value.int .i64 (((4 * i : Nat) : Int))) (exec_mulN _ _ _ _ rfl 4 i (by kernel_rfl) (by kernel_rfl) (4 * i) rfl (by omega) _) ?_
   refine wq_p 1 [(26, (Value.int .i64 ((i : Int))))] ?_
   refine wq_v (some 27) (Value.int .i64 (((4 * i : Nat) : Int))) (exec_mulN _ _ _ _ rfl 4 i (by kernel_rfl) (by kernel_rfl) (4 * i) rfl (by omega) _) ?_
   refine wq_v (some 28) (Value.int .i64 (((4 * i : Nat) : Int) + 4)) (exec_add _ _ _ _ rfl (((4 * i : Nat) : Int)) 4 (by kernel_rfl) (by kernel_rfl) (((4 * i : Nat) : Int) + 4) (by omega) (by omega) (by omega) _) ?_
   refine wq_v (some 29) (cutS (Value.slice A b.length c) (((4 * i))) (((4 * i)) + 4)) (e_cut_lh (h5.rd 0 rfl) (.tmp 23) (.tmp 25) (.tmp 28) (by kernel_rfl) (by kernel_rfl) .i64 .i64 (((4 * i))) (((4 * i)) + 4) (by kernel_rfl) (by kernel_rfl) (by omega) (by omega) _) ?_
   refine wq_to (some 30) (x_get h5 (((b).take (((4 * i)) + 4)).drop (((4 * i)))) (cutS (Value.slice A b.length c) (((4 * i))) (((4 * i)) + 4)) (by kernel_rfl) (SB.cut (h5.rd 0 rfl) (((4 * i))) (((4 * i)) + 4) (by omega)) (by rw [len_cut _ _ _ (by omega)]; omega) (by rw [len_cut _ _ _ (by omega)]; omega) (getN (((b).take (((4 * i)) + 4)).drop (((4 * i))))) rfl) ?_
   rintro _ w12 ⟨rfl, h12⟩
   refine wq_p 5 [(7, (Value.bool true)), (6, (Value.int .u64 (((getN (((b).take (((4 * i)) + 4)).drop (((4 * i)))) : Nat) : Int)))), (32, (Value.bool true)), (31, (Value.int .u64 (((getN (((b).take (((4 * i)) + 4)).drop (((4 * i)))) : Nat) : Int)))), (22, (Value.tuple #[(Value.int .u64 (((getN (((b).take (((4 * i)) + 4)).drop (((4 * i)))) : Nat) : Int))), (Value.bool true)]))] ?_
   refine wl_end rfl ?_
   refine seq_n hK11 ?_
   refine reg_lit ?_
   refine wq_p 2 [(34, (Value.int .u64 (((getN (((b).take (((4 * i)) + 4)).drop (((4 * i)))) : Nat) : Int)))), (33, (Value.int .i64 ((i : Int))))] ?_
   refine wq_v (some 35) (Value.int .u32 (uw (UInt32.ofNat (((getN (((b).take (((4 * i)) + 4)).drop (((4 * i)))))))))) (eq_is (v := Value.int .u32 (IntKind.u32.wrap (((getN (((b).take (((4 * i)) + 4)).drop (((4 * i)))) : Nat) : Int)))) (by kernel_rfl) (w_of64 (((getN (((b).take (((4 * i)) + 4)).drop (((4 * i))))))))) ?_
   refine wq_v (some 36) (pt g2 i) (e_idxA 96 (.tmp 4) (.tmp 33) (by kernel_rfl) .i64 g2 0 i 64 (by kernel_rfl) (by kernel_rfl) (by omega) 64 (by kernel_rfl) (by kernel_rfl) i (by omega) _) ?_
   refine wq_to none (x_store h12 0 rfl 64 (.tmp 36) (.tmp 35) (by kernel_rfl) i (Value.int .u32 (uw (UInt32.ofNat (((getN (((b).take (((4 * i)) + 4)).drop (((4 * i)))))))))) (vw ((w16 b i).set i ((UInt32.ofNat (((getN (((b).take (((4 * i)) + 4)).drop (((4 * i))))))))))) (by kernel_rfl) (by kernel_rfl) (decide_eq_true (by rw [vw_len]; exact (by first | omega | (simp only [w16_len]; omega)))) (by kernel_rfl) rfl rfl (vw_set (w16 b i) i ((UInt32.ofNat (((getN (((b).take (((4 * i)) + 4)).drop (((4 * i))))))))))) ?_
   rintro _ w13 h13
   refine wl_end rfl ?_
   refine blk_n ?_
   refine seq_n hK9 ?_
   refine reg_lit ?_
   refine wq_v (some 37) (Value.int .i64 ((i : Int) + 1)) (exec_add _ _ _ _ rfl ((i : Int)) 1 (by kernel_rfl) (by kernel_rfl) ((i : Int) + 1) rfl (by omega) (by omega) _) ?_
   refine wq_p 1 [(19, (Value.int .i64 ((i : Int) + 1)))] ?_
   refine wl_end rfl ?_
   refine ⟨16 - (i + 1), (by omega), (i + 1), (by omega), rfl, (patch_eq _ 175 _ (by kernel_rfl) (by kernel_rfl) (by kernel_rfl)), h13.sel [0, 1] [0] (by kernel_rfl) rfl rfl⟩
  ·
   refine wp_exit ?_
   refine seq_e ?_
   refine seq_e ?_
   refine blk_e ?_
   refine seq_n hK3 ?_
   refine wp_seq_k ?_
   intro K14 hK14
   refine wp_seq_k ?_
   intro K15 hK15
   obtain rfl : i = 16 := by omega
   
   refine reg_lit ?_
   refine wq_p 1 [(8, (Value.int .i64 16))] ?_
   refine wl_end rfl ?_
   refine seq_n hK15 ?_
   refine wp_block ?_
   refine wp_loopm (fun mM xX aA wL => ∃ (i : Nat) (Wl : List UInt32), (16 ≤ i) ∧ (i ≤ 64) ∧ (Wl = w64 b (i - 16)) ∧ ((Wl : List UInt32).length = 64) ∧ mM = 64 - (i) ∧ aA = patch xX 175 [(0, (pt g 0)), (1, (Value.slice A b.length c)), (4, (pt g2 0)), (8, (Value.int .i64 ((i : Int)))), (19, (Value.int .i64 ((16 : Int)))), (20, (Value.bool (decide ((16 : Int) < 16))))] ∧ Hp (fun q => q = g) w wL [rSB ((Value.slice A b.length c)) b] [rBlk g2 96 (vw Wl), rBlk g 92 (vw h.l ++ [rv, nv])]) ⟨_, 16, ((w64 b 0)), (by omega), (by omega), rfl, (w64_len _ _), rfl, (patch_eq _ 175 _ (by kernel_rfl) (by kernel_rfl) (by kernel_rfl)), h5.sel [0, 1] [0] (by kernel_rfl) rfl rfl⟩ ?_
   rintro _ x16 _ w16 ⟨i, Wl, hi0, hi, hW, hl, rfl, rfl, h16⟩
   refine wp_seq_k ?_
   intro K17 hK17
   refine wp_seq_k ?_
   intro K18 hK18
   refine reg_lit ?_
   refine wq_p 2 [(39, (Value.bool (decide ((i : Int) < 64)))), (38, (Value.int .i64 ((i : Int))))] ?_
   refine wl_end rfl ?_
   refine seq_n hK18 ?_
   refine wp_if ((i : Int) < 64) (by kernel_rfl) (fun b19 => ?_) (fun b19 => ?_)
   ·
    refine wp_skip ?_
    refine seq_n hK17 ?_
    refine wp_seq_k ?_
    intro K20 hK20
    refine wp_block ?_
    refine wp_seq_k ?_
    intro K21 hK21
    refine pR_go h16 9 (fun W => (rBlk g2 96 (vw Wl)).Φ W ∧ True) [(43, [8], 0), (44, [42], 1), (45, [4, 43], 2), (46, [44], 4), (47, [8], 0), (48, [46], 16), (49, [4, 47], 32), (50, [48], 64), (10, [45], 15), (11, [49], 511)] rfl (fun _ d _ _ _ h => by cases d <;> exact h) ?_
    intro hs22 w22 h22
    refine pR_p 8 [0, 4] [(46, (Value.int .i64 ((i : Int)))), (42, (Value.int .i64 ((i : Int))))] 17 hs22 ⟨h22.at_ 0 rfl, trivial⟩ ?_
    refine pR_v 1 (some 43) (Value.int .i64 (((i - 15 : Nat) : Int))) 19 rfl hs22 ⟨h22.at_ 0 rfl, trivial⟩ (fun W hW => exec_sub _ _ _ _ rfl ((i : Int)) 15 (by kernel_rfl) (by kernel_rfl) (((i - 15 : Nat) : Int)) (by omega) (by omega) (by omega) _) ?_
    refine pR_v 2 (some 44) (pt g2 (((i - 15)))) 23 rfl hs22 ⟨h22.at_ 0 rfl, trivial⟩ (fun W hW => e_idxA 96 (.tmp 4) (.tmp 43) (by kernel_rfl) .i64 g2 0 (((i - 15))) 64 (by kernel_rfl) (by kernel_rfl) (by omega) 64 (by kernel_rfl) (by kernel_rfl) (((i - 15))) (by omega) _) ?_
    refine pR_v 5 (some 47) (Value.int .i64 (((i - 2 : Nat) : Int))) 55 rfl hs22 ⟨h22.at_ 0 rfl, trivial⟩ (fun W hW => exec_sub _ _ _ _ rfl ((i : Int)) 2 (by kernel_rfl) (by kernel_rfl) (((i - 2 : Nat) : Int)) (by omega) (by omega) (by omega) _) ?_
    refine pR_v 6 (some 48) (pt g2 (((i - 2)))) 119 rfl hs22 ⟨h22.at_ 0 rfl, trivial⟩ (fun W hW => e_idxA 96 (.tmp 4) (.tmp 47) (by kernel_rfl) .i64 g2 0 (((i - 2))) 64 (by kernel_rfl) (by kernel_rfl) (by omega) 64 (by kernel_rfl) (by kernel_rfl) (((i - 2))) (by omega) _) ?_
    refine pR_v 3 (some 45) (Value.int .u32 (uw (gw Wl ((((i - 15))))))) 127 rfl hs22 ⟨h22.at_ 0 rfl, trivial⟩ (fun W hW => e_load hW.1 64 (.tmp 44) (by kernel_rfl) ((((i - 15)))) (Value.int .u32 (uw (gw Wl ((((i - 15))))))) (by kernel_rfl) (vw_get Wl ((((i - 15)))) (by first | omega | (simp only [hl]; omega))) (by kernel_rfl)) ?_
    refine pR_p 2 [8] [(9, (Value.int .u32 (uw (gw Wl ((((i - 15))))))))] 383 hs22 ⟨h22.at_ 0 rfl, trivial⟩ ?_
    refine pR_v 7 (some 49) (Value.int .u32 (uw (gw Wl ((((i - 2))))))) 511 rfl hs22 ⟨h22.at_ 0 rfl, trivial⟩ (fun W hW => e_load hW.1 64 (.tmp 48) (by kernel_rfl) ((((i - 2)))) (Value.int .u32 (uw (gw Wl ((((i - 2))))))) (by kernel_rfl) (vw_get Wl ((((i - 2)))) (by first | omega | (simp only [hl]; omega))) (by kernel_rfl)) ?_
    refine pR_to 9 (some 10) 1023 rfl hs22 (OpTo.run (Value.int .u32 (uw (gw Wl ((((i - 2))))))) (pureOp_run (by kernel_rfl) _) (R := fun v w => v = (Value.int .u32 (uw (gw Wl ((((i - 2))))))) ∧ w22 = w) ⟨rfl, rfl⟩) ?_
    rintro _ _ ⟨rfl, rfl⟩
    refine ⟨fun h => absurd h (by decide), ?_⟩
    refine pR_done hs22 ?_ _
    refine seq_n hK21 ?_
    refine pR_go h22 28 (fun W => (rBlk g2 96 (vw Wl)).Φ W ∧ True) [(51, [8], 0), (52, [8], 0), (53, [51], 2), (54, [4, 52], 4), (55, [53], 8), (56, [9], 0), (57, [55], 32), (58, [9], 0), (59, [57], 192), (60, [56, 58], 320), (61, [9], 0), (62, [60], 1024), (63, [59, 61], 2560), (64, [54, 62], 4112), (65, [8], 0), (66, [64], 16384), (67, [4, 65], 32768), (68, [66], 65536), (69, [63, 67], 139264), (70, [10], 0), (71, [69], 524544), (72, [10], 0), (73, [71], 3145728), (74, [70, 72], 5242880), (75, [10], 0), (76, [74], 16777216), (77, [73, 75], 41943040), (78, [68, 76], 67371008), (79, [4, 50], 268435455), (0, [78, 77], 536870911)] rfl (fun _ d _ _ _ h => by cases d <;> exact h) ?_
    intro hs23 w23 h23
    refine pR_p 21 [0, 1, 5, 7, 10, 14, 19, 21, 24] [(74, (Value.int .u32 (uw (gw Wl ((((i - 2)))))))), (71, (Value.int .u32 (uw (gw Wl ((((i - 2)))))))), (69, (Value.int .u32 (uw (gw Wl ((((i - 2)))))))), (64, (Value.int .i64 ((i : Int)))), (60, (Value.int .u32 (uw (gw Wl ((((i - 15)))))))), (57, (Value.int .u32 (uw (gw Wl ((((i - 15)))))))), (55, (Value.int .u32 (uw (gw Wl ((((i - 15)))))))), (51, (Value.int .i64 ((i : Int)))), (50, (Value.int .i64 ((i : Int))))] 19416227 hs23 ⟨h23.at_ 0 rfl, trivial⟩ ?_
    refine pR_v 2 (some 52) (Value.int .i64 (((i - 16 : Nat) : Int))) 19416231 rfl hs23 ⟨h23.at_ 0 rfl, trivial⟩ (fun W hW => exec_sub _ _ _ _ rfl ((i : Int)) 16 (by kernel_rfl) (by kernel_rfl) (((i - 16 : Nat) : Int)) (by omega) (by omega) (by omega) _) ?_
    refine pR_v 3 (some 53) (pt g2 (((i - 16)))) 19416239 rfl hs23 ⟨h23.at_ 0 rfl, trivial⟩ (fun W hW => e_idxA 96 (.tmp 4) (.tmp 52) (by kernel_rfl) .i64 g2 0 (((i - 16))) 64 (by kernel_rfl) (by kernel_rfl) (by omega) 64 (by kernel_rfl) (by kernel_rfl) (((i - 16))) (by omega) _) ?_
    refine pR_v 11 (some 61) (Value.int .u32 (uw (wsr (gw Wl ((((i - 15))))) 3))) 19418287 rfl hs23 ⟨h23.at_ 0 rfl, trivial⟩ (fun W hW => e_shr32 64 63 (.tmp 60) (.const (Value.int .u64 3)) (by kernel_rfl) (gw Wl ((((i - 15))))) .u64 3 (by decide) (by kernel_rfl) (by kernel_rfl) _) ?_
    refine pR_v 15 (some 65) (Value.int .i64 (((i - 7 : Nat) : Int))) 19451055 rfl hs23 ⟨h23.at_ 0 rfl, trivial⟩ (fun W hW => exec_sub _ _ _ _ rfl ((i : Int)) 7 (by kernel_rfl) (by kernel_rfl) (((i - 7 : Nat) : Int)) (by omega) (by omega) (by omega) _) ?_
    refine pR_v 16 (some 66) (pt g2 (((i - 7)))) 19516591 rfl hs23 ⟨h23.at_ 0 rfl, trivial⟩ (fun W hW => e_idxA 96 (.tmp 4) (.tmp 65) (by kernel_rfl) .i64 g2 0 (((i - 7))) 64 (by kernel_rfl) (by kernel_rfl) (by omega) 64 (by kernel_rfl) (by kernel_rfl) (((i - 7))) (by omega) _) ?_
    refine pR_v 25 (some 75) (Value.int .u32 (uw (wsr (gw Wl ((((i - 2))))) 10))) 53071023 rfl hs23 ⟨h23.at_ 0 rfl, trivial⟩ (fun W hW => e_shr32 64 63 (.tmp 74) (.const (Value.int .u64 10)) (by kernel_rfl) (gw Wl ((((i - 2))))) .u64 10 (by decide) (by kernel_rfl) (by kernel_rfl) _) ?_
    refine pR_v 4 (some 54) (Value.int .u32 (uw (gw Wl ((((i - 16))))))) 53071039 rfl hs23 ⟨h23.at_ 0 rfl, trivial⟩ (fun W hW => e_load hW.1 64 (.tmp 53) (by kernel_rfl) ((((i - 16)))) (Value.int .u32 (uw (gw Wl ((((i - 16))))))) (by kernel_rfl) (vw_get Wl ((((i - 16)))) (by first | omega | (simp only [hl]; omega))) (by kernel_rfl)) ?_
    refine pR_v 17 (some 67) (Value.int .u32 (uw (gw Wl ((((i - 7))))))) 53202111 rfl hs23 ⟨h23.at_ 0 rfl, trivial⟩ (fun W hW => e_load hW.1 64 (.tmp 66) (by kernel_rfl) ((((i - 7)))) (Value.int .u32 (uw (gw Wl ((((i - 7))))))) (by kernel_rfl) (vw_get Wl ((((i - 7)))) (by first | omega | (simp only [hl]; omega))) (by kernel_rfl)) ?_
    refine pR_to 6 (some 56) 53202175 rfl hs23 (x_np h23 64 [(Value.int .u32 (uw (gw Wl ((((i - 15))))))), (Value.int .i64 7)] (by kernel_rfl) (turn_any (gw Wl ((((i - 15))))) 7 (by decide) _)) ?_
    rintro _ w24 ⟨rfl, h24⟩
    refine ⟨fun _ => ⟨h24.at_ 0 rfl, trivial⟩, ?_⟩
    refine pR_to 8 (some 58) 53202431 rfl hs23 (x_np h24 64 [(Value.int .u32 (uw (gw Wl ((((i - 15))))))), (Value.int .i64 18)] (by kernel_rfl) (turn_any (gw Wl ((((i - 15))))) 18 (by decide) _)) ?_
    rintro _ w25 ⟨rfl, h25⟩
    refine ⟨fun _ => ⟨h25.at_ 0 rfl, trivial⟩, ?_⟩
    refine pR_v 9 (some 59) (Value.int .u32 (uw ((trn (gw Wl ((((i - 15))))) 7) ^^^ (trn (gw Wl ((((i - 15))))) 18)))) 53202943 rfl hs23 ⟨h25.at_ 0 rfl, trivial⟩ (fun W hW => eq_is (v := Value.int .u32 (bits .xor .u32 (uw (trn (gw Wl ((((i - 15))))) 7)) (uw (trn (gw Wl ((((i - 15))))) 18)))) (by kernel_rfl) (w_xor (trn (gw Wl ((((i - 15))))) 7) (trn (gw Wl ((((i - 15))))) 18))) ?_
    refine pR_v 12 (some 62) (Value.int .u32 (uw (((trn (gw Wl ((((i - 15))))) 7) ^^^ (trn (gw Wl ((((i - 15))))) 18)) ^^^ (wsr (gw Wl ((((i - 15))))) 3)))) 53207039 rfl hs23 ⟨h25.at_ 0 rfl, trivial⟩ (fun W hW => eq_is (v := Value.int .u32 (bits .xor .u32 (uw ((trn (gw Wl ((((i - 15))))) 7) ^^^ (trn (gw Wl ((((i - 15))))) 18))) (uw (wsr (gw Wl ((((i - 15))))) 3)))) (by kernel_rfl) (w_xor ((trn (gw Wl ((((i - 15))))) 7) ^^^ (trn (gw Wl ((((i - 15))))) 18)) (wsr (gw Wl ((((i - 15))))) 3))) ?_
    refine pR_v 13 (some 63) (Value.int .u32 (uw ((gw Wl ((((i - 16))))) + (((trn (gw Wl ((((i - 15))))) 7) ^^^ (trn (gw Wl ((((i - 15))))) 18)) ^^^ (wsr (gw Wl ((((i - 15))))) 3))))) 53215231 rfl hs23 ⟨h25.at_ 0 rfl, trivial⟩ (fun W hW => eq_is (v := Value.int .u32 (IntKind.u32.wrap (uw (gw Wl ((((i - 16))))) + uw (((trn (gw Wl ((((i - 15))))) 7) ^^^ (trn (gw Wl ((((i - 15))))) 18)) ^^^ (wsr (gw Wl ((((i - 15))))) 3))))) (by kernel_rfl) (w_add (gw Wl ((((i - 16))))) (((trn (gw Wl ((((i - 15))))) 7) ^^^ (trn (gw Wl ((((i - 15))))) 18)) ^^^ (wsr (gw Wl ((((i - 15))))) 3)))) ?_
    refine pR_v 18 (some 68) (Value.int .u32 (uw (((gw Wl ((((i - 16))))) + (((trn (gw Wl ((((i - 15))))) 7) ^^^ (trn (gw Wl ((((i - 15))))) 18)) ^^^ (wsr (gw Wl ((((i - 15))))) 3))) + (gw Wl ((((i - 7)))))))) 53477375 rfl hs23 ⟨h25.at_ 0 rfl, trivial⟩ (fun W hW => eq_is (v := Value.int .u32 (IntKind.u32.wrap (uw ((gw Wl ((((i - 16))))) + (((trn (gw Wl ((((i - 15))))) 7) ^^^ (trn (gw Wl ((((i - 15))))) 18)) ^^^ (wsr (gw Wl ((((i - 15))))) 3))) + uw (gw Wl ((((i - 7)))))))) (by kernel_rfl) (w_add ((gw Wl ((((i - 16))))) + (((trn (gw Wl ((((i - 15))))) 7) ^^^ (trn (gw Wl ((((i - 15))))) 18)) ^^^ (wsr (gw Wl ((((i - 15))))) 3))) (gw Wl ((((i - 7))))))) ?_
    refine pR_to 20 (some 70) 54525951 rfl hs23 (x_np h25 64 [(Value.int .u32 (uw (gw Wl ((((i - 2))))))), (Value.int .i64 17)] (by kernel_rfl) (turn_any (gw Wl ((((i - 2))))) 17 (by decide) _)) ?_
    rintro _ w26 ⟨rfl, h26⟩
    refine ⟨fun _ => ⟨h26.at_ 0 rfl, trivial⟩, ?_⟩
    refine pR_to 22 (some 72) 58720255 rfl hs23 (x_np h26 64 [(Value.int .u32 (uw (gw Wl ((((i - 2))))))), (Value.int .i64 19)] (by kernel_rfl) (turn_any (gw Wl ((((i - 2))))) 19 (by decide) _)) ?_
    rintro _ w27 ⟨rfl, h27⟩
    refine ⟨fun _ => ⟨h27.at_ 0 rfl, trivial⟩, ?_⟩
    refine pR_v 23 (some 73) (Value.int .u32 (uw ((trn (gw Wl ((((i - 2))))) 17) ^^^ (trn (gw Wl ((((i - 2))))) 19)))) 67108863 rfl hs23 ⟨h27.at_ 0 rfl, trivial⟩ (fun W hW => eq_is (v := Value.int .u32 (bits .xor .u32 (uw (trn (gw Wl ((((i - 2))))) 17)) (uw (trn (gw Wl ((((i - 2))))) 19)))) (by kernel_rfl) (w_xor (trn (gw Wl ((((i - 2))))) 17) (trn (gw Wl ((((i - 2))))) 19))) ?_
    refine pR_v 26 (some 76) (Value.int .u32 (uw (((trn (gw Wl ((((i - 2))))) 17) ^^^ (trn (gw Wl ((((i - 2))))) 19)) ^^^ (wsr (gw Wl ((((i - 2))))) 10)))) 134217727 rfl hs23 ⟨h27.at_ 0 rfl, trivial⟩ (fun W hW => eq_is (v := Value.int .u32 (bits .xor .u32 (uw ((trn (gw Wl ((((i - 2))))) 17) ^^^ (trn (gw Wl ((((i - 2))))) 19))) (uw (wsr (gw Wl ((((i - 2))))) 10)))) (by kernel_rfl) (w_xor ((trn (gw Wl ((((i - 2))))) 17) ^^^ (trn (gw Wl ((((i - 2))))) 19)) (wsr (gw Wl ((((i - 2))))) 10))) ?_
    refine pR_v 27 (some 77) (Value.int .u32 (uw ((((gw Wl ((((i - 16))))) + (((trn (gw Wl ((((i - 15))))) 7) ^^^ (trn (gw Wl ((((i - 15))))) 18)) ^^^ (wsr (gw Wl ((((i - 15))))) 3))) + (gw Wl ((((i - 7)))))) + (((trn (gw Wl ((((i - 2))))) 17) ^^^ (trn (gw Wl ((((i - 2))))) 19)) ^^^ (wsr (gw Wl ((((i - 2))))) 10))))) 268435455 rfl hs23 ⟨h27.at_ 0 rfl, trivial⟩ (fun W hW => eq_is (v := Value.int .u32 (IntKind.u32.wrap (uw (((gw Wl ((((i - 16))))) + (((trn (gw Wl ((((i - 15))))) 7) ^^^ (trn (gw Wl ((((i - 15))))) 18)) ^^^ (wsr (gw Wl ((((i - 15))))) 3))) + (gw Wl ((((i - 7)))))) + uw (((trn (gw Wl ((((i - 2))))) 17) ^^^ (trn (gw Wl ((((i - 2))))) 19)) ^^^ (wsr (gw Wl ((((i - 2))))) 10))))) (by kernel_rfl) (w_add (((gw Wl ((((i - 16))))) + (((trn (gw Wl ((((i - 15))))) 7) ^^^ (trn (gw Wl ((((i - 15))))) 18)) ^^^ (wsr (gw Wl ((((i - 15))))) 3))) + (gw Wl ((((i - 7)))))) (((trn (gw Wl ((((i - 2))))) 17) ^^^ (trn (gw Wl ((((i - 2))))) 19)) ^^^ (wsr (gw Wl ((((i - 2))))) 10)))) ?_
    refine pR_to 28 (some 78) 536870911 rfl hs23 (OpTo.run (pt g2 i) (e_idxA 96 (.tmp 4) (.tmp 50) (by kernel_rfl) .i64 g2 0 i 64 (by kernel_rfl) (by kernel_rfl) (by omega) 64 (by kernel_rfl) (by kernel_rfl) i (by omega) _) (R := fun v w => v = (pt g2 i) ∧ w27 = w) ⟨rfl, rfl⟩) ?_
    rintro _ _ ⟨rfl, rfl⟩
    refine ⟨fun h => absurd h (by decide), ?_⟩
    refine pR_to 29 none 1073741823 rfl hs23 (x_store h27 0 rfl 64 (.tmp 78) (.tmp 77) (by kernel_rfl) i (Value.int .u32 (uw ((((gw Wl ((((i - 16))))) + (((trn (gw Wl ((((i - 15))))) 7) ^^^ (trn (gw Wl ((((i - 15))))) 18)) ^^^ (wsr (gw Wl ((((i - 15))))) 3))) + (gw Wl ((((i - 7)))))) + (((trn (gw Wl ((((i - 2))))) 17) ^^^ (trn (gw Wl ((((i - 2))))) 19)) ^^^ (wsr (gw Wl ((((i - 2))))) 10))))) (vw (Wl.set i (((((gw Wl ((((i - 16))))) + (((trn (gw Wl ((((i - 15))))) 7) ^^^ (trn (gw Wl ((((i - 15))))) 18)) ^^^ (wsr (gw Wl ((((i - 15))))) 3))) + (gw Wl ((((i - 7)))))) + (((trn (gw Wl ((((i - 2))))) 17) ^^^ (trn (gw Wl ((((i - 2))))) 19)) ^^^ (wsr (gw Wl ((((i - 2))))) 10)))))) (by kernel_rfl) (by kernel_rfl) (decide_eq_true (by rw [vw_len]; exact (by first | omega | (simp only [hl]; omega)))) (by kernel_rfl) rfl rfl (vw_set Wl i (((((gw Wl ((((i - 16))))) + (((trn (gw Wl ((((i - 15))))) 7) ^^^ (trn (gw Wl ((((i - 15))))) 18)) ^^^ (wsr (gw Wl ((((i - 15))))) 3))) + (gw Wl ((((i - 7)))))) + (((trn (gw Wl ((((i - 2))))) 17) ^^^ (trn (gw Wl ((((i - 2))))) 19)) ^^^ (wsr (gw Wl ((((i - 2))))) 10)))))) ?_
    rintro _ w28 h28
    refine ⟨fun h => absurd h (by decide), ?_⟩
    refine pR_done hs23 ?_ _
    refine blk_n ?_
    refine seq_n hK20 ?_
    refine wp_reset 175 [(0, (pt g 0)), (1, (Value.slice A b.length c)), (4, (pt g2 0)), (8, (Value.int .i64 ((i : Int)))), (9, (Value.int .u32 (uw (gw Wl ((((i - 15)))))))), (10, (Value.int .u32 (uw (gw Wl ((((i - 2)))))))), (19, (Value.int .i64 ((16 : Int)))), (20, (Value.bool (decide ((16 : Int) < 16)))), (39, (Value.bool (decide ((i : Int) < 64))))] (fun x29 => ?_)
    refine reg_lit ?_
    refine wq_p 1 [(40, (Value.int .i64 ((i : Int))))] ?_
    refine wq_v (some 41) (Value.int .i64 ((i : Int) + 1)) (exec_add _ _ _ _ rfl ((i : Int)) 1 (by kernel_rfl) (by kernel_rfl) ((i : Int) + 1) rfl (by omega) (by omega) _) ?_
    refine wq_p 1 [(8, (Value.int .i64 ((i : Int) + 1)))] ?_
    refine wl_end rfl ?_
    refine ⟨64 - (i + 1), (by omega), (i + 1), ((Wl.set i (((((gw Wl ((((i - 16))))) + (((trn (gw Wl ((((i - 15))))) 7) ^^^ (trn (gw Wl ((((i - 15))))) 18)) ^^^ (wsr (gw Wl ((((i - 15))))) 3))) + (gw Wl ((((i - 7)))))) + (((trn (gw Wl ((((i - 2))))) 17) ^^^ (trn (gw Wl ((((i - 2))))) 19)) ^^^ (wsr (gw Wl ((((i - 2))))) 10)))))), (by omega), (by omega), (by rw [w64_next b i hi0, ← hW]; rfl), (by simp only [List.length_set]; exact hl), rfl, (patch_eq _ 175 _ (by kernel_rfl) (by kernel_rfl) (by kernel_rfl)), h28.sel [0, 1] [0] (by kernel_rfl) rfl rfl⟩
   ·
    refine wp_exit ?_
    refine seq_e ?_
    refine seq_e ?_
    refine blk_e ?_
    refine seq_n hK14 ?_
    refine wp_seq_k ?_
    intro K30 hK30
    obtain rfl : i = 64 := by omega
    have hX : Hd (Wl = w64 b 48) := ⟨hW⟩
    clear hW
    
    refine reg_lit ?_
    refine wq_to (some 79) (x_np h16 65 [] (by kernel_rfl) (rounds_any _)) ?_
    rintro _ w31 ⟨rfl, h31⟩
    refine wq_to (some 11) (x_new h31 96 (vw (List.replicate 64 0)) (fun r => pt r 0) (by kernel_rfl)) ?_
    rintro _ w32 ⟨g32, rfl, h32⟩
    refine wq_to none (x_stores h32 0 rfl 96 (.tmp 11) (.tmp 79) (by kernel_rfl) 0 (vw shaK) (vw shaK) (by kernel_rfl) (by kernel_rfl) (by simp [shaK_len]) (by kernel_rfl) (by kernel_rfl) (by simp [shaK_len])) ?_
    rintro _ w33 h33
    refine wl_end rfl ?_
    refine seq_n hK30 ?_
    refine wp_seq_k ?_
    intro K34 hK34
    refine reg_lit ?_
    refine wq_p 3 [(82, (pt g 0)), (81, (pt g 0)), (80, (pt g 0))] ?_
    refine wq_v (some 83) (Value.agg (vw h.l).toArray) (e_loads (h33.at_ 2 rfl) 90 (.tmp 82) (by kernel_rfl) 0 (vw h.l) (by kernel_rfl) (by simp [S8.l_len]) (by kernel_rfl)) ?_
    refine wq_to (some 12) (x_new h33 90 ([(Value.int .u32 0), (Value.int .u32 0), (Value.int .u32 0), (Value.int .u32 0), (Value.int .u32 0), (Value.int .u32 0), (Value.int .u32 0), (Value.int .u32 0)]) (fun r => pt r 0) (by kernel_rfl)) ?_
    rintro _ w35 ⟨g35, rfl, h35⟩
    refine wq_to none (x_stores h35 0 rfl 90 (.tmp 12) (.tmp 83) (by kernel_rfl) 0 (vw h.l) (vw h.l) (by kernel_rfl) (by kernel_rfl) (by simp [S8.l_len]) (by kernel_rfl) (by kernel_rfl) (by simp [S8.l_len])) ?_
    rintro _ w36 h36
    refine wl_end rfl ?_
    refine seq_n hK34 ?_
    refine wp_seq_k ?_
    intro K37 hK37
    refine wp_seq_k ?_
    intro K38 hK38
    refine reg_lit ?_
    refine wq_p 1 [(84, (Value.int .i64 0))] ?_
    refine wl_end rfl ?_
    refine seq_n hK38 ?_
    refine wp_block ?_
    refine wp_loopm (fun mM xX aA wL => ∃ (i : Nat) (s : S8), (i ≤ 64) ∧ (s = rnN Wl h (i)) ∧ mM = 64 - (i) ∧ aA = patch xX 175 [(0, (pt g 0)), (1, (Value.slice A b.length c)), (4, (pt g2 0)), (8, (Value.int .i64 ((64 : Int)))), (11, (pt g32 0)), (12, (pt g35 0)), (19, (Value.int .i64 ((16 : Int)))), (20, (Value.bool (decide ((16 : Int) < 16)))), (39, (Value.bool (decide ((64 : Int) < 64)))), (84, (Value.int .i64 ((i : Int))))] ∧ Hp (fun q => q = g) w wL [rSB ((Value.slice A b.length c)) b] [rBlk g35 90 ([(Value.int .u32 (uw s.a)), (Value.int .u32 (uw s.b)), (Value.int .u32 (uw s.c)), (Value.int .u32 (uw s.d)), (Value.int .u32 (uw s.e)), (Value.int .u32 (uw s.f)), (Value.int .u32 (uw s.g)), (Value.int .u32 (uw s.h))]), rBlk g32 96 (vw shaK), rBlk g2 96 (vw Wl), rBlk g 92 (vw h.l ++ [rv, nv])]) ⟨_, 0, h, (by omega), rfl, rfl, (patch_eq _ 175 _ (by kernel_rfl) (by kernel_rfl) (by kernel_rfl)), h36.sel [0, 1, 2, 3] [0] (by kernel_rfl) rfl rfl⟩ ?_
    rintro _ x39 _ w39 ⟨i, s, hi, hs, rfl, rfl, h39⟩
    refine wp_seq_k ?_
    intro K40 hK40
    refine reg_lit ?_
    refine wq_p 1 [(85, (Value.bool (decide ((i : Int) < 64))))] ?_
    refine wl_end rfl ?_
    refine seq_n hK40 ?_
    refine wp_seq_k ?_
    intro K41 hK41
    refine wp_if ((i : Int) < 64) (by kernel_rfl) (fun b42 => ?_) (fun b42 => ?_)
    ·
     refine wp_skip ?_
     refine seq_n hK41 ?_
     refine wp_seq_k ?_
     intro K43 hK43
     refine wp_block ?_
     refine wp_seq_k ?_
     intro K44 hK44
     refine reg_lit ?_
     refine wq_p 2 [(13, (Value.int .i64 ((i : Int)))), (86, (Value.int .i64 ((i : Int))))] ?_
     refine wl_end rfl ?_
     refine seq_n hK44 ?_
     refine wp_seq_k ?_
     intro K45 hK45
     refine pR_go h39 5 (fun W => (rBlk g35 90 ([(Value.int .u32 (uw s.a)), (Value.int .u32 (uw s.b)), (Value.int .u32 (uw s.c)), (Value.int .u32 (uw s.d)), (Value.int .u32 (uw s.e)), (Value.int .u32 (uw s.f)), (Value.int .u32 (uw s.g)), (Value.int .u32 (uw s.h))])).Φ W ∧ True) [(88, [12], 0), (89, [87], 1), (90, [12], 0), (91, [89], 4), (15, [88], 3), (16, [90], 31)] rfl (fun _ d _ _ _ h => by cases d <;> exact h) ?_
     intro hs46 w46 h46
     refine pR_v 0 (some 87) (pt g35 0) 1 rfl hs46 ⟨h46.at_ 0 rfl, trivial⟩ (fun W hW => e_idxA 90 (.tmp 12) (.const (Value.int .i64 0)) (by kernel_rfl) .i64 g35 0 0 8 (by kernel_rfl) (by kernel_rfl) (by omega) 64 (by kernel_rfl) (by kernel_rfl) 0 (by omega) _) ?_
     refine pR_v 2 (some 89) (pt g35 4) 5 rfl hs46 ⟨h46.at_ 0 rfl, trivial⟩ (fun W hW => e_idxA 90 (.tmp 12) (.const (Value.int .i64 4)) (by kernel_rfl) .i64 g35 0 4 8 (by kernel_rfl) (by kernel_rfl) (by omega) 64 (by kernel_rfl) (by kernel_rfl) 4 (by omega) _) ?_
     refine pR_v 1 (some 88) (Value.int .u32 (uw s.a)) 7 rfl hs46 ⟨h46.at_ 0 rfl, trivial⟩ (fun W hW => e_load hW.1 64 (.tmp 87) (by kernel_rfl) 0 (Value.int .u32 (uw s.a)) (by kernel_rfl) (by kernel_rfl) (by kernel_rfl)) ?_
     refine pR_p 2 [4] [(14, (Value.int .u32 (uw s.a)))] 23 hs46 ⟨h46.at_ 0 rfl, trivial⟩ ?_
     refine pR_v 3 (some 90) (Value.int .u32 (uw s.e)) 31 rfl hs46 ⟨h46.at_ 0 rfl, trivial⟩ (fun W hW => e_load hW.1 64 (.tmp 89) (by kernel_rfl) 4 (Value.int .u32 (uw s.e)) (by kernel_rfl) (by kernel_rfl) (by kernel_rfl)) ?_
     refine pR_to 5 (some 15) 63 rfl hs46 (OpTo.run (Value.int .u32 (uw s.e)) (pureOp_run (by kernel_rfl) _) (R := fun v w => v = (Value.int .u32 (uw s.e)) ∧ w46 = w) ⟨rfl, rfl⟩) ?_
     rintro _ _ ⟨rfl, rfl⟩
     refine ⟨fun h => absurd h (by decide), ?_⟩
     refine pR_done hs46 ?_ _
     refine seq_n hK45 ?_
     refine wp_seq_k ?_
     intro K47 hK47
     refine pR_go h46 30 (fun W => (rBlk g35 90 ([(Value.int .u32 (uw s.a)), (Value.int .u32 (uw s.b)), (Value.int .u32 (uw s.c)), (Value.int .u32 (uw s.d)), (Value.int .u32 (uw s.e)), (Value.int .u32 (uw s.f)), (Value.int .u32 (uw s.g)), (Value.int .u32 (uw s.h))])).Φ W ∧ (rBlk g32 96 (vw shaK)).Φ W ∧ (rBlk g2 96 (vw Wl)).Φ W ∧ True) [(92, [12], 0), (93, [91], 1), (94, [15], 0), (95, [93], 4), (96, [15], 0), (97, [95], 24), (98, [94, 96], 40), (99, [15], 0), (100, [98], 160), (101, [97, 99], 320), (102, [92, 100], 514), (103, [15], 0), (104, [12], 0), (105, [103], 4096), (106, [102, 104], 10240), (107, [15], 0), (108, [106], 32768), (109, [12], 0), (110, [108], 131072), (111, [107, 109], 327680), (112, [105, 110], 540672), (113, [101, 111], 1049600), (114, [13], 0), (115, [11, 113], 4194304), (116, [114], 8388608), (117, [112, 115], 18874368), (118, [13], 0), (119, [4, 117], 67108864), (120, [118], 134217728), (121, [116, 119], 301989888), (17, [120], 1073741823)] rfl (fun _ d _ _ _ h => by cases d <;> exact h) ?_
     intro hs48 w48 h48
     refine pR_p 24 [2, 4, 7, 11, 15, 22, 26] [(117, (Value.int .i64 ((i : Int)))), (113, (Value.int .i64 ((i : Int)))), (106, (Value.int .u32 (uw s.e))), (102, (Value.int .u32 (uw s.e))), (98, (Value.int .u32 (uw s.e))), (95, (Value.int .u32 (uw s.e))), (93, (Value.int .u32 (uw s.e)))] 71338132 hs48 ⟨h48.at_ 0 rfl, h48.at_ 1 rfl, h48.at_ 2 rfl, trivial⟩ ?_
     refine pR_v 0 (some 91) (pt g35 7) 71338133 rfl hs48 ⟨h48.at_ 0 rfl, h48.at_ 1 rfl, h48.at_ 2 rfl, trivial⟩ (fun W hW => e_idxA 90 (.tmp 12) (.const (Value.int .i64 7)) (by kernel_rfl) .i64 g35 0 7 8 (by kernel_rfl) (by kernel_rfl) (by omega) 64 (by kernel_rfl) (by kernel_rfl) 7 (by omega) _) ?_
     refine pR_v 12 (some 103) (pt g35 5) 71342229 rfl hs48 ⟨h48.at_ 0 rfl, h48.at_ 1 rfl, h48.at_ 2 rfl, trivial⟩ (fun W hW => e_idxA 90 (.tmp 12) (.const (Value.int .i64 5)) (by kernel_rfl) .i64 g35 0 5 8 (by kernel_rfl) (by kernel_rfl) (by omega) 64 (by kernel_rfl) (by kernel_rfl) 5 (by omega) _) ?_
     refine pR_v 16 (some 107) (Value.int .u32 (uw (~~~s.e))) 71407765 rfl hs48 ⟨h48.at_ 0 rfl, h48.at_ 1 rfl, h48.at_ 2 rfl, trivial⟩ (fun W hW => eq_is (v := Value.int .u32 (bits .xor .u32 4294967295 (uw s.e))) (by kernel_rfl) (w_not s.e)) ?_
     refine pR_v 17 (some 108) (pt g35 6) 71538837 rfl hs48 ⟨h48.at_ 0 rfl, h48.at_ 1 rfl, h48.at_ 2 rfl, trivial⟩ (fun W hW => e_idxA 90 (.tmp 12) (.const (Value.int .i64 6)) (by kernel_rfl) .i64 g35 0 6 8 (by kernel_rfl) (by kernel_rfl) (by omega) 64 (by kernel_rfl) (by kernel_rfl) 6 (by omega) _) ?_
     refine pR_v 23 (some 114) (pt g32 i) 79927445 rfl hs48 ⟨h48.at_ 0 rfl, h48.at_ 1 rfl, h48.at_ 2 rfl, trivial⟩ (fun W hW => e_idxA 96 (.tmp 11) (.tmp 113) (by kernel_rfl) .i64 g32 0 i 64 (by kernel_rfl) (by kernel_rfl) (by omega) 64 (by kernel_rfl) (by kernel_rfl) i (by omega) _) ?_
     refine pR_v 27 (some 118) (pt g2 i) 214145173 rfl hs48 ⟨h48.at_ 0 rfl, h48.at_ 1 rfl, h48.at_ 2 rfl, trivial⟩ (fun W hW => e_idxA 96 (.tmp 4) (.tmp 117) (by kernel_rfl) .i64 g2 0 i 64 (by kernel_rfl) (by kernel_rfl) (by omega) 64 (by kernel_rfl) (by kernel_rfl) i (by omega) _) ?_
     refine pR_v 1 (some 92) (Value.int .u32 (uw s.h)) 214145175 rfl hs48 ⟨h48.at_ 0 rfl, h48.at_ 1 rfl, h48.at_ 2 rfl, trivial⟩ (fun W hW => e_load hW.1 64 (.tmp 91) (by kernel_rfl) 7 (Value.int .u32 (uw s.h)) (by kernel_rfl) (by kernel_rfl) (by kernel_rfl)) ?_
     refine pR_v 13 (some 104) (Value.int .u32 (uw s.f)) 214153367 rfl hs48 ⟨h48.at_ 0 rfl, h48.at_ 1 rfl, h48.at_ 2 rfl, trivial⟩ (fun W hW => e_load hW.1 64 (.tmp 103) (by kernel_rfl) 5 (Value.int .u32 (uw s.f)) (by kernel_rfl) (by kernel_rfl) (by kernel_rfl)) ?_
     refine pR_v 14 (some 105) (Value.int .u32 (uw (s.e &&& s.f))) 214169751 rfl hs48 ⟨h48.at_ 0 rfl, h48.at_ 1 rfl, h48.at_ 2 rfl, trivial⟩ (fun W hW => eq_is (v := Value.int .u32 (bits .and .u32 (uw s.e) (uw s.f))) (by kernel_rfl) (w_and s.e s.f)) ?_
     refine pR_v 18 (some 109) (Value.int .u32 (uw s.g)) 214431895 rfl hs48 ⟨h48.at_ 0 rfl, h48.at_ 1 rfl, h48.at_ 2 rfl, trivial⟩ (fun W hW => e_load hW.1 64 (.tmp 108) (by kernel_rfl) 6 (Value.int .u32 (uw s.g)) (by kernel_rfl) (by kernel_rfl) (by kernel_rfl)) ?_
     refine pR_v 19 (some 110) (Value.int .u32 (uw ((~~~s.e) &&& s.g))) 214956183 rfl hs48 ⟨h48.at_ 0 rfl, h48.at_ 1 rfl, h48.at_ 2 rfl, trivial⟩ (fun W hW => eq_is (v := Value.int .u32 (bits .and .u32 (uw (~~~s.e)) (uw s.g))) (by kernel_rfl) (w_and (~~~s.e) s.g)) ?_
     refine pR_v 20 (some 111) (Value.int .u32 (uw ((s.e &&& s.f) ^^^ ((~~~s.e) &&& s.g)))) 216004759 rfl hs48 ⟨h48.at_ 0 rfl, h48.at_ 1 rfl, h48.at_ 2 rfl, trivial⟩ (fun W hW => eq_is (v := Value.int .u32 (bits .xor .u32 (uw (s.e &&& s.f)) (uw ((~~~s.e) &&& s.g)))) (by kernel_rfl) (w_xor (s.e &&& s.f) ((~~~s.e) &&& s.g))) ?_
     refine pR_v 24 (some 115) (Value.int .u32 (uw (gw shaK i))) 232781975 rfl hs48 ⟨h48.at_ 0 rfl, h48.at_ 1 rfl, h48.at_ 2 rfl, trivial⟩ (fun W hW => e_load hW.2.1 64 (.tmp 114) (by kernel_rfl) i (Value.int .u32 (uw (gw shaK i))) (by kernel_rfl) (vw_get shaK i (by first | omega | (simp only [shaK_len]; omega))) (by kernel_rfl)) ?_
     refine pR_v 28 (some 119) (Value.int .u32 (uw (gw Wl i))) 501217431 rfl hs48 ⟨h48.at_ 0 rfl, h48.at_ 1 rfl, h48.at_ 2 rfl, trivial⟩ (fun W hW => e_load hW.2.2.1 64 (.tmp 118) (by kernel_rfl) i (Value.int .u32 (uw (gw Wl i))) (by kernel_rfl) (vw_get Wl i (by first | omega | (simp only [hl]; omega))) (by kernel_rfl)) ?_
     refine pR_to 3 (some 94) 501217439 rfl hs48 (x_np h48 64 [(Value.int .u32 (uw s.e)), (Value.int .i64 6)] (by kernel_rfl) (turn_any s.e 6 (by decide) _)) ?_
     rintro _ w49 ⟨rfl, h49⟩
     refine ⟨fun _ => ⟨h49.at_ 0 rfl, h49.at_ 1 rfl, h49.at_ 2 rfl, trivial⟩, ?_⟩
     refine pR_to 5 (some 96) 501217471 rfl hs48 (x_np h49 64 [(Value.int .u32 (uw s.e)), (Value.int .i64 11)] (by kernel_rfl) (turn_any s.e 11 (by decide) _)) ?_
     rintro _ w50 ⟨rfl, h50⟩
     refine ⟨fun _ => ⟨h50.at_ 0 rfl, h50.at_ 1 rfl, h50.at_ 2 rfl, trivial⟩, ?_⟩
     refine pR_v 6 (some 97) (Value.int .u32 (uw ((trn s.e 6) ^^^ (trn s.e 11)))) 501217535 rfl hs48 ⟨h50.at_ 0 rfl, h50.at_ 1 rfl, h50.at_ 2 rfl, trivial⟩ (fun W hW => eq_is (v := Value.int .u32 (bits .xor .u32 (uw (trn s.e 6)) (uw (trn s.e 11)))) (by kernel_rfl) (w_xor (trn s.e 6) (trn s.e 11))) ?_
     refine pR_to 8 (some 99) 501217791 rfl hs48 (x_np h50 64 [(Value.int .u32 (uw s.e)), (Value.int .i64 25)] (by kernel_rfl) (turn_any s.e 25 (by decide) _)) ?_
     rintro _ w51 ⟨rfl, h51⟩
     refine ⟨fun _ => ⟨h51.at_ 0 rfl, h51.at_ 1 rfl, h51.at_ 2 rfl, trivial⟩, ?_⟩
     refine pR_v 9 (some 100) (Value.int .u32 (uw (((trn s.e 6) ^^^ (trn s.e 11)) ^^^ (trn s.e 25)))) 501218303 rfl hs48 ⟨h51.at_ 0 rfl, h51.at_ 1 rfl, h51.at_ 2 rfl, trivial⟩ (fun W hW => eq_is (v := Value.int .u32 (bits .xor .u32 (uw ((trn s.e 6) ^^^ (trn s.e 11))) (uw (trn s.e 25)))) (by kernel_rfl) (w_xor ((trn s.e 6) ^^^ (trn s.e 11)) (trn s.e 25))) ?_
     refine pR_v 10 (some 101) (Value.int .u32 (uw (s.h + (((trn s.e 6) ^^^ (trn s.e 11)) ^^^ (trn s.e 25))))) 501219327 rfl hs48 ⟨h51.at_ 0 rfl, h51.at_ 1 rfl, h51.at_ 2 rfl, trivial⟩ (fun W hW => eq_is (v := Value.int .u32 (IntKind.u32.wrap (uw s.h + uw (((trn s.e 6) ^^^ (trn s.e 11)) ^^^ (trn s.e 25))))) (by kernel_rfl) (w_add s.h (((trn s.e 6) ^^^ (trn s.e 11)) ^^^ (trn s.e 25)))) ?_
     refine pR_v 21 (some 112) (Value.int .u32 (uw ((s.h + (((trn s.e 6) ^^^ (trn s.e 11)) ^^^ (trn s.e 25))) + ((s.e &&& s.f) ^^^ ((~~~s.e) &&& s.g))))) 503316479 rfl hs48 ⟨h51.at_ 0 rfl, h51.at_ 1 rfl, h51.at_ 2 rfl, trivial⟩ (fun W hW => eq_is (v := Value.int .u32 (IntKind.u32.wrap (uw (s.h + (((trn s.e 6) ^^^ (trn s.e 11)) ^^^ (trn s.e 25))) + uw ((s.e &&& s.f) ^^^ ((~~~s.e) &&& s.g))))) (by kernel_rfl) (w_add (s.h + (((trn s.e 6) ^^^ (trn s.e 11)) ^^^ (trn s.e 25))) ((s.e &&& s.f) ^^^ ((~~~s.e) &&& s.g)))) ?_
     refine pR_v 25 (some 116) (Value.int .u32 (uw (((s.h + (((trn s.e 6) ^^^ (trn s.e 11)) ^^^ (trn s.e 25))) + ((s.e &&& s.f) ^^^ ((~~~s.e) &&& s.g))) + (gw shaK i)))) 536870911 rfl hs48 ⟨h51.at_ 0 rfl, h51.at_ 1 rfl, h51.at_ 2 rfl, trivial⟩ (fun W hW => eq_is (v := Value.int .u32 (IntKind.u32.wrap (uw ((s.h + (((trn s.e 6) ^^^ (trn s.e 11)) ^^^ (trn s.e 25))) + ((s.e &&& s.f) ^^^ ((~~~s.e) &&& s.g))) + uw (gw shaK i)))) (by kernel_rfl) (w_add ((s.h + (((trn s.e 6) ^^^ (trn s.e 11)) ^^^ (trn s.e 25))) + ((s.e &&& s.f) ^^^ ((~~~s.e) &&& s.g))) (gw shaK i))) ?_
     refine pR_v 29 (some 120) (Value.int .u32 (uw ((((s.h + (((trn s.e 6) ^^^ (trn s.e 11)) ^^^ (trn s.e 25))) + ((s.e &&& s.f) ^^^ ((~~~s.e) &&& s.g))) + (gw shaK i)) + (gw Wl i)))) 1073741823 rfl hs48 ⟨h51.at_ 0 rfl, h51.at_ 1 rfl, h51.at_ 2 rfl, trivial⟩ (fun W hW => eq_is (v := Value.int .u32 (IntKind.u32.wrap (uw (((s.h + (((trn s.e 6) ^^^ (trn s.e 11)) ^^^ (trn s.e 25))) + ((s.e &&& s.f) ^^^ ((~~~s.e) &&& s.g))) + (gw shaK i)) + uw (gw Wl i)))) (by kernel_rfl) (w_add (((s.h + (((trn s.e 6) ^^^ (trn s.e 11)) ^^^ (trn s.e 25))) + ((s.e &&& s.f) ^^^ ((~~~s.e) &&& s.g))) + (gw shaK i)) (gw Wl i))) ?_
     refine pR_to 30 (some 16) 2147483647 rfl hs48 (OpTo.run (Value.int .u32 (uw ((((s.h + (((trn s.e 6) ^^^ (trn s.e 11)) ^^^ (trn s.e 25))) + ((s.e &&& s.f) ^^^ ((~~~s.e) &&& s.g))) + (gw shaK i)) + (gw Wl i)))) (pureOp_run (by kernel_rfl) _) (R := fun v w => v = (Value.int .u32 (uw ((((s.h + (((trn s.e 6) ^^^ (trn s.e 11)) ^^^ (trn s.e 25))) + ((s.e &&& s.f) ^^^ ((~~~s.e) &&& s.g))) + (gw shaK i)) + (gw Wl i)))) ∧ w51 = w) ⟨rfl, rfl⟩) ?_
     rintro _ _ ⟨rfl, rfl⟩
     refine ⟨fun h => absurd h (by decide), ?_⟩
     refine pR_done hs48 ?_ _
     refine seq_n hK47 ?_
     refine wp_seq_k ?_
     intro K52 hK52
     refine wp_reset 175 [(0, (pt g 0)), (1, (Value.slice A b.length c)), (4, (pt g2 0)), (8, (Value.int .i64 ((64 : Int)))), (11, (pt g32 0)), (12, (pt g35 0)), (13, (Value.int .i64 ((i : Int)))), (14, (Value.int .u32 (uw s.a))), (15, (Value.int .u32 (uw s.e))), (16, (Value.int .u32 (uw ((((s.h + (((trn s.e 6) ^^^ (trn s.e 11)) ^^^ (trn s.e 25))) + ((s.e &&& s.f) ^^^ ((~~~s.e) &&& s.g))) + (gw shaK i)) + (gw Wl i))))), (19, (Value.int .i64 ((16 : Int)))), (20, (Value.bool (decide ((16 : Int) < 16)))), (39, (Value.bool (decide ((64 : Int) < 64)))), (84, (Value.int .i64 ((i : Int)))), (85, (Value.bool (decide ((i : Int) < 64))))] (fun x53 => ?_)
     refine pR_go h51 24 (fun W => (rBlk g35 90 ([(Value.int .u32 (uw s.a)), (Value.int .u32 (uw s.b)), (Value.int .u32 (uw s.c)), (Value.int .u32 (uw s.d)), (Value.int .u32 (uw s.e)), (Value.int .u32 (uw s.f)), (Value.int .u32 (uw s.g)), (Value.int .u32 (uw s.h))])).Φ W ∧ True) [(122, [14], 0), (123, [121], 1), (124, [14], 0), (125, [123], 6), (126, [122, 124], 10), (127, [14], 0), (128, [126], 40), (129, [125, 127], 80), (130, [14], 0), (131, [12], 0), (132, [130], 512), (133, [129, 131], 1280), (134, [14], 0), (135, [12], 0), (136, [134], 8192), (137, [133, 135], 20480), (138, [132, 136], 34816), (139, [12], 0), (140, [138], 131072), (141, [12], 0), (142, [140], 524288), (143, [139, 141], 1310720), (144, [137, 142], 2162688), (145, [128, 143], 4194432), (18, [144], 16777215)] rfl (fun _ d _ _ _ h => by cases d <;> exact h) ?_
     intro hs54 w54 h54
     refine pR_p 20 [0, 2, 5, 8, 12] [(133, (Value.int .u32 (uw s.a))), (129, (Value.int .u32 (uw s.a))), (126, (Value.int .u32 (uw s.a))), (123, (Value.int .u32 (uw s.a))), (121, (Value.int .u32 (uw s.a)))] 4389 hs54 ⟨h54.at_ 0 rfl, trivial⟩ ?_
     refine pR_v 9 (some 130) (pt g35 1) 4901 rfl hs54 ⟨h54.at_ 0 rfl, trivial⟩ (fun W hW => e_idxA 90 (.tmp 12) (.const (Value.int .i64 1)) (by kernel_rfl) .i64 g35 0 1 8 (by kernel_rfl) (by kernel_rfl) (by omega) 64 (by kernel_rfl) (by kernel_rfl) 1 (by omega) _) ?_
     refine pR_v 13 (some 134) (pt g35 2) 13093 rfl hs54 ⟨h54.at_ 0 rfl, trivial⟩ (fun W hW => e_idxA 90 (.tmp 12) (.const (Value.int .i64 2)) (by kernel_rfl) .i64 g35 0 2 8 (by kernel_rfl) (by kernel_rfl) (by omega) 64 (by kernel_rfl) (by kernel_rfl) 2 (by omega) _) ?_
     refine pR_v 17 (some 138) (pt g35 1) 144165 rfl hs54 ⟨h54.at_ 0 rfl, trivial⟩ (fun W hW => e_idxA 90 (.tmp 12) (.const (Value.int .i64 1)) (by kernel_rfl) .i64 g35 0 1 8 (by kernel_rfl) (by kernel_rfl) (by omega) 64 (by kernel_rfl) (by kernel_rfl) 1 (by omega) _) ?_
     refine pR_v 19 (some 140) (pt g35 2) 668453 rfl hs54 ⟨h54.at_ 0 rfl, trivial⟩ (fun W hW => e_idxA 90 (.tmp 12) (.const (Value.int .i64 2)) (by kernel_rfl) .i64 g35 0 2 8 (by kernel_rfl) (by kernel_rfl) (by omega) 64 (by kernel_rfl) (by kernel_rfl) 2 (by omega) _) ?_
     refine pR_v 10 (some 131) (Value.int .u32 (uw s.b)) 669477 rfl hs54 ⟨h54.at_ 0 rfl, trivial⟩ (fun W hW => e_load hW.1 64 (.tmp 130) (by kernel_rfl) 1 (Value.int .u32 (uw s.b)) (by kernel_rfl) (by kernel_rfl) (by kernel_rfl)) ?_
     refine pR_v 11 (some 132) (Value.int .u32 (uw (s.a &&& s.b))) 671525 rfl hs54 ⟨h54.at_ 0 rfl, trivial⟩ (fun W hW => eq_is (v := Value.int .u32 (bits .and .u32 (uw s.a) (uw s.b))) (by kernel_rfl) (w_and s.a s.b)) ?_
     refine pR_v 14 (some 135) (Value.int .u32 (uw s.c)) 687909 rfl hs54 ⟨h54.at_ 0 rfl, trivial⟩ (fun W hW => e_load hW.1 64 (.tmp 134) (by kernel_rfl) 2 (Value.int .u32 (uw s.c)) (by kernel_rfl) (by kernel_rfl) (by kernel_rfl)) ?_
     refine pR_v 15 (some 136) (Value.int .u32 (uw (s.a &&& s.c))) 720677 rfl hs54 ⟨h54.at_ 0 rfl, trivial⟩ (fun W hW => eq_is (v := Value.int .u32 (bits .and .u32 (uw s.a) (uw s.c))) (by kernel_rfl) (w_and s.a s.c)) ?_
     refine pR_v 16 (some 137) (Value.int .u32 (uw ((s.a &&& s.b) ^^^ (s.a &&& s.c)))) 786213 rfl hs54 ⟨h54.at_ 0 rfl, trivial⟩ (fun W hW => eq_is (v := Value.int .u32 (bits .xor .u32 (uw (s.a &&& s.b)) (uw (s.a &&& s.c)))) (by kernel_rfl) (w_xor (s.a &&& s.b) (s.a &&& s.c))) ?_
     refine pR_v 18 (some 139) (Value.int .u32 (uw s.b)) 1048357 rfl hs54 ⟨h54.at_ 0 rfl, trivial⟩ (fun W hW => e_load hW.1 64 (.tmp 138) (by kernel_rfl) 1 (Value.int .u32 (uw s.b)) (by kernel_rfl) (by kernel_rfl) (by kernel_rfl)) ?_
     refine pR_v 20 (some 141) (Value.int .u32 (uw s.c)) 2096933 rfl hs54 ⟨h54.at_ 0 rfl, trivial⟩ (fun W hW => e_load hW.1 64 (.tmp 140) (by kernel_rfl) 2 (Value.int .u32 (uw s.c)) (by kernel_rfl) (by kernel_rfl) (by kernel_rfl)) ?_
     refine pR_v 21 (some 142) (Value.int .u32 (uw (s.b &&& s.c))) 4194085 rfl hs54 ⟨h54.at_ 0 rfl, trivial⟩ (fun W hW => eq_is (v := Value.int .u32 (bits .and .u32 (uw s.b) (uw s.c))) (by kernel_rfl) (w_and s.b s.c)) ?_
     refine pR_v 22 (some 143) (Value.int .u32 (uw (((s.a &&& s.b) ^^^ (s.a &&& s.c)) ^^^ (s.b &&& s.c)))) 8388389 rfl hs54 ⟨h54.at_ 0 rfl, trivial⟩ (fun W hW => eq_is (v := Value.int .u32 (bits .xor .u32 (uw ((s.a &&& s.b) ^^^ (s.a &&& s.c))) (uw (s.b &&& s.c)))) (by kernel_rfl) (w_xor ((s.a &&& s.b) ^^^ (s.a &&& s.c)) (s.b &&& s.c))) ?_
     refine pR_to 1 (some 122) 8388391 rfl hs54 (x_np h54 64 [(Value.int .u32 (uw s.a)), (Value.int .i64 2)] (by kernel_rfl) (turn_any s.a 2 (by decide) _)) ?_
     rintro _ w55 ⟨rfl, h55⟩
     refine ⟨fun _ => ⟨h55.at_ 0 rfl, trivial⟩, ?_⟩
     refine pR_to 3 (some 124) 8388399 rfl hs54 (x_np h55 64 [(Value.int .u32 (uw s.a)), (Value.int .i64 13)] (by kernel_rfl) (turn_any s.a 13 (by decide) _)) ?_
     rintro _ w56 ⟨rfl, h56⟩
     refine ⟨fun _ => ⟨h56.at_ 0 rfl, trivial⟩, ?_⟩
     refine pR_v 4 (some 125) (Value.int .u32 (uw ((trn s.a 2) ^^^ (trn s.a 13)))) 8388415 rfl hs54 ⟨h56.at_ 0 rfl, trivial⟩ (fun W hW => eq_is (v := Value.int .u32 (bits .xor .u32 (uw (trn s.a 2)) (uw (trn s.a 13)))) (by kernel_rfl) (w_xor (trn s.a 2) (trn s.a 13))) ?_
     refine pR_to 6 (some 127) 8388479 rfl hs54 (x_np h56 64 [(Value.int .u32 (uw s.a)), (Value.int .i64 22)] (by kernel_rfl) (turn_any s.a 22 (by decide) _)) ?_
     rintro _ w57 ⟨rfl, h57⟩
     refine ⟨fun _ => ⟨h57.at_ 0 rfl, trivial⟩, ?_⟩
     refine pR_v 7 (some 128) (Value.int .u32 (uw (((trn s.a 2) ^^^ (trn s.a 13)) ^^^ (trn s.a 22)))) 8388607 rfl hs54 ⟨h57.at_ 0 rfl, trivial⟩ (fun W hW => eq_is (v := Value.int .u32 (bits .xor .u32 (uw ((trn s.a 2) ^^^ (trn s.a 13))) (uw (trn s.a 22)))) (by kernel_rfl) (w_xor ((trn s.a 2) ^^^ (trn s.a 13)) (trn s.a 22))) ?_
     refine pR_v 23 (some 144) (Value.int .u32 (uw ((((trn s.a 2) ^^^ (trn s.a 13)) ^^^ (trn s.a 22)) + (((s.a &&& s.b) ^^^ (s.a &&& s.c)) ^^^ (s.b &&& s.c))))) 16777215 rfl hs54 ⟨h57.at_ 0 rfl, trivial⟩ (fun W hW => eq_is (v := Value.int .u32 (IntKind.u32.wrap (uw (((trn s.a 2) ^^^ (trn s.a 13)) ^^^ (trn s.a 22)) + uw (((s.a &&& s.b) ^^^ (s.a &&& s.c)) ^^^ (s.b &&& s.c))))) (by kernel_rfl) (w_add (((trn s.a 2) ^^^ (trn s.a 13)) ^^^ (trn s.a 22)) (((s.a &&& s.b) ^^^ (s.a &&& s.c)) ^^^ (s.b &&& s.c)))) ?_
     refine pR_to 24 (some 17) 33554431 rfl hs54 (OpTo.run (Value.int .u32 (uw ((((trn s.a 2) ^^^ (trn s.a 13)) ^^^ (trn s.a 22)) + (((s.a &&& s.b) ^^^ (s.a &&& s.c)) ^^^ (s.b &&& s.c))))) (pureOp_run (by kernel_rfl) _) (R := fun v w => v = (Value.int .u32 (uw ((((trn s.a 2) ^^^ (trn s.a 13)) ^^^ (trn s.a 22)) + (((s.a &&& s.b) ^^^ (s.a &&& s.c)) ^^^ (s.b &&& s.c))))) ∧ w57 = w) ⟨rfl, rfl⟩) ?_
     rintro _ _ ⟨rfl, rfl⟩
     refine ⟨fun h => absurd h (by decide), ?_⟩
     refine pR_done hs54 ?_ _
     refine seq_n hK52 ?_
     refine wp_seq_k ?_
     intro K58 hK58
     refine pR_go h57 2 (fun W => True) [(146, [12], 0), (147, [12], 0), (148, [145, 146], 3)] rfl (fun _ d _ _ _ h => by cases d <;> exact h) ?_
     intro hs59 w59 h59
     refine pR_v 0 (some 145) (Value.slice (some ⟨g35, 1, none⟩) 7 7) 1 rfl hs59 trivial (fun W hW => pureOp_run (by kernel_rfl) _) ?_
     refine pR_v 1 (some 146) (Value.slice (some ⟨g35, 0, none⟩) 7 8) 3 rfl hs59 trivial (fun W hW => pureOp_run (by kernel_rfl) _) ?_
     refine pR_to 2 (some 147) 7 rfl hs59 (x_copyB h59 0 rfl (.tmp 145) (.tmp 146) 38 64 (by kernel_rfl) 1 0 7 7 8 ([(Value.int .u32 (uw s.a)), (Value.int .u32 (uw s.b)), (Value.int .u32 (uw s.c)), (Value.int .u32 (uw s.d)), (Value.int .u32 (uw s.e)), (Value.int .u32 (uw s.f)), (Value.int .u32 (uw s.g))]) ([(Value.int .u32 (uw s.a)), (Value.int .u32 (uw s.a)), (Value.int .u32 (uw s.b)), (Value.int .u32 (uw s.c)), (Value.int .u32 (uw s.d)), (Value.int .u32 (uw s.e)), (Value.int .u32 (uw s.f)), (Value.int .u32 (uw s.g))]) (by kernel_rfl) (by kernel_rfl) (by kernel_rfl) (by kernel_rfl) (by kernel_rfl) (by kernel_rfl) (by kernel_rfl) (by kernel_rfl) (by kernel_rfl)) ?_
     rintro _ w60 ⟨rfl, h60⟩
     refine ⟨fun h => absurd h (by decide), ?_⟩
     refine pR_done hs59 ?_ _
     refine seq_n hK58 ?_
     refine wp_seq_k ?_
     intro K61 hK61
     refine reg_lit ?_
     refine wq_v (some 148) (pt g35 4) (e_idxA 90 (.tmp 12) (.const (Value.int .i64 4)) (by kernel_rfl) .i64 g35 0 4 8 (by kernel_rfl) (by kernel_rfl) (by omega) 64 (by kernel_rfl) (by kernel_rfl) 4 (by omega) _) ?_
     refine wq_v (some 149) (Value.int .u32 (uw s.d)) (e_load (h60.at_ 0 rfl) 64 (.tmp 148) (by kernel_rfl) 4 (Value.int .u32 (uw s.d)) (by kernel_rfl) (by kernel_rfl) (by kernel_rfl)) ?_
     refine wq_p 1 [(150, (Value.int .u32 (uw ((((s.h + (((trn s.e 6) ^^^ (trn s.e 11)) ^^^ (trn s.e 25))) + ((s.e &&& s.f) ^^^ ((~~~s.e) &&& s.g))) + (gw shaK i)) + (gw Wl i)))))] ?_
     refine wq_v (some 151) (Value.int .u32 (uw (s.d + ((((s.h + (((trn s.e 6) ^^^ (trn s.e 11)) ^^^ (trn s.e 25))) + ((s.e &&& s.f) ^^^ ((~~~s.e) &&& s.g))) + (gw shaK i)) + (gw Wl i))))) (eq_is (v := Value.int .u32 (IntKind.u32.wrap (uw s.d + uw ((((s.h + (((trn s.e 6) ^^^ (trn s.e 11)) ^^^ (trn s.e 25))) + ((s.e &&& s.f) ^^^ ((~~~s.e) &&& s.g))) + (gw shaK i)) + (gw Wl i))))) (by kernel_rfl) (w_add s.d ((((s.h + (((trn s.e 6) ^^^ (trn s.e 11)) ^^^ (trn s.e 25))) + ((s.e &&& s.f) ^^^ ((~~~s.e) &&& s.g))) + (gw shaK i)) + (gw Wl i)))) ?_
     refine wq_v (some 152) (pt g35 4) (e_idxA 90 (.tmp 12) (.const (Value.int .i64 4)) (by kernel_rfl) .i64 g35 0 4 8 (by kernel_rfl) (by kernel_rfl) (by omega) 64 (by kernel_rfl) (by kernel_rfl) 4 (by omega) _) ?_
     refine wq_to none (x_store h60 0 rfl 64 (.tmp 152) (.tmp 151) (by kernel_rfl) 4 (Value.int .u32 (uw (s.d + ((((s.h + (((trn s.e 6) ^^^ (trn s.e 11)) ^^^ (trn s.e 25))) + ((s.e &&& s.f) ^^^ ((~~~s.e) &&& s.g))) + (gw shaK i)) + (gw Wl i))))) ([(Value.int .u32 (uw s.a)), (Value.int .u32 (uw s.a)), (Value.int .u32 (uw s.b)), (Value.int .u32 (uw s.c)), (Value.int .u32 (uw (s.d + ((((s.h + (((trn s.e 6) ^^^ (trn s.e 11)) ^^^ (trn s.e 25))) + ((s.e &&& s.f) ^^^ ((~~~s.e) &&& s.g))) + (gw shaK i)) + (gw Wl i))))), (Value.int .u32 (uw s.e)), (Value.int .u32 (uw s.f)), (Value.int .u32 (uw s.g))]) (by kernel_rfl) (by kernel_rfl) (by kernel_rfl) (by kernel_rfl) rfl rfl (by kernel_rfl)) ?_
     rintro _ w62 h62
     refine wl_end rfl ?_
     refine seq_n hK61 ?_
     refine reg_lit ?_
     refine wq_p 2 [(154, (Value.int .u32 (uw ((((trn s.a 2) ^^^ (trn s.a 13)) ^^^ (trn s.a 22)) + (((s.a &&& s.b) ^^^ (s.a &&& s.c)) ^^^ (s.b &&& s.c)))))), (153, (Value.int .u32 (uw ((((s.h + (((trn s.e 6) ^^^ (trn s.e 11)) ^^^ (trn s.e 25))) + ((s.e &&& s.f) ^^^ ((~~~s.e) &&& s.g))) + (gw shaK i)) + (gw Wl i)))))] ?_
     refine wq_v (some 155) (Value.int .u32 (uw (((((s.h + (((trn s.e 6) ^^^ (trn s.e 11)) ^^^ (trn s.e 25))) + ((s.e &&& s.f) ^^^ ((~~~s.e) &&& s.g))) + (gw shaK i)) + (gw Wl i)) + ((((trn s.a 2) ^^^ (trn s.a 13)) ^^^ (trn s.a 22)) + (((s.a &&& s.b) ^^^ (s.a &&& s.c)) ^^^ (s.b &&& s.c)))))) (eq_is (v := Value.int .u32 (IntKind.u32.wrap (uw ((((s.h + (((trn s.e 6) ^^^ (trn s.e 11)) ^^^ (trn s.e 25))) + ((s.e &&& s.f) ^^^ ((~~~s.e) &&& s.g))) + (gw shaK i)) + (gw Wl i)) + uw ((((trn s.a 2) ^^^ (trn s.a 13)) ^^^ (trn s.a 22)) + (((s.a &&& s.b) ^^^ (s.a &&& s.c)) ^^^ (s.b &&& s.c)))))) (by kernel_rfl) (w_add ((((s.h + (((trn s.e 6) ^^^ (trn s.e 11)) ^^^ (trn s.e 25))) + ((s.e &&& s.f) ^^^ ((~~~s.e) &&& s.g))) + (gw shaK i)) + (gw Wl i)) ((((trn s.a 2) ^^^ (trn s.a 13)) ^^^ (trn s.a 22)) + (((s.a &&& s.b) ^^^ (s.a &&& s.c)) ^^^ (s.b &&& s.c))))) ?_
     refine wq_v (some 156) (pt g35 0) (e_idxA 90 (.tmp 12) (.const (Value.int .i64 0)) (by kernel_rfl) .i64 g35 0 0 8 (by kernel_rfl) (by kernel_rfl) (by omega) 64 (by kernel_rfl) (by kernel_rfl) 0 (by omega) _) ?_
     refine wq_to none (x_store h62 0 rfl 64 (.tmp 156) (.tmp 155) (by kernel_rfl) 0 (Value.int .u32 (uw (((((s.h + (((trn s.e 6) ^^^ (trn s.e 11)) ^^^ (trn s.e 25))) + ((s.e &&& s.f) ^^^ ((~~~s.e) &&& s.g))) + (gw shaK i)) + (gw Wl i)) + ((((trn s.a 2) ^^^ (trn s.a 13)) ^^^ (trn s.a 22)) + (((s.a &&& s.b) ^^^ (s.a &&& s.c)) ^^^ (s.b &&& s.c)))))) ([(Value.int .u32 (uw (((((s.h + (((trn s.e 6) ^^^ (trn s.e 11)) ^^^ (trn s.e 25))) + ((s.e &&& s.f) ^^^ ((~~~s.e) &&& s.g))) + (gw shaK i)) + (gw Wl i)) + ((((trn s.a 2) ^^^ (trn s.a 13)) ^^^ (trn s.a 22)) + (((s.a &&& s.b) ^^^ (s.a &&& s.c)) ^^^ (s.b &&& s.c)))))), (Value.int .u32 (uw s.a)), (Value.int .u32 (uw s.b)), (Value.int .u32 (uw s.c)), (Value.int .u32 (uw (s.d + ((((s.h + (((trn s.e 6) ^^^ (trn s.e 11)) ^^^ (trn s.e 25))) + ((s.e &&& s.f) ^^^ ((~~~s.e) &&& s.g))) + (gw shaK i)) + (gw Wl i))))), (Value.int .u32 (uw s.e)), (Value.int .u32 (uw s.f)), (Value.int .u32 (uw s.g))]) (by kernel_rfl) (by kernel_rfl) (by kernel_rfl) (by kernel_rfl) rfl rfl (by kernel_rfl)) ?_
     rintro _ w63 h63
     refine wl_end rfl ?_
     refine blk_n ?_
     refine seq_n hK43 ?_
     refine wp_reset 175 [(0, (pt g 0)), (1, (Value.slice A b.length c)), (4, (pt g2 0)), (8, (Value.int .i64 ((64 : Int)))), (11, (pt g32 0)), (12, (pt g35 0)), (13, (Value.int .i64 ((i : Int)))), (14, (Value.int .u32 (uw s.a))), (15, (Value.int .u32 (uw s.e))), (16, (Value.int .u32 (uw ((((s.h + (((trn s.e 6) ^^^ (trn s.e 11)) ^^^ (trn s.e 25))) + ((s.e &&& s.f) ^^^ ((~~~s.e) &&& s.g))) + (gw shaK i)) + (gw Wl i))))), (17, (Value.int .u32 (uw ((((trn s.a 2) ^^^ (trn s.a 13)) ^^^ (trn s.a 22)) + (((s.a &&& s.b) ^^^ (s.a &&& s.c)) ^^^ (s.b &&& s.c)))))), (19, (Value.int .i64 ((16 : Int)))), (20, (Value.bool (decide ((16 : Int) < 16)))), (39, (Value.bool (decide ((64 : Int) < 64)))), (84, (Value.int .i64 ((i : Int)))), (85, (Value.bool (decide ((i : Int) < 64))))] (fun x64 => ?_)
     refine reg_lit ?_
     refine wq_v (some 157) (Value.int .i64 ((i : Int) + 1)) (exec_add _ _ _ _ rfl ((i : Int)) 1 (by kernel_rfl) (by kernel_rfl) ((i : Int) + 1) rfl (by omega) (by omega) _) ?_
     refine wq_p 1 [(84, (Value.int .i64 ((i : Int) + 1)))] ?_
     refine wl_end rfl ?_
     refine ⟨64 - (i + 1), (by omega), (i + 1), (rnd s (gw shaK i) (gw Wl i)), (by omega), (by rw [hs]; rfl), rfl, (patch_eq _ 175 _ (by kernel_rfl) (by kernel_rfl) (by kernel_rfl)), h63.sel [0, 1, 2, 3] [0] (by kernel_rfl) rfl rfl⟩
    ·
     refine wp_exit ?_
     refine seq_e ?_
     refine seq_e ?_
     refine blk_e ?_
     refine seq_n hK37 ?_
     refine wp_seq_k ?_
     intro K65 hK65
     refine reg_lit ?_
     refine wq_p 1 [(158, (Value.int .i64 0))] ?_
     refine wl_end rfl ?_
     refine seq_n hK65 ?_
     refine wp_block ?_
     refine wp_loopm (fun mM xX aA wL => ∃ (j : Nat) (L : List UInt32), (j ≤ 8) ∧ (L = addN h s (j)) ∧ ((L : List UInt32).length = 8) ∧ mM = 8 - (j) ∧ aA = patch xX 175 [(0, (pt g 0)), (1, (Value.slice A b.length c)), (4, (pt g2 0)), (8, (Value.int .i64 ((64 : Int)))), (11, (pt g32 0)), (12, (pt g35 0)), (19, (Value.int .i64 ((16 : Int)))), (20, (Value.bool (decide ((16 : Int) < 16)))), (39, (Value.bool (decide ((64 : Int) < 64)))), (84, (Value.int .i64 ((i : Int)))), (85, (Value.bool (decide ((i : Int) < 64)))), (158, (Value.int .i64 ((j : Int))))] ∧ Hp (fun q => q = g) w wL [rSB ((Value.slice A b.length c)) b] [rBlk g35 90 (vw s.l), rBlk g 92 (vw L ++ [rv, nv])]) ⟨_, 0, h.l, (by omega), rfl, rfl, rfl, (patch_eq _ 175 _ (by kernel_rfl) (by kernel_rfl) (by kernel_rfl)), h39.sel [0, 3] [0] (by kernel_rfl) rfl rfl⟩ ?_
     rintro _ x66 _ w66 ⟨j, L, hj, hL, hl8, rfl, rfl, h66⟩
     refine wp_seq_k ?_
     intro K67 hK67
     refine reg_lit ?_
     refine wq_p 1 [(159, (Value.bool (decide ((j : Int) < 8))))] ?_
     refine wl_end rfl ?_
     refine seq_n hK67 ?_
     refine wp_seq_k ?_
     intro K68 hK68
     refine wp_if ((j : Int) < 8) (by kernel_rfl) (fun b69 => ?_) (fun b69 => ?_)
     ·
      refine wp_skip ?_
      refine seq_n hK68 ?_
      refine wp_seq_k ?_
      intro K70 hK70
      refine wp_block ?_
      refine wp_seq_k ?_
      intro K71 hK71
      refine reg_lit ?_
      refine wq_p 2 [(18, (Value.int .i64 ((j : Int)))), (160, (Value.int .i64 ((j : Int))))] ?_
      refine wl_end rfl ?_
      refine seq_n hK71 ?_
      refine pR_go h66 14 (fun W => True) [(162, [0], 0), (163, [18], 0), (164, [161], 1), (165, [163], 4), (166, [164, 162], 10), (167, [165], 16), (168, [18], 0), (169, [12, 167], 64), (170, [168], 128), (171, [166, 169], 288), (172, [161], 1), (173, [171], 1024), (174, [172, 162], 3071), (0, [173, 170], 5119)] rfl (fun _ d _ _ _ h => by cases d <;> exact h) ?_
      intro hs72 w72 h72
      refine pR_p 7 [0, 1, 2, 3, 6, 10, 11] [(172, (pt g 0)), (171, (pt g 0)), (167, (Value.int .i64 ((j : Int)))), (164, (pt g 0)), (163, (pt g 0)), (162, (Value.int .i64 ((j : Int)))), (161, (pt g 0))] 3151 hs72 trivial ?_
      refine pR_v 4 (some 165) (pt g j) 3167 rfl hs72 trivial (fun W hW => e_idxA 90 (.tmp 164) (.tmp 162) (by kernel_rfl) .i64 g 0 j 8 (by kernel_rfl) (by kernel_rfl) (by omega) 64 (by kernel_rfl) (by kernel_rfl) j (by omega) _) ?_
      refine pR_v 7 (some 168) (pt g35 j) 3295 rfl hs72 trivial (fun W hW => e_idxA 90 (.tmp 12) (.tmp 167) (by kernel_rfl) .i64 g35 0 j 8 (by kernel_rfl) (by kernel_rfl) (by omega) 64 (by kernel_rfl) (by kernel_rfl) j (by omega) _) ?_
      refine pR_or 5 8 hs72 ?_ ?_
      ·
       refine pR_op 5 (some 166) 3327 rfl (OpTo.run (Value.int .u32 (uw (gw L j))) (e_load (h72.at_ 1 rfl) 64 (.tmp 165) (by kernel_rfl) j (Value.int .u32 (uw (gw L j))) (by kernel_rfl) (vw_getA L _ j (by first | omega | (simp only [hl8]; omega))) (by kernel_rfl)) (R := fun v w => v = (Value.int .u32 (uw (gw L j))) ∧ w72 = w) ⟨rfl, rfl⟩) ?_
       rintro _ _ ⟨rfl, rfl⟩
       refine ⟨fun _ => trivial, ?_⟩
       refine pR_to 8 (some 169) 3583 rfl hs72 (OpTo.run (Value.int .u32 (uw (gw s.l j))) (e_load (h72.at_ 0 rfl) 64 (.tmp 168) (by kernel_rfl) j (Value.int .u32 (uw (gw s.l j))) (by kernel_rfl) (vw_get s.l j (by first | omega | (simp only [S8.l_len]; omega))) (by kernel_rfl)) (R := fun v w => v = (Value.int .u32 (uw (gw s.l j))) ∧ w72 = w) ⟨rfl, rfl⟩) ?_
       rintro _ _ ⟨rfl, rfl⟩
       refine ⟨fun _ => trivial, ?_⟩
       refine pR_v 9 (some 170) (Value.int .u32 (uw ((gw L j) + (gw s.l j)))) 4095 rfl hs72 trivial (fun W hW => eq_is (v := Value.int .u32 (IntKind.u32.wrap (uw (gw L j) + uw (gw s.l j)))) (by kernel_rfl) (w_add (gw L j) (gw s.l j))) ?_
       refine pR_v 12 (some 173) (pt g j) 8191 rfl hs72 trivial (fun W hW => e_idxA 90 (.tmp 172) (.tmp 162) (by kernel_rfl) .i64 g 0 j 8 (by kernel_rfl) (by kernel_rfl) (by omega) 64 (by kernel_rfl) (by kernel_rfl) j (by omega) _) ?_
       refine pR_to 13 none 16383 rfl hs72 (x_store h72 1 rfl 64 (.tmp 173) (.tmp 170) (by kernel_rfl) j (Value.int .u32 (uw ((gw L j) + (gw s.l j)))) (vw (L.set j (((gw L j) + (gw s.l j)))) ++ [rv, nv]) (by kernel_rfl) (by kernel_rfl) (decide_eq_true (by rw [List.length_append, vw_len]; exact Nat.lt_of_lt_of_le (by first | omega | (simp only [hl8]; omega)) (Nat.le_add_right _ _))) (by kernel_rfl) rfl rfl (vw_setA L _ j (((gw L j) + (gw s.l j))) (by first | omega | (simp only [hl8]; omega)))) ?_
       rintro _ w73 h73
       refine ⟨fun _ => trivial, ?_⟩
       refine pR_done hs72 ?_ _
       refine blk_n ?_
       refine seq_n hK70 ?_
       refine reg_lit ?_
       refine wq_v (some 174) (Value.int .i64 ((j : Int) + 1)) (exec_add _ _ _ _ rfl ((j : Int)) 1 (by kernel_rfl) (by kernel_rfl) ((j : Int) + 1) rfl (by omega) (by omega) _) ?_
       refine wq_p 1 [(158, (Value.int .i64 ((j : Int) + 1)))] ?_
       refine wl_end rfl ?_
       refine ⟨8 - (j + 1), (by omega), (j + 1), ((L.set j (((gw L j) + (gw s.l j))))), (by omega), (by rw [hL]; rfl), (by simp only [List.length_set]; exact hl8), rfl, (patch_eq _ 175 _ (by kernel_rfl) (by kernel_rfl) (by kernel_rfl)), h73.sel [0, 1] [0] (by kernel_rfl) rfl rfl⟩
      ·
       refine pR_op 8 (some 169) 3551 rfl (OpTo.run (Value.int .u32 (uw (gw s.l j))) (e_load (h72.at_ 0 rfl) 64 (.tmp 168) (by kernel_rfl) j (Value.int .u32 (uw (gw s.l j))) (by kernel_rfl) (vw_get s.l j (by first | omega | (simp only [S8.l_len]; omega))) (by kernel_rfl)) (R := fun v w => v = (Value.int .u32 (uw (gw s.l j))) ∧ w72 = w) ⟨rfl, rfl⟩) ?_
       rintro _ _ ⟨rfl, rfl⟩
       refine ⟨fun _ => trivial, ?_⟩
       refine pR_to 5 (some 166) 3583 rfl hs72 (OpTo.run (Value.int .u32 (uw (gw L j))) (e_load (h72.at_ 1 rfl) 64 (.tmp 165) (by kernel_rfl) j (Value.int .u32 (uw (gw L j))) (by kernel_rfl) (vw_getA L _ j (by first | omega | (simp only [hl8]; omega))) (by kernel_rfl)) (R := fun v w => v = (Value.int .u32 (uw (gw L j))) ∧ w72 = w) ⟨rfl, rfl⟩) ?_
       rintro _ _ ⟨rfl, rfl⟩
       refine ⟨fun _ => trivial, ?_⟩
       refine pR_v 9 (some 170) (Value.int .u32 (uw ((gw L j) + (gw s.l j)))) 4095 rfl hs72 trivial (fun W hW => eq_is (v := Value.int .u32 (IntKind.u32.wrap (uw (gw L j) + uw (gw s.l j)))) (by kernel_rfl) (w_add (gw L j) (gw s.l j))) ?_
       refine pR_v 12 (some 173) (pt g j) 8191 rfl hs72 trivial (fun W hW => e_idxA 90 (.tmp 172) (.tmp 162) (by kernel_rfl) .i64 g 0 j 8 (by kernel_rfl) (by kernel_rfl) (by omega) 64 (by kernel_rfl) (by kernel_rfl) j (by omega) _) ?_
       refine pR_to 13 none 16383 rfl hs72 (x_store h72 1 rfl 64 (.tmp 173) (.tmp 170) (by kernel_rfl) j (Value.int .u32 (uw ((gw L j) + (gw s.l j)))) (vw (L.set j (((gw L j) + (gw s.l j)))) ++ [rv, nv]) (by kernel_rfl) (by kernel_rfl) (decide_eq_true (by rw [List.length_append, vw_len]; exact Nat.lt_of_lt_of_le (by first | omega | (simp only [hl8]; omega)) (Nat.le_add_right _ _))) (by kernel_rfl) rfl rfl (vw_setA L _ j (((gw L j) + (gw s.l j))) (by first | omega | (simp only [hl8]; omega)))) ?_
       rintro _ w74 h74
       refine ⟨fun _ => trivial, ?_⟩
       refine pR_done hs72 ?_ _
       refine blk_n ?_
       refine seq_n hK70 ?_
       refine reg_lit ?_
       refine wq_v (some 174) (Value.int .i64 ((j : Int) + 1)) (exec_add _ _ _ _ rfl ((j : Int)) 1 (by kernel_rfl) (by kernel_rfl) ((j : Int) + 1) rfl (by omega) (by omega) _) ?_
       refine wq_p 1 [(158, (Value.int .i64 ((j : Int) + 1)))] ?_
       refine wl_end rfl ?_
       refine ⟨8 - (j + 1), (by omega), (j + 1), ((L.set j (((gw L j) + (gw s.l j))))), (by omega), (by rw [hL]; rfl), (by simp only [List.length_set]; exact hl8), rfl, (patch_eq _ 175 _ (by kernel_rfl) (by kernel_rfl) (by kernel_rfl)), h74.sel [0, 1] [0] (by kernel_rfl) rfl rfl⟩
     ·
      refine wp_exit ?_
      refine seq_e ?_
      refine seq_e ?_
      refine blk_e ?_
      refine post_n ?_
      refine post_0 rfl (by kernel_rfl)  ?_
      exact ⟨rfl, by rw [← blk8_eq h b Wl L s j i hX hs (by omega) hL (by omega)]; exact h66.at_ 1 rfl, h66.fr⟩
end Go.Proofs.YtpkelokaammmjaaDoor
end
/-! Bytes of the call's own, of which a part was cut off ahead; append to them. -/
section
namespace Go.Proofs.YtpkelokaammmjaaDoor
open Go.RowKit Go.QT
/-- The slice v is the call's own, from some place of a block on, and reads as l. -/
def OC (w : World) (v : Value) (l : Bytes) : Prop :=
  (v = .slice none 0 0 ∧ l = []) ∨ ∃ g off cap cs, v = .slice (some ⟨g, off, none⟩) l.length cap ∧ Blk w g 5 cs ∧ l.length ≤ cap ∧ cap ≤ maxLen ∧ off + cap ≤ cs.length ∧ ∀ i, i < l.length → cs[off + i]? = some (.int .u8 (ub (gb l i)))
section
variable {w w' : World} {v u : Value} {l m : Bytes}
theorem OC.nil (w : World) : OC w (.slice none 0 0) [] := .inl ⟨rfl, rfl⟩
theorem OC.form (h : OC w v l) : ∃ A c, v = .slice A l.length c := by
  rcases h with ⟨rfl, rfl⟩ | ⟨g, off, cap, cs, rfl, _⟩
  · exact ⟨_, _, rfl⟩
  · exact ⟨_, _, rfl⟩
theorem OC.sb (h : OC w v l) : SB w v l := by
  rcases h with ⟨rfl, rfl⟩ | ⟨g, off, cap, cs, rfl, hb, h1, h2, h3, h4⟩
  · exact ⟨none, 0, rfl, Nat.le_refl _, Nat.zero_le _, fun h => absurd rfl h⟩
  · exact ⟨_, cap, rfl, h1, h2, fun _ => ⟨g, off, rfl, hb.lt, fun i hi => by rw [hb.cell]; exact h4 i hi⟩⟩
theorem OC.own (h : OC w v l) : ∀ q, v.ownBlock = some q → q < w.heap.size := by
  intro q hq
  rcases h with ⟨rfl, rfl⟩ | ⟨g, off, cap, cs, rfl, hb, _⟩
  · simp [Value.ownBlock] at hq
  · have : g = q := by simpa [Value.ownBlock] using hq
    subst this; exact hb.lt
theorem OC.keep (h : OC w v l) (hk : ∀ q, v.ownBlock = some q → w'.heap[q]? = w.heap[q]?) : OC w' v l := by
  rcases h with h | ⟨g, off, cap, cs, rfl, hb, r⟩
  · exact .inl h
  · exact .inr ⟨g, off, cap, cs, rfl, (hk g rfl).trans hb, r⟩
theorem OC.ofOB {base : Nat} (h : OB w base v l) : OC w v l := by
  rcases h.2 with ⟨h1, h2⟩ | ⟨g, cap, cur, rfl, hb, hg, hn, hm, hs, ht⟩
  · exact .inl ⟨h1, List.eq_nil_of_length_eq_zero h2⟩
  · refine .inr ⟨g, 0, cap, cur.toList, rfl, by unfold Blk; simpa using hg, hn, hm, by simp [hs], fun i hi => ?_⟩
    have h1 := vb_get l i hi
    rw [← ht, List.getElem?_take] at h1
    split at h1
    · rw [Nat.zero_add]; exact h1
    · cases h1
/-- What is behind a place. -/
theorem OC.cut (h : OC w v l) (k : Nat) (hk : k ≤ l.length) : OC w (cutS v k l.length) (l.drop k) := by
  have hl : (l.drop k).length = l.length - k := by simp
  rcases h with ⟨rfl, rfl⟩ | ⟨g, off, cap, cs, rfl, hb, h1, h2, h3, h4⟩
  · left
    have : k = 0 := by simpa using hk
    subst this
    exact ⟨by simp [cutS], by simp⟩
  · right
    by_cases hc : cap = k
    · refine ⟨g, off, cap - k, cs, ?_, hb, by omega, by omega, by omega, fun i hi => ?_⟩
      · rw [hl]; simp only [cutS, if_pos hc]
      · omega
    · refine ⟨g, off + k, cap - k, cs, ?_, hb, by omega, by omega, by omega, fun i hi => ?_⟩
      · rw [hl]; simp only [cutS, if_neg hc, Option.map_some, Addr.add_lit]
      · rw [Nat.add_assoc, h4 (k + i) (by omega)]
        congr 3
        simp [gb]
end
def rOC (v : Value) (l : Bytes) : Res where
  F := fun q => v.ownBlock = some q
  Φ := fun w => OC w v l
  lt := fun h q hq => OC.own h q hq
  keep := fun h _ hk => OC.keep h hk
section
variable {o : Oper} {a : Act} {w w' : World} {F0 : Nat → Prop} {w0 : World} {ro rs : List Res}
theorem Hp.ocNil (h : Hp F0 w0 w ro rs) : Hp F0 w0 w ro (rOC (.slice none 0 0) [] :: rs) :=
  h.newS (Below.refl _ _) _ (OC.nil w) (fun q hq => by simp [rOC, Value.ownBlock] at hq)
theorem Hp.ocCut (h : Hp F0 w0 w ro rs) (i : Nat) {v : Value} {l : Bytes} (hi : rs[i]? = some (rOC v l)) (k : Nat) (hk : k ≤ l.length) : Hp F0 w0 w ro (rs.set i (rOC (cutS v k l.length) (l.drop k))) :=
  h.upd i hi (Fr.refl _ _) _ (OC.cut (h.own i _ hi) k hk) (fun q hq => .inl (by have h2 : (cutS v k l.length).ownBlock = some q := hq; rw [cutS_block] at h2; exact h2))
theorem OC.app {v u : Value} {l m : Bytes} (hv : OC w v l) (hu : SB w u m) (hlen : l.length + m.length ≤ 140737488355328) (ty : TypeId) :
    ∃ v' w', (Builtin.append_ #[22, 22] ty #[v, u]).run Tryd.prog w = .ok v' w' ∧ OC w' v' (l ++ m) ∧ Fr (fun q => v.ownBlock = some q) w w' ∧ ∀ q, v'.ownBlock = some q → v.ownBlock = some q ∨ w.heap.size ≤ q := by
  obtain ⟨i0, hi0, hz0, hz1, hz2⟩ := info_parts i5
  obtain ⟨A, c, rfl, hc, hm, hcell⟩ := hu
  have hr := (SB.reads (w := w) (A := A) (n := m.length) (c := c) ⟨A, c, rfl, hc, hm, hcell⟩).2
  rcases hv with ⟨rfl, rfl⟩ | ⟨g, off, cap, cs, rfl, hb, h1, h2, h3, h4⟩
  · obtain ⟨v', w', hrun, k1, k2, k3⟩ := run_append_any (P := Tryd.prog) w 0 22 ty 5 i0 _ 1 1 ty28 hi0 hz0 hz1 hz2 rfl (by omega) (.slice none 0 0) 0 (vb []) (OB.nil w 0) w.heap.size A m.length c (vb m) hr (vb_ones m) (by unfold maxLen; simp at hlen; omega) (by simp at hlen; omega) (Nat.zero_le _)
    have h2' : OB w' 0 v' m := by
      unfold OB
      have : vb [] ++ vb m = vb m := rfl
      rw [this] at k1
      simpa using k1
    refine ⟨v', w', hrun, OC.ofOB h2', Fr.of_grown k2 (fun q hq => .inl hq), fun q hq => ?_⟩
    rcases k3 with k3 | k3
    · left; rw [← k3]; exact hq
    · right; rw [k3] at hq; injection hq with hq; omega
  · by_cases hm0 : m = []
    · subst hm0
      refine ⟨.slice (some ⟨g, off, none⟩) l.length cap, w, ?_, .inr ⟨g, off, cap, cs, by simp, hb, by simpa using h1, h2, h3, by simpa using h4⟩, Fr.refl _ _, fun q hq => .inl hq⟩
      rcases A with _ | ad
      · simp [Builtin.append_, run_underlying ty28, sizeOf, typeInfo, hi0, Builtin.lenOf, h1, Builtin.firstCells, storeCells]
      · simp [Builtin.append_, run_underlying ty28, sizeOf, typeInfo, hi0, Builtin.lenOf, h1, Builtin.firstCells, storeCells, loadCells, loadCellsFrom]
    · obtain ⟨b, ob, rfl, hlt, hcl⟩ := hcell hm0
      have hnews : ∀ j x, (vb m)[j]? = some x → w.cell? ((⟨b, ob, none⟩ : Addr).add j) = some x := by
        intro j x hj
        have hjl : j < m.length := by
          rcases Nat.lt_or_ge j m.length with h | h
          · exact h
          · rw [List.getElem?_eq_none (by simpa using h)] at hj; cases hj
        rw [vb_get m j hjl] at hj
        rw [Addr.add_lit, hcl j hjl, hj]
      by_cases hroom : l.length + m.length ≤ cap
      · have hf := run_firstCells_some (P := Tryd.prog) w 1 m.length ⟨b, ob, none⟩ m.length c (vb m) (by simp) hnews
        have hst := run_storeCells_at Tryd.prog g (off + l.length) 5 (vb m) 0 cs.toArray w hb (by simp; omega) (vb_ones m)
        simp only [Nat.add_zero] at hst
        have hz1' : i0.size = 1 := hz1
        refine ⟨.slice (some ⟨g, off, none⟩) (l.length + m.length) cap, w.setRow g (cs.take (off + l.length) ++ vb m ++ cs.drop (off + l.length + (vb m).length)).toArray, ?_, .inr ⟨g, off, cap, _, by simp, hb.setRow _, by simpa using hroom, h2, by simp; omega, fun i hi => ?_⟩, Fr.of_grown (only_setRow g _) (fun q hq => by injection hq with hq; left; show some g = some q; rw [hq]), fun q hq => .inl hq⟩
        · simp [Builtin.append_, run_underlying ty28, sizeOf, typeInfo, hi0, Builtin.lenOf, hz1', hroom, hf, Addr.add_lit, hst]
        · have hlt2 : off + l.length ≤ cs.length := by omega
          have hlen1 : (cs.take (off + l.length)).length = off + l.length := by simp; omega
          rw [List.length_append] at hi
          by_cases hil : i < l.length
          · rw [List.append_assoc, List.getElem?_append_left (by omega), List.getElem?_take, if_pos (by omega), h4 i hil]
            have e : gb l i = gb (l ++ m) i := by simp only [gb, List.getD_eq_getElem?_getD, List.getElem?_append_left hil]
            rw [e]
          · rw [List.append_assoc, List.getElem?_append_right (by omega), hlen1, List.getElem?_append_left (by simp; omega), show off + i - (off + l.length) = i - l.length by omega, vb_get m _ (by omega)]
            have e : gb m (i - l.length) = gb (l ++ m) i := by simp only [gb, List.getD_eq_getElem?_getD, List.getElem?_append_right (show l.length ≤ i by omega)]
            rw [e]
      · have holds : ∀ j x, (vb l)[j]? = some x → w.cell? ((⟨g, off, none⟩ : Addr).add j) = some x := by
          intro j x hj
          have hjl : j < l.length := by
            rcases Nat.lt_or_ge j l.length with h | h
            · exact h
            · rw [List.getElem?_eq_none (by simpa using h)] at hj; cases hj
          rw [vb_get l j hjl] at hj
          rw [Addr.add_lit, hb.cell, h4 j hjl, hj]
        obtain ⟨v', w', hrun, k1, k2⟩ := run_append_arg_grows (P := Tryd.prog) w 22 ty 5 i0 (.int .u8 0) 1 1 ty28 hi0 hz0 hz1 hz2 rfl (by omega) ⟨g, off, none⟩ l.length cap (vb l) (by simp) holds ⟨b, ob, none⟩ m.length c (vb m) (by simp) hnews (by omega) (by unfold maxLen; omega) (by omega)
        have h2' : OB w' w.heap.size v' (l ++ m) := by
          unfold OB
          rw [List.length_append, vb_append]
          exact k1
        exact ⟨v', w', hrun, OC.ofOB h2', Fr.of_grown k2 (fun q hq => by cases hq), fun q hq => .inr (h2'.own q hq).1⟩
theorem x_appC (h : Hp F0 w0 w ro rs) (i : Nat) {v : Value} {l m : Bytes} (hi : rs[i]? = some (rOC v l)) (s x : Operand) (ho : o.op = .call { callee := .builtin .append, args := #[s, x], argTypes := #[22, 22] })
    (u : Value) (hs : a.eval s = v) (hx : a.eval x = u) (hu : SB w u m) (hlen : l.length + m.length ≤ 140737488355328) (r : Bytes) (n : Nat) (hr : r = l ++ m) (hn : n = r.length) :
    OpTo Tryd.prog o a w (fun u w' => ∃ A cc, u = .slice A n cc ∧ Hp F0 w0 w' ro (rs.set i (rOC (.slice A n cc) r))) := by
  subst hr; subst hn
  have hv : OC w v l := h.own i _ hi
  obtain ⟨v', w', hrun, h2, h3, h4⟩ := OC.app hv hu hlen o.type
  obtain ⟨A', c', rfl⟩ := h2.form
  have hrun' : (execOp a.eval o).run Tryd.prog w = .ok (.value (.slice A' (l ++ m).length c')) w' := by
    unfold execOp
    simp only [ho, resolve, invoke, builtin, Sem.run_bind, Sem.run_pure, Result.andThen_ok, List.map_toArray, List.map_cons, List.map_nil, hs, hx, hrun]
  exact OpTo.run _ hrun' ⟨A', c', rfl, h.upd i hi h3 (rOC _ (l ++ m)) h2 h4⟩
end
end Go.Proofs.YtpkelokaammmjaaDoor
end
/-! The walk of octet.Joined. -/
section
namespace Go.Proofs.YtpkelokaammmjaaDoor
open Go.RowKit Go.QT
/-- A slice value reads as rows of bytes. -/
def SS (w : World) (v : Value) (ls : List Bytes) : Prop :=
  ∃ A c, v = .slice A ls.length c ∧ ls.length ≤ c ∧ c ≤ maxLen ∧ ∀ i, i < ls.length → ∃ b o u, A = some ⟨b, o, none⟩ ∧ b < w.heap.size ∧ w.cell? ⟨b, o + i, none⟩ = some u ∧ SB w u (ls.getD i [])
theorem SS.below {w w' : World} {v : Value} {ls : List Bytes} (h : SS w v ls) (hb : Below w.heap.size w w') : SS w' v ls := by
  obtain ⟨A, c, e, h1, h2, h3⟩ := h
  refine ⟨A, c, e, h1, h2, fun i hi => ?_⟩
  obtain ⟨b, o, u, hA, hlt, hc, hs⟩ := h3 i hi
  exact ⟨b, o, u, hA, Nat.lt_of_lt_of_le hlt hb.size, (hb.cell (p := ⟨b, o + i, none⟩) hlt).trans hc, hs.below hb⟩
def joinTo (ls : List Bytes) : Nat → Bytes
  | 0 => []
  | k+1 => joinTo ls k ++ ls.getD k []
theorem joinTo_flat (ls : List Bytes) (k : Nat) (h : k ≤ ls.length) : joinTo ls k = (ls.take k).flatten := by
  induction k with
  | zero => rfl
  | succ k ih =>
    have e : ls.getD k [] = ls[k]'(by omega) := by simp [List.getD, List.getElem?_eq_getElem (show k < ls.length by omega)]
    rw [joinTo, ih (by omega), List.take_succ_eq_append_getElem (show k < ls.length by omega), List.flatten_append, e, List.flatten_cons, List.flatten_nil, List.append_nil]
theorem joinTo_all (ls : List Bytes) : joinTo ls ls.length = ls.flatten := by rw [joinTo_flat _ _ (Nat.le_refl _), List.take_length]
theorem joinTo_le (ls : List Bytes) (k : Nat) (h : k ≤ ls.length) : (joinTo ls k).length ≤ ls.flatten.length := by
  rw [joinTo_flat _ _ h]
  conv => rhs; rw [← List.take_append_drop k ls]
  rw [List.flatten_append, List.length_append]; omega
theorem agg28 (W : World) : (isAgg 22).run Tryd.prog W = .ok false W := by kernel_rfl
set_option maxRecDepth 100000 in
set_option maxHeartbeats 1000000 in
theorem joined_any (v : Value) (ls : List Bytes) (w : World) (hv : SS w v ls) (hl : ls.flatten.length ≤ 140737488355328) : Calls Tryd.prog 25 #[v] w (BPost w ls.flatten) := by
  obtain ⟨A, c, rfl, hc1, hc2, hcell⟩ := hv
  unfold maxLen at hc2
  have Hcell := Hd.mk hcell
  have Hfin := Hd.mk (joinTo_all ls)
  have Hle := Hd.mk (joinTo_le ls)
  clear hcell
  go_enter Tryd.func25, Tryd.ntmps25
  go_wp2
  go_loopw [3, 8] (fun u i wr => ∃ k : Nat, k ≤ ls.length ∧ i = .int .i64 (k : Int) ∧ OB wr w.heap.size u (joinTo ls k) ∧ Below w.heap.size w wr) (fun _ i _ => ls.length - (intOf i).toNat)
  case atStart => exact ⟨0, by omega, rfl, OB.nil _ _, Below.refl _ _⟩
  case round =>
    obtain ⟨k, hk, rfl, ho, hB⟩ := hrel
    have hle := Hle.out k hk
    by_cases hlt : k < ls.length
    · obtain ⟨b, o, u, hA, hbl, hx, hs⟩ := Hcell.out k hlt
      subst hA
      have Hs : Hd (joinTo ls (k+1) = joinTo ls k ++ ls.getD k []) := ⟨rfl⟩
      have hle2 := Hle.out (k+1) hlt
      rw [Hs.out, List.length_append] at hle2
      have hsb := hs.below hB
      have x0 := (hB.cell (p := ⟨b, o + k, none⟩) hbl).trans hx
      generalize ls.getD k [] = m at *
      generalize joinTo ls k = L at *
      obtain ⟨w2, rfl⟩ : ∃ w1 : World, w1 = wr := ⟨_, rfl⟩
      have Ho := Hd.mk ho
      have Hsb := Hd.mk hsb
      clear ho hsb hs hx
      go_wp2_with (at_builtin; refine wl_append rfl (.tmp 12) (.tmp 13) rfl w.heap.size _ _ L m rfl rfl Ho.out Hsb.out (by omega) hB.size ?_; intro v' w' hv' hg' hat')
      refine ⟨⟨k + 1, by omega, by go_num, by rw [Hs.out]; exact hv', Ho.out.grownBelow hB hg' (Nat.le_refl _) (Nat.le_refl _)⟩, by simp [intOf]; omega⟩
    · have hk2 : k = ls.length := by omega
      rw [hk2, Hfin.out] at ho
      have Ho := Hd.mk ho
      clear ho hk2
      go_wp2
      go_ret
      exact ⟨_, rfl, Ho.out, hB⟩
end Go.Proofs.YtpkelokaammmjaaDoor
end
/-! Steps for the walks of sha: calls of block and Write, sums of u64, make. -/
section
namespace Go.Proofs.YtpkelokaammmjaaDoor
open Go.RowKit Go.QT
section
variable {P : Program} {o : Oper} {a : Act} {w w' : World} {F0 : Nat → Prop} {w0 : World} {ro rs : List Res}
theorem e_add64 (t t' : TypeId) (x y : Operand) (ho : o.op = .binOp .add t x y t') (m n : Nat) (hx : a.eval x = .int .u64 (m : Int)) (hy : a.eval y = .int .u64 (n : Int)) (p : Nat) (hp : m + n = p) (h2 : p < 18446744073709551616) (w : World) :
    (execOp a.eval o).run P w = .ok (.value (.int .u64 ((p : Nat) : Int))) w := by
  have e : IntKind.u64.wrap ((m : Int) + (n : Int)) = (p : Int) := by rw [← Int.natCast_add, hp, IntKind.wrap_u64]; omega
  have h3 : (eqGuard .add t x y (.int .u64 (m : Int)) (.int .u64 (n : Int))).run P w = .ok () w := by simp [eqGuard]
  have h4 : (binOp .add t (.int .u64 (m : Int)) (.int .u64 (n : Int))).run P w = .ok (.int .u64 (p : Int)) w := by simp [binOp, Op.intArith, e]
  unfold execOp
  simp only [ho, hx, hy, Sem.run_bind, h3, h4, Result.andThen_ok, Sem.run_pure]
theorem e_mul64 (t t' : TypeId) (x y : Operand) (ho : o.op = .binOp .mul t x y t') (m n : Nat) (hx : a.eval x = .int .u64 (m : Int)) (hy : a.eval y = .int .u64 (n : Int)) (p : Nat) (hp : m * n = p) (h2 : p < 18446744073709551616) (w : World) :
    (execOp a.eval o).run P w = .ok (.value (.int .u64 ((p : Nat) : Int))) w := by
  have e : IntKind.u64.wrap ((m : Int) * (n : Int)) = (p : Int) := by rw [← Int.natCast_mul, hp, IntKind.wrap_u64]; omega
  have h3 : (eqGuard .mul t x y (.int .u64 (m : Int)) (.int .u64 (n : Int))).run P w = .ok () w := by simp [eqGuard]
  have h4 : (binOp .mul t (.int .u64 (m : Int)) (.int .u64 (n : Int))).run P w = .ok (.int .u64 (p : Int)) w := by simp [binOp, Op.intArith, e]
  unfold execOp
  simp only [ho, hx, hy, Sem.run_bind, h3, h4, Result.andThen_ok, Sem.run_pure]
/-- make of bytes. -/
theorem x_make (h : Hp F0 w0 w ro rs) (x y : Operand) (ho : o.op = .makeSlice 22 x y) (n : Nat) (hx : a.eval x = .int .i64 (n : Int)) (hy : a.eval y = .int .i64 (n : Int)) (hn : n ≤ 1000000) :
    OpTo Tryd.prog o a w (fun u w' => ∃ g, u = .slice (some ⟨g, 0, none⟩) n n ∧ Hp F0 w0 w' ro (rOB (.slice (some ⟨g, 0, none⟩) n n) (List.replicate n 0) :: rs)) := by
  obtain ⟨i0, hi0, hz0, hz1, hz2⟩ := info_parts i5
  have hr := run_make (P := Tryd.prog) w 22 5 i0 (.int .u8 0) ty28 hi0 hz0 .i64 .i64 n n (by omega) (by omega) (by rw [hz2]; omega) (by omega)
  have hc : madeCells (Value.int .u8 0).cells (((n : Int)).toNat * i0.size) = (vb (List.replicate n 0)).toArray := by
    rw [hz1, Nat.mul_one, Int.toNat_natCast]
    apply Array.ext'
    rw [show (Value.int .u8 0).cells = #[Value.int .u8 0] from rfl, toList_madeCells_one]
    simp [vb, ub]
  rw [hc] at hr
  have hrun : (execOp a.eval o).run Tryd.prog w = .ok (.value (.slice (some ⟨w.heap.size, 0, none⟩) n n)) (w.alloc (.cells (vb (List.replicate n 0)).toArray 5)) := by
    unfold execOp
    simp only [ho, hx, hy, Sem.run_bind, hr, Result.andThen_ok, Sem.run_pure, Int.toNat_natCast]
  refine OpTo.run _ hrun ⟨w.heap.size, rfl, h.newS ((Below.refl _ _).alloc (Nat.le_refl _) _) _ ?_ (fun q hq => by have h2 : (Value.slice (some ⟨w.heap.size, 0, none⟩) n n).ownBlock = some q := hq; simp [Value.ownBlock] at h2; omega)⟩
  show OB _ 0 _ _
  have := OB.new (base := 0) (w.alloc (.cells (vb (List.replicate n 0)).toArray 5)) w.heap.size (List.replicate n 0) (by simp [maxLen]; omega) (Row.new w 5 _) (Nat.zero_le _)
  simpa using this
theorem Hp.focusT (h : Hp F0 w0 w ro rs) (i j : Nat) {r s t : Res} (hi : rs[i]? = some r) (hj : rs[j]? = some s) (hij : decide (j ≠ i) = true) (ht : t.Φ w) (hF : ∀ q, t.F q → s.F q) : Hp r.F w w [t] [r] :=
  (Hp.one r (h.own i r hi)).addR t ht fun k u hk => by
    cases k with
    | zero => injection hk with hk; subst hk; exact fun q h1 h2 => h.dis j i s r hj hi (of_decide_eq_true hij) q (hF q h1) h2
    | succ k => simp at hk
/-- A call of block. -/
theorem x_block (h : Hp F0 w0 w ro rs) (i j : Nat) {g : Nat} {H : S8} {rv nv v : Value} {l : Bytes} (hi : rs[i]? = some (rBlk g 92 (vw H.l ++ [rv, nv]))) (hj : rs[j]? = some (rOC v l)) (hij : decide (j ≠ i) = true) (u : Value) (b : Bytes)
    (hp : pureVal Tryd.prog (execOp a.eval o) = some (.enter 58 #[pt g 0, u])) (hu : SB w u b) (hF : u.ownBlock = v.ownBlock) (hb : b.length = 64) :
    OpTo Tryd.prog o a w (fun u w' => u = .tuple #[] ∧ Hp F0 w0 w' ro (rs.set i (rBlk g 92 (vw (blk8 H b).l ++ [rv, nv])))) :=
  OpTo.enter 58 [pt g 0, u] hp (sblock_any g H rv nv u b w (h.focusT i j hi hj hij hu (fun q hq => by have h2 : u.ownBlock = some q := hq.2; rw [hF] at h2; exact h2)) hb) fun e w' hq =>
    ⟨_, hq.1, rfl, h.upd i hi hq.2.2 _ hq.2.1 (fun q hq => .inl hq)⟩
theorem Hp.three (h : Hp F0 w0 w ro rs) (i j : Nat) {r s : Res} (hi : rs[i]? = some r) (hj : rs[j]? = some s) (hij : decide (i ≠ j) = true) (t : Res) (ht : t.Φ w) (d1 : t.dj r) (d2 : t.dj s) : Hp (fun q => r.F q ∨ s.F q) w w [t] [r, s] :=
  (Hp.two r s (h.own i r hi) (h.own j s hj) (h.dis i j r s hi hj (of_decide_eq_true hij))).addR t ht fun k u hk => by
    cases k with
    | zero => injection hk with hk; subst hk; exact d1
    | succ k =>
      cases k with
      | zero => injection hk with hk; subst hk; exact d2
      | succ k => simp at hk
end
/-- What Write leaves. -/
def WrPost (w : World) (g : Nat) (v : Value) (H : S8) (l : Bytes) (N : Nat) (e : Ending) (w' : World) : Prop :=
  e = .returned (.tuple #[]) ∧ ∃ A n c, n = (l.drop (64 * (l.length / 64))).length ∧
    Hp (fun q => q = g ∨ v.ownBlock = some q) w w' [] [rBlk g 92 (vw (absb (l.length / 64) H l).l ++ [.slice A n c, .int .u64 ((N : Nat) : Int)]), rOC (.slice A n c) (l.drop (64 * (l.length / 64)))]
theorem absb_succ (n : Nat) : ∀ (s : S8) (b : Bytes), absb (n + 1) s b = blk8 (absb n s b) ((b.drop (64 * n)).take 64) := by
  induction n with
  | zero => intro s b; rfl
  | succ n ih =>
    intro s b
    rw [absb, ih, absb, List.drop_drop]
    congr 3
    omega
theorem wr_end {w w' : World} {g : Nat} {v : Value} {H Hs : S8} {L r : Bytes} {N n c k : Nat} {A : Option Addr} (h : Hp (fun q => q = g ∨ v.ownBlock = some q) w w' [] [rBlk g 92 (vw Hs.l ++ [.slice A n c, .int .u64 ((N : Nat) : Int)]), rOC (.slice A n c) r])
    (hn : n = r.length) (hr : r = L.drop (64 * k)) (hk : 64 * k ≤ L.length) (hH : Hs = absb k H L) (hlt : n < 64) : WrPost w g v H L N (.returned (.tuple #[])) w' := by
  have e : k = L.length / 64 := by
    have := congrArg List.length hr
    rw [List.length_drop] at this
    omega
  rw [e] at hr hH
  rw [hH, hr] at h
  rw [hr] at hn
  exact ⟨rfl, A, n, c, hn, h⟩
end Go.Proofs.YtpkelokaammmjaaDoor
end
/-! The walk of Write. -/
section
namespace Go.Proofs.YtpkelokaammmjaaDoor
open Go.RowKit Go.QT
set_option maxRecDepth 100000 in
set_option maxHeartbeats 4000000 in
theorem write_any (g : Nat) (H : S8) (v : Value) (l m : Bytes) (N : Nat) (u : Value) (w : World) (hh : Hp (fun q => q = g ∨ v.ownBlock = some q) w w [rSB u m] [rBlk g 92 (vw H.l ++ [v, .int .u64 ((N : Nat) : Int)]), rOC v l])
    (hN : N + m.length < 1152921504606846976) (hl : l.length + m.length ≤ 140737488355328) : Calls Tryd.prog 50 #[pt g 0, u] w (WrPost w g v H (l ++ m) (N + m.length)) := by
  obtain ⟨A, c, rfl⟩ := OC.form (hh.at_ 1 rfl)
  obtain ⟨B, d, rfl, hd1, hd2⟩ := sb_form (hh.rd 0 rfl)
  have h0 := hh
  refine enter 42 Tryd.func50 rfl rfl ?_
  refine wp_reset 44 [(0, (pt g 0)), (1, (Value.slice B m.length d))] (fun x0 => ?_)
  refine wp_seq_k ?_
  intro K1 hK1
  refine reg_lit ?_
  refine wq_p 3 [(6, (pt g 9)), (5, (pt g 0)), (4, (pt g 0))] ?_
  refine wq_v (some 7) (Value.int .u64 (((N : Nat) : Int))) (e_load (h0.at_ 0 rfl) 34 (.tmp 6) (by kernel_rfl) 9 (Value.int .u64 (((N : Nat) : Int))) (by kernel_rfl) (by kernel_rfl) (by kernel_rfl)) ?_
  refine wq_p 2 [(9, (Value.int .i64 ((m.length : Int)))), (8, (Value.slice B m.length d))] ?_
  refine wq_v (some 10) (Value.int .u64 ((m.length : Int))) (eq_is (v := Value.int .u64 (IntKind.u64.wrap ((m.length : Int)))) (by kernel_rfl) (wrap_u64_is (by omega) (by omega))) ?_
  refine wq_v (some 11) (Value.int .u64 ((((((N))) + ((m.length)) : Nat) : Int))) (e_add64 _ _ _ _ rfl (((N))) ((m.length)) (by kernel_rfl) (by kernel_rfl) ((((N))) + ((m.length))) rfl (by omega) _) ?_
  refine wq_p 2 [(13, (pt g 9)), (12, (pt g 0))] ?_
  refine wq_to none (x_store h0 0 rfl 34 (.tmp 13) (.tmp 11) (by kernel_rfl) 9 (Value.int .u64 ((((((N))) + ((m.length)) : Nat) : Int))) (vw H.l ++ [(Value.slice A l.length c), (Value.int .u64 ((((((N))) + ((m.length)) : Nat) : Int)))]) (by kernel_rfl) (by kernel_rfl) (by kernel_rfl) (by kernel_rfl) rfl rfl (by kernel_rfl)) ?_
  rintro _ w2 h2
  refine wl_end rfl ?_
  refine seq_n hK1 ?_
  refine wp_seq_k ?_
  intro K3 hK3
  refine reg_lit ?_
  refine wq_p 4 [(17, (pt g 8)), (16, (pt g 0)), (15, (pt g 0)), (14, (pt g 0))] ?_
  refine wq_v (some 18) (Value.slice A l.length c) (e_load (h2.at_ 0 rfl) 22 (.tmp 17) (by kernel_rfl) 8 (Value.slice A l.length c) (by kernel_rfl) (by kernel_rfl) (by kernel_rfl)) ?_
  refine wq_p 1 [(19, (Value.slice B m.length d))] ?_
  refine wq_to (some 20) (x_appC h2 1 rfl (.tmp 18) (.tmp 19) (by kernel_rfl) (Value.slice B m.length d) (by kernel_rfl) (by kernel_rfl) (h2.rd 0 rfl) (by omega) (l ++ m) ((l ++ m).length) rfl rfl) ?_
  rintro _ w4 ⟨A4, c4, rfl, h4⟩
  refine wq_p 2 [(22, (pt g 8)), (21, (pt g 0))] ?_
  refine wq_to none (x_store h4 0 rfl 22 (.tmp 22) (.tmp 20) (by kernel_rfl) 8 (Value.slice A4 ((l ++ m).length) c4) (vw H.l ++ [(Value.slice A4 ((l ++ m).length) c4), (Value.int .u64 ((((((N))) + ((m.length)) : Nat) : Int)))]) (by kernel_rfl) (by kernel_rfl) (by kernel_rfl) (by kernel_rfl) rfl rfl (by kernel_rfl)) ?_
  rintro _ w5 h5
  refine wl_end rfl ?_
  refine seq_n hK3 ?_
  refine wp_block ?_
  refine wp_loopm (fun mM xX aA wL => ∃ (A1 : Option Addr) (n1 : Nat) (c1 : Nat) (Hs : S8) (r : Bytes) (k : Nat), (n1 = r.length) ∧ (r = (l ++ m).drop (64 * k)) ∧ (64 * k ≤ (l ++ m).length) ∧ (Hs = absb k H (l ++ m)) ∧ mM = r.length ∧ aA = patch xX 44 [(0, (pt g 0)), (1, (Value.slice B m.length d))] ∧ Hp (fun q => q = g ∨ (Value.slice A l.length c).ownBlock = some q) w wL [rSB ((Value.slice B m.length d)) m] [rBlk g 92 (vw Hs.l ++ [(Value.slice A1 n1 c1), (Value.int .u64 ((((((N))) + ((m.length)) : Nat) : Int)))]), rOC ((Value.slice A1 n1 c1)) r]) ⟨_, A4, (((l ++ m).length)), c4, H, ((l ++ m)), 0, rfl, rfl, (by omega), rfl, rfl, (patch_eq _ 44 _ (by kernel_rfl) (by kernel_rfl) (by kernel_rfl)), h5.sel [0, 1] [0] (by kernel_rfl) rfl rfl⟩ ?_
  rintro _ x6 _ w6 ⟨A1, n1, c1, Hs, r, k, hn, hr, hk, hH, rfl, rfl, h6⟩
  refine wp_seq_k ?_
  intro K7 hK7
  refine wp_seq_k ?_
  intro K8 hK8
  refine reg_lit ?_
  refine wq_p 3 [(25, (pt g 8)), (24, (pt g 0)), (23, (pt g 0))] ?_
  refine wq_v (some 26) (Value.slice A1 n1 c1) (e_load (h6.at_ 0 rfl) 22 (.tmp 25) (by kernel_rfl) 8 (Value.slice A1 n1 c1) (by kernel_rfl) (by kernel_rfl) (by kernel_rfl)) ?_
  refine wq_p 2 [(28, (Value.bool (decide ((n1 : Int) ≥ 64)))), (27, (Value.int .i64 ((n1 : Int))))] ?_
  refine wl_end rfl ?_
  refine seq_n hK8 ?_
  refine wp_if ((n1 : Int) ≥ 64) (by kernel_rfl) (fun b9 => ?_) (fun b9 => ?_)
  ·
   refine wp_skip ?_
   refine seq_n hK7 ?_
   refine wp_block ?_
   refine wp_seq_k ?_
   intro K10 hK10
   refine reg_lit ?_
   refine wq_p 4 [(32, (pt g 8)), (31, (pt g 0)), (30, (pt g 0)), (29, (pt g 0))] ?_
   refine wq_v (some 33) (Value.slice A1 n1 c1) (e_load (h6.at_ 0 rfl) 22 (.tmp 32) (by kernel_rfl) 8 (Value.slice A1 n1 c1) (by kernel_rfl) (by kernel_rfl) (by kernel_rfl)) ?_
   refine wq_v (some 34) (cutS (Value.slice A1 n1 c1) 0 64) (e_cut_h (OC.sb (h6.at_ 1 rfl)) (.tmp 33) (.const (Value.int .i64 64)) (by kernel_rfl) (by kernel_rfl) .i64 64 (by kernel_rfl) (by omega) _) ?_
   refine wq_to (some 35) (x_block h6 0 1 (H := Hs) rfl rfl (by kernel_rfl) (cutS (Value.slice A1 n1 c1) 0 64) (r.take 64) (by kernel_rfl) (SB.cut (OC.sb (h6.at_ 1 rfl)) 0 64 (by omega)) cutS_block (by rw [List.length_take]; omega)) ?_
   rintro _ w11 ⟨rfl, h11⟩
   refine wl_end rfl ?_
   refine seq_n hK10 ?_
   refine reg_lit ?_
   refine wq_p 4 [(39, (pt g 8)), (38, (pt g 0)), (37, (pt g 0)), (36, (pt g 0))] ?_
   refine wq_v (some 40) (Value.slice A1 n1 c1) (e_load (h11.at_ 0 rfl) 22 (.tmp 39) (by kernel_rfl) 8 (Value.slice A1 n1 c1) (by kernel_rfl) (by kernel_rfl) (by kernel_rfl)) ?_
   refine wq_v (some 41) (cutS (Value.slice A1 n1 c1) 64 ((r).length)) (e_cut_l (OC.sb (h11.at_ 1 rfl)) (.tmp 40) (.const (Value.int .i64 64)) (by kernel_rfl) (by kernel_rfl) .i64 64 (by kernel_rfl) (by omega) _) ?_
   refine wq_p 2 [(43, (pt g 8)), (42, (pt g 0))] ?_
   refine wq_to none (x_store h11 0 rfl 22 (.tmp 43) (.tmp 41) (by kernel_rfl) 8 (cutS (Value.slice A1 n1 c1) 64 ((r).length)) (vw (blk8 Hs (r.take 64)).l ++ [(cutS (Value.slice A1 n1 c1) 64 ((r).length)), (Value.int .u64 ((((((N))) + ((m.length)) : Nat) : Int)))]) (by kernel_rfl) (by kernel_rfl) (by kernel_rfl) (by kernel_rfl) rfl rfl (by kernel_rfl)) ?_
   rintro _ w12 h12
   refine wl_end rfl ?_
   refine blk_n ?_
   have h13 := h12.ocCut 1 rfl 64 (by omega)
   refine ⟨((r.drop 64)).length, (by rw [List.length_drop]; omega), ((if c1 = 64 then A1 else A1.map (·.add 64))), ((r.length - 64)), ((c1 - 64)), ((blk8 Hs (r.take 64))), ((r.drop 64)), (k + 1), (by simp), (by rw [hr, List.drop_drop]; congr 1), (by have e := congrArg List.length hr; rw [List.length_drop] at e; omega), (by rw [absb_succ, ← hH, ← hr]), rfl, (patch_eq _ 44 _ (by kernel_rfl) (by kernel_rfl) (by kernel_rfl)), h13.sel [0, 1] [0] (by kernel_rfl) rfl rfl⟩
  ·
   refine wp_exit ?_
   refine seq_e ?_
   refine seq_e ?_
   refine blk_e ?_
   refine post_n ?_
   refine post_0 rfl (by kernel_rfl)  ?_
   exact wr_end (h6.sel [0, 1] [] (by kernel_rfl) rfl rfl) hn hr hk hH (by omega)
end Go.Proofs.YtpkelokaammmjaaDoor
end
/-! Steps for the walks of sha, mac: calls that leave bytes, Write's call; laws on what is taken in. -/
section
namespace Go.Proofs.YtpkelokaammmjaaDoor
open Go.RowKit Go.QT
section
variable {P : Program} {o : Oper} {a : Act} {w w' : World} {F0 : Nat → Prop} {w0 : World} {ro rs : List Res}
/-- A call that leaves new bytes. -/
theorem x_bytesE (h : Hp F0 w0 w ro rs) {l : Bytes} (fn : FuncId) (al : List Value) (hp : pureVal P (execOp a.eval o) = some (.enter fn al.toArray)) (hc : Calls P fn al.toArray w (BPost w l)) (r : Bytes) (n : Nat) (hr : r = l) (hn : n = r.length) :
    OpTo P o a w (fun u w' => ∃ A cc, u = .slice A n cc ∧ Hp F0 w0 w' ro (rOB (.slice A n cc) r :: rs)) := by
  subst hr; subst hn
  refine (x_bytes h fn al hp hc).mono fun u w' hq => ?_
  obtain ⟨A, cc, rfl, h'⟩ := hq
  exact ⟨A, cc, rfl, h'⟩
theorem bpost_of {L r : Bytes} {v : Value} (h : Hp (fun _ => False) w0 w ro rs) (i : Nat) (hi : rs[i]? = some (rOB v r)) (e : r = L) : BPost w0 L (.returned v) w := by
  subst e
  have ho : OB w 0 v r := h.own i _ hi
  refine ⟨v, rfl, ⟨ho.1, ?_⟩, h.below0⟩
  rcases ho.2 with h2 | ⟨g, cap, cur, rfl, _, rest⟩
  · exact .inl h2
  · refine .inr ⟨g, cap, cur, rfl, ?_, rest⟩
    rcases h.mine i _ hi g rfl with h3 | h3
    · exact h3.elim
    · exact h3
theorem bs2 {g : Nat} {u1 u2 : Value} {l1 l2 : Bytes} (hb : Blk w g 22 [u1, u2]) (h1 : SB w u1 l1) (h2 : SB w u2 l2) : SS w (.slice (some ⟨g, 0, none⟩) 2 2) [l1, l2] :=
  ⟨_, 2, rfl, Nat.le_refl _, by decide, fun i hi => by
    match i, hi with
    | 0, _ => exact ⟨g, 0, u1, rfl, hb.lt, hb.cell 0, h1⟩
    | 1, _ => exact ⟨g, 0, u2, rfl, hb.lt, hb.cell 1, h2⟩⟩
theorem bs1 {g : Nat} {u1 : Value} {l1 : Bytes} (hb : Blk w g 22 [u1]) (h1 : SB w u1 l1) : SS w (.slice (some ⟨g, 0, none⟩) 1 1) [l1] :=
  ⟨_, 1, rfl, Nat.le_refl _, by decide, fun i hi => by
    match i, hi with
    | 0, _ => exact ⟨g, 0, u1, rfl, hb.lt, hb.cell 0, h1⟩⟩
theorem bs3 {g : Nat} {u1 u2 u3 : Value} {l1 l2 l3 : Bytes} (hb : Blk w g 22 [u1, u2, u3]) (h1 : SB w u1 l1) (h2 : SB w u2 l2) (h3 : SB w u3 l3) : SS w (.slice (some ⟨g, 0, none⟩) 3 3) [l1, l2, l3] :=
  ⟨_, 3, rfl, Nat.le_refl _, by decide, fun i hi => by
    match i, hi with
    | 0, _ => exact ⟨g, 0, u1, rfl, hb.lt, hb.cell 0, h1⟩
    | 1, _ => exact ⟨g, 0, u2, rfl, hb.lt, hb.cell 1, h2⟩
    | 2, _ => exact ⟨g, 0, u3, rfl, hb.lt, hb.cell 2, h3⟩⟩
/-- A call of Write. -/
theorem x_write (h : Hp F0 w0 w ro rs) (i j : Nat) {g : Nat} {H : S8} {v : Value} {l : Bytes} {N : Nat} (hi : rs[i]? = some (rBlk g 92 (vw H.l ++ [v, .int .u64 ((N : Nat) : Int)]))) (hj : rs[j]? = some (rOC v l)) (hij : decide (i ≠ j) = true) (u : Value) (m : Bytes)
    (hp : pureVal Tryd.prog (execOp a.eval o) = some (.enter 50 #[pt g 0, u])) (hu : SB w u m) (d1 : (rSB u m).dj (rBlk g 92 (vw H.l ++ [v, .int .u64 ((N : Nat) : Int)]))) (d2 : (rSB u m).dj (rOC v l)) (hN : N + m.length < 1152921504606846976) (hl : l.length + m.length ≤ 140737488355328) :
    OpTo Tryd.prog o a w (fun x w' => x = .tuple #[] ∧ ∃ A n c H' r, n = r.length ∧ H' = absb ((l ++ m).length / 64) H (l ++ m) ∧ r = (l ++ m).drop (64 * ((l ++ m).length / 64)) ∧
      Hp F0 w0 w' ro ((rs.set i (rBlk g 92 (vw H'.l ++ [.slice A n c, .int .u64 ((N + m.length : Nat) : Int)]))).set j (rOC (.slice A n c) r))) :=
  OpTo.enter 50 [pt g 0, u] hp (write_any g H v l m N u w (h.three i j hi hj hij (rSB u m) hu d1 d2) hN hl) fun e w' hq => by
    obtain ⟨he, A, n, c, hn, hc⟩ := hq
    exact ⟨_, he, rfl, A, n, c, _, _, hn, rfl, rfl, h.upd2 i j hi hj (of_decide_eq_true hij) hc⟩
theorem djO {i k : Nat} {r : Res} {u : Value} {m : Bytes} (h : Hp F0 w0 w ro rs) (hk : rs[k]? = some (rOB u m)) (hi : rs[i]? = some r) (hki : decide (k ≠ i) = true) : (rSB u m).dj r := fun q hq => h.dis k i _ _ hk hi (of_decide_eq_true hki) q hq.2
theorem djW {i : Nat} {r : Res} {u : Value} {m : Bytes} (h : Hp (fun _ => False) w0 w ro rs) (hi : rs[i]? = some r) (hu : SB w0 u m) : (rSB u m).dj r := fun q hq h2 => by
  rcases h.mine i r hi q h2 with h3 | h3
  · exact h3
  · have := (rSB u m).lt hu q hq; omega
/-- A cell of a place that is told. -/
theorem e_loadC {b k : Nat} {v : Value} (hc : w.cell? ⟨b, k, none⟩ = some v) (t : TypeId) (x : Operand) (ho : o.op = .load t x) (hx : a.eval x = pt b k) (ht : pureVal P (isAgg t) = some false) :
    (execOp a.eval o).run P w = .ok (.value v) w := by
  have hl : (loadVar t ⟨b, k, none⟩).run P w = .ok v w := by simp [loadVar, pureVal_run ht, hc]
  unfold execOp
  simp only [ho, hx, pt, Instr.loadAt, Instr.sureAddr, Sem.run_bind, Sem.run_pure, Result.andThen_ok, hl]
theorem e_idxSS {A : Option Addr} {n c : Nat} (b k i : Nat) (hA : A = some ⟨b, k, none⟩) (t : TypeId) (x y : Operand) (ho : o.op = .indexAddr t x y) (hx : a.eval x = .slice A n c) (hy : a.eval y = .int .i64 (i : Int)) (hi : i < n) (E : TypeId) (ht : P.underlying t = some (.slice E)) (hE : pureVal P (sizeOf E) = some 1) (W : World) :
    (execOp a.eval o).run P W = .ok (.value (pt b (k + i))) W := by
  subst hA
  have h0 : (0 : Int) ≤ i ∧ (i : Int) < n := ⟨by omega, by omega⟩
  have h1 : (Instr.indexAt t (.slice (some ⟨b, k, none⟩) n c) (.int .i64 (i : Int))).run P W = .ok (pt b (k + i)) W := by
    by_cases hz : i = 0
    · subst hz; simp [Instr.indexAt, asIntOf, run_underlying ht, hi, pureVal_run hE, pt, Addr.add]
    · simp [Instr.indexAt, asIntOf, run_underlying ht, hi, pureVal_run hE, pt, Addr.add, hz]
  unfold execOp
  simp only [ho, hx, hy, Sem.run_bind, h1, Result.andThen_ok, Sem.run_pure]
end
/-! ### What is taken in -/
theorem absb_add (a b : Nat) : ∀ (s : S8) (x : Bytes), absb (a + b) s x = absb b (absb a s x) (x.drop (64 * a)) := by
  induction a with
  | zero => intro s x; rw [Nat.zero_add]; rfl
  | succ a ih =>
    intro s x
    rw [show a + 1 + b = (a + b) + 1 by omega, absb, ih, absb, List.drop_drop]
    congr 2; omega
theorem absb_app (a : Nat) : ∀ (s : S8) (x y : Bytes), 64 * a ≤ x.length → absb a s (x ++ y) = absb a s x := by
  induction a with
  | zero => intro s x y _; rfl
  | succ a ih =>
    intro s x y h
    rw [absb, absb, List.take_append_of_le_length (by omega), List.drop_append_of_le_length (by omega), ih _ _ _ (by rw [List.length_drop]; omega)]
/-- Taken in: bytes M; then m. -/
theorem absb_more (s : S8) (M m r : Bytes) (hr : r = M.drop (64 * (M.length / 64))) :
    absb ((r ++ m).length / 64) (absb (M.length / 64) s M) (r ++ m) = absb ((M ++ m).length / 64) s (M ++ m) ∧ (r ++ m).drop (64 * ((r ++ m).length / 64)) = (M ++ m).drop (64 * ((M ++ m).length / 64)) := by
  have hrl : r.length = M.length - 64 * (M.length / 64) := by rw [hr, List.length_drop]
  have h1 : (M ++ m).length / 64 = M.length / 64 + (r ++ m).length / 64 := by
    rw [List.length_append, List.length_append]; omega
  have h2 : (M ++ m).drop (64 * (M.length / 64)) = r ++ m := by
    rw [List.drop_append_of_le_length (by omega), ← hr]
  constructor
  · rw [h1, absb_add, h2, absb_app (M.length / 64) s M m (by omega)]
  · rw [h1, Nat.mul_add, ← List.drop_drop, h2]
def padR (l : Bytes) (N : Nat) : Bytes := (128 : UInt8) :: List.replicate ((119 - l.length) % 64) 0 ++ put8 (8 * N)
theorem pad_set (k : Nat) : (List.replicate (1 + k) (0 : UInt8)).set 0 128 = 128 :: List.replicate k 0 := by
  rw [Nat.add_comm]; rfl
theorem pad_eq (M r : Bytes) (hr : r = M.drop (64 * (M.length / 64))) : padR r M.length = padB M := by
  have hrl : r.length = M.length % 64 := by rw [hr, List.length_drop]; omega
  unfold padR padB
  rw [hrl]
theorem sha_fin (M r : Bytes) (H : S8) (hr : r = M.drop (64 * (M.length / 64))) (hH : H = absb (M.length / 64) shaH0 M) :
    outW (absb ((r ++ padR r M.length).length / 64) H (r ++ padR r M.length)).l = shaF M := by
  unfold shaF
  rw [hH, pad_eq M r hr, (absb_more shaH0 M (padB M) r hr).1]
theorem outW_step (L : List UInt32) (i : Nat) (h : i < L.length) : outW (L.take (i + 1)) = outW (L.take i) ++ ((put8 (gw L i).toNat).take (put8 (gw L i).toNat).length).drop 4 := by
  have e : L.take (i + 1) = L.take i ++ [gw L i] := by
    rw [List.take_succ_eq_append_getElem h]; simp [gw, h]
  unfold outW
  rw [e, List.map_append, List.flatten_append, List.take_length]
  simp
theorem outW_len (L : List UInt32) : (outW L).length = 4 * L.length := by
  induction L with
  | nil => rfl
  | cons x L ih =>
    unfold outW at *
    rw [List.map_cons, List.flatten_cons, List.length_append, ih]
    simp [put8_len]; omega
theorem sha_len (m : Bytes) : (shaF m).length = 32 := by
  unfold shaF; rw [outW_len]; rfl
end Go.Proofs.YtpkelokaammmjaaDoor
end
