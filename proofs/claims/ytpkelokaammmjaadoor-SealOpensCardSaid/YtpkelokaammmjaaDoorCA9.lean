/- The constants that compeerref03 finds as roots are the table; its words of a block are the program's. (Texts laid one behind the other: RShDg, RConv, RMacX, RMac, RDigX, RDigits, RShT, RShK.) -/
import Derived.Laws.IdiomCopy
import Derived.ArgAppend
import Derived.Lib.ItoaNum
import Derived.Test.YtpkelokaammmjaaDoorCA8
/-! The walk of compeerref03.Digest. -/
section
namespace Go.Proofs.YtpkelokaammmjaaDoor
open Go.RowKit Go.QT
set_option maxRecDepth 100000 in
set_option maxHeartbeats 4000000 in
theorem rdig_any (C : Option Addr) (e : Nat) (v : Value) (b : Bytes) (w : World) (hk : RV w 1 C e (wx shaK)) (hv : SB w v b) (hl : b.length ≤ 1000000) :
    Calls Tryd.prog 15 #[.slice C 64 e, v] w (BPost w (shaF b)) := by
  obtain ⟨B, d, rfl, hc1, hc2⟩ := sb_form hv
  have hZ : padZ b.length ≤ 63 := by unfold padZ; omega
  have hZ2 : (b.length + 1 + padZ b.length) % 64 = 56 := by unfold padZ; omega
  have h0 := (Hp.ro1 (rSB (.slice B b.length d) b) hv).addR (rRV 1 C e (wx shaK)) hk (by simp)
  refine enter 86 Tryd.func15 rfl rfl ?_
  refine wp_reset 88 [(0, (Value.slice C 64 e)), (1, (Value.slice B b.length d))] (fun x0 => ?_)
  refine wp_seq_k ?_
  intro K1 hK1
  refine reg_lit ?_
  refine wq_p 1 [(4, (Value.slice none 0 0))] ?_
  refine wl_end rfl ?_
  refine seq_n hK1 ?_
  refine wp_seq_k ?_
  intro K2 hK2
  refine reg_lit ?_
  refine wq_to (some 12) (x_bs0B h0 (by kernel_rfl)) ?_
  rintro _ w3 ⟨A3, rfl, h3⟩
  refine wq_p 1 [(13, (Value.slice B b.length d))] ?_
  refine wq_to (some 14) (x_appG h3 0 rfl (.tmp 12) (.tmp 13) (by kernel_rfl) (Value.slice B b.length d) (by kernel_rfl) (by kernel_rfl) (h3.rd 1 rfl) (by simp; omega) (([]) ++ b) ((([]) ++ b : Bytes).length) rfl rfl) ?_
  rintro _ w4 ⟨A4, c4, rfl, h4⟩
  refine wq_to (some 15) (x_bsl h4 [128] (by kernel_rfl)) ?_
  rintro _ w5 ⟨g5, rfl, hw5, hg5, hq5, h5⟩
  refine wq_to (some 16) (x_appG h5 1 rfl (.tmp 14) (.tmp 15) (by kernel_rfl) (Value.slice (some ⟨g5, 0, none⟩) 1 1) (by kernel_rfl) (by kernel_rfl) (SB.blk (h5.at_ 0 rfl) (by kernel_rfl) (by kernel_rfl) (by kernel_rfl)) (by simp; omega) ((([]) ++ b) ++ ([128])) (((([]) ++ b) ++ ([128]) : Bytes).length) rfl rfl) ?_
  rintro _ w6 ⟨A6, c6, rfl, h6⟩
  refine wq_p 1 [(5, (Value.slice A6 (((([]) ++ b) ++ ([128]) : Bytes).length) c6))] ?_
  refine wl_end rfl ?_
  refine seq_n hK2 ?_
  refine wp_seq_k ?_
  intro K7 hK7
  refine wp_block ?_
  refine wp_loopm (fun mM xX aA wL => ∃ (z : Nat) (m : Bytes) (Av : Option Addr) (cv : Nat), (z ≤ padZ b.length) ∧ (m = b ++ [128] ++ List.replicate z 0) ∧ ((m : Bytes).length = b.length + 1 + z) ∧ mM = padZ b.length - z ∧ aA = patch xX 88 [(0, (Value.slice C 64 e)), (1, (Value.slice B b.length d)), (4, (Value.slice none 0 0)), (5, (Value.slice Av ((m : Bytes).length) cv))] ∧ Hp (fun _ => False) w wL [rRV 1 C e (wx shaK), rSB ((Value.slice B b.length d)) b] [rOB ((Value.slice Av ((m : Bytes).length) cv)) m]) ⟨_, 0, ((([]) ++ b) ++ ([128])), A6, c6, (by omega), (by simp), (by simp), rfl, (patch_eq _ 88 _ (by kernel_rfl) (by kernel_rfl) (by kernel_rfl)), h6.sel [1] [0, 1] (by kernel_rfl) rfl rfl⟩ ?_
  rintro _ x8 _ w8 ⟨z, m, Av, cv, hz, hm, hml, rfl, rfl, h8⟩
  refine wp_seq_k ?_
  intro K9 hK9
  refine wp_seq_k ?_
  intro K10 hK10
  refine reg_lit ?_
  refine wq_p 2 [(18, (Value.int .i64 (((m : Bytes).length : Int)))), (17, (Value.slice Av ((m : Bytes).length) cv))] ?_
  refine wq_v (some 19) (Value.int .i64 (((((m : Bytes).length) % 64 : Nat) : Int))) (e_rem (.tmp 18) (.const (Value.int .i64 64)) _ _ rfl (((m : Bytes).length)) 64 (by kernel_rfl) (by kernel_rfl) (by omega) _) ?_
  refine wq_p 1 [(20, (Value.bool ((((((m : Bytes).length) % 64 : Nat) : Int)) != 56)))] ?_
  refine wl_end rfl ?_
  refine seq_n hK10 ?_
  refine wp_ifne (((((m : Bytes).length) % 64 : Nat) : Int)) 56 (by kernel_rfl) (fun b11 => ?_) (fun b11 => ?_)
  ·
   refine wp_skip ?_
   refine seq_n hK9 ?_
   refine wp_block ?_
   have hz9 : z ≠ padZ b.length := by intro hh; subst hh; omega
   
   refine reg_lit ?_
   refine wq_p 1 [(21, (Value.slice Av ((m : Bytes).length) cv))] ?_
   refine wq_to (some 22) (x_bsl h8 [0] (by kernel_rfl)) ?_
   rintro _ w12 ⟨g12, rfl, hw12, hg12, hq12, h12⟩
   refine wq_to (some 23) (x_appG h12 1 rfl (.tmp 21) (.tmp 22) (by kernel_rfl) (Value.slice (some ⟨g12, 0, none⟩) 1 1) (by kernel_rfl) (by kernel_rfl) (SB.blk (h12.at_ 0 rfl) (by kernel_rfl) (by kernel_rfl) (by kernel_rfl)) (by simp; omega) (m ++ ([0])) ((m ++ ([0]) : Bytes).length) rfl rfl) ?_
   rintro _ w13 ⟨A13, c13, rfl, h13⟩
   refine wq_p 1 [(5, (Value.slice A13 ((m ++ ([0]) : Bytes).length) c13))] ?_
   refine wl_end rfl ?_
   refine blk_n ?_
   refine ⟨padZ b.length - (z + 1), (by omega), (z + 1), (m ++ ([0])), A13, c13, (by omega), (by rw [hm]; exact rep_one _ _), (by rw [List.length_append, hml]; simp; omega), rfl, (patch_eq _ 88 _ (by kernel_rfl) (by kernel_rfl) (by kernel_rfl)), h13.sel [1] [0, 1] (by kernel_rfl) rfl rfl⟩
  ·
   refine wp_exit ?_
   refine seq_e ?_
   refine seq_e ?_
   refine blk_e ?_
   refine seq_n hK7 ?_
   refine wp_seq_k ?_
   intro K14 hK14
   obtain rfl : z = padZ b.length := by omega
   have hm1 : m.length ≤ b.length + 64 := by omega
   
   refine reg_lit ?_
   refine wq_p 2 [(25, (Value.int .i64 ((b.length : Int)))), (24, (Value.slice B b.length d))] ?_
   refine wq_v (some 26) (Value.int .u64 ((b.length : Int))) (eq_is (v := Value.int .u64 (IntKind.u64.wrap ((b.length : Int)))) (by kernel_rfl) (wrap_u64_is (by omega) (by omega))) ?_
   refine wq_v (some 27) (Value.int .u64 (((((b.length)) * 8 : Nat) : Int))) (e_mul64 _ _ _ _ rfl ((b.length)) 8 (by kernel_rfl) (by kernel_rfl) (((b.length)) * 8) rfl (by omega) _) ?_
   refine wq_p 1 [(6, (Value.int .u64 (((((b.length)) * 8 : Nat) : Int))))] ?_
   refine wl_end rfl ?_
   refine seq_n hK14 ?_
   refine wp_seq_k ?_
   intro K15 hK15
   refine wp_seq_k ?_
   intro K16 hK16
   refine reg_lit ?_
   refine wq_p 1 [(7, (Value.int .i64 7))] ?_
   refine wl_end rfl ?_
   refine seq_n hK16 ?_
   refine wp_block ?_
   refine wp_loopm (fun mM xX aA wL => ∃ (i : Int) (j : Nat) (m2 : Bytes) (Av2 : Option Addr) (cv2 : Nat), (i = 7 - (j : Int)) ∧ (j ≤ 8) ∧ (m2 = m ++ (put8 (8 * b.length)).take j) ∧ ((m2 : Bytes).length = m.length + j) ∧ mM = 8 - j ∧ aA = patch xX 88 [(0, (Value.slice C 64 e)), (1, (Value.slice B b.length d)), (4, (Value.slice none 0 0)), (5, (Value.slice Av2 ((m2 : Bytes).length) cv2)), (6, (Value.int .u64 (((((b.length)) * 8 : Nat) : Int)))), (7, (Value.int .i64 i)), (20, (Value.bool ((((((m : Bytes).length) % 64 : Nat) : Int)) != 56)))] ∧ Hp (fun _ => False) w wL [rRV 1 C e (wx shaK), rSB ((Value.slice B b.length d)) b] [rOB ((Value.slice Av2 ((m2 : Bytes).length) cv2)) m2]) ⟨_, 7, 0, m, Av, cv, (by decide), (by omega), (by simp), (by omega), rfl, (patch_eq _ 88 _ (by kernel_rfl) (by kernel_rfl) (by kernel_rfl)), h8.sel [0] [0, 1] (by kernel_rfl) rfl rfl⟩ ?_
   rintro _ x17 _ w17 ⟨i, j, m2, Av2, cv2, hi, hj, hm2, hml2, rfl, rfl, h17⟩
   refine wp_seq_k ?_
   intro K18 hK18
   refine wp_seq_k ?_
   intro K19 hK19
   refine reg_lit ?_
   refine wq_p 2 [(29, (Value.bool (decide (i ≥ 0)))), (28, (Value.int .i64 i))] ?_
   refine wl_end rfl ?_
   refine seq_n hK19 ?_
   refine wp_if (i ≥ 0) (by kernel_rfl) (fun b20 => ?_) (fun b20 => ?_)
   ·
    refine wp_skip ?_
    refine seq_n hK18 ?_
    refine wp_seq_k ?_
    intro K21 hK21
    refine wp_block ?_
    obtain ⟨q, rfl⟩ : ∃ q : Nat, i = q := ⟨i.toNat, by omega⟩
    have hqj : q = 7 - j := by omega
    
    refine reg_lit ?_
    refine wq_p 3 [(34, (Value.int .i64 ((q : Int)))), (33, (Value.int .u64 (((((b.length)) * 8 : Nat) : Int)))), (32, (Value.slice Av2 ((m2 : Bytes).length) cv2))] ?_
    refine wq_v (some 35) (Value.int .i64 (((8 * q : Nat) : Int))) (exec_mulN _ _ _ _ rfl 8 q (by kernel_rfl) (by kernel_rfl) (8 * q) rfl (by omega) _) ?_
    refine wq_v (some 36) (Value.int .u64 (((8 * q : Nat) : Int))) (eq_is (v := Value.int .u64 (IntKind.u64.wrap (((8 * q : Nat) : Int)))) (by kernel_rfl) (wrap_u64_is (by omega) (by omega))) ?_
    refine wq_v (some 37) (Value.int .u64 ((((((((b.length)) * 8))) / 2 ^ (((8 * q))) : Nat) : Int))) (e_shr64 34 63 (.tmp 33) (.tmp 36) (by kernel_rfl) (((((b.length)) * 8))) .u64 (((8 * q))) (by omega) (by kernel_rfl) (by kernel_rfl) _) ?_
    refine wq_v (some 38) (Value.int .u8 (ub (UInt8.ofNat ((((((((b.length)) * 8))) / 2 ^ (((8 * q))))))))) (eq_is (v := Value.int .u8 (IntKind.u8.wrap ((((((((b.length)) * 8))) / 2 ^ (((8 * q))) : Nat) : Int)))) (by kernel_rfl) (b_of64 ((((((((b.length)) * 8))) / 2 ^ (((8 * q)))))))) ?_
    refine wq_to (some 39) (x_bsl h17 [(UInt8.ofNat ((((((((b.length)) * 8))) / 2 ^ (((8 * q)))))))] (by kernel_rfl)) ?_
    rintro _ w22 ⟨g22, rfl, hw22, hg22, hq22, h22⟩
    refine wq_to (some 40) (x_appG h22 1 rfl (.tmp 32) (.tmp 39) (by kernel_rfl) (Value.slice (some ⟨g22, 0, none⟩) 1 1) (by kernel_rfl) (by kernel_rfl) (SB.blk (h22.at_ 0 rfl) (by kernel_rfl) (by kernel_rfl) (by kernel_rfl)) (by simp; omega) (m2 ++ ([(UInt8.ofNat ((((((((b.length)) * 8))) / 2 ^ (((8 * q)))))))])) ((m2 ++ ([(UInt8.ofNat ((((((((b.length)) * 8))) / 2 ^ (((8 * q)))))))]) : Bytes).length) rfl rfl) ?_
    rintro _ w23 ⟨A23, c23, rfl, h23⟩
    refine wq_p 1 [(5, (Value.slice A23 ((m2 ++ ([(UInt8.ofNat ((((((((b.length)) * 8))) / 2 ^ (((8 * q)))))))]) : Bytes).length) c23))] ?_
    refine wl_end rfl ?_
    refine blk_n ?_
    refine seq_n hK21 ?_
    refine reg_lit ?_
    refine wq_p 1 [(30, (Value.int .i64 ((q : Int))))] ?_
    refine wq_v (some 31) (Value.int .i64 ((q : Int) - 1)) (exec_sub _ _ _ _ rfl ((q : Int)) 1 (by kernel_rfl) (by kernel_rfl) ((q : Int) - 1) rfl (by omega) (by omega) _) ?_
    refine wq_p 1 [(7, (Value.int .i64 ((q : Int) - 1)))] ?_
    refine wl_end rfl ?_
    refine ⟨8 - (j + 1), (by omega), ((q : Int) - 1), (j + 1), (m2 ++ ([(UInt8.ofNat ((((((((b.length)) * 8))) / 2 ^ (((8 * q)))))))])), A23, c23, (by omega), (by omega), (by rw [hm2, List.append_assoc, show b.length * 8 = 8 * b.length by omega, hqj]; congr 1; exact put8_step _ j (by omega)), (by rw [List.length_append, hml2]; simp; omega), rfl, (patch_eq _ 88 _ (by kernel_rfl) (by kernel_rfl) (by kernel_rfl)), h23.sel [1] [0, 1] (by kernel_rfl) rfl rfl⟩
   ·
    refine wp_exit ?_
    refine seq_e ?_
    refine seq_e ?_
    refine blk_e ?_
    refine seq_n hK15 ?_
    refine wp_seq_k ?_
    intro K24 hK24
    obtain rfl : j = 8 := by omega
    have hM : m2 = b ++ padB b := by rw [hm2, hm, put8_end]; exact pad_all b
    have hM64 : m2.length % 64 = 0 := by rw [hM]; exact padm_len b
    
    refine reg_lit ?_
    refine wq_to (some 41) (x_bs h17 64 ([(Value.int .u32 1779033703), (Value.int .u32 3144134277), (Value.int .u32 1013904242), (Value.int .u32 2773480762), (Value.int .u32 1359893119), (Value.int .u32 2600822924), (Value.int .u32 528734635), (Value.int .u32 1541459225)]) 8 (by kernel_rfl)) ?_
    rintro _ w25 ⟨g25, rfl, h25⟩
    refine wq_p 1 [(8, (Value.slice (some ⟨g25, 0, none⟩) 8 8))] ?_
    refine wl_end rfl ?_
    refine seq_n hK24 ?_
    refine wp_seq_k ?_
    intro K26 hK26
    refine wp_seq_k ?_
    intro K27 hK27
    have h28 := h25.blkOV 0 rfl (by kernel_rfl) 8 rfl (by decide) (wx shaH0.l) (by kernel_rfl)
    
    refine reg_lit ?_
    refine wq_p 1 [(9, (Value.int .i64 0))] ?_
    refine wl_end rfl ?_
    refine seq_n hK27 ?_
    refine wp_block ?_
    refine wp_loopm (fun mM xX aA wL => ∃ (i : Nat) (fr : Nat) (Av3 : Option Addr) (cv3 : Nat), (fr = 64 * i) ∧ (fr ≤ m2.length) ∧ mM = m2.length - fr ∧ aA = patch xX 88 [(0, (Value.slice C 64 e)), (1, (Value.slice B b.length d)), (4, (Value.slice none 0 0)), (5, (Value.slice Av2 ((m2 : Bytes).length) cv2)), (6, (Value.int .u64 (((((b.length)) * 8 : Nat) : Int)))), (8, (Value.slice Av3 8 cv3)), (9, (Value.int .i64 ((fr : Int)))), (20, (Value.bool ((((((m : Bytes).length) % 64 : Nat) : Int)) != 56)))] ∧ Hp (fun _ => False) w wL [rRV 1 C e (wx shaK), rSB ((Value.slice B b.length d)) b] [rOB ((Value.slice Av2 ((m2 : Bytes).length) cv2)) m2, rOV 64 1 ((Value.slice Av3 8 cv3)) (wx (absb i shaH0 m2).l)]) ⟨_, 0, 0, ((some ⟨g25, 0, none⟩)), 8, (by omega), (by omega), rfl, (patch_eq _ 88 _ (by kernel_rfl) (by kernel_rfl) (by kernel_rfl)), h28.sel [1, 0] [0, 1] (by kernel_rfl) rfl rfl⟩ ?_
    rintro _ x29 _ w29 ⟨i, fr, Av3, cv3, hfr, hfi, rfl, rfl, h29⟩
    refine wp_seq_k ?_
    intro K30 hK30
    refine wp_seq_k ?_
    intro K31 hK31
    refine reg_lit ?_
    refine wq_p 4 [(45, (Value.bool (decide ((fr : Int) < ((m2 : Bytes).length : Int))))), (44, (Value.int .i64 (((m2 : Bytes).length : Int)))), (43, (Value.slice Av2 ((m2 : Bytes).length) cv2)), (42, (Value.int .i64 ((fr : Int))))] ?_
    refine wl_end rfl ?_
    refine seq_n hK31 ?_
    refine wp_if ((fr : Int) < ((m2 : Bytes).length : Int)) (by kernel_rfl) (fun b32 => ?_) (fun b32 => ?_)
    ·
     refine wp_skip ?_
     refine seq_n hK30 ?_
     refine wp_seq_k ?_
     intro K33 hK33
     refine wp_block ?_
     refine reg_lit ?_
     refine wq_p 4 [(51, (Value.int .i64 ((fr : Int)))), (50, (Value.int .i64 ((fr : Int)))), (49, (Value.slice Av2 ((m2 : Bytes).length) cv2)), (48, (Value.slice Av3 8 cv3))] ?_
     refine wq_v (some 52) (Value.int .i64 ((fr : Int) + 64)) (exec_add _ _ _ _ rfl ((fr : Int)) 64 (by kernel_rfl) (by kernel_rfl) ((fr : Int) + 64) rfl (by omega) (by omega) _) ?_
     refine wq_v (some 53) (cutS (Value.slice Av2 ((m2 : Bytes).length) cv2) fr ((fr) + 64)) (e_cut_lh (OB.sb (h29.at_ 0 rfl)) (.tmp 49) (.tmp 50) (.tmp 52) (by kernel_rfl) (by kernel_rfl) .i64 .i64 fr ((fr) + 64) (by kernel_rfl) (by kernel_rfl) (by omega) (by omega) _) ?_
     refine wq_p 1 [(54, (Value.slice C 64 e))] ?_
     refine wq_to (some 55) (x_rblk h29 (cutS (Value.slice Av2 ((m2 : Bytes).length) cv2) fr ((fr) + 64)) (absb i shaH0 m2) (by kernel_rfl) (wxL (OV.rvn (h29.at_ 1 rfl))).2 (SB.cut (OB.sb (h29.at_ 0 rfl)) fr ((fr) + 64) (by omega)) (by rw [len_cut _ _ _ (by omega)]; omega) (wxL (RV.lenIs (n := 64) (h29.rd 0 rfl) rfl)).2 (absb (i + 1) shaH0 m2) (by subst hfr; exact absb_end _ _ _)) ?_
     rintro _ w35 ⟨A35, c35, rfl, h35⟩
     refine wq_p 1 [(8, (Value.slice A35 8 c35))] ?_
     refine wl_end rfl ?_
     refine blk_n ?_
     refine seq_n hK33 ?_
     refine reg_lit ?_
     refine wq_p 1 [(46, (Value.int .i64 ((fr : Int))))] ?_
     refine wq_v (some 47) (Value.int .i64 ((fr : Int) + 64)) (exec_add _ _ _ _ rfl ((fr : Int)) 64 (by kernel_rfl) (by kernel_rfl) ((fr : Int) + 64) rfl (by omega) (by omega) _) ?_
     refine wq_p 1 [(9, (Value.int .i64 ((fr : Int) + 64)))] ?_
     refine wl_end rfl ?_
     refine ⟨m2.length - (fr + 64), (by omega), (i + 1), (fr + 64), A35, c35, (by omega), (by omega), rfl, (patch_eq _ 88 _ (by kernel_rfl) (by kernel_rfl) (by kernel_rfl)), h35.sel [1, 0] [0, 1] (by kernel_rfl) rfl rfl⟩
    ·
     refine wp_exit ?_
     refine seq_e ?_
     refine seq_e ?_
     refine blk_e ?_
     refine seq_n hK26 ?_
     refine wp_seq_k ?_
     intro K36 hK36
     obtain rfl : fr = m2.length := by omega
     have hfin : absb i shaH0 m2 = absb ((b ++ padB b).length / 64) shaH0 (b ++ padB b) := by rw [← hM]; congr 1; omega
     
     refine reg_lit ?_
     refine wq_to (some 56) (x_bs0B h29 (by kernel_rfl)) ?_
     rintro _ w37 ⟨A37, rfl, h37⟩
     refine wq_p 1 [(10, (Value.slice A37 0 0))] ?_
     refine wl_end rfl ?_
     refine seq_n hK36 ?_
     refine wp_seq_k ?_
     intro K38 hK38
     refine wp_seq_k ?_
     intro K39 hK39
     refine reg_lit ?_
     refine wq_p 1 [(11, (Value.int .i64 0))] ?_
     refine wl_end rfl ?_
     refine seq_n hK39 ?_
     refine wp_block ?_
     refine wp_loopm (fun mM xX aA wL => ∃ (k : Nat) (o : Bytes) (Av4 : Option Addr) (cv4 : Nat), (k ≤ 8) ∧ (o = outW ((absb i shaH0 m2).l.take k)) ∧ ((o : Bytes).length = 4 * k) ∧ mM = 8 - k ∧ aA = patch xX 88 [(0, (Value.slice C 64 e)), (1, (Value.slice B b.length d)), (4, (Value.slice none 0 0)), (5, (Value.slice Av2 ((m2 : Bytes).length) cv2)), (6, (Value.int .u64 (((((b.length)) * 8 : Nat) : Int)))), (8, (Value.slice Av3 8 cv3)), (9, (Value.int .i64 ((m2.length : Int)))), (10, (Value.slice Av4 ((o : Bytes).length) cv4)), (11, (Value.int .i64 ((k : Int)))), (20, (Value.bool ((((((m : Bytes).length) % 64 : Nat) : Int)) != 56))), (45, (Value.bool (decide ((m2.length : Int) < ((m2 : Bytes).length : Int)))))] ∧ Hp (fun _ => False) w wL [rRV 1 C e (wx shaK), rSB ((Value.slice B b.length d)) b] [rOV 64 1 ((Value.slice Av3 8 cv3)) (wx (absb i shaH0 m2).l), rOB ((Value.slice Av4 ((o : Bytes).length) cv4)) o]) ⟨_, 0, ([]), A37, 0, (by omega), rfl, rfl, rfl, (patch_eq _ 88 _ (by kernel_rfl) (by kernel_rfl) (by kernel_rfl)), h37.sel [2, 0] [0, 1] (by kernel_rfl) rfl rfl⟩ ?_
     rintro _ x40 _ w40 ⟨k, o, Av4, cv4, hk8, ho, hol, rfl, rfl, h40⟩
     refine wp_seq_k ?_
     intro K41 hK41
     refine wp_seq_k ?_
     intro K42 hK42
     refine reg_lit ?_
     refine wq_p 2 [(58, (Value.bool (decide ((k : Int) < 8)))), (57, (Value.int .i64 ((k : Int))))] ?_
     refine wl_end rfl ?_
     refine seq_n hK42 ?_
     refine wp_if ((k : Int) < 8) (by kernel_rfl) (fun b43 => ?_) (fun b43 => ?_)
     ·
      refine wp_skip ?_
      refine seq_n hK41 ?_
      refine wp_seq_k ?_
      intro K44 hK44
      refine wp_block ?_
      refine pR_go h40 26 (fun W => (rOV 64 1 ((Value.slice Av3 8 cv3)) (wx (absb i shaH0 m2).l)).Φ W ∧ True) [(62, [10], 0), (63, [8], 0), (64, [11], 0), (65, [62, 63], 6), (66, [64], 8), (67, [65], 16), (68, [66], 32), (69, [8], 0), (70, [11], 0), (71, [68, 69], 384), (72, [70], 512), (73, [71], 1024), (74, [72], 2048), (75, [8], 0), (76, [11], 0), (77, [74, 75], 24576), (78, [76], 32768), (79, [77], 65536), (80, [78], 131072), (81, [8], 0), (82, [11], 0), (83, [80, 81], 1572864), (84, [82], 2097152), (85, [83], 4194304), (86, [67, 73, 79, 84], 8654912), (87, [61, 85], 16777217), (11, [86], 67108863)] rfl (fun _ d _ _ _ h => by cases d <;> exact h) ?_
      intro hs45 w45 h45
      refine pR_p 18 [0, 1, 2, 7, 8, 13, 14, 19, 20] [(81, (Value.int .i64 ((k : Int)))), (80, (Value.slice Av3 8 cv3)), (75, (Value.int .i64 ((k : Int)))), (74, (Value.slice Av3 8 cv3)), (69, (Value.int .i64 ((k : Int)))), (68, (Value.slice Av3 8 cv3)), (63, (Value.int .i64 ((k : Int)))), (62, (Value.slice Av3 8 cv3)), (61, (Value.slice Av4 ((o : Bytes).length) cv4))] 1597831 hs45 ⟨h45.at_ 0 rfl, trivial⟩ ?_
      refine pR_v 3 (some 64) (eAt Av3 (k * 1 + 0)) 1597839 rfl hs45 ⟨h45.at_ 0 rfl, trivial⟩ (fun W hW => e_idxN (OV.rvn (h45.at_ 0 rfl)).2 k 8 (OV.rvn (h45.at_ 0 rfl)).1 (by omega) 38 (.tmp 62) (.tmp 63) (by kernel_rfl) .i64 (by kernel_rfl) (by kernel_rfl) 64 (by kernel_rfl) (by kernel_rfl) _) ?_
      refine pR_v 9 (some 70) (eAt Av3 (k * 1 + 0)) 1598351 rfl hs45 ⟨h45.at_ 0 rfl, trivial⟩ (fun W hW => e_idxN (OV.rvn (h45.at_ 0 rfl)).2 k 8 (OV.rvn (h45.at_ 0 rfl)).1 (by omega) 38 (.tmp 68) (.tmp 69) (by kernel_rfl) .i64 (by kernel_rfl) (by kernel_rfl) 64 (by kernel_rfl) (by kernel_rfl) _) ?_
      refine pR_v 15 (some 76) (eAt Av3 (k * 1 + 0)) 1631119 rfl hs45 ⟨h45.at_ 0 rfl, trivial⟩ (fun W hW => e_idxN (OV.rvn (h45.at_ 0 rfl)).2 k 8 (OV.rvn (h45.at_ 0 rfl)).1 (by omega) 38 (.tmp 74) (.tmp 75) (by kernel_rfl) .i64 (by kernel_rfl) (by kernel_rfl) 64 (by kernel_rfl) (by kernel_rfl) _) ?_
      refine pR_v 21 (some 82) (eAt Av3 (k * 1 + 0)) 3728271 rfl hs45 ⟨h45.at_ 0 rfl, trivial⟩ (fun W hW => e_idxN (OV.rvn (h45.at_ 0 rfl)).2 k 8 (OV.rvn (h45.at_ 0 rfl)).1 (by omega) 38 (.tmp 80) (.tmp 81) (by kernel_rfl) .i64 (by kernel_rfl) (by kernel_rfl) 64 (by kernel_rfl) (by kernel_rfl) _) ?_
      refine pR_v 4 (some 65) (Value.int .u32 (uw (gw (absb i shaH0 m2).l (k)))) 3728287 rfl hs45 ⟨h45.at_ 0 rfl, trivial⟩ (fun W hW => e_elemN (OV.rvn hW.1).2 k 0 ([(Value.int .u32 (uw (gw (absb i shaH0 m2).l (k))))]) (wx_get (absb i shaH0 m2).l (k) (by first | omega | (show _ < 8; omega))) 64 (.tmp 64) (by kernel_rfl) (Value.int .u32 (uw (gw (absb i shaH0 m2).l (k)))) (by kernel_rfl) (by kernel_rfl) (by kernel_rfl)) ?_
      refine pR_v 5 (some 66) (Value.int .u32 (uw (wsr (gw (absb i shaH0 m2).l (k)) 24))) 3728319 rfl hs45 ⟨h45.at_ 0 rfl, trivial⟩ (fun W hW => e_shr32 64 63 (.tmp 65) (.const (Value.int .u64 24)) (by kernel_rfl) (gw (absb i shaH0 m2).l (k)) .u64 24 (by decide) (by kernel_rfl) (by kernel_rfl) _) ?_
      refine pR_v 6 (some 67) (Value.int .u8 (ub (UInt8.ofNat ((wsr (gw (absb i shaH0 m2).l (k)) 24)).toNat))) 3728383 rfl hs45 ⟨h45.at_ 0 rfl, trivial⟩ (fun W hW => eq_is (v := Value.int .u8 (IntKind.u8.wrap (uw (wsr (gw (absb i shaH0 m2).l (k)) 24)))) (by kernel_rfl) (b_of32 (wsr (gw (absb i shaH0 m2).l (k)) 24))) ?_
      refine pR_v 10 (some 71) (Value.int .u32 (uw (gw (absb i shaH0 m2).l (k)))) 3729407 rfl hs45 ⟨h45.at_ 0 rfl, trivial⟩ (fun W hW => e_elemN (OV.rvn hW.1).2 k 0 ([(Value.int .u32 (uw (gw (absb i shaH0 m2).l (k))))]) (wx_get (absb i shaH0 m2).l (k) (by first | omega | (show _ < 8; omega))) 64 (.tmp 70) (by kernel_rfl) (Value.int .u32 (uw (gw (absb i shaH0 m2).l (k)))) (by kernel_rfl) (by kernel_rfl) (by kernel_rfl)) ?_
      refine pR_v 11 (some 72) (Value.int .u32 (uw (wsr (gw (absb i shaH0 m2).l (k)) 16))) 3731455 rfl hs45 ⟨h45.at_ 0 rfl, trivial⟩ (fun W hW => e_shr32 64 63 (.tmp 71) (.const (Value.int .u64 16)) (by kernel_rfl) (gw (absb i shaH0 m2).l (k)) .u64 16 (by decide) (by kernel_rfl) (by kernel_rfl) _) ?_
      refine pR_v 12 (some 73) (Value.int .u8 (ub (UInt8.ofNat ((wsr (gw (absb i shaH0 m2).l (k)) 16)).toNat))) 3735551 rfl hs45 ⟨h45.at_ 0 rfl, trivial⟩ (fun W hW => eq_is (v := Value.int .u8 (IntKind.u8.wrap (uw (wsr (gw (absb i shaH0 m2).l (k)) 16)))) (by kernel_rfl) (b_of32 (wsr (gw (absb i shaH0 m2).l (k)) 16))) ?_
      refine pR_v 16 (some 77) (Value.int .u32 (uw (gw (absb i shaH0 m2).l (k)))) 3801087 rfl hs45 ⟨h45.at_ 0 rfl, trivial⟩ (fun W hW => e_elemN (OV.rvn hW.1).2 k 0 ([(Value.int .u32 (uw (gw (absb i shaH0 m2).l (k))))]) (wx_get (absb i shaH0 m2).l (k) (by first | omega | (show _ < 8; omega))) 64 (.tmp 76) (by kernel_rfl) (Value.int .u32 (uw (gw (absb i shaH0 m2).l (k)))) (by kernel_rfl) (by kernel_rfl) (by kernel_rfl)) ?_
      refine pR_v 17 (some 78) (Value.int .u32 (uw (wsr (gw (absb i shaH0 m2).l (k)) 8))) 3932159 rfl hs45 ⟨h45.at_ 0 rfl, trivial⟩ (fun W hW => e_shr32 64 63 (.tmp 77) (.const (Value.int .u64 8)) (by kernel_rfl) (gw (absb i shaH0 m2).l (k)) .u64 8 (by decide) (by kernel_rfl) (by kernel_rfl) _) ?_
      refine pR_v 18 (some 79) (Value.int .u8 (ub (UInt8.ofNat ((wsr (gw (absb i shaH0 m2).l (k)) 8)).toNat))) 4194303 rfl hs45 ⟨h45.at_ 0 rfl, trivial⟩ (fun W hW => eq_is (v := Value.int .u8 (IntKind.u8.wrap (uw (wsr (gw (absb i shaH0 m2).l (k)) 8)))) (by kernel_rfl) (b_of32 (wsr (gw (absb i shaH0 m2).l (k)) 8))) ?_
      refine pR_v 22 (some 83) (Value.int .u32 (uw (gw (absb i shaH0 m2).l (k)))) 8388607 rfl hs45 ⟨h45.at_ 0 rfl, trivial⟩ (fun W hW => e_elemN (OV.rvn hW.1).2 k 0 ([(Value.int .u32 (uw (gw (absb i shaH0 m2).l (k))))]) (wx_get (absb i shaH0 m2).l (k) (by first | omega | (show _ < 8; omega))) 64 (.tmp 82) (by kernel_rfl) (Value.int .u32 (uw (gw (absb i shaH0 m2).l (k)))) (by kernel_rfl) (by kernel_rfl) (by kernel_rfl)) ?_
      refine pR_v 23 (some 84) (Value.int .u8 (ub (UInt8.ofNat ((gw (absb i shaH0 m2).l (k))).toNat))) 16777215 rfl hs45 ⟨h45.at_ 0 rfl, trivial⟩ (fun W hW => eq_is (v := Value.int .u8 (IntKind.u8.wrap (uw (gw (absb i shaH0 m2).l (k))))) (by kernel_rfl) (b_of32 (gw (absb i shaH0 m2).l (k)))) ?_
      refine pR_to 24 (some 85) 33554431 rfl hs45 (x_bsl h45 [(UInt8.ofNat ((wsr (gw (absb i shaH0 m2).l (k)) 24)).toNat), (UInt8.ofNat ((wsr (gw (absb i shaH0 m2).l (k)) 16)).toNat), (UInt8.ofNat ((wsr (gw (absb i shaH0 m2).l (k)) 8)).toNat), (UInt8.ofNat ((gw (absb i shaH0 m2).l (k))).toNat)] (by kernel_rfl)) ?_
      rintro _ w46 ⟨g46, rfl, hw46, hg46, hq46, h46⟩
      refine ⟨fun _ => ⟨h46.at_ 1 rfl, trivial⟩, ?_⟩
      refine pR_to 25 (some 86) 67108863 rfl hs45 (x_appG h46 2 rfl (.tmp 61) (.tmp 85) (by kernel_rfl) (Value.slice (some ⟨g46, 0, none⟩) 4 4) (by kernel_rfl) (by kernel_rfl) (SB.blk (h46.at_ 0 rfl) (by kernel_rfl) (by kernel_rfl) (by kernel_rfl)) (by simp; omega) (o ++ ([(UInt8.ofNat ((wsr (gw (absb i shaH0 m2).l (k)) 24)).toNat), (UInt8.ofNat ((wsr (gw (absb i shaH0 m2).l (k)) 16)).toNat), (UInt8.ofNat ((wsr (gw (absb i shaH0 m2).l (k)) 8)).toNat), (UInt8.ofNat ((gw (absb i shaH0 m2).l (k))).toNat)])) ((o ++ ([(UInt8.ofNat ((wsr (gw (absb i shaH0 m2).l (k)) 24)).toNat), (UInt8.ofNat ((wsr (gw (absb i shaH0 m2).l (k)) 16)).toNat), (UInt8.ofNat ((wsr (gw (absb i shaH0 m2).l (k)) 8)).toNat), (UInt8.ofNat ((gw (absb i shaH0 m2).l (k))).toNat)]) : Bytes).length) rfl rfl) ?_
      rintro _ w47 ⟨A47, c47, rfl, h47⟩
      refine ⟨fun _ => ⟨h47.at_ 1 rfl, trivial⟩, ?_⟩
      refine pR_to 26 (some 10) 134217727 rfl hs45 (OpTo.run (Value.slice A47 ((o ++ ([(UInt8.ofNat ((wsr (gw (absb i shaH0 m2).l (k)) 24)).toNat), (UInt8.ofNat ((wsr (gw (absb i shaH0 m2).l (k)) 16)).toNat), (UInt8.ofNat ((wsr (gw (absb i shaH0 m2).l (k)) 8)).toNat), (UInt8.ofNat ((gw (absb i shaH0 m2).l (k))).toNat)]) : Bytes).length) c47) (pureOp_run (by kernel_rfl) _) (R := fun v w => v = (Value.slice A47 ((o ++ ([(UInt8.ofNat ((wsr (gw (absb i shaH0 m2).l (k)) 24)).toNat), (UInt8.ofNat ((wsr (gw (absb i shaH0 m2).l (k)) 16)).toNat), (UInt8.ofNat ((wsr (gw (absb i shaH0 m2).l (k)) 8)).toNat), (UInt8.ofNat ((gw (absb i shaH0 m2).l (k))).toNat)]) : Bytes).length) c47) ∧ w47 = w) ⟨rfl, rfl⟩) ?_
      rintro _ _ ⟨rfl, rfl⟩
      refine ⟨fun h => absurd h (by decide), ?_⟩
      refine pR_done hs45 ?_ _
      refine blk_n ?_
      refine seq_n hK44 ?_
      refine reg_lit ?_
      refine wq_p 1 [(59, (Value.int .i64 ((k : Int))))] ?_
      refine wq_v (some 60) (Value.int .i64 ((k : Int) + 1)) (exec_add _ _ _ _ rfl ((k : Int)) 1 (by kernel_rfl) (by kernel_rfl) ((k : Int) + 1) rfl (by omega) (by omega) _) ?_
      refine wq_p 1 [(11, (Value.int .i64 ((k : Int) + 1)))] ?_
      refine wl_end rfl ?_
      refine ⟨8 - (k + 1), (by omega), (k + 1), (o ++ ([(UInt8.ofNat ((wsr (gw (absb i shaH0 m2).l (k)) 24)).toNat), (UInt8.ofNat ((wsr (gw (absb i shaH0 m2).l (k)) 16)).toNat), (UInt8.ofNat ((wsr (gw (absb i shaH0 m2).l (k)) 8)).toNat), (UInt8.ofNat ((gw (absb i shaH0 m2).l (k))).toNat)])), A47, c47, (by omega), (by rw [ho]; exact out_step _ _ (by show _ < 8; omega)), (by rw [List.length_append, hol]; simp; omega), rfl, (patch_eq _ 88 _ (by kernel_rfl) (by kernel_rfl) (by kernel_rfl)), h47.sel [1, 2] [0, 1] (by kernel_rfl) rfl rfl⟩
     ·
      refine wp_exit ?_
      refine seq_e ?_
      refine seq_e ?_
      refine blk_e ?_
      refine seq_n hK38 ?_
      refine wp_seq_k ?_
      intro K48 hK48
      refine reg_lit ?_
      refine wq_p 2 [(4, (Value.slice Av4 ((o : Bytes).length) cv4)), (87, (Value.slice Av4 ((o : Bytes).length) cv4))] ?_
      refine wl_end rfl ?_
      refine seq_n hK48 ?_
      refine wp_ret ?_
      refine post_1 rfl (by kernel_rfl) (rtmp (v := (Value.slice Av4 ((o : Bytes).length) cv4)) (by kernel_rfl)) ?_
      exact bpost_of h40 1 rfl (by rw [ho, show k = (absb i shaH0 m2).l.length from (by show k = 8; omega), out_end, hfin]; rfl)
end Go.Proofs.YtpkelokaammmjaaDoor
end
/-! []byte(s) as the call's own; append to it. -/
section
namespace Go.Proofs.YtpkelokaammmjaaDoor
open Go.RowKit Go.QT
def OM (w : World) (v : Value) (l : Bytes) : Prop := ∃ g cap, v = .slice (some ⟨g, 0, none⟩) l.length cap ∧ l.length ≤ cap ∧ cap ≤ maxLen ∧ g < w.heap.size ∧ (∀ i, i < l.length → w.cell? ⟨g, i, none⟩ = some (.int .u8 (ub (gb l i)))) ∧ (∀ i, i < cap → (w.cell? ⟨g, i, none⟩).isSome = true ∧ w.frozen? ⟨g, i, none⟩ = false)
theorem OM.sb {w : World} {v : Value} {l : Bytes} (h : OM w v l) : SB w v l := by
  obtain ⟨g, cap, rfl, h1, h2, h3, h4, _⟩ := h
  exact ⟨_, cap, rfl, h1, h2, fun _ => ⟨g, 0, rfl, h3, fun i hi => by rw [Nat.zero_add]; exact h4 i hi⟩⟩
theorem frozen_of_block {w w' : World} {g : Nat} (h : w'.heap[g]? = w.heap[g]?) (i : Nat) : w'.frozen? ⟨g, i, none⟩ = w.frozen? ⟨g, i, none⟩ := by
  unfold World.frozen?
  simp only [h]
def rOM (v : Value) (l : Bytes) : Res where
  F := fun q => v.ownBlock = some q
  Φ := fun w => OM w v l
  lt := fun h q hq => by
    obtain ⟨g, cap, rfl, _, _, h3, _⟩ := h
    have : g = q := by simpa [Value.ownBlock] using hq
    omega
  keep := fun h hs hk => by
    obtain ⟨g, cap, rfl, h1, h2, h3, h4, h5⟩ := h
    have e := hk g rfl
    exact ⟨g, cap, rfl, h1, h2, by omega, fun i hi => (World.cell?_of_block e).trans (h4 i hi), fun i hi => by rw [World.cell?_of_block e, frozen_of_block e]; exact h5 i hi⟩
theorem Fr.setCells (g : Nat) : ∀ (vs : List Value) (o : Nat) (w : World), Fr (fun q => q = g) w (w.setCells g o vs)
  | [], _, _ => Fr.refl _ _
  | v :: vs, o, w => (Fr.setCell w g o v).trans (Fr.setCells g vs (o + 1) _) (fun _ h => .inl h)
section
variable {o : Oper} {a : Act} {w w' : World} {F0 : Nat → Prop} {w0 : World} {ro rs : List Res}
theorem x_convM (h : Hp F0 w0 w ro rs) (x : Operand) (ho : o.op = .convert 9 22 x) (s : ByteArray) (hx : a.eval x = .string s) (hs : s.size ≤ 1000000) (l : Bytes) (hl : l = s.data.toList) (n : Nat) (hn : n = l.length) :
    OpTo Tryd.prog o a w (fun u w' => ∃ A cc, u = .slice A n cc ∧ Hp F0 w0 w' ro (rOM (.slice A n cc) l :: rs)) := by
  subst hl; subst hn
  have hr := run_bytes_of_string w 9 22 5 s ustr u28 ubyte
  have hrun : (execOp a.eval o).run Tryd.prog w = .ok (.value (.slice (some ⟨w.heap.size, 0, none⟩) s.size (grownCap w s.size 0 5))) (w.drew.alloc (.cells (bytesRow s (grownCap w s.size 0 5)) 5 ((bytesRow s (grownCap w s.size 0 5)).size, (bytesRow s (grownCap w s.size 0 5)).size + 1))) := by
    unfold execOp
    simp only [ho, hx, Sem.run_bind, hr, Result.andThen_ok, Sem.run_pure]
  have hsz : s.data.toList.length = s.size := by rw [Array.length_toList]; rfl
  have hc1 := grownCap_ge w s.size 0 5
  have hc2 := grownCap_le_maxLen w s.size 0 5 (by unfold maxLen; omega)
  have hrow : (bytesRow s (grownCap w s.size 0 5)).size = grownCap w s.size 0 5 := by
    have : s.data.size = s.size := rfl
    unfold bytesRow
    rw [Array.size_append, Array.size_map, Array.size_replicate, this]; omega
  have hcell := fun i => World.cell?_alloc_mark w.drew (bytesRow s (grownCap w s.size 0 5)) 5 ((bytesRow s (grownCap w s.size 0 5)).size, (bytesRow s (grownCap w s.size 0 5)).size + 1) i
  rw [hsz]
  have hB : Below w.heap.size w (w.drew.alloc (.cells (bytesRow s (grownCap w s.size 0 5)) 5 ((bytesRow s (grownCap w s.size 0 5)).size, (bytesRow s (grownCap w s.size 0 5)).size + 1))) := (below_drewN (Below.refl _ _) 1).alloc (Nat.le_refl _) _
  refine OpTo.run _ hrun ⟨_, _, rfl, h.newS hB (rOM _ _) ?_ (fun q hq => ?_)⟩
  · refine ⟨w.heap.size, grownCap w s.size 0 5, by rw [hsz], by rw [hsz]; exact hc1, hc2, by simp [World.alloc, World.drew, -World.alloc_eq, -World.drew_eq], fun i hi => ?_, fun i hi => ⟨?_, ?_⟩⟩
    · refine (hcell i).trans ?_
      have hi' : i < s.data.size := by simpa using hi
      have hi2 : i < s.size := hi'
      have hg : s.data[i]? = some s.data[i] := Array.getElem?_eq_getElem hi'
      simp [bytesRow, Array.getElem?_append, hi2, gb, ub]
    · have := hcell i
      rw [show (⟨w.heap.size, i, none⟩ : Addr) = ⟨w.drew.heap.size, i, none⟩ from rfl, this, Array.getElem?_eq_getElem (by rw [hrow]; exact hi)]
      rfl
    · unfold World.frozen?
      simp [World.alloc, World.drew, -World.alloc_eq, -World.drew_eq, hrow]
      omega
  · have h2 : w.heap.size = q := by simpa [rOM, Value.ownBlock] using hq
    omega
theorem x_appM (h : Hp F0 w0 w ro rs) (i : Nat) {v : Value} {l m : Bytes} (hi : rs[i]? = some (rOM v l)) (s x : Operand) (ho : o.op = .call { callee := .builtin .append, args := #[s, x], argTypes := #[22, 22] })
    (u : Value) (hs : a.eval s = v) (hx : a.eval x = u) (hu : SB w u m) (hm0 : m ≠ []) (hlen : l.length + m.length ≤ 140737488355328) (r : Bytes) (n : Nat) (hr : r = l ++ m) (hn : n = r.length) :
    OpTo Tryd.prog o a w (fun u w' => ∃ A cc, u = .slice A n cc ∧ Hp F0 w0 w' ro (rs.set i (rSB (.slice A n cc) r))) := by
  subst hr; subst hn
  have hv : OM w v l := h.own i _ hi
  obtain ⟨i0, hi0, hz0, hz1, hz2⟩ := info_parts i5
  obtain ⟨g, cap, rfl, h1, h2, h3, h4, h5⟩ := hv
  obtain ⟨A, c, rfl, hc, hm, hcell⟩ := hu
  obtain ⟨b, ob, rfl, hlt, hcl⟩ := hcell hm0
  have hz1' : i0.size = 1 := hz1
  have hnews : ∀ j x, (vb m)[j]? = some x → w.cell? ((⟨b, ob, none⟩ : Addr).add j) = some x := by
    intro j x hj
    have hjl : j < m.length := by
      rcases Nat.lt_or_ge j m.length with h | h
      · exact h
      · rw [List.getElem?_eq_none (by simpa using h)] at hj; cases hj
    rw [vb_get m j hjl] at hj
    rw [Addr.add_lit, hcl j hjl, hj]
  have step : ∀ v' w', (Builtin.append_ #[22, 22] o.type #[.slice (some ⟨g, 0, none⟩) l.length cap, .slice (some ⟨b, ob, none⟩) m.length c]).run Tryd.prog w = .ok v' w' → (execOp a.eval o).run Tryd.prog w = .ok (.value v') w' := fun v' w' hr => by
    unfold execOp
    simp only [ho, resolve, invoke, builtin, Sem.run_bind, Sem.run_pure, Result.andThen_ok, List.map_toArray, List.map_cons, List.map_nil, hs, hx, hr]
  by_cases hroom : l.length + m.length ≤ cap
  · have hr := run_append_room_cells (P := Tryd.prog) w 22 o.type 5 i0 ty28 hi0 g 0 l.length cap ⟨b, ob, none⟩ m.length c (vb m) (by simp [hz1']) hnews (vb_ones m) hroom
      (fun j hj => by rw [hz1', Nat.mul_one, Nat.zero_add]; exact (h5 (l.length + j) (by simp at hj; omega)).1) (fun j hj => by rw [hz1', Nat.mul_one, Nat.zero_add]; exact (h5 (l.length + j) (by simp at hj; omega)).2)
    rw [hz1', Nat.mul_one, Nat.zero_add] at hr
    refine OpTo.run _ (step _ _ hr) ⟨some ⟨g, 0, none⟩, cap, by rw [List.length_append], h.upd i hi (r := rOM _ l) ?_ (rSB _ (l ++ m)) ?_ (fun q hq => .inl hq.2)⟩
    · have hf := Fr.setCells g (vb m) l.length w
      exact ⟨hf.os, hf.tape, hf.output, hf.size, fun k hk hn => hf.block k hk (fun e => hn (by subst e; rfl))⟩
    · refine ⟨some ⟨g, 0, none⟩, cap, rfl, by rw [List.length_append]; exact hroom, h2, fun _ => ⟨g, 0, rfl, Nat.lt_of_lt_of_le h3 (Fr.setCells g (vb m) l.length w).size, fun k hk => ?_⟩⟩
      rw [Nat.zero_add]
      rw [List.length_append] at hk
      by_cases hkl : k < l.length
      · rw [World.cell?_setCells_out g (vb m) l.length w ⟨g, k, none⟩ (fun _ _ => .inl hkl), h4 k hkl]
        have e : gb l k = gb (l ++ m) k := by simp only [gb, List.getD_eq_getElem?_getD, List.getElem?_append_left hkl]
        rw [e]
      · have hin := World.cell?_setCells_in g (vb m) l.length w (fun j hj => (h5 (l.length + j) (by simp at hj; omega)).1) (k - l.length) (by simp; omega)
        rw [show l.length + (k - l.length) = k by omega] at hin
        rw [hin]
        have h9 := vb_get m (k - l.length) (by omega)
        rw [List.getElem?_eq_getElem (by simp; omega)] at h9
        rw [h9]
        have e : gb m (k - l.length) = gb (l ++ m) k := by simp only [gb, List.getD_eq_getElem?_getD, List.getElem?_append_right (show l.length ≤ k by omega)]
        rw [e]
  · have holds : ∀ j x, (vb l)[j]? = some x → w.cell? ((⟨g, 0, none⟩ : Addr).add j) = some x := by
      intro j x hj
      have hjl : j < l.length := by
        rcases Nat.lt_or_ge j l.length with h | h
        · exact h
        · rw [List.getElem?_eq_none (by simpa using h)] at hj; cases hj
      rw [vb_get l j hjl] at hj
      rw [Addr.add_lit, Nat.zero_add, h4 j hjl, hj]
    obtain ⟨v', w', hrun, k1, k2⟩ := run_append_arg_grows (P := Tryd.prog) w 22 o.type 5 i0 (.int .u8 0) 1 1 ty28 hi0 hz0 hz1 hz2 rfl (by omega) ⟨g, 0, none⟩ l.length cap (vb l) (by simp) holds ⟨b, ob, none⟩ m.length c (vb m) (by simp) hnews (by omega) (by unfold maxLen; omega) (by omega)
    have h2' : OB w' w.heap.size v' (l ++ m) := by
      unfold OB
      rw [List.length_append, vb_append]
      exact k1
    obtain ⟨A', c', e, _, _⟩ := id h2'.sb
    subst e
    exact OpTo.run _ (step _ _ hrun) ⟨A', c', rfl, h.upd i hi (Fr.of_grown k2 (fun q hq => by cases hq)) (rSB _ (l ++ m)) h2'.sb (fun q hq => .inr (h2'.own q hq.2).1)⟩
end
end Go.Proofs.YtpkelokaammmjaaDoor
end
/-! Steps for the walks of compeerref04, compeerref06: plain laws, calls. -/
section
namespace Go.Proofs.YtpkelokaammmjaaDoor
open Go.RowKit Go.QT
def padR4 (k : Bytes) (c : UInt8) : Nat → Bytes
  | 0 => []
  | i + 1 => padR4 k c i ++ [gb k i ^^^ c]
theorem padR4_len (k : Bytes) (c : UInt8) (i : Nat) : (padR4 k c i).length = i := by
  induction i with
  | zero => rfl
  | succ i ih => rw [padR4, List.length_append, ih]; rfl
theorem padS_take (k : Bytes) (c : UInt8) (i : Nat) (h : i ≤ 64) : (padS k c i).take i = padR4 k c i := by
  induction i with
  | zero => rfl
  | succ i ih =>
    rw [padS, padR4, ← ih (by omega), List.take_succ_eq_append_getElem (by rw [List.length_set, padS_len]; omega)]
    rw [List.getElem_set_self]
    congr 1
    rw [List.take_set]
    exact List.set_eq_of_length_le (by rw [List.length_take]; omega)
theorem padR4_all (k : Bytes) (c : UInt8) : padR4 k c 64 = padS k c 64 := by
  rw [← padS_take k c 64 (Nat.le_refl _)]
  exact List.take_of_length_le (by rw [padS_len]; exact Nat.le_refl _)
theorem padK_len (k : Bytes) (c : UInt8) : (padK k c).length = 64 := padS_len _ _ _
theorem padR4_in {k o : Bytes} {c : UInt8} {i : Nat} (h : o = padR4 k c i) : o ++ [gb k i ^^^ c] = padR4 k c (i + 1) := by rw [h]; rfl
theorem padR4_out {k o : Bytes} {c : UInt8} {i : Nat} (h : o = padR4 k c i) (hk : k.length ≤ i) : o ++ [c] = padR4 k c (i + 1) := by
  rw [h, padR4, gb_ge k i hk]; simp
section
variable {P : Program} {o : Oper} {a : Act} {w w' : World} {F0 : Nat → Prop} {w0 : World} {ro rs : List Res}
/-- What a call leaves that answers new bytes, a part of a row of its own. -/
def SPost (w : World) (l : Bytes) (e : Ending) (w' : World) : Prop := ∃ v, e = .returned v ∧ SB w' v l ∧ Below w.heap.size w w' ∧ ∀ q, v.ownBlock = some q → w.heap.size ≤ q
theorem spost_of {L r : Bytes} {v : Value} (h : Hp (fun _ => False) w0 w ro rs) (i : Nat) (hi : rs[i]? = some (rOB v r)) (k j : Nat) (hj : j ≤ r.length) (e : (r.take j).drop k = L) : SPost w0 L (.returned (cutS v k j)) w := by
  subst e
  refine ⟨_, rfl, SB.cut (OB.sb (h.own i _ hi)) k j hj, h.below0, fun q hq => ?_⟩
  rw [cutS_block] at hq
  rcases h.mine i _ hi q hq with h3 | h3
  · exact h3.elim
  · exact h3
theorem spost_all {L r : Bytes} {v : Value} (h : Hp (fun _ => False) w0 w ro rs) (i : Nat) (hi : rs[i]? = some (rOB v r)) (e : r = L) : SPost w0 L (.returned v) w := by
  subst e
  refine ⟨_, rfl, OB.sb (h.own i _ hi), h.below0, fun q hq => ?_⟩
  rcases h.mine i _ hi q hq with h3 | h3
  · exact h3.elim
  · exact h3
theorem x_sb (h : Hp F0 w0 w ro rs) {l : Bytes} (fn : FuncId) (al : List Value) (hp : pureVal P (execOp a.eval o) = some (.enter fn al.toArray)) (hc : Calls P fn al.toArray w (SPost w l)) (r : Bytes) (n : Nat) (hr : r = l) (hn : n = r.length) :
    OpTo P o a w (fun u w' => ∃ A cc, u = .slice A n cc ∧ Hp F0 w0 w' (rSB (.slice A n cc) r :: ro) rs) :=
  OpTo.enter fn al hp hc fun e w' hq => by
    subst hr; subst hn
    obtain ⟨v, he, hs, hb, hF⟩ := hq
    obtain ⟨A, cc, rfl, _⟩ := id hs
    exact ⟨_, he, A, cc, rfl, h.newR hb (rSB _ r) hs (fun q hq => hF q hq.2)⟩
end
end Go.Proofs.YtpkelokaammmjaaDoor
end
/-! The walks of compeerref04: padded, Sum, Derive. -/
section
namespace Go.Proofs.YtpkelokaammmjaaDoor
open Go.RowKit Go.QT
attribute [local irreducible] shaF padK
set_option maxRecDepth 100000 in
set_option maxHeartbeats 4000000 in
theorem rpadded_any (C : Option Addr) (e : Nat) (kv : Value) (k : Bytes) (c : UInt8) (w : World) (hks : RV w 1 C e (wx shaK)) (hk : SB w kv k) (hl : k.length ≤ 1000000) :
    Calls Tryd.prog 48 #[.slice C 64 e, kv, .int .u8 (ub c)] w (BPost w (padK k c)) := by
  obtain ⟨A, d, rfl, hc1, hc2⟩ := sb_form hk
  have h0 := (Hp.ro1 (rSB (.slice A k.length d) k) hk).addR (rRV 1 C e (wx shaK)) hks (by simp)
  refine enter 35 Tryd.func48 rfl rfl ?_
  refine wp_reset 38 [(0, (Value.slice C 64 e)), (1, (Value.slice A k.length d)), (2, (Value.int .u8 (ub c)))] (fun x0 => ?_)
  refine wp_seq_k ?_
  intro K1 hK1
  refine reg_lit ?_
  refine wq_p 1 [(6, (Value.slice none 0 0))] ?_
  refine wl_end rfl ?_
  refine seq_n hK1 ?_
  refine wp_seq_k ?_
  intro K2 hK2
  refine wp_seq_k ?_
  intro K3 hK3
  refine reg_lit ?_
  refine wq_p 3 [(11, (Value.bool (decide ((k.length : Int) > 64)))), (10, (Value.int .i64 ((k.length : Int)))), (9, (Value.slice A k.length d))] ?_
  refine wl_end rfl ?_
  refine seq_n hK3 ?_
  refine wp_if ((k.length : Int) > 64) (by kernel_rfl) (fun b4 => ?_) (fun b4 => ?_)
  ·
   refine reg_lit ?_
   refine wq_p 2 [(13, (Value.slice A k.length d)), (12, (Value.slice C 64 e))] ?_
   refine wq_to (some 14) (x_bytesE h0 15 [(Value.slice C 64 e), (Value.slice A k.length d)] (by kernel_rfl) (rdig_any C e (Value.slice A k.length d) k _ (wxL (RV.lenIs (n := 64) (h0.rd 0 rfl) rfl)).2 (h0.rd 1 rfl) (by first | omega | (simp [sha_len, padS_len]; omega))) (shaF k) (32) rfl (sha_len _).symm) ?_
   rintro _ w5 ⟨A5, c5, rfl, h5⟩
   refine wq_p 1 [(1, (Value.slice A5 32 c5))] ?_
   refine wl_end rfl ?_
   refine seq_n hK2 ?_
   refine wp_seq_k ?_
   intro K6 hK6
   refine reg_lit ?_
   refine wq_to (some 15) (x_bs0B h5 (by kernel_rfl)) ?_
   rintro _ w7 ⟨A7, rfl, h7⟩
   refine wq_p 1 [(7, (Value.slice A7 0 0))] ?_
   refine wl_end rfl ?_
   refine seq_n hK6 ?_
   refine wp_seq_k ?_
   intro K8 hK8
   refine wp_seq_k ?_
   intro K9 hK9
   refine reg_lit ?_
   refine wq_p 1 [(8, (Value.int .i64 0))] ?_
   refine wl_end rfl ?_
   refine seq_n hK9 ?_
   refine wp_block ?_
   refine wp_loopm (fun mM xX aA wL => ∃ (i : Nat) (o : Bytes) (Av : Option Addr) (cv : Nat), (i ≤ 64) ∧ (o = padR4 (shaF k) c i) ∧ ((o : Bytes).length = i) ∧ mM = 64 - i ∧ aA = patch xX 38 [(0, (Value.slice C 64 e)), (1, (Value.slice A5 32 c5)), (2, (Value.int .u8 (ub c))), (6, (Value.slice none 0 0)), (7, (Value.slice Av ((o : Bytes).length) cv)), (8, (Value.int .i64 ((i : Int)))), (11, (Value.bool (decide ((k.length : Int) > 64))))] ∧ Hp (fun _ => False) w wL [rRV 1 C e (wx shaK), rSB ((Value.slice A k.length d)) k] [rOB ((Value.slice A5 32 c5)) (shaF k), rOB ((Value.slice Av ((o : Bytes).length) cv)) o]) ⟨_, 0, ([]), A7, 0, (by omega), rfl, rfl, rfl, (patch_eq _ 38 _ (by kernel_rfl) (by kernel_rfl) (by kernel_rfl)), h7.sel [1, 0] [0, 1] (by kernel_rfl) rfl rfl⟩ ?_
   rintro _ x10 _ w10 ⟨i, o, Av, cv, hi, ho, hol, rfl, rfl, h10⟩
   refine wp_seq_k ?_
   intro K11 hK11
   refine wp_seq_k ?_
   intro K12 hK12
   refine reg_lit ?_
   refine wq_p 2 [(17, (Value.bool (decide ((i : Int) < 64)))), (16, (Value.int .i64 ((i : Int))))] ?_
   refine wl_end rfl ?_
   refine seq_n hK12 ?_
   refine wp_if ((i : Int) < 64) (by kernel_rfl) (fun b13 => ?_) (fun b13 => ?_)
   ·
    refine wp_skip ?_
    refine seq_n hK11 ?_
    refine wp_seq_k ?_
    intro K14 hK14
    refine wp_block ?_
    refine wp_seq_k ?_
    intro K15 hK15
    refine reg_lit ?_
    refine wq_p 4 [(23, (Value.bool (decide ((i : Int) < 32)))), (22, (Value.int .i64 32)), (21, (Value.slice A5 32 c5)), (20, (Value.int .i64 ((i : Int))))] ?_
    refine wl_end rfl ?_
    refine seq_n hK15 ?_
    refine wp_if ((i : Int) < 32) (by kernel_rfl) (fun b16 => ?_) (fun b16 => ?_)
    ·
     refine reg_lit ?_
     refine wq_p 3 [(26, (Value.int .i64 ((i : Int)))), (25, (Value.slice A5 32 c5)), (24, (Value.slice Av ((o : Bytes).length) cv))] ?_
     refine wq_v (some 27) (eAt A5 (i * 1 + 0)) (e_idxN (SB.rvn (OB.sb (h10.at_ 0 rfl))).2 i 32 (SB.rvn (OB.sb (h10.at_ 0 rfl))).1 (by first | omega | (rw [sha_len]; omega)) 22 (.tmp 25) (.tmp 26) (by kernel_rfl) .i64 (by kernel_rfl) (by kernel_rfl) 5 (by kernel_rfl) (by kernel_rfl) _) ?_
     refine wq_v (some 28) (Value.int .u8 (ub (gb (shaF k) (i)))) (e_elemN (SB.rvn (OB.sb (h10.at_ 0 rfl))).2 i 0 ([(Value.int .u8 (ub (gb (shaF k) (i))))]) (bx_get _ _ (by first | omega | (rw [sha_len]; omega))) 5 (.tmp 27) (by kernel_rfl) (Value.int .u8 (ub (gb (shaF k) (i)))) (by kernel_rfl) (by kernel_rfl) (by kernel_rfl)) ?_
     refine wq_p 1 [(29, (Value.int .u8 (ub c)))] ?_
     refine wq_v (some 30) (Value.int .u8 (ub (((gb (shaF k) (i))) ^^^ c))) (eq_is (v := Value.int .u8 (bits .xor .u8 (ub ((gb (shaF k) (i)))) (ub c))) (by kernel_rfl) (b_xor ((gb (shaF k) (i))) c)) ?_
     refine wq_to (some 31) (x_bsl h10 [(((gb (shaF k) (i))) ^^^ c)] (by kernel_rfl)) ?_
     rintro _ w17 ⟨g17, rfl, hw17, hg17, hq17, h17⟩
     refine wq_to (some 32) (x_appG h17 2 rfl (.tmp 24) (.tmp 31) (by kernel_rfl) (Value.slice (some ⟨g17, 0, none⟩) 1 1) (by kernel_rfl) (by kernel_rfl) (SB.blk (h17.at_ 0 rfl) (by kernel_rfl) (by kernel_rfl) (by kernel_rfl)) (by simp; omega) (o ++ ([(((gb (shaF k) (i))) ^^^ c)])) ((o ++ ([(((gb (shaF k) (i))) ^^^ c)]) : Bytes).length) rfl rfl) ?_
     rintro _ w18 ⟨A18, c18, rfl, h18⟩
     refine wq_p 1 [(7, (Value.slice A18 ((o ++ ([(((gb (shaF k) (i))) ^^^ c)]) : Bytes).length) c18))] ?_
     refine wl_end rfl ?_
     refine blk_n ?_
     refine seq_n hK14 ?_
     refine reg_lit ?_
     refine wq_p 1 [(18, (Value.int .i64 ((i : Int))))] ?_
     refine wq_v (some 19) (Value.int .i64 ((i : Int) + 1)) (exec_add _ _ _ _ rfl ((i : Int)) 1 (by kernel_rfl) (by kernel_rfl) ((i : Int) + 1) rfl (by omega) (by omega) _) ?_
     refine wq_p 1 [(8, (Value.int .i64 ((i : Int) + 1)))] ?_
     refine wl_end rfl ?_
     refine ⟨64 - (i + 1), (by omega), (i + 1), (o ++ ([(((gb (shaF k) (i))) ^^^ c)])), A18, c18, (by omega), (padR4_in ho), (by rw [List.length_append, hol]; rfl), rfl, (patch_eq _ 38 _ (by kernel_rfl) (by kernel_rfl) (by kernel_rfl)), h18.sel [1, 2] [0, 1] (by kernel_rfl) rfl rfl⟩
    ·
     refine reg_lit ?_
     refine wq_p 2 [(34, (Value.int .u8 (ub c))), (33, (Value.slice Av ((o : Bytes).length) cv))] ?_
     refine wq_to (some 35) (x_bsl h10 [c] (by kernel_rfl)) ?_
     rintro _ w19 ⟨g19, rfl, hw19, hg19, hq19, h19⟩
     refine wq_to (some 36) (x_appG h19 2 rfl (.tmp 33) (.tmp 35) (by kernel_rfl) (Value.slice (some ⟨g19, 0, none⟩) 1 1) (by kernel_rfl) (by kernel_rfl) (SB.blk (h19.at_ 0 rfl) (by kernel_rfl) (by kernel_rfl) (by kernel_rfl)) (by simp; omega) (o ++ ([c])) ((o ++ ([c]) : Bytes).length) rfl rfl) ?_
     rintro _ w20 ⟨A20, c20, rfl, h20⟩
     refine wq_p 1 [(7, (Value.slice A20 ((o ++ ([c]) : Bytes).length) c20))] ?_
     refine wl_end rfl ?_
     refine blk_n ?_
     refine seq_n hK14 ?_
     refine reg_lit ?_
     refine wq_p 1 [(18, (Value.int .i64 ((i : Int))))] ?_
     refine wq_v (some 19) (Value.int .i64 ((i : Int) + 1)) (exec_add _ _ _ _ rfl ((i : Int)) 1 (by kernel_rfl) (by kernel_rfl) ((i : Int) + 1) rfl (by omega) (by omega) _) ?_
     refine wq_p 1 [(8, (Value.int .i64 ((i : Int) + 1)))] ?_
     refine wl_end rfl ?_
     refine ⟨64 - (i + 1), (by omega), (i + 1), (o ++ ([c])), A20, c20, (by omega), (padR4_out ho (by rw [sha_len]; omega)), (by rw [List.length_append, hol]; rfl), rfl, (patch_eq _ 38 _ (by kernel_rfl) (by kernel_rfl) (by kernel_rfl)), h20.sel [1, 2] [0, 1] (by kernel_rfl) rfl rfl⟩
   ·
    refine wp_exit ?_
    refine seq_e ?_
    refine seq_e ?_
    refine blk_e ?_
    refine seq_n hK8 ?_
    refine wp_seq_k ?_
    intro K21 hK21
    refine reg_lit ?_
    refine wq_p 2 [(6, (Value.slice Av ((o : Bytes).length) cv)), (37, (Value.slice Av ((o : Bytes).length) cv))] ?_
    refine wl_end rfl ?_
    refine seq_n hK21 ?_
    refine wp_ret ?_
    refine post_1 rfl (by kernel_rfl) (rtmp (v := (Value.slice Av ((o : Bytes).length) cv)) (by kernel_rfl)) ?_
    exact bpost_of h10 1 rfl (by unfold padK; rw [ho, show i = 64 by omega, padR4_all, key64_gt k (by omega)])
  ·
   refine wp_skip ?_
   refine seq_n hK2 ?_
   refine wp_seq_k ?_
   intro K22 hK22
   refine reg_lit ?_
   refine wq_to (some 15) (x_bs0B h0 (by kernel_rfl)) ?_
   rintro _ w23 ⟨A23, rfl, h23⟩
   refine wq_p 1 [(7, (Value.slice A23 0 0))] ?_
   refine wl_end rfl ?_
   refine seq_n hK22 ?_
   refine wp_seq_k ?_
   intro K24 hK24
   refine wp_seq_k ?_
   intro K25 hK25
   refine reg_lit ?_
   refine wq_p 1 [(8, (Value.int .i64 0))] ?_
   refine wl_end rfl ?_
   refine seq_n hK25 ?_
   refine wp_block ?_
   refine wp_loopm (fun mM xX aA wL => ∃ (i : Nat) (o : Bytes) (Av : Option Addr) (cv : Nat), (i ≤ 64) ∧ (o = padR4 k c i) ∧ ((o : Bytes).length = i) ∧ mM = 64 - i ∧ aA = patch xX 38 [(0, (Value.slice C 64 e)), (1, (Value.slice A k.length d)), (2, (Value.int .u8 (ub c))), (6, (Value.slice none 0 0)), (7, (Value.slice Av ((o : Bytes).length) cv)), (8, (Value.int .i64 ((i : Int)))), (11, (Value.bool (decide ((k.length : Int) > 64))))] ∧ Hp (fun _ => False) w wL [rRV 1 C e (wx shaK), rSB ((Value.slice A k.length d)) k] [rOB ((Value.slice Av ((o : Bytes).length) cv)) o]) ⟨_, 0, ([]), A23, 0, (by omega), rfl, rfl, rfl, (patch_eq _ 38 _ (by kernel_rfl) (by kernel_rfl) (by kernel_rfl)), h23.sel [0] [0, 1] (by kernel_rfl) rfl rfl⟩ ?_
   rintro _ x26 _ w26 ⟨i, o, Av, cv, hi, ho, hol, rfl, rfl, h26⟩
   refine wp_seq_k ?_
   intro K27 hK27
   refine wp_seq_k ?_
   intro K28 hK28
   refine reg_lit ?_
   refine wq_p 2 [(17, (Value.bool (decide ((i : Int) < 64)))), (16, (Value.int .i64 ((i : Int))))] ?_
   refine wl_end rfl ?_
   refine seq_n hK28 ?_
   refine wp_if ((i : Int) < 64) (by kernel_rfl) (fun b29 => ?_) (fun b29 => ?_)
   ·
    refine wp_skip ?_
    refine seq_n hK27 ?_
    refine wp_seq_k ?_
    intro K30 hK30
    refine wp_block ?_
    refine wp_seq_k ?_
    intro K31 hK31
    refine reg_lit ?_
    refine wq_p 4 [(23, (Value.bool (decide ((i : Int) < (k.length : Int))))), (22, (Value.int .i64 ((k.length : Int)))), (21, (Value.slice A k.length d)), (20, (Value.int .i64 ((i : Int))))] ?_
    refine wl_end rfl ?_
    refine seq_n hK31 ?_
    refine wp_if ((i : Int) < (k.length : Int)) (by kernel_rfl) (fun b32 => ?_) (fun b32 => ?_)
    ·
     refine reg_lit ?_
     refine wq_p 3 [(26, (Value.int .i64 ((i : Int)))), (25, (Value.slice A k.length d)), (24, (Value.slice Av ((o : Bytes).length) cv))] ?_
     refine wq_v (some 27) (eAt A (i * 1 + 0)) (e_idxN (SB.rvn (h26.rd 1 rfl)).2 i k.length (SB.rvn (h26.rd 1 rfl)).1 (by first | omega | (rw [sha_len]; omega)) 22 (.tmp 25) (.tmp 26) (by kernel_rfl) .i64 (by kernel_rfl) (by kernel_rfl) 5 (by kernel_rfl) (by kernel_rfl) _) ?_
     refine wq_v (some 28) (Value.int .u8 (ub (gb (k) (i)))) (e_elemN (SB.rvn (h26.rd 1 rfl)).2 i 0 ([(Value.int .u8 (ub (gb (k) (i))))]) (bx_get _ _ (by first | omega | (rw [sha_len]; omega))) 5 (.tmp 27) (by kernel_rfl) (Value.int .u8 (ub (gb (k) (i)))) (by kernel_rfl) (by kernel_rfl) (by kernel_rfl)) ?_
     refine wq_p 1 [(29, (Value.int .u8 (ub c)))] ?_
     refine wq_v (some 30) (Value.int .u8 (ub (((gb (k) (i))) ^^^ c))) (eq_is (v := Value.int .u8 (bits .xor .u8 (ub ((gb (k) (i)))) (ub c))) (by kernel_rfl) (b_xor ((gb (k) (i))) c)) ?_
     refine wq_to (some 31) (x_bsl h26 [(((gb (k) (i))) ^^^ c)] (by kernel_rfl)) ?_
     rintro _ w33 ⟨g33, rfl, hw33, hg33, hq33, h33⟩
     refine wq_to (some 32) (x_appG h33 1 rfl (.tmp 24) (.tmp 31) (by kernel_rfl) (Value.slice (some ⟨g33, 0, none⟩) 1 1) (by kernel_rfl) (by kernel_rfl) (SB.blk (h33.at_ 0 rfl) (by kernel_rfl) (by kernel_rfl) (by kernel_rfl)) (by simp; omega) (o ++ ([(((gb (k) (i))) ^^^ c)])) ((o ++ ([(((gb (k) (i))) ^^^ c)]) : Bytes).length) rfl rfl) ?_
     rintro _ w34 ⟨A34, c34, rfl, h34⟩
     refine wq_p 1 [(7, (Value.slice A34 ((o ++ ([(((gb (k) (i))) ^^^ c)]) : Bytes).length) c34))] ?_
     refine wl_end rfl ?_
     refine blk_n ?_
     refine seq_n hK30 ?_
     refine reg_lit ?_
     refine wq_p 1 [(18, (Value.int .i64 ((i : Int))))] ?_
     refine wq_v (some 19) (Value.int .i64 ((i : Int) + 1)) (exec_add _ _ _ _ rfl ((i : Int)) 1 (by kernel_rfl) (by kernel_rfl) ((i : Int) + 1) rfl (by omega) (by omega) _) ?_
     refine wq_p 1 [(8, (Value.int .i64 ((i : Int) + 1)))] ?_
     refine wl_end rfl ?_
     refine ⟨64 - (i + 1), (by omega), (i + 1), (o ++ ([(((gb (k) (i))) ^^^ c)])), A34, c34, (by omega), (padR4_in ho), (by rw [List.length_append, hol]; rfl), rfl, (patch_eq _ 38 _ (by kernel_rfl) (by kernel_rfl) (by kernel_rfl)), h34.sel [1] [0, 1] (by kernel_rfl) rfl rfl⟩
    ·
     refine reg_lit ?_
     refine wq_p 2 [(34, (Value.int .u8 (ub c))), (33, (Value.slice Av ((o : Bytes).length) cv))] ?_
     refine wq_to (some 35) (x_bsl h26 [c] (by kernel_rfl)) ?_
     rintro _ w35 ⟨g35, rfl, hw35, hg35, hq35, h35⟩
     refine wq_to (some 36) (x_appG h35 1 rfl (.tmp 33) (.tmp 35) (by kernel_rfl) (Value.slice (some ⟨g35, 0, none⟩) 1 1) (by kernel_rfl) (by kernel_rfl) (SB.blk (h35.at_ 0 rfl) (by kernel_rfl) (by kernel_rfl) (by kernel_rfl)) (by simp; omega) (o ++ ([c])) ((o ++ ([c]) : Bytes).length) rfl rfl) ?_
     rintro _ w36 ⟨A36, c36, rfl, h36⟩
     refine wq_p 1 [(7, (Value.slice A36 ((o ++ ([c]) : Bytes).length) c36))] ?_
     refine wl_end rfl ?_
     refine blk_n ?_
     refine seq_n hK30 ?_
     refine reg_lit ?_
     refine wq_p 1 [(18, (Value.int .i64 ((i : Int))))] ?_
     refine wq_v (some 19) (Value.int .i64 ((i : Int) + 1)) (exec_add _ _ _ _ rfl ((i : Int)) 1 (by kernel_rfl) (by kernel_rfl) ((i : Int) + 1) rfl (by omega) (by omega) _) ?_
     refine wq_p 1 [(8, (Value.int .i64 ((i : Int) + 1)))] ?_
     refine wl_end rfl ?_
     refine ⟨64 - (i + 1), (by omega), (i + 1), (o ++ ([c])), A36, c36, (by omega), (padR4_out ho (by omega)), (by rw [List.length_append, hol]; rfl), rfl, (patch_eq _ 38 _ (by kernel_rfl) (by kernel_rfl) (by kernel_rfl)), h36.sel [1] [0, 1] (by kernel_rfl) rfl rfl⟩
   ·
    refine wp_exit ?_
    refine seq_e ?_
    refine seq_e ?_
    refine blk_e ?_
    refine seq_n hK24 ?_
    refine wp_seq_k ?_
    intro K37 hK37
    refine reg_lit ?_
    refine wq_p 2 [(6, (Value.slice Av ((o : Bytes).length) cv)), (37, (Value.slice Av ((o : Bytes).length) cv))] ?_
    refine wl_end rfl ?_
    refine seq_n hK37 ?_
    refine wp_ret ?_
    refine post_1 rfl (by kernel_rfl) (rtmp (v := (Value.slice Av ((o : Bytes).length) cv)) (by kernel_rfl)) ?_
    exact bpost_of h26 0 rfl (by unfold padK; rw [ho, show i = 64 by omega, padR4_all, key64_le k (by omega)])
set_option maxRecDepth 100000 in
set_option maxHeartbeats 4000000 in
theorem rsum_any (C : Option Addr) (e : Nat) (kv bv : Value) (k b : Bytes) (w : World) (hks : RV w 1 C e (wx shaK)) (hk : SB w kv k) (hb : SB w bv b) (hl : k.length ≤ 1000000) (hbl : b.length ≤ 999000) :
    Calls Tryd.prog 34 #[.slice C 64 e, kv, bv] w (BPost w (macF k b)) := by
  obtain ⟨A, d, rfl, hc1, hc2⟩ := sb_form hk
  obtain ⟨B, f, rfl, hc3, hc4⟩ := sb_form hb
  have h0 := ((Hp.ro1 (rSB (.slice B b.length f) b) hb).addR (rSB (.slice A k.length d) k) hk (by simp)).addR (rRV 1 C e (wx shaK)) hks (by simp)
  refine enter 19 Tryd.func34 rfl rfl ?_
  refine wp_reset 22 [(0, (Value.slice C 64 e)), (1, (Value.slice A k.length d)), (2, (Value.slice B b.length f))] (fun x0 => ?_)
  refine wp_seq_k ?_
  intro K1 hK1
  refine reg_lit ?_
  refine wq_p 1 [(6, (Value.slice none 0 0))] ?_
  refine wl_end rfl ?_
  refine seq_n hK1 ?_
  refine wp_seq_k ?_
  intro K2 hK2
  refine reg_lit ?_
  refine wq_p 3 [(10, (Value.slice A k.length d)), (9, (Value.slice C 64 e)), (8, (Value.slice C 64 e))] ?_
  refine wq_to (some 11) (x_bytesE h0 48 [(Value.slice C 64 e), (Value.slice A k.length d), (Value.int .u8 (ub 54))] (by kernel_rfl) (rpadded_any C e (Value.slice A k.length d) k (54 : UInt8) _ (wxL (RV.lenIs (n := 64) (h0.rd 0 rfl) rfl)).2 (h0.rd 1 rfl) (by omega)) (padK k 54) (64) rfl (padK_len _ _).symm) ?_
  rintro _ w3 ⟨A3, c3, rfl, h3⟩
  refine wq_p 1 [(12, (Value.slice B b.length f))] ?_
  refine wq_to (some 13) (x_appG h3 0 rfl (.tmp 11) (.tmp 12) (by kernel_rfl) (Value.slice B b.length f) (by kernel_rfl) (by kernel_rfl) (h3.rd 2 rfl) (by simp only [padK_len]; omega) ((padK k 54) ++ b) (((padK k 54) ++ b).length) rfl rfl) ?_
  rintro _ w4 ⟨A4, c4, rfl, h4⟩
  refine wq_to (some 14) (x_bytesE h4 15 [(Value.slice C 64 e), (Value.slice A4 (((padK k 54) ++ b).length) c4)] (by kernel_rfl) (rdig_any C e (Value.slice A4 (((padK k 54) ++ b).length) c4) ((padK k 54) ++ b) _ (wxL (RV.lenIs (n := 64) (h4.rd 0 rfl) rfl)).2 (OB.sb (h4.at_ 0 rfl)) (by simp only [List.length_append, padK_len]; omega)) (shaF ((padK k 54) ++ b)) (32) rfl (sha_len _).symm) ?_
  rintro _ w5 ⟨A5, c5, rfl, h5⟩
  refine wq_p 1 [(7, (Value.slice A5 32 c5))] ?_
  refine wl_end rfl ?_
  refine seq_n hK2 ?_
  refine wp_seq_k ?_
  intro K6 hK6
  refine reg_lit ?_
  refine wq_p 3 [(17, (Value.slice A k.length d)), (16, (Value.slice C 64 e)), (15, (Value.slice C 64 e))] ?_
  refine wq_to (some 18) (x_bytesE h5 48 [(Value.slice C 64 e), (Value.slice A k.length d), (Value.int .u8 (ub 92))] (by kernel_rfl) (rpadded_any C e (Value.slice A k.length d) k (92 : UInt8) _ (wxL (RV.lenIs (n := 64) (h5.rd 0 rfl) rfl)).2 (h5.rd 1 rfl) (by omega)) (padK k 92) (64) rfl (padK_len _ _).symm) ?_
  rintro _ w7 ⟨A7, c7, rfl, h7⟩
  refine wq_p 1 [(19, (Value.slice A5 32 c5))] ?_
  refine wq_to (some 20) (x_appG h7 0 rfl (.tmp 18) (.tmp 19) (by kernel_rfl) (Value.slice A5 32 c5) (by kernel_rfl) (by kernel_rfl) (OB.sb (h7.at_ 1 rfl)) (by simp only [padK_len, sha_len]; omega) ((padK k 92) ++ (shaF ((padK k 54) ++ b))) (((padK k 92) ++ (shaF ((padK k 54) ++ b))).length) rfl rfl) ?_
  rintro _ w8 ⟨A8, c8, rfl, h8⟩
  refine wq_to (some 21) (x_bytesE h8 15 [(Value.slice C 64 e), (Value.slice A8 (((padK k 92) ++ (shaF ((padK k 54) ++ b))).length) c8)] (by kernel_rfl) (rdig_any C e (Value.slice A8 (((padK k 92) ++ (shaF ((padK k 54) ++ b))).length) c8) ((padK k 92) ++ (shaF ((padK k 54) ++ b))) _ (wxL (RV.lenIs (n := 64) (h8.rd 0 rfl) rfl)).2 (OB.sb (h8.at_ 0 rfl)) (by simp only [List.length_append, padK_len, sha_len]; omega)) (shaF ((padK k 92) ++ (shaF ((padK k 54) ++ b)))) (32) rfl (sha_len _).symm) ?_
  rintro _ w9 ⟨A9, c9, rfl, h9⟩
  refine wq_p 1 [(6, (Value.slice A9 32 c9))] ?_
  refine wl_end rfl ?_
  refine seq_n hK6 ?_
  refine wp_ret ?_
  refine post_1 rfl (by kernel_rfl) (rtmp (v := (Value.slice A9 32 c9)) (by kernel_rfl)) ?_
  exact bpost_of h9 0 rfl rfl
set_option maxRecDepth 100000 in
set_option maxHeartbeats 4000000 in
theorem rderive4_any (C : Option Addr) (e : Nat) (kv : Value) (k : Bytes) (s : ByteArray) (w : World) (hks : RV w 1 C e (wx shaK)) (hk : SB w kv k) (hl : k.length ≤ 1000000) (hs : s.size ≤ 10000) :
    Calls Tryd.prog 30 #[.slice C 64 e, kv, .string s] w (SPost w (derF k s.data.toList)) := by
  obtain ⟨A, d, rfl, hc1, hc2⟩ := sb_form hk
  have hsz : s.data.toList.length = s.size := bsize s
  have h0 := (Hp.ro1 (rSB (.slice A k.length d) k) hk).addR (rRV 1 C e (wx shaK)) hks (by simp)
  refine enter 12 Tryd.func30 rfl rfl ?_
  refine wp_reset 15 [(0, (Value.slice C 64 e)), (1, (Value.slice A k.length d)), (2, (Value.string s))] (fun x0 => ?_)
  refine wp_seq_k ?_
  intro K1 hK1
  refine reg_lit ?_
  refine wq_p 1 [(6, (Value.slice none 0 0))] ?_
  refine wl_end rfl ?_
  refine seq_n hK1 ?_
  refine wp_seq_k ?_
  intro K2 hK2
  refine reg_lit ?_
  refine wq_p 3 [(9, (Value.string s)), (8, (Value.slice A k.length d)), (7, (Value.slice C 64 e))] ?_
  refine wq_to (some 10) (x_convM h0 (.tmp 9) (by kernel_rfl) s (by kernel_rfl) (by omega) (s.data.toList) rfl (s.data.toList.length) rfl) ?_
  rintro _ w3 ⟨A3, c3, rfl, h3⟩
  refine wq_to (some 11) (x_bsl h3 [0, 1] (by kernel_rfl)) ?_
  rintro _ w4 ⟨g4, rfl, hw4, hg4, hq4, h4⟩
  refine wq_to (some 12) (x_appM h4 1 rfl (.tmp 10) (.tmp 11) (by kernel_rfl) (Value.slice (some ⟨g4, 0, none⟩) 2 2) (by kernel_rfl) (by kernel_rfl) (SB.blk (h4.at_ 0 rfl) (by kernel_rfl) (by kernel_rfl) (by kernel_rfl)) (by decide) (by simp; omega) (s.data.toList ++ ([0, 1])) ((s.data.toList ++ ([0, 1]) : Bytes).length) rfl rfl) ?_
  rintro _ w5 ⟨A5, c5, rfl, h5⟩
  refine wq_to (some 13) (x_bytesE h5 34 [(Value.slice C 64 e), (Value.slice A k.length d), (Value.slice A5 ((s.data.toList ++ ([0, 1]) : Bytes).length) c5)] (by kernel_rfl) (rsum_any C e (Value.slice A k.length d) (Value.slice A5 ((s.data.toList ++ ([0, 1]) : Bytes).length) c5) k (s.data.toList ++ ([0, 1])) _ (wxL (RV.lenIs (n := 64) (h5.rd 0 rfl) rfl)).2 (h5.rd 1 rfl) (h5.at_ 1 rfl) hl (by simp only [List.length_append, hsz]; show _ + 2 ≤ _; omega)) (macF k (s.data.toList ++ ([0, 1]))) (32) rfl (mac_len _ _).symm) ?_
  rintro _ w6 ⟨A6, c6, rfl, h6⟩
  refine wq_v (some 14) (cutS (Value.slice A6 32 c6) 0 16) (e_cut_h (OB.sb (h6.at_ 0 rfl)) (.tmp 13) (.const (Value.int .i64 16)) (by kernel_rfl) (by kernel_rfl) .i64 16 (by kernel_rfl) (by rw [mac_len]; decide) _) ?_
  refine wq_p 1 [(6, (cutS (Value.slice A6 32 c6) 0 16))] ?_
  refine wl_end rfl ?_
  refine seq_n hK2 ?_
  refine wp_ret ?_
  refine post_1 rfl (by kernel_rfl) (rtmp (v := (cutS (Value.slice A6 32 c6) 0 16)) (by kernel_rfl)) ?_
  exact spost_of h6 0 rfl 0 16 (by rw [mac_len]; decide) (by rw [List.drop_zero]; rfl)
end Go.Proofs.YtpkelokaammmjaaDoor
end
/-! Steps for the walk of compeerref06.Digits. -/
section
namespace Go.Proofs.YtpkelokaammmjaaDoor
open Go.RowKit Go.QT
section
variable {P : Program} {o : Oper} {a : Act} {w w' : World} {F0 : Nat → Prop} {w0 : World} {ro rs : List Res}
theorem e_remI (op1 op2 : Operand) (t t' : TypeId) (ho : o.op = .binOp .rem t op1 op2 t') (x y : Int) (hx : a.eval op1 = .int .i64 x) (hy : a.eval op2 = .int .i64 y) (h0 : y ≠ 0) (r : Int) (hr : x.tmod y = r) (W : World) :
    (execOp a.eval o).run P W = .ok (.value (.int .i64 r)) W := by
  subst hr
  unfold execOp
  simp only [ho, hx, hy, eqGuard_rem, binOp_rem, Op.intDiv, Sem.run_bind, Sem.run_pure, Result.andThen_ok, if_neg h0]
theorem e_quoI (op1 op2 : Operand) (t t' : TypeId) (ho : o.op = .binOp .quo t op1 op2 t') (x y : Int) (hx : a.eval op1 = .int .i64 x) (hy : a.eval op2 = .int .i64 y) (h0 : y ≠ 0) (r : Int) (hr : x.tdiv y = r) (h1 : -9223372036854775808 ≤ r) (h2 : r ≤ 9223372036854775807) (W : World) :
    (execOp a.eval o).run P W = .ok (.value (.int .i64 r)) W := by
  subst hr
  have e : IntKind.i64.wrap (x.tdiv y) = x.tdiv y := by rw [IntKind.wrap_i64]; omega
  unfold execOp
  simp only [ho, hx, hy, eqGuard_quo, binOp_quo, Op.intDiv, Sem.run_bind, Sem.run_pure, Result.andThen_ok, if_neg h0, e]
theorem w_i32 (n : Nat) (h : n < 2147483648) : Value.int .i32 (IntKind.i32.wrap ((n : Nat) : Int)) = Value.int .i32 ((n : Nat) : Int) := by
  congr 1
  simp [IntKind.wrap, IntKind.bits, IntKind.signed]
  omega
/-- A digit's text. -/
def chr1 (d : Nat) : ByteArray := ⟨#[UInt8.ofNat (48 + d)]⟩
theorem chr1_l (d : Nat) : (chr1 d).data.toList = [UInt8.ofNat (48 + d)] := rfl
theorem chr1_run (d : Nat) (hd : d < 10) (W : World) : (convert 21 9 (.int .i32 ((48 + d : Nat) : Int))).run Tryd.prog W = .ok (.string (chr1 d)) W := by
  obtain rfl | rfl | rfl | rfl | rfl | rfl | rfl | rfl | rfl | rfl : d = 0 ∨ d = 1 ∨ d = 2 ∨ d = 3 ∨ d = 4 ∨ d = 5 ∨ d = 6 ∨ d = 7 ∨ d = 8 ∨ d = 9 := by omega
  all_goals exact pureVal_run (by kernel_rfl) W
theorem e_chr (x : Operand) (ho : o.op = .convert 21 9 x) (d : Nat) (hd : d < 10) (hx : a.eval x = .int .i32 ((48 + d : Nat) : Int)) (W : World) :
    (execOp a.eval o).run Tryd.prog W = .ok (.value (.string (chr1 d))) W := by
  unfold execOp
  simp only [ho, hx, Sem.run_bind, chr1_run d hd, Result.andThen_ok, Sem.run_pure]
end
theorem dd_lt (n : Nat) (h : n < 10) : Lib.decDigits n = [UInt8.ofNat (48 + n % 10)] := by
  rw [Lib.decDigits, dif_pos h, Nat.mod_eq_of_lt h]
theorem dd_ge (n : Nat) (h : 10 ≤ n) : Lib.decDigits n = Lib.decDigits (n / 10) ++ [UInt8.ofNat (48 + n % 10)] := by
  rw [Lib.decDigits, dif_neg (by omega)]
theorem dd_len (k : Nat) : ∀ n, n < 10 ^ (k + 1) → (Lib.decDigits n).length ≤ k + 1 := by
  induction k with
  | zero => intro n h; rw [dd_lt n (by simpa using h)]; simp
  | succ k ih =>
    intro n h
    by_cases h10 : n < 10
    · rw [dd_lt n h10]; simp
    · rw [dd_ge n (by omega), List.length_append]
      have := ih (n / 10) (by rw [Nat.pow_succ] at h; omega)
      simp; omega
/-- The digits ahead of the last one. -/
def ddH (n : Nat) : Bytes := if n < 10 then [] else Lib.decDigits (n / 10)
theorem dd_split (n : Nat) : Lib.decDigits n = ddH n ++ [UInt8.ofNat (48 + n % 10)] := by
  unfold ddH
  split
  · rename_i h; rw [dd_lt n h]; rfl
  · rename_i h; exact dd_ge n (by omega)
theorem sz_of {B : ByteArray} {l m : Bytes} (h : l = m ++ B.data.toList) (k : Nat) (hl : l.length ≤ k) : B.size ≤ k := by
  have h1 : B.data.toList.length = B.size := by rw [Array.length_toList]; rfl
  rw [h, List.length_append, h1] at hl
  omega
/-- The text of a number. -/
def itoaB (n : Int) : ByteArray := ⟨(Lib.itoa n).toArray⟩
theorem ba_ext {B C : ByteArray} (h : B.data.toList = C.data.toList) : B = C := by
  cases B; cases C; congr 1; exact Array.ext' h
theorem dig_up {N n : Nat} {B : ByteArray} (h : Lib.decDigits N = ddH n ++ B.data.toList) (hn : 10 ≤ n) : Lib.decDigits N = ddH (n / 10) ++ (chr1 (n / 10 % 10) ++ B).data.toList := by
  rw [h, ByteArray.data_append, Array.toList_append, chr1_l, ← List.append_assoc, ← dd_split]
  congr 1
  unfold ddH; rw [if_neg (by omega)]
theorem dig_first (N : Nat) : Lib.decDigits N = ddH N ++ (chr1 (N % 10)).data.toList := by rw [chr1_l]; exact dd_split N
theorem dig_end {N n : Nat} {B : ByteArray} (h : Lib.decDigits N = ddH n ++ B.data.toList) (hn : n < 10) : B = itoaB (N : Int) := by
  apply ba_ext
  unfold itoaB Lib.itoa
  rw [if_neg (by omega), Int.toNat_natCast, h]
  unfold ddH; rw [if_pos hn]; simp
theorem neg_up {N n : Nat} {B : ByteArray} (h : Lib.decDigits N = Lib.decDigits n ++ B.data.toList) (hn : 10 ≤ n) : Lib.decDigits N = Lib.decDigits (n / 10) ++ (chr1 (n % 10) ++ B).data.toList := by
  rw [h, ByteArray.data_append, Array.toList_append, chr1_l, ← List.append_assoc, ← dd_ge n hn]
theorem neg_end {N n : Nat} {B : ByteArray} (h : Lib.decDigits N = Lib.decDigits n ++ B.data.toList) (hn : n < 10) (hN : 0 < N) : (⟨#[45]⟩ ++ chr1 (n % 10)) ++ B = itoaB (-(N : Int)) := by
  apply ba_ext
  unfold itoaB Lib.itoa
  rw [if_pos (by omega), Int.natAbs_neg, Int.natAbs_natCast, h, dd_lt n hn]
  simp [chr1]
end Go.Proofs.YtpkelokaammmjaaDoor
end
/-! The walk of compeerref06.Digits. -/
section
namespace Go.Proofs.YtpkelokaammmjaaDoor
open Go.RowKit Go.QT
attribute [local irreducible] chr1 itoaB
set_option maxRecDepth 100000 in
set_option maxHeartbeats 4000000 in
theorem rdigits_any (n0 : Int) (hlo : -9223372036854775808 ≤ n0) (hhi : n0 ≤ 9223372036854775807) (w : World) :
    Calls Tryd.prog 31 #[.int .i64 n0] w (NPost w (.string (itoaB n0))) := by
  have hL : ∀ N : Nat, N ≤ 9223372036854775808 → (Lib.decDigits N).length ≤ 20 := fun N hN => dd_len 19 N (by omega)
  have h0 := Hp.nil (fun _ => False) w
  refine enter 42 Tryd.func31 rfl rfl ?_
  refine wp_reset 43 [(0, (Value.int .i64 n0))] (fun x0 => ?_)
  refine wp_seq_k ?_
  intro K1 hK1
  refine reg_lit ?_
  refine wq_p 1 [(2, (Value.string (⟨#[]⟩)))] ?_
  refine wl_end rfl ?_
  refine seq_n hK1 ?_
  refine wp_seq_k ?_
  intro K2 hK2
  refine wp_seq_k ?_
  intro K3 hK3
  refine reg_lit ?_
  refine wq_p 2 [(6, (Value.bool (decide (n0 < 0)))), (5, (Value.int .i64 n0))] ?_
  refine wl_end rfl ?_
  refine seq_n hK3 ?_
  refine wp_if (n0 < 0) (by kernel_rfl) (fun b4 => ?_) (fun b4 => ?_)
  ·
   refine wp_seq_k ?_
   intro K5 hK5
   obtain ⟨N, rfl⟩ : ∃ N : Nat, n0 = -(N : Int) := ⟨n0.natAbs, by omega⟩
   
   refine reg_lit ?_
   refine wq_p 1 [(3, (Value.string (⟨#[]⟩)))] ?_
   refine wl_end rfl ?_
   refine seq_n hK5 ?_
   refine wp_seq_k ?_
   intro K6 hK6
   refine wp_block ?_
   refine wp_loopm (fun mM xX aA wL => ∃ (n : Nat) (B : ByteArray), (n ≤ N) ∧ (0 < n) ∧ (Lib.decDigits N = Lib.decDigits n ++ (B).data.toList) ∧ mM = n + 1 ∧ aA = patch xX 43 [(0, (Value.int .i64 (-(n : Int)))), (2, (Value.string (⟨#[]⟩))), (3, (Value.string B)), (6, (Value.bool (decide ((-(N : Int)) < 0))))] ∧ Hp (fun _ => False) w wL [] []) ⟨_, N, ByteArray.empty, (Nat.le_refl _), (by omega), (by simp), rfl, (patch_eq _ 43 _ (by kernel_rfl) (by kernel_rfl) (by kernel_rfl)), h0.sel [] [] (by kernel_rfl) rfl rfl⟩ ?_
   rintro _ x7 _ w7 ⟨n, B, hn, hp, hd, rfl, rfl, h7⟩
   refine wp_seq_k ?_
   intro K8 hK8
   refine wp_seq_k ?_
   intro K9 hK9
   refine reg_lit ?_
   refine wq_p 2 [(8, (Value.bool (decide (-(n : Int) ≤ -10)))), (7, (Value.int .i64 (-(n : Int))))] ?_
   refine wl_end rfl ?_
   refine seq_n hK9 ?_
   refine wp_if (-(n : Int) ≤ -10) (by kernel_rfl) (fun b10 => ?_) (fun b10 => ?_)
   ·
    refine wp_skip ?_
    refine seq_n hK8 ?_
    refine wp_block ?_
    refine wp_seq_k ?_
    intro K11 hK11
    refine reg_lit ?_
    refine wq_p 1 [(9, (Value.int .i64 (-(n : Int))))] ?_
    refine wq_v (some 10) (Value.int .i64 (-(((n) % 10 : Nat) : Int))) (e_remI (.tmp 9) (.const (Value.int .i64 10)) 3 3 (by kernel_rfl) (-(n : Int)) 10 (by kernel_rfl) (by kernel_rfl) (by decide) (-(((n) % 10 : Nat) : Int)) (by rw [Int.neg_tmod]; rfl) _) ?_
    refine wq_v (some 11) (Value.int .i64 (((48 + (n) % 10 : Nat) : Int))) (exec_sub _ _ _ _ rfl 48 (-(((n) % 10 : Nat) : Int)) (by kernel_rfl) (by kernel_rfl) (((48 + (n) % 10 : Nat) : Int)) (by omega) (by omega) (by omega) _) ?_
    refine wq_v (some 12) (Value.int .i32 (((48 + (n) % 10 : Nat) : Int))) (eq_is (v := Value.int .i32 (IntKind.i32.wrap ((48 + (n) % 10 : Nat) : Int))) (by kernel_rfl) (w_i32 _ (by omega))) ?_
    refine wq_v (some 13) (Value.string (chr1 ((n) % 10))) (e_chr (.tmp 12) (by kernel_rfl) ((n) % 10) (by omega) (by kernel_rfl) _) ?_
    refine wq_p 1 [(14, (Value.string B))] ?_
    refine wq_v (some 15) (Value.string ((chr1 ((n) % 10)) ++ B)) (e_sadd (.tmp 13) (.tmp 14) 9 9 (by kernel_rfl) (chr1 ((n) % 10)) B (by kernel_rfl) (by kernel_rfl) (by unfold chr1; show 1 ≤ 1000000; decide) (Nat.le_trans (sz_of hd 20 (hL _ (by omega))) (by decide)) _) ?_
    refine wq_p 1 [(3, (Value.string ((chr1 ((n) % 10)) ++ B)))] ?_
    refine wl_end rfl ?_
    refine seq_n hK11 ?_
    refine reg_lit ?_
    refine wq_p 1 [(16, (Value.int .i64 (-(n : Int))))] ?_
    refine wq_v (some 17) (Value.int .i64 (-(((n) / 10 : Nat) : Int))) (e_quoI (.tmp 16) (.const (Value.int .i64 10)) 3 3 (by kernel_rfl) (-(n : Int)) 10 (by kernel_rfl) (by kernel_rfl) (by decide) (-(((n) / 10 : Nat) : Int)) (by rw [Int.neg_tdiv]; rfl) (by omega) (by omega) _) ?_
    refine wq_p 1 [(0, (Value.int .i64 (-(((n) / 10 : Nat) : Int))))] ?_
    refine wl_end rfl ?_
    refine blk_n ?_
    refine ⟨(n) / 10 + 1, (by omega), ((n) / 10), ((chr1 ((n) % 10)) ++ B), (by omega), (by omega), (neg_up hd (by omega)), rfl, (patch_eq _ 43 _ (by kernel_rfl) (by kernel_rfl) (by kernel_rfl)), h7.sel [] [] (by kernel_rfl) rfl rfl⟩
   ·
    refine wp_exit ?_
    refine seq_e ?_
    refine seq_e ?_
    refine blk_e ?_
    refine seq_n hK6 ?_
    refine wp_seq_k ?_
    intro K12 hK12
    refine reg_lit ?_
    refine wq_p 1 [(18, (Value.int .i64 (-(n : Int))))] ?_
    refine wq_v (some 19) (Value.int .i64 (-(((n) % 10 : Nat) : Int))) (e_remI (.tmp 18) (.const (Value.int .i64 10)) 3 3 (by kernel_rfl) (-(n : Int)) 10 (by kernel_rfl) (by kernel_rfl) (by decide) (-(((n) % 10 : Nat) : Int)) (by rw [Int.neg_tmod]; rfl) _) ?_
    refine wq_v (some 20) (Value.int .i64 (((48 + (n) % 10 : Nat) : Int))) (exec_sub _ _ _ _ rfl 48 (-(((n) % 10 : Nat) : Int)) (by kernel_rfl) (by kernel_rfl) (((48 + (n) % 10 : Nat) : Int)) (by omega) (by omega) (by omega) _) ?_
    refine wq_v (some 21) (Value.int .i32 (((48 + (n) % 10 : Nat) : Int))) (eq_is (v := Value.int .i32 (IntKind.i32.wrap ((48 + (n) % 10 : Nat) : Int))) (by kernel_rfl) (w_i32 _ (by omega))) ?_
    refine wq_v (some 22) (Value.string (chr1 ((n) % 10))) (e_chr (.tmp 21) (by kernel_rfl) ((n) % 10) (by omega) (by kernel_rfl) _) ?_
    refine wq_v (some 23) (Value.string ((⟨#[45]⟩) ++ (chr1 ((n) % 10)))) (e_sadd (.const (Value.string (⟨#[45]⟩))) (.tmp 22) 9 9 (by kernel_rfl) (⟨#[45]⟩) (chr1 ((n) % 10)) (by kernel_rfl) (by kernel_rfl) (by show 1 ≤ 1000000; decide) (by unfold chr1; show 1 ≤ 1000000; decide) _) ?_
    refine wq_p 1 [(24, (Value.string B))] ?_
    refine wq_v (some 25) (Value.string (((⟨#[45]⟩) ++ (chr1 ((n) % 10))) ++ B)) (e_sadd (.tmp 23) (.tmp 24) 9 9 (by kernel_rfl) ((⟨#[45]⟩) ++ (chr1 ((n) % 10))) B (by kernel_rfl) (by kernel_rfl) (by rw [ByteArray.size_append]; unfold chr1; show 1 + 1 ≤ 1000000; decide) (Nat.le_trans (sz_of hd 20 (hL _ (by omega))) (by decide)) _) ?_
    refine wq_p 1 [(2, (Value.string (((⟨#[45]⟩) ++ (chr1 ((n) % 10))) ++ B)))] ?_
    refine wl_end rfl ?_
    refine seq_n hK12 ?_
    refine wp_ret ?_
    refine seq_r ?_
    refine post_1 rfl (by kernel_rfl) (rtmp (v := (Value.string (((⟨#[45]⟩) ++ (chr1 ((n) % 10))) ++ B))) (by kernel_rfl)) ?_
    exact ⟨by rw [neg_end hd (by omega) (by omega)], h7.below0⟩
  ·
   refine wp_skip ?_
   refine seq_n hK2 ?_
   refine wp_seq_k ?_
   intro K13 hK13
   obtain ⟨N, rfl⟩ : ∃ N : Nat, n0 = (N : Int) := ⟨n0.natAbs, by omega⟩
   
   refine reg_lit ?_
   refine wq_p 1 [(26, (Value.int .i64 ((N : Int))))] ?_
   refine wq_v (some 27) (Value.int .i64 ((((N) % 10 : Nat) : Int))) (e_remI (.tmp 26) (.const (Value.int .i64 10)) 3 3 (by kernel_rfl) ((N : Int)) 10 (by kernel_rfl) (by kernel_rfl) (by decide) ((((N) % 10 : Nat) : Int)) (by rfl) _) ?_
   refine wq_v (some 28) (Value.int .i64 (((48 + (N) % 10 : Nat) : Int))) (exec_add _ _ _ _ rfl 48 ((((N) % 10 : Nat) : Int)) (by kernel_rfl) (by kernel_rfl) (((48 + (N) % 10 : Nat) : Int)) (by omega) (by omega) (by omega) _) ?_
   refine wq_v (some 29) (Value.int .i32 (((48 + (N) % 10 : Nat) : Int))) (eq_is (v := Value.int .i32 (IntKind.i32.wrap ((48 + (N) % 10 : Nat) : Int))) (by kernel_rfl) (w_i32 _ (by omega))) ?_
   refine wq_v (some 30) (Value.string (chr1 ((N) % 10))) (e_chr (.tmp 29) (by kernel_rfl) ((N) % 10) (by omega) (by kernel_rfl) _) ?_
   refine wq_p 1 [(4, (Value.string (chr1 ((N) % 10))))] ?_
   refine wl_end rfl ?_
   refine seq_n hK13 ?_
   refine wp_seq_k ?_
   intro K14 hK14
   refine wp_block ?_
   refine wp_loopm (fun mM xX aA wL => ∃ (n : Nat) (B : ByteArray), (n ≤ N) ∧ (Lib.decDigits N = ddH n ++ (B).data.toList) ∧ mM = n + 1 ∧ aA = patch xX 43 [(0, (Value.int .i64 ((n : Int)))), (2, (Value.string (⟨#[]⟩))), (4, (Value.string B)), (6, (Value.bool (decide (((N : Int)) < 0))))] ∧ Hp (fun _ => False) w wL [] []) ⟨_, N, (chr1 ((N) % 10)), (Nat.le_refl _), (dig_first N), rfl, (patch_eq _ 43 _ (by kernel_rfl) (by kernel_rfl) (by kernel_rfl)), h0.sel [] [] (by kernel_rfl) rfl rfl⟩ ?_
   rintro _ x15 _ w15 ⟨n, B, hn, hd, rfl, rfl, h15⟩
   refine wp_seq_k ?_
   intro K16 hK16
   refine wp_seq_k ?_
   intro K17 hK17
   refine reg_lit ?_
   refine wq_p 2 [(32, (Value.bool (decide ((n : Int) ≥ 10)))), (31, (Value.int .i64 ((n : Int))))] ?_
   refine wl_end rfl ?_
   refine seq_n hK17 ?_
   refine wp_if ((n : Int) ≥ 10) (by kernel_rfl) (fun b18 => ?_) (fun b18 => ?_)
   ·
    refine wp_skip ?_
    refine seq_n hK16 ?_
    refine wp_block ?_
    refine wp_seq_k ?_
    intro K19 hK19
    refine reg_lit ?_
    refine wq_p 1 [(33, (Value.int .i64 ((n : Int))))] ?_
    refine wq_v (some 34) (Value.int .i64 ((((n) / 10 : Nat) : Int))) (e_quoI (.tmp 33) (.const (Value.int .i64 10)) 3 3 (by kernel_rfl) ((n : Int)) 10 (by kernel_rfl) (by kernel_rfl) (by decide) ((((n) / 10 : Nat) : Int)) (by rfl) (by omega) (by omega) _) ?_
    refine wq_p 1 [(0, (Value.int .i64 ((((n) / 10 : Nat) : Int))))] ?_
    refine wl_end rfl ?_
    refine seq_n hK19 ?_
    refine reg_lit ?_
    refine wq_p 1 [(35, (Value.int .i64 ((((n) / 10 : Nat) : Int))))] ?_
    refine wq_v (some 36) (Value.int .i64 (((((((n) / 10))) % 10 : Nat) : Int))) (e_remI (.tmp 35) (.const (Value.int .i64 10)) 3 3 (by kernel_rfl) ((((n) / 10 : Nat) : Int)) 10 (by kernel_rfl) (by kernel_rfl) (by decide) (((((((n) / 10))) % 10 : Nat) : Int)) (by rfl) _) ?_
    refine wq_v (some 37) (Value.int .i64 (((48 + ((((n) / 10))) % 10 : Nat) : Int))) (exec_add _ _ _ _ rfl 48 (((((((n) / 10))) % 10 : Nat) : Int)) (by kernel_rfl) (by kernel_rfl) (((48 + ((((n) / 10))) % 10 : Nat) : Int)) (by omega) (by omega) (by omega) _) ?_
    refine wq_v (some 38) (Value.int .i32 (((48 + ((((n) / 10))) % 10 : Nat) : Int))) (eq_is (v := Value.int .i32 (IntKind.i32.wrap ((48 + ((((n) / 10))) % 10 : Nat) : Int))) (by kernel_rfl) (w_i32 _ (by omega))) ?_
    refine wq_v (some 39) (Value.string (chr1 (((((n) / 10))) % 10))) (e_chr (.tmp 38) (by kernel_rfl) (((((n) / 10))) % 10) (by omega) (by kernel_rfl) _) ?_
    refine wq_p 1 [(40, (Value.string B))] ?_
    refine wq_v (some 41) (Value.string ((chr1 (((((n) / 10))) % 10)) ++ B)) (e_sadd (.tmp 39) (.tmp 40) 9 9 (by kernel_rfl) (chr1 (((((n) / 10))) % 10)) B (by kernel_rfl) (by kernel_rfl) (by unfold chr1; show 1 ≤ 1000000; decide) (Nat.le_trans (sz_of hd 20 (hL _ (by omega))) (by decide)) _) ?_
    refine wq_p 1 [(4, (Value.string ((chr1 (((((n) / 10))) % 10)) ++ B)))] ?_
    refine wl_end rfl ?_
    refine blk_n ?_
    refine ⟨(n) / 10 + 1, (by omega), ((n) / 10), ((chr1 (((((n) / 10))) % 10)) ++ B), (by omega), (dig_up hd (by omega)), rfl, (patch_eq _ 43 _ (by kernel_rfl) (by kernel_rfl) (by kernel_rfl)), h15.sel [] [] (by kernel_rfl) rfl rfl⟩
   ·
    refine wp_exit ?_
    refine seq_e ?_
    refine seq_e ?_
    refine blk_e ?_
    refine seq_n hK14 ?_
    refine wp_seq_k ?_
    intro K20 hK20
    refine reg_lit ?_
    refine wq_p 2 [(2, (Value.string B)), (42, (Value.string B))] ?_
    refine wl_end rfl ?_
    refine seq_n hK20 ?_
    refine wp_ret ?_
    refine post_1 rfl (by kernel_rfl) (rtmp (v := (Value.string B)) (by kernel_rfl)) ?_
    exact ⟨by rw [dig_end hd (by omega)], h15.below0⟩
end Go.Proofs.YtpkelokaammmjaaDoor
end
/-! The walks of compeerref03: at, times, above. -/
section
namespace Go.Proofs.YtpkelokaammmjaaDoor
open Go.RowKit Go.QT
set_option maxRecDepth 100000 in
set_option maxHeartbeats 4000000 in
theorem lat_any (A : Option Addr) (c : Nat) (l : List Nat) (n k : Nat) (w : World) (hv : l.length = n ∧ RV w 1 A c (nx l)) (hl : n ≤ 1000) (_hk : k ≤ 1000) :
    Calls Tryd.prog 60 #[.slice A n c, .int .i64 (k : Int)] w (NPost w (.int .u64 ((gn l k : Nat) : Int))) := by
  obtain ⟨rfl, hv⟩ := hv
  have h0 := Hp.ro1 (rRV 1 A c (nx l)) hv
  refine enter 11 Tryd.func60 rfl rfl ?_
  refine wp_reset 13 [(0, (Value.slice A l.length c)), (1, (Value.int .i64 ((k : Int))))] (fun x0 => ?_)
  refine wp_seq_k ?_
  intro K1 hK1
  refine reg_lit ?_
  refine wq_p 1 [(4, (Value.int .u64 0))] ?_
  refine wl_end rfl ?_
  refine seq_n hK1 ?_
  refine wp_seq_k ?_
  intro K2 hK2
  refine wp_seq_k ?_
  intro K3 hK3
  refine reg_lit ?_
  refine wq_p 4 [(8, (Value.bool (decide ((k : Int) < (l.length : Int))))), (7, (Value.int .i64 ((l.length : Int)))), (6, (Value.slice A l.length c)), (5, (Value.int .i64 ((k : Int))))] ?_
  refine wl_end rfl ?_
  refine seq_n hK3 ?_
  refine wp_if ((k : Int) < (l.length : Int)) (by kernel_rfl) (fun b4 => ?_) (fun b4 => ?_)
  ·
   refine wp_seq_k ?_
   intro K5 hK5
   refine reg_lit ?_
   refine wq_p 2 [(10, (Value.int .i64 ((k : Int)))), (9, (Value.slice A l.length c))] ?_
   refine wq_v (some 11) (eAt A (k * 1 + 0)) (e_idxN (RV.lenIs (n := l.length) (h0.rd 0 rfl) (nx_len l)).2 k l.length (RV.lenIs (n := l.length) (h0.rd 0 rfl) (nx_len l)).1 (by omega) 66 (.tmp 9) (.tmp 10) (by kernel_rfl) .i64 (by kernel_rfl) (by kernel_rfl) 34 (by kernel_rfl) (by kernel_rfl) _) ?_
   refine wq_v (some 12) (Value.int .u64 (((gn l (k) : Nat) : Int))) (e_elemN (RV.lenIs (n := l.length) (h0.rd 0 rfl) (nx_len l)).2 k 0 ([(Value.int .u64 (((gn l (k) : Nat) : Int)))]) (nx_get l (k) (by omega)) 34 (.tmp 11) (by kernel_rfl) (Value.int .u64 (((gn l (k) : Nat) : Int))) (by kernel_rfl) (by kernel_rfl) (by kernel_rfl)) ?_
   refine wq_p 1 [(4, (Value.int .u64 (((gn l (k) : Nat) : Int))))] ?_
   refine wl_end rfl ?_
   refine seq_n hK5 ?_
   refine wp_ret ?_
   refine seq_r ?_
   refine post_1 rfl (by kernel_rfl) (rtmp (v := (Value.int .u64 (((gn l (k) : Nat) : Int)))) (by kernel_rfl)) ?_
   exact ⟨rfl, h0.below0⟩
  ·
   refine wp_skip ?_
   refine seq_n hK2 ?_
   refine wp_seq_k ?_
   intro K6 hK6
   refine reg_lit ?_
   refine wq_p 1 [(4, (Value.int .u64 0))] ?_
   refine wl_end rfl ?_
   refine seq_n hK6 ?_
   refine wp_ret ?_
   refine post_1 rfl (by kernel_rfl) (rtmp (v := (Value.int .u64 0)) (by kernel_rfl)) ?_
   exact ⟨by simp [gn, List.getElem?_eq_none (show l.length ≤ k by omega)], h0.below0⟩
set_option maxRecDepth 100000 in
set_option maxHeartbeats 4000000 in
theorem times_any (A B : Option Addr) (c d : Nat) (a b : List Nat) (m n : Nat) (w : World) (ha : a.length = m ∧ RV w 1 A c (nx a)) (hb : b.length = n ∧ RV w 1 B d (nx b)) (hla : m ≤ 100) (hlb : n ≤ 100) (h0 : 0 < n) :
    Calls Tryd.prog 59 #[.slice A m c, .slice B n d] w (VOPost w 34 1 (nx (timesN a b))) := by
  obtain ⟨rfl, ha⟩ := ha
  obtain ⟨rfl, hb⟩ := hb
  have h0 := (Hp.ro1 (rRV 1 B d (nx b)) hb).addR (rRV 1 A c (nx a)) ha (by simp)
  refine enter 85 Tryd.func59 rfl rfl ?_
  refine wp_reset 87 [(0, (Value.slice A a.length c)), (1, (Value.slice B b.length d))] (fun x0 => ?_)
  refine wp_seq_k ?_
  intro K1 hK1
  refine reg_lit ?_
  refine wq_p 1 [(4, (Value.slice none 0 0))] ?_
  refine wl_end rfl ?_
  refine seq_n hK1 ?_
  refine wp_seq_k ?_
  intro K2 hK2
  refine reg_lit ?_
  refine wq_to (some 10) (x_bs0 h0 34 1 (by kernel_rfl)) ?_
  rintro _ w3 ⟨A3, rfl, h3⟩
  refine wq_p 1 [(5, (Value.slice A3 0 0))] ?_
  refine wl_end rfl ?_
  refine seq_n hK2 ?_
  refine wp_seq_k ?_
  intro K4 hK4
  refine wp_seq_k ?_
  intro K5 hK5
  refine reg_lit ?_
  refine wq_p 1 [(6, (Value.int .i64 0))] ?_
  refine wl_end rfl ?_
  refine seq_n hK5 ?_
  refine wp_block ?_
  refine wp_loopm (fun mM xX aA wL => ∃ (k : Nat) (L : List Nat) (Av : Option Addr) (cv : Nat), (k ≤ a.length + b.length) ∧ (L = List.replicate (k) (0 : Nat)) ∧ ((L : List Nat).length = k) ∧ mM = a.length + b.length - (k) ∧ aA = patch xX 87 [(0, (Value.slice A a.length c)), (1, (Value.slice B b.length d)), (4, (Value.slice none 0 0)), (5, (Value.slice Av k cv)), (6, (Value.int .i64 ((k : Int))))] ∧ Hp (fun _ => False) w wL [rRV 1 A c (nx a), rRV 1 B d (nx b)] [rOV 34 1 ((Value.slice Av k cv)) (nx L)]) ⟨_, 0, ([]), A3, 0, (by omega), rfl, rfl, rfl, (patch_eq _ 87 _ (by kernel_rfl) (by kernel_rfl) (by kernel_rfl)), h3.sel [0] [0, 1] (by kernel_rfl) rfl rfl⟩ ?_
  rintro _ x6 _ w6 ⟨k, L, Av, cv, hk, hL, hl, rfl, rfl, h6⟩
  refine wp_seq_k ?_
  intro K7 hK7
  refine wp_seq_k ?_
  intro K8 hK8
  refine reg_lit ?_
  refine wq_p 5 [(15, (Value.int .i64 ((b.length : Int)))), (14, (Value.slice B b.length d)), (13, (Value.int .i64 ((a.length : Int)))), (12, (Value.slice A a.length c)), (11, (Value.int .i64 ((k : Int))))] ?_
  refine wq_v (some 16) (Value.int .i64 ((((a.length) + (b.length) : Nat) : Int))) (exec_add _ _ _ _ rfl ((a.length : Int)) ((b.length : Int)) (by kernel_rfl) (by kernel_rfl) ((((a.length) + (b.length) : Nat) : Int)) (by omega) (by omega) (by omega) _) ?_
  refine wq_p 1 [(17, (Value.bool (decide ((k : Int) < (((a.length) + (b.length) : Nat) : Int)))))] ?_
  refine wl_end rfl ?_
  refine seq_n hK8 ?_
  refine wp_if ((k : Int) < (((a.length) + (b.length) : Nat) : Int)) (by kernel_rfl) (fun b9 => ?_) (fun b9 => ?_)
  ·
   refine wp_skip ?_
   refine seq_n hK7 ?_
   refine wp_seq_k ?_
   intro K10 hK10
   refine wp_block ?_
   refine reg_lit ?_
   refine wq_p 1 [(20, (Value.slice Av k cv))] ?_
   refine wq_to (some 21) (x_bs h6 34 ([(Value.int .u64 0)]) 1 (by kernel_rfl)) ?_
   rintro _ w11 ⟨g11, rfl, h11⟩
   refine wq_to (some 22) (x_pushG h11 1 0 rfl rfl (by kernel_rfl) (.tmp 20) (.tmp 21) 66 (by kernel_rfl) 8 (Value.int .u64 0) (by kernel_rfl) (by kernel_rfl) (by kernel_rfl) (by kernel_rfl) (by kernel_rfl) 1 (by kernel_rfl) (by kernel_rfl) (by kernel_rfl) (by simp only [nx_len]; omega) (by simp only [nx_len]; unfold maxLen; omega) (nx (L ++ [0])) (k + 1) (nx_app L 0) (by rw [nx_len, List.length_append, hl]; rfl)) ?_
   rintro _ w12 ⟨A12, c12, rfl, h12⟩
   refine wq_p 1 [(5, (Value.slice A12 (k + 1) c12))] ?_
   refine wl_end rfl ?_
   refine blk_n ?_
   refine seq_n hK10 ?_
   refine reg_lit ?_
   refine wq_p 1 [(18, (Value.int .i64 ((k : Int))))] ?_
   refine wq_v (some 19) (Value.int .i64 ((k : Int) + 1)) (exec_add _ _ _ _ rfl ((k : Int)) 1 (by kernel_rfl) (by kernel_rfl) ((k : Int) + 1) rfl (by omega) (by omega) _) ?_
   refine wq_p 1 [(6, (Value.int .i64 ((k : Int) + 1)))] ?_
   refine wl_end rfl ?_
   refine ⟨a.length + b.length - (k + 1), (by omega), (k + 1), ((L ++ [0])), A12, c12, (by omega), (by rw [hL]; exact List.replicate_succ'.symm), (by rw [List.length_append, hl]; rfl), rfl, (patch_eq _ 87 _ (by kernel_rfl) (by kernel_rfl) (by kernel_rfl)), h12.sel [1] [0, 1] (by kernel_rfl) rfl rfl⟩
  ·
   refine wp_exit ?_
   refine seq_e ?_
   refine seq_e ?_
   refine blk_e ?_
   refine seq_n hK4 ?_
   refine wp_seq_k ?_
   intro K13 hK13
   refine wp_seq_k ?_
   intro K14 hK14
   obtain rfl : k = a.length + b.length := by omega
   have hl2 : L.length = a.length + b.length := hl
   have hL2 : L = tmOut a b 0 := hL
   clear hl hL hk
   
   refine reg_lit ?_
   refine wq_p 1 [(7, (Value.int .i64 0))] ?_
   refine wl_end rfl ?_
   refine seq_n hK14 ?_
   refine wp_block ?_
   refine wp_loopm (fun mM xX aA wL => ∃ (i : Nat) (M : List Nat), (i ≤ a.length) ∧ (M = tmOut a b (i)) ∧ ((M : List Nat).length = a.length + b.length) ∧ mM = a.length - (i) ∧ aA = patch xX 87 [(0, (Value.slice A a.length c)), (1, (Value.slice B b.length d)), (4, (Value.slice none 0 0)), (5, (Value.slice Av ((a.length + b.length)) cv)), (6, (Value.int .i64 (((a.length + b.length) : Int)))), (7, (Value.int .i64 ((i : Int)))), (17, (Value.bool (decide (((a.length + b.length) : Int) < (((a.length) + (b.length) : Nat) : Int)))))] ∧ Hp (fun _ => False) w wL [rRV 1 A c (nx a), rRV 1 B d (nx b)] [rOV 34 1 ((Value.slice Av ((a.length + b.length)) cv)) (nx M)]) ⟨_, 0, L, (by omega), hL2, hl2, rfl, (patch_eq _ 87 _ (by kernel_rfl) (by kernel_rfl) (by kernel_rfl)), h6.sel [0] [0, 1] (by kernel_rfl) rfl rfl⟩ ?_
   rintro _ x15 _ w15 ⟨i, M, hi, hM, hm, rfl, rfl, h15⟩
   refine wp_seq_k ?_
   intro K16 hK16
   refine wp_seq_k ?_
   intro K17 hK17
   refine reg_lit ?_
   refine wq_p 4 [(26, (Value.bool (decide ((i : Int) < (a.length : Int))))), (25, (Value.int .i64 ((a.length : Int)))), (24, (Value.slice A a.length c)), (23, (Value.int .i64 ((i : Int))))] ?_
   refine wl_end rfl ?_
   refine seq_n hK17 ?_
   refine wp_if ((i : Int) < (a.length : Int)) (by kernel_rfl) (fun b18 => ?_) (fun b18 => ?_)
   ·
    refine wp_skip ?_
    refine seq_n hK16 ?_
    refine wp_seq_k ?_
    intro K19 hK19
    refine wp_block ?_
    refine wp_seq_k ?_
    intro K20 hK20
    refine reg_lit ?_
    refine wq_p 1 [(8, (Value.int .i64 0))] ?_
    refine wl_end rfl ?_
    refine seq_n hK20 ?_
    refine wp_block ?_
    refine wp_loopm (fun mM xX aA wL => ∃ (j : Nat) (N : List Nat), (j ≤ b.length) ∧ (N = tmIn a b i M (j)) ∧ ((N : List Nat).length = a.length + b.length) ∧ mM = b.length - (j) ∧ aA = patch xX 87 [(0, (Value.slice A a.length c)), (1, (Value.slice B b.length d)), (4, (Value.slice none 0 0)), (5, (Value.slice Av ((a.length + b.length)) cv)), (6, (Value.int .i64 (((a.length + b.length) : Int)))), (7, (Value.int .i64 ((i : Int)))), (8, (Value.int .i64 ((j : Int)))), (17, (Value.bool (decide (((a.length + b.length) : Int) < (((a.length) + (b.length) : Nat) : Int))))), (26, (Value.bool (decide ((i : Int) < (a.length : Int)))))] ∧ Hp (fun _ => False) w wL [rRV 1 A c (nx a), rRV 1 B d (nx b)] [rOV 34 1 ((Value.slice Av ((a.length + b.length)) cv)) (nx N)]) ⟨_, 0, M, (by omega), rfl, hm, rfl, (patch_eq _ 87 _ (by kernel_rfl) (by kernel_rfl) (by kernel_rfl)), h15.sel [0] [0, 1] (by kernel_rfl) rfl rfl⟩ ?_
    rintro _ x21 _ w21 ⟨j, N, hj, hN, hn, rfl, rfl, h21⟩
    refine wp_seq_k ?_
    intro K22 hK22
    refine wp_seq_k ?_
    intro K23 hK23
    refine reg_lit ?_
    refine wq_p 4 [(32, (Value.bool (decide ((j : Int) < (b.length : Int))))), (31, (Value.int .i64 ((b.length : Int)))), (30, (Value.slice B b.length d)), (29, (Value.int .i64 ((j : Int))))] ?_
    refine wl_end rfl ?_
    refine seq_n hK23 ?_
    refine wp_if ((j : Int) < (b.length : Int)) (by kernel_rfl) (fun b24 => ?_) (fun b24 => ?_)
    ·
     refine wp_skip ?_
     refine seq_n hK22 ?_
     refine wp_seq_k ?_
     intro K25 hK25
     refine wp_block ?_
     refine pR_go h21 20 (fun W => (rOV 34 1 ((Value.slice Av ((a.length + b.length)) cv)) (nx N)).Φ W ∧ (rRV 1 A c (nx a)).Φ W ∧ (rRV 1 B d (nx b)).Φ W ∧ True) [(36, [5], 0), (37, [7], 0), (38, [8], 0), (39, [36, 37], 6), (40, [5], 0), (41, [7], 0), (42, [8], 0), (43, [40, 41], 96), (44, [39, 42], 144), (45, [43], 256), (46, [0], 0), (47, [7], 0), (48, [45, 46], 3072), (49, [47], 4096), (50, [1], 0), (51, [8], 0), (52, [49, 50], 49152), (53, [51], 65536), (54, [48, 52], 139264), (55, [44, 53], 262656), (56, [35, 38], 1048575), (0, [55, 54], 2097151)] rfl (fun _ d _ _ _ h => by cases d <;> exact h) ?_
     intro hs26 w26 h26
     refine pR_p 12 [0, 1, 2, 4, 5, 6, 10, 11, 14, 15] [(50, (Value.int .i64 ((j : Int)))), (49, (Value.slice B b.length d)), (46, (Value.int .i64 ((i : Int)))), (45, (Value.slice A a.length c)), (41, (Value.int .i64 ((j : Int)))), (40, (Value.int .i64 ((i : Int)))), (39, (Value.slice Av ((a.length + b.length)) cv)), (37, (Value.int .i64 ((j : Int)))), (36, (Value.int .i64 ((i : Int)))), (35, (Value.slice Av ((a.length + b.length)) cv))] 52343 hs26 ⟨h26.at_ 0 rfl, h26.rd 0 rfl, h26.rd 1 rfl, trivial⟩ ?_
     refine pR_v 3 (some 38) (Value.int .i64 (((i + j : Nat) : Int))) 52351 rfl hs26 ⟨h26.at_ 0 rfl, h26.rd 0 rfl, h26.rd 1 rfl, trivial⟩ (fun W hW => exec_add _ _ _ _ rfl ((i : Int)) ((j : Int)) (by kernel_rfl) (by kernel_rfl) (((i + j : Nat) : Int)) (by omega) (by omega) (by omega) _) ?_
     refine pR_v 7 (some 42) (Value.int .i64 (((i + j : Nat) : Int))) 52479 rfl hs26 ⟨h26.at_ 0 rfl, h26.rd 0 rfl, h26.rd 1 rfl, trivial⟩ (fun W hW => exec_add _ _ _ _ rfl ((i : Int)) ((j : Int)) (by kernel_rfl) (by kernel_rfl) (((i + j : Nat) : Int)) (by omega) (by omega) (by omega) _) ?_
     refine pR_v 8 (some 43) (eAt Av ((((i + j))) * 1 + 0)) 52735 rfl hs26 ⟨h26.at_ 0 rfl, h26.rd 0 rfl, h26.rd 1 rfl, trivial⟩ (fun W hW => e_idxN (OV.rvn (h26.at_ 0 rfl)).2 (((i + j))) ((a.length + b.length)) (OV.rvn (h26.at_ 0 rfl)).1 (by omega) 66 (.tmp 39) (.tmp 42) (by kernel_rfl) .i64 (by kernel_rfl) (by kernel_rfl) 34 (by kernel_rfl) (by kernel_rfl) _) ?_
     refine pR_v 12 (some 47) (eAt A (i * 1 + 0)) 56831 rfl hs26 ⟨h26.at_ 0 rfl, h26.rd 0 rfl, h26.rd 1 rfl, trivial⟩ (fun W hW => e_idxN (RV.lenIs (n := a.length) (h26.rd 0 rfl) (nx_len a)).2 i a.length (RV.lenIs (n := a.length) (h26.rd 0 rfl) (nx_len a)).1 (by omega) 66 (.tmp 45) (.tmp 46) (by kernel_rfl) .i64 (by kernel_rfl) (by kernel_rfl) 34 (by kernel_rfl) (by kernel_rfl) _) ?_
     refine pR_v 16 (some 51) (eAt B (j * 1 + 0)) 122367 rfl hs26 ⟨h26.at_ 0 rfl, h26.rd 0 rfl, h26.rd 1 rfl, trivial⟩ (fun W hW => e_idxN (RV.lenIs (n := b.length) (h26.rd 1 rfl) (nx_len b)).2 j b.length (RV.lenIs (n := b.length) (h26.rd 1 rfl) (nx_len b)).1 (by omega) 66 (.tmp 49) (.tmp 50) (by kernel_rfl) .i64 (by kernel_rfl) (by kernel_rfl) 34 (by kernel_rfl) (by kernel_rfl) _) ?_
     refine pR_v 9 (some 44) (Value.int .u64 (((gn N (((i + j))) : Nat) : Int))) 122879 rfl hs26 ⟨h26.at_ 0 rfl, h26.rd 0 rfl, h26.rd 1 rfl, trivial⟩ (fun W hW => e_elemN (OV.rvn hW.1).2 (((i + j))) 0 ([(Value.int .u64 (((gn N (((i + j))) : Nat) : Int)))]) (nx_get N (((i + j))) (by first | omega | (rw [List.length_set]; omega))) 34 (.tmp 43) (by kernel_rfl) (Value.int .u64 (((gn N (((i + j))) : Nat) : Int))) (by kernel_rfl) (by kernel_rfl) (by kernel_rfl)) ?_
     refine pR_v 13 (some 48) (Value.int .u64 (((gn a (i) : Nat) : Int))) 131071 rfl hs26 ⟨h26.at_ 0 rfl, h26.rd 0 rfl, h26.rd 1 rfl, trivial⟩ (fun W hW => e_elemN (RV.lenIs (n := a.length) hW.2.1 (nx_len a)).2 i 0 ([(Value.int .u64 (((gn a (i) : Nat) : Int)))]) (nx_get a (i) (by first | omega | (rw [List.length_set]; omega))) 34 (.tmp 47) (by kernel_rfl) (Value.int .u64 (((gn a (i) : Nat) : Int))) (by kernel_rfl) (by kernel_rfl) (by kernel_rfl)) ?_
     refine pR_v 17 (some 52) (Value.int .u64 (((gn b (j) : Nat) : Int))) 262143 rfl hs26 ⟨h26.at_ 0 rfl, h26.rd 0 rfl, h26.rd 1 rfl, trivial⟩ (fun W hW => e_elemN (RV.lenIs (n := b.length) hW.2.2.1 (nx_len b)).2 j 0 ([(Value.int .u64 (((gn b (j) : Nat) : Int)))]) (nx_get b (j) (by first | omega | (rw [List.length_set]; omega))) 34 (.tmp 51) (by kernel_rfl) (Value.int .u64 (((gn b (j) : Nat) : Int))) (by kernel_rfl) (by kernel_rfl) (by kernel_rfl)) ?_
     refine pR_v 18 (some 53) (Value.int .u64 ((((((gn a (i)))) * (((gn b (j)))) % 18446744073709551616 : Nat) : Int))) 524287 rfl hs26 ⟨h26.at_ 0 rfl, h26.rd 0 rfl, h26.rd 1 rfl, trivial⟩ (fun W hW => e_mul64w 34 34 (.tmp 48) (.tmp 52) (by kernel_rfl) (((gn a (i)))) (((gn b (j)))) (by kernel_rfl) (by kernel_rfl) _) ?_
     refine pR_v 19 (some 54) (Value.int .u64 (((((((gn N (((i + j)))))) + ((((((gn a (i)))) * (((gn b (j)))) % 18446744073709551616)))) % 18446744073709551616 : Nat) : Int))) 1048575 rfl hs26 ⟨h26.at_ 0 rfl, h26.rd 0 rfl, h26.rd 1 rfl, trivial⟩ (fun W hW => e_add64w 34 34 (.tmp 44) (.tmp 53) (by kernel_rfl) (((gn N (((i + j)))))) ((((((gn a (i)))) * (((gn b (j)))) % 18446744073709551616))) (by kernel_rfl) (by kernel_rfl) _) ?_
     refine pR_to 20 (some 55) 2097151 rfl hs26 (OpTo.run (eAt Av ((((i + j))) * 1 + 0)) (e_idxN (OV.rvn (h26.at_ 0 rfl)).2 (((i + j))) ((a.length + b.length)) (OV.rvn (h26.at_ 0 rfl)).1 (by omega) 66 (.tmp 35) (.tmp 38) (by kernel_rfl) .i64 (by kernel_rfl) (by kernel_rfl) 34 (by kernel_rfl) (by kernel_rfl) _) (R := fun v w => v = (eAt Av ((((i + j))) * 1 + 0)) ∧ w26 = w) ⟨rfl, rfl⟩) ?_
     rintro _ _ ⟨rfl, rfl⟩
     refine ⟨fun h => absurd h (by decide), ?_⟩
     refine pR_to 21 none 4194303 rfl hs26 (x_storeV h26 0 rfl (((i + j))) (by first | (rw [nx_len]; omega) | (rw [nx_len, List.length_set]; omega)) 34 (.tmp 55) (.tmp 54) (by kernel_rfl) (Value.int .u64 (((((((gn N (((i + j)))))) + ((((((gn a (i)))) * (((gn b (j)))) % 18446744073709551616)))) % 18446744073709551616 : Nat) : Int))) (by kernel_rfl) (by kernel_rfl) (by kernel_rfl) rfl rfl (nx (N.set (((i + j))) (((((((gn N (((i + j)))))) + ((((((gn a (i)))) * (((gn b (j)))) % 18446744073709551616)))) % 18446744073709551616))))) (nx_set N (((i + j))) (((((((gn N (((i + j)))))) + ((((((gn a (i)))) * (((gn b (j)))) % 18446744073709551616)))) % 18446744073709551616))))) ?_
     rintro _ w27 h27
     refine ⟨fun h => absurd h (by decide), ?_⟩
     refine pR_done hs26 ?_ _
     refine blk_n ?_
     refine seq_n hK25 ?_
     refine reg_lit ?_
     refine wq_p 1 [(33, (Value.int .i64 ((j : Int))))] ?_
     refine wq_v (some 34) (Value.int .i64 ((j : Int) + 1)) (exec_add _ _ _ _ rfl ((j : Int)) 1 (by kernel_rfl) (by kernel_rfl) ((j : Int) + 1) rfl (by omega) (by omega) _) ?_
     refine wq_p 1 [(8, (Value.int .i64 ((j : Int) + 1)))] ?_
     refine wl_end rfl ?_
     refine ⟨b.length - (j + 1), (by omega), (j + 1), ((N.set (((i + j))) (((((((gn N (((i + j)))))) + ((((((gn a (i)))) * (((gn b (j)))) % 18446744073709551616)))) % 18446744073709551616))))), (by omega), (by rw [hN]; rfl), (by rw [List.length_set]; exact hn), rfl, (patch_eq _ 87 _ (by kernel_rfl) (by kernel_rfl) (by kernel_rfl)), h27.sel [0] [0, 1] (by kernel_rfl) rfl rfl⟩
    ·
     refine wp_exit ?_
     refine seq_e ?_
     refine seq_e ?_
     refine blk_e ?_
     refine blk_n ?_
     refine seq_n hK19 ?_
     refine reg_lit ?_
     refine wq_p 1 [(27, (Value.int .i64 ((i : Int))))] ?_
     refine wq_v (some 28) (Value.int .i64 ((i : Int) + 1)) (exec_add _ _ _ _ rfl ((i : Int)) 1 (by kernel_rfl) (by kernel_rfl) ((i : Int) + 1) rfl (by omega) (by omega) _) ?_
     refine wq_p 1 [(7, (Value.int .i64 ((i : Int) + 1)))] ?_
     refine wl_end rfl ?_
     refine ⟨a.length - (i + 1), (by omega), (i + 1), N, (by omega), (by rw [hN]; obtain rfl : j = b.length := (by omega); rw [hM]; rfl), hn, rfl, (patch_eq _ 87 _ (by kernel_rfl) (by kernel_rfl) (by kernel_rfl)), h21.sel [0] [0, 1] (by kernel_rfl) rfl rfl⟩
   ·
    refine wp_exit ?_
    refine seq_e ?_
    refine seq_e ?_
    refine blk_e ?_
    refine seq_n hK13 ?_
    refine wp_seq_k ?_
    intro K28 hK28
    refine wp_seq_k ?_
    intro K29 hK29
    obtain rfl : i = a.length := by omega
    
    refine reg_lit ?_
    refine wq_p 1 [(9, (Value.int .i64 0))] ?_
    refine wl_end rfl ?_
    refine seq_n hK29 ?_
    refine wp_block ?_
    refine wp_loopm (fun mM xX aA wL => ∃ (k : Nat) (Q : List Nat), (k ≤ a.length + b.length - 1) ∧ (Q = tmCarry M (k)) ∧ ((Q : List Nat).length = a.length + b.length) ∧ (Lt64 Q) ∧ mM = a.length + b.length - (k) ∧ aA = patch xX 87 [(0, (Value.slice A a.length c)), (1, (Value.slice B b.length d)), (4, (Value.slice none 0 0)), (5, (Value.slice Av ((a.length + b.length)) cv)), (6, (Value.int .i64 (((a.length + b.length) : Int)))), (7, (Value.int .i64 ((a.length : Int)))), (9, (Value.int .i64 ((k : Int)))), (17, (Value.bool (decide (((a.length + b.length) : Int) < (((a.length) + (b.length) : Nat) : Int))))), (26, (Value.bool (decide ((a.length : Int) < (a.length : Int)))))] ∧ Hp (fun _ => False) w wL [rRV 1 A c (nx a), rRV 1 B d (nx b)] [rOV 34 1 ((Value.slice Av ((a.length + b.length)) cv)) (nx Q)]) ⟨_, 0, M, (by omega), rfl, hm, (by rw [hM]; exact tmOut_lt _ _ _), rfl, (patch_eq _ 87 _ (by kernel_rfl) (by kernel_rfl) (by kernel_rfl)), h15.sel [0] [0, 1] (by kernel_rfl) rfl rfl⟩ ?_
    rintro _ x30 _ w30 ⟨k, Q, hk, hQ, hq, hqb, rfl, rfl, h30⟩
    refine wp_seq_k ?_
    intro K31 hK31
    refine wp_seq_k ?_
    intro K32 hK32
    refine reg_lit ?_
    refine wq_p 1 [(56, (Value.int .i64 ((k : Int))))] ?_
    refine wq_v (some 57) (Value.int .i64 (((k + 1 : Nat) : Int))) (exec_add _ _ _ _ rfl ((k : Int)) 1 (by kernel_rfl) (by kernel_rfl) (((k + 1 : Nat) : Int)) (by omega) (by omega) (by omega) _) ?_
    refine wq_p 3 [(60, (Value.bool (decide (((k + 1 : Nat) : Int) < ((a.length + b.length) : Int))))), (59, (Value.int .i64 (((a.length + b.length) : Int)))), (58, (Value.slice Av ((a.length + b.length)) cv))] ?_
    refine wl_end rfl ?_
    refine seq_n hK32 ?_
    refine wp_if (((k + 1 : Nat) : Int) < ((a.length + b.length) : Int)) (by kernel_rfl) (fun b33 => ?_) (fun b33 => ?_)
    ·
     refine wp_skip ?_
     refine seq_n hK31 ?_
     refine wp_seq_k ?_
     intro K34 hK34
     refine wp_block ?_
     refine wp_seq_k ?_
     intro K35 hK35
     refine pR_go h30 14 (fun W => (rOV 34 1 ((Value.slice Av ((a.length + b.length)) cv)) (nx Q)).Φ W ∧ True) [(64, [5], 0), (65, [9], 0), (66, [64], 2), (67, [5], 0), (68, [9], 0), (69, [67], 16), (70, [66, 68], 40), (71, [69], 64), (72, [5], 0), (73, [9], 0), (74, [71, 72], 768), (75, [73], 1024), (76, [74], 2048), (77, [70, 75], 4224), (78, [63, 65], 16383), (0, [77, 76], 32767)] rfl (fun _ d _ _ _ h => by cases d <;> exact h) ?_
     intro hs36 w36 h36
     refine pR_p 10 [0, 1, 3, 4, 8, 9] [(72, (Value.int .i64 ((k : Int)))), (71, (Value.slice Av ((a.length + b.length)) cv)), (67, (Value.int .i64 ((k : Int)))), (66, (Value.slice Av ((a.length + b.length)) cv)), (64, (Value.int .i64 ((k : Int)))), (63, (Value.slice Av ((a.length + b.length)) cv))] 795 hs36 ⟨h36.at_ 0 rfl, trivial⟩ ?_
     refine pR_v 2 (some 65) (Value.int .i64 (((k + 1 : Nat) : Int))) 799 rfl hs36 ⟨h36.at_ 0 rfl, trivial⟩ (fun W hW => exec_add _ _ _ _ rfl ((k : Int)) 1 (by kernel_rfl) (by kernel_rfl) (((k + 1 : Nat) : Int)) (by omega) (by omega) (by omega) _) ?_
     refine pR_v 5 (some 68) (Value.int .i64 (((k + 1 : Nat) : Int))) 831 rfl hs36 ⟨h36.at_ 0 rfl, trivial⟩ (fun W hW => exec_add _ _ _ _ rfl ((k : Int)) 1 (by kernel_rfl) (by kernel_rfl) (((k + 1 : Nat) : Int)) (by omega) (by omega) (by omega) _) ?_
     refine pR_v 6 (some 69) (eAt Av ((((k + 1))) * 1 + 0)) 895 rfl hs36 ⟨h36.at_ 0 rfl, trivial⟩ (fun W hW => e_idxN (OV.rvn (h36.at_ 0 rfl)).2 (((k + 1))) ((a.length + b.length)) (OV.rvn (h36.at_ 0 rfl)).1 (by omega) 66 (.tmp 66) (.tmp 68) (by kernel_rfl) .i64 (by kernel_rfl) (by kernel_rfl) 34 (by kernel_rfl) (by kernel_rfl) _) ?_
     refine pR_v 10 (some 73) (eAt Av (k * 1 + 0)) 1919 rfl hs36 ⟨h36.at_ 0 rfl, trivial⟩ (fun W hW => e_idxN (OV.rvn (h36.at_ 0 rfl)).2 k ((a.length + b.length)) (OV.rvn (h36.at_ 0 rfl)).1 (by omega) 66 (.tmp 71) (.tmp 72) (by kernel_rfl) .i64 (by kernel_rfl) (by kernel_rfl) 34 (by kernel_rfl) (by kernel_rfl) _) ?_
     refine pR_v 7 (some 70) (Value.int .u64 (((gn Q (((k + 1))) : Nat) : Int))) 2047 rfl hs36 ⟨h36.at_ 0 rfl, trivial⟩ (fun W hW => e_elemN (OV.rvn hW.1).2 (((k + 1))) 0 ([(Value.int .u64 (((gn Q (((k + 1))) : Nat) : Int)))]) (nx_get Q (((k + 1))) (by first | omega | (rw [List.length_set]; omega))) 34 (.tmp 69) (by kernel_rfl) (Value.int .u64 (((gn Q (((k + 1))) : Nat) : Int))) (by kernel_rfl) (by kernel_rfl) (by kernel_rfl)) ?_
     refine pR_v 11 (some 74) (Value.int .u64 (((gn Q (k) : Nat) : Int))) 4095 rfl hs36 ⟨h36.at_ 0 rfl, trivial⟩ (fun W hW => e_elemN (OV.rvn hW.1).2 k 0 ([(Value.int .u64 (((gn Q (k) : Nat) : Int)))]) (nx_get Q (k) (by first | omega | (rw [List.length_set]; omega))) 34 (.tmp 73) (by kernel_rfl) (Value.int .u64 (((gn Q (k) : Nat) : Int))) (by kernel_rfl) (by kernel_rfl) (by kernel_rfl)) ?_
     refine pR_v 12 (some 75) (Value.int .u64 ((((((gn Q (k)))) / 262144 : Nat) : Int))) 8191 rfl hs36 ⟨h36.at_ 0 rfl, trivial⟩ (fun W hW => e_quo64 (.tmp 74) (.const (Value.int .u64 262144)) 34 34 (by kernel_rfl) (((gn Q (k)))) 262144 (by kernel_rfl) (by kernel_rfl) (by decide) (hqb.gn _) _) ?_
     refine pR_v 13 (some 76) (Value.int .u64 (((((((gn Q (((k + 1)))))) + ((((((gn Q (k)))) / 262144)))) % 18446744073709551616 : Nat) : Int))) 16383 rfl hs36 ⟨h36.at_ 0 rfl, trivial⟩ (fun W hW => e_add64w 34 34 (.tmp 70) (.tmp 75) (by kernel_rfl) (((gn Q (((k + 1)))))) ((((((gn Q (k)))) / 262144))) (by kernel_rfl) (by kernel_rfl) _) ?_
     refine pR_to 14 (some 77) 32767 rfl hs36 (OpTo.run (eAt Av ((((k + 1))) * 1 + 0)) (e_idxN (OV.rvn (h36.at_ 0 rfl)).2 (((k + 1))) ((a.length + b.length)) (OV.rvn (h36.at_ 0 rfl)).1 (by omega) 66 (.tmp 63) (.tmp 65) (by kernel_rfl) .i64 (by kernel_rfl) (by kernel_rfl) 34 (by kernel_rfl) (by kernel_rfl) _) (R := fun v w => v = (eAt Av ((((k + 1))) * 1 + 0)) ∧ w36 = w) ⟨rfl, rfl⟩) ?_
     rintro _ _ ⟨rfl, rfl⟩
     refine ⟨fun h => absurd h (by decide), ?_⟩
     refine pR_to 15 none 65535 rfl hs36 (x_storeV h36 0 rfl (((k + 1))) (by first | (rw [nx_len]; omega) | (rw [nx_len, List.length_set]; omega)) 34 (.tmp 77) (.tmp 76) (by kernel_rfl) (Value.int .u64 (((((((gn Q (((k + 1)))))) + ((((((gn Q (k)))) / 262144)))) % 18446744073709551616 : Nat) : Int))) (by kernel_rfl) (by kernel_rfl) (by kernel_rfl) rfl rfl (nx (Q.set (((k + 1))) (((((((gn Q (((k + 1)))))) + ((((((gn Q (k)))) / 262144)))) % 18446744073709551616))))) (nx_set Q (((k + 1))) (((((((gn Q (((k + 1)))))) + ((((((gn Q (k)))) / 262144)))) % 18446744073709551616))))) ?_
     rintro _ w37 h37
     refine ⟨fun h => absurd h (by decide), ?_⟩
     refine pR_done hs36 ?_ _
     refine seq_n hK35 ?_
     refine reg_lit ?_
     refine wq_p 4 [(81, (Value.int .i64 ((k : Int)))), (80, (Value.slice Av ((a.length + b.length)) cv)), (79, (Value.int .i64 ((k : Int)))), (78, (Value.slice Av ((a.length + b.length)) cv))] ?_
     refine wq_v (some 82) (eAt Av (k * 1 + 0)) (e_idxN (OV.rvn (h37.at_ 0 rfl)).2 k ((a.length + b.length)) (OV.rvn (h37.at_ 0 rfl)).1 (by omega) 66 (.tmp 80) (.tmp 81) (by kernel_rfl) .i64 (by kernel_rfl) (by kernel_rfl) 34 (by kernel_rfl) (by kernel_rfl) _) ?_
     refine wq_v (some 83) (Value.int .u64 (((gn (Q.set (((k + 1))) (((((((gn Q (((k + 1)))))) + ((((((gn Q (k)))) / 262144)))) % 18446744073709551616)))) (k) : Nat) : Int))) (e_elemN (OV.rvn (h37.at_ 0 rfl)).2 k 0 ([(Value.int .u64 (((gn (Q.set (((k + 1))) (((((((gn Q (((k + 1)))))) + ((((((gn Q (k)))) / 262144)))) % 18446744073709551616)))) (k) : Nat) : Int)))]) (nx_get (Q.set (((k + 1))) (((((((gn Q (((k + 1)))))) + ((((((gn Q (k)))) / 262144)))) % 18446744073709551616)))) (k) (by first | omega | (rw [List.length_set]; omega))) 34 (.tmp 82) (by kernel_rfl) (Value.int .u64 (((gn (Q.set (((k + 1))) (((((((gn Q (((k + 1)))))) + ((((((gn Q (k)))) / 262144)))) % 18446744073709551616)))) (k) : Nat) : Int))) (by kernel_rfl) (by kernel_rfl) (by kernel_rfl)) ?_
     refine wq_v (some 84) (Value.int .u64 ((((((gn (Q.set (((k + 1))) (((((((gn Q (((k + 1)))))) + ((((((gn Q (k)))) / 262144)))) % 18446744073709551616)))) (k)))) % 262144 : Nat) : Int))) (e_rem64 (.tmp 83) (.const (Value.int .u64 262144)) 34 34 (by kernel_rfl) (((gn (Q.set (((k + 1))) (((((((gn Q (((k + 1)))))) + ((((((gn Q (k)))) / 262144)))) % 18446744073709551616)))) (k)))) 262144 (by kernel_rfl) (by kernel_rfl) (by decide) _) ?_
     refine wq_v (some 85) (eAt Av (k * 1 + 0)) (e_idxN (OV.rvn (h37.at_ 0 rfl)).2 k ((a.length + b.length)) (OV.rvn (h37.at_ 0 rfl)).1 (by omega) 66 (.tmp 78) (.tmp 79) (by kernel_rfl) .i64 (by kernel_rfl) (by kernel_rfl) 34 (by kernel_rfl) (by kernel_rfl) _) ?_
     refine wq_to none (x_storeV h37 0 rfl k (by first | (rw [nx_len]; omega) | (rw [nx_len, List.length_set]; omega)) 34 (.tmp 85) (.tmp 84) (by kernel_rfl) (Value.int .u64 ((((((gn (Q.set (((k + 1))) (((((((gn Q (((k + 1)))))) + ((((((gn Q (k)))) / 262144)))) % 18446744073709551616)))) (k)))) % 262144 : Nat) : Int))) (by kernel_rfl) (by kernel_rfl) (by kernel_rfl) rfl rfl (nx (((Q.set (((k + 1))) (((((((gn Q (((k + 1)))))) + ((((((gn Q (k)))) / 262144)))) % 18446744073709551616))))).set k ((((((gn (Q.set (((k + 1))) (((((((gn Q (((k + 1)))))) + ((((((gn Q (k)))) / 262144)))) % 18446744073709551616)))) (k)))) % 262144))))) (nx_set ((Q.set (((k + 1))) (((((((gn Q (((k + 1)))))) + ((((((gn Q (k)))) / 262144)))) % 18446744073709551616))))) k ((((((gn (Q.set (((k + 1))) (((((((gn Q (((k + 1)))))) + ((((((gn Q (k)))) / 262144)))) % 18446744073709551616)))) (k)))) % 262144))))) ?_
     rintro _ w38 h38
     refine wl_end rfl ?_
     refine blk_n ?_
     refine seq_n hK34 ?_
     refine reg_lit ?_
     refine wq_p 1 [(61, (Value.int .i64 ((k : Int))))] ?_
     refine wq_v (some 62) (Value.int .i64 ((k : Int) + 1)) (exec_add _ _ _ _ rfl ((k : Int)) 1 (by kernel_rfl) (by kernel_rfl) ((k : Int) + 1) rfl (by omega) (by omega) _) ?_
     refine wq_p 1 [(9, (Value.int .i64 ((k : Int) + 1)))] ?_
     refine wl_end rfl ?_
     refine ⟨a.length + b.length - (k + 1), (by omega), (k + 1), ((((Q.set (((k + 1))) (((((((gn Q (((k + 1)))))) + ((((((gn Q (k)))) / 262144)))) % 18446744073709551616))))).set k ((((((gn (Q.set (((k + 1))) (((((((gn Q (((k + 1)))))) + ((((((gn Q (k)))) / 262144)))) % 18446744073709551616)))) (k)))) % 262144))))), (by omega), (by rw [hQ]; rfl), (by rw [List.length_set, List.length_set]; exact hq), (hqb.carry k), rfl, (patch_eq _ 87 _ (by kernel_rfl) (by kernel_rfl) (by kernel_rfl)), h38.sel [0] [0, 1] (by kernel_rfl) rfl rfl⟩
    ·
     refine wp_exit ?_
     refine seq_e ?_
     refine seq_e ?_
     refine blk_e ?_
     refine seq_n hK28 ?_
     refine wp_seq_k ?_
     intro K39 hK39
     refine reg_lit ?_
     refine wq_p 2 [(4, (Value.slice Av ((a.length + b.length)) cv)), (86, (Value.slice Av ((a.length + b.length)) cv))] ?_
     refine wl_end rfl ?_
     refine seq_n hK39 ?_
     refine wp_ret ?_
     refine post_1 rfl (by kernel_rfl) (rtmp (v := (Value.slice Av ((a.length + b.length)) cv)) (by kernel_rfl)) ?_
     exact vopost_of h30 0 rfl (by rw [hQ, hM, show k = a.length + b.length - 1 by omega]; rfl)
end Go.Proofs.YtpkelokaammmjaaDoor
end
/-! The constants that compeerref03 finds as roots are the table; its words of a block are the program's. -/
section
namespace Go.Proofs.YtpkelokaammmjaaDoor
theorem prTo_all : prTo 310 = primes64 := by decide +kernel
set_option maxRecDepth 100000 in
set_option exponentiation.threshold 1000 in
theorem cubes_all : (primes64.map fun p => cubeTo p 36 % 4294967296) = shaK.map UInt32.toNat := by decide +kernel
end Go.Proofs.YtpkelokaammmjaaDoor
end
