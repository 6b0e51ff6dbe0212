/- Ways that a round of compeerref08.Close can go. (Texts laid one behind the other: KMade, KMoreL, RClL, RClF.) -/
import Derived.Test.YtjjcnijdjhhdoaaCA11
/-! The walk of made. -/
section
namespace Go.Proofs.Ytjjcnijdjhhdoaa
open Go.RowKit Go.QT
set_option maxRecDepth 100000 in
set_option maxHeartbeats 4000000 in
theorem kmade_any (A B C D : Option Addr) (a b c d : Nat) (z : KIn) (w : World) (hz : InAt w A B C D a b c d z) (hf : fewP z) : Calls Try.prog 48 #[.agg #[.slice A z.of.length a, .slice B z.bx.length b, .slice C z.ls.length c, .slice D z.ss.length d]] w fun e w' => ∃ tb F s A1 c1 A2 c2 A3 c3 mv, ∃ hb : List KBox,
      e = .returned (.tuple #[pt tb 0, .slice A1 z.bx.length c1, .slice A2 z.of.length c2, .slice A3 z.bx.length c3]) ∧ s.keys = keysTo' z.of z.of.length ∧ s.boxes = kbxTo z.of.length z.bx z.bx.length ∧ mv.length = z.bx.length ∧ hb.map triOf = triTo z.of.length z.bx z.bx.length ∧
      Hp (fun _ => False) w w' [] [rTab F tb s, rOV 28 1 (.slice A1 z.bx.length c1) (mv.map fun v => [v]), rSBs mv (mkTo z.bx.length), rOV 3 1 (.slice A2 z.of.length c2) (ivs (ofTo z.of z.of.length)), rOV 131 3 (.slice A3 z.bx.length c3) (hb.map kbCells), rISs (hb.map (·.kv)) (hb.map (·.ks)), rISs (hb.map (·.bv)) (hb.map (·.bs))] := by
  obtain ⟨f1, f2, f3, f4, f5, f6⟩ := hf
  have h0 := addRB (addRB (addRB (addRB (addRB (addRB (Hp.nil (fun _ => False) w) (rRV 1 D d (ivs z.ss)) hz.ss) (rRV 1 C c (ivs z.ls)) hz.ls) (rISs (z.bx.map (·.bv)) (z.bx.map (·.bs))) hz.x) (rISs (z.bx.map (·.kv)) (z.bx.map (·.ks))) hz.k) (rRV 3 B b (z.bx.map kbCells)) hz.bx) (rRV 1 A a (ivs z.of)) hz.of
  refine enter 157 Try.func48 rfl rfl ?_
  refine wp_reset 158 [(0, (Value.agg ([(Value.slice A z.of.length a), (Value.slice B z.bx.length b), (Value.slice C z.ls.length c), (Value.slice D z.ss.length d)]).toArray))] (fun x0 => ?_)
  refine wp_seq_k ?_
  intro K1 hK1
  refine reg_lit ?_
  refine wq_to (some 1) (x_new h0 87 ([(Value.slice A z.of.length a), (Value.slice B z.bx.length b), (Value.slice C z.ls.length c), (Value.slice D z.ss.length d)]) (fun r => pt r 0) (by kernel_rfl)) ?_
  rintro _ w2 ⟨g2, rfl, h2⟩
  refine wq_p 4 [(5, (Value.slice none 0 0)), (4, (Value.slice none 0 0)), (3, (Value.slice none 0 0)), (2, (Value.pointer none))] ?_
  refine wl_end rfl ?_
  refine seq_n hK1 ?_
  refine wp_seq_k ?_
  intro K3 hK3
  refine reg_lit ?_
  refine wq_to (some 21) (x_snew h2 (by kernel_rfl)) ?_
  rintro _ w4 ⟨tb4, F4, rfl, h4⟩
  refine wq_p 1 [(6, (pt tb4 0))] ?_
  refine wl_end rfl ?_
  refine seq_n hK3 ?_
  refine wp_seq_k ?_
  intro K5 hK5
  refine reg_lit ?_
  refine wq_to (some 22) (x_bs0 h4 3 1 (by kernel_rfl)) ?_
  rintro _ w6 ⟨A6, rfl, h6⟩
  refine wq_p 1 [(7, (Value.slice A6 0 0))] ?_
  refine wl_end rfl ?_
  refine seq_n hK5 ?_
  refine wp_seq_k ?_
  intro K7 hK7
  refine wp_seq_k ?_
  intro K8 hK8
  refine reg_lit ?_
  refine wq_p 1 [(23, (pt g2 0))] ?_
  refine wq_v (some 24) (Value.slice A z.of.length a) (e_load (h6.at_ 2 rfl) 84 (.tmp 23) (by kernel_rfl) 0 (Value.slice A z.of.length a) (by kernel_rfl) (by kernel_rfl) (by kernel_rfl)) ?_
  refine wq_p 2 [(26, (Value.int .i64 0)), (25, (Value.int .i64 ((z.of.length : Int))))] ?_
  refine wl_end rfl ?_
  refine seq_n hK8 ?_
  refine wp_block ?_
  have hM0 : MK STab.empty z.of 0 := MK.zero
  refine wp_loopm (fun mM xX aA wL => ∃ (i : Nat) (s1 : STab) (F1 : Nat → Prop) (A2 : Option Addr) (c2 : Nat), (i ≤ z.of.length) ∧ (MK s1 z.of (i)) ∧ mM = z.of.length - (i) ∧ aA = patch xX 158 [(0, (Value.agg ([(Value.slice A z.of.length a), (Value.slice B z.bx.length b), (Value.slice C z.ls.length c), (Value.slice D z.ss.length d)]).toArray)), (1, (pt g2 0)), (2, (Value.pointer none)), (3, (Value.slice none 0 0)), (4, (Value.slice none 0 0)), (5, (Value.slice none 0 0)), (6, (pt tb4 0)), (7, (Value.slice A2 i c2)), (24, (Value.slice A z.of.length a)), (25, (Value.int .i64 ((z.of.length : Int)))), (26, (Value.int .i64 ((i : Int))))] ∧ Hp (fun _ => False) w wL [rRV 1 A a (ivs z.of), rRV 3 B b (z.bx.map kbCells), rISs (z.bx.map (·.kv)) (z.bx.map (·.ks)), rISs (z.bx.map (·.bv)) (z.bx.map (·.bs)), rRV 1 C c (ivs z.ls), rRV 1 D d (ivs z.ss)] [rBlk g2 87 ([(Value.slice A z.of.length a), (Value.slice B z.bx.length b), (Value.slice C z.ls.length c), (Value.slice D z.ss.length d)]), rOV 3 1 ((Value.slice A2 i c2)) (ivs (ofTo z.of (i))), rTab F1 tb4 s1]) ⟨_, 0, STab.empty, F4, A6, 0, (by omega), hM0, rfl, (patch_eq _ 158 _ (by kernel_rfl) (by kernel_rfl) (by kernel_rfl)), h6.sel [2, 0, 1] [0, 1, 2, 3, 4, 5] (by kernel_rfl) rfl rfl⟩ ?_
  rintro _ x9 _ w9 ⟨i, s1, F1, A2, c2, hi, hM, rfl, rfl, h9⟩
  refine wp_seq_k ?_
  intro K10 hK10
  refine reg_lit ?_
  refine wq_p 1 [(27, (Value.bool (decide ((i : Int) < (z.of.length : Int)))))] ?_
  refine wl_end rfl ?_
  refine seq_n hK10 ?_
  refine wp_seq_k ?_
  intro K11 hK11
  refine wp_if ((i : Int) < (z.of.length : Int)) (by kernel_rfl) (fun b12 => ?_) (fun b12 => ?_)
  ·
   refine wp_skip ?_
   refine seq_n hK11 ?_
   refine wp_seq_k ?_
   intro K13 hK13
   refine wp_block ?_
   refine wp_seq_k ?_
   intro K14 hK14
   obtain ⟨x, hx⟩ : ∃ x, z.of[i]? = some x := ⟨_, List.getElem?_eq_getElem (by omega)⟩
   have hkl : s1.keys.length = i := by rw [hM.ks, kksTo_len]
   refine reg_lit ?_
   refine wq_p 1 [(28, (Value.int .i64 ((i : Int))))] ?_
   refine wq_v (some 29) (eAt A (i * 1 + 0)) (e_idxN (RV.lenIs (n := z.of.length) (h9.rd 0 rfl) (ivs_len _)).2 i z.of.length (RV.lenIs (n := z.of.length) (h9.rd 0 rfl) (ivs_len _)).1 (by omega) 84 (.tmp 24) (.tmp 26) (by kernel_rfl) .i64 (by kernel_rfl) (by kernel_rfl) 3 (by kernel_rfl) (by kernel_rfl) _) ?_
   refine wq_v (some 30) (Value.int .i64 x) (e_elemN (RV.lenIs (n := z.of.length) (h9.rd 0 rfl) (ivs_len _)).2 i 0 ([(Value.int .i64 x)]) (ivs_get hx) 3 (.tmp 29) (by kernel_rfl) (Value.int .i64 x) (by kernel_rfl) (by kernel_rfl) (by kernel_rfl)) ?_
   refine wq_p 2 [(9, (Value.int .i64 x)), (8, (Value.int .i64 ((i : Int))))] ?_
   refine wl_end rfl ?_
   refine seq_n hK14 ?_
   refine wp_seq_k ?_
   intro K15 hK15
   rcases (show (1 ≤ x ∧ x ≤ (i : Int)) ∨ (¬ 1 ≤ x) ∨ (1 ≤ x ∧ ¬ x ≤ (i : Int)) by omega) with ⟨h1, h2⟩ | h1 | ⟨h1, h2⟩
   ·
    refine reg_lit ?_
    refine wq_p 1 [(31, (Value.int .i64 x))] ?_
    refine wq_v (some 32) (.bool true) (eq_is (v := (Value.bool (decide (x ≥ 1)))) (by kernel_rfl) (by simp; omega)) ?_
    refine wq_p 3 [(35, (Value.int .i64 ((i : Int)))), (34, (Value.int .i64 x)), (33, (Value.bool true))] ?_
    refine wq_v (some 36) (.bool true) (eq_is (v := (Value.bool (decide (x ≤ (i : Int))))) (by kernel_rfl) (by simp; omega)) ?_
    refine wq_p 1 [(37, (Value.bool true))] ?_
    refine wl_end rfl ?_
    refine seq_n hK15 ?_
    refine wp_cond_true (by kernel_rfl) ?_
    refine wp_seq_k ?_
    intro K17 hK17
    refine reg_lit ?_
    refine wq_p 3 [(40, (Value.int .i64 x)), (39, (pt tb4 0)), (38, (pt tb4 0))] ?_
    refine wq_to (some 41) (x_nthI (tb := tb4) h9 x (x.toNat) (by kernel_rfl) (by omega) (by omega)) ?_
    rintro _ w18 ⟨K18, rfl, hK18, h18⟩
    refine wq_p 1 [(42, (Value.int .i64 ((i : Int))))] ?_
    refine wq_v (some 43) (Value.int .u64 ((i : Int))) (eq_is (v := Value.int .u64 (IntKind.u64.wrap ((i : Int)))) (by kernel_rfl) (congrArg (Value.int .u64) (by rw [IntKind.wrap_u64]; omega))) ?_
    refine wq_to (some 44) (x_bytes h18 72 [(Value.int .u64 ((i : Int)))] (by kernel_rfl) (put_any i _)) ?_
    rintro _ w19 ⟨A19, c19, rfl, h19⟩
    refine wq_v (some 45) (Value.string (labF i)) (exec_sb_conv (.tmp 44) (by kernel_rfl) (Value.slice A19 ((put8 i).length) c19) (put8 i) (by kernel_rfl) (OB.sb (h19.at_ 0 rfl))) ?_
    refine wq_to (some 46) (x_derive h19 3 rfl K18 (labF i) (by kernel_rfl) (by omega)) ?_
    rintro _ w20 ⟨K20, F20, s20, rfl, hK20, hs20, h20⟩
    refine wl_end rfl ?_
    refine seq_n hK17 ?_
    refine reg_lit ?_
    refine wq_p 2 [(48, (Value.int .i64 x)), (47, (Value.slice A2 i c2))] ?_
    refine wq_to (some 49) (x_bs h20 3 ([(Value.int .i64 x)]) 1 (by kernel_rfl)) ?_
    rintro _ w21 ⟨g21, rfl, h21⟩
    refine wq_to (some 50) (x_pushG h21 3 0 rfl rfl (by kernel_rfl) (.tmp 47) (.tmp 49) 84 (by kernel_rfl) 8 (Value.int .i64 0) (by kernel_rfl) (by kernel_rfl) (by kernel_rfl) (by kernel_rfl) (by kernel_rfl) 1 (by kernel_rfl) (by kernel_rfl) (by kernel_rfl) (by rw [ivs_len, ofTo_len]; omega) (by unfold maxLen; rw [ivs_len, ofTo_len]; omega) (ivs (ofTo z.of (i + 1))) ((i + 1)) (by rw [ofTo_succ, ofV_yes hx h1 h2]; simp [ivs]) (by rw [ivs_len, ofTo_len])) ?_
    rintro _ w22 ⟨A22, c22, rfl, h22⟩
    refine wq_p 1 [(7, (Value.slice A22 ((i + 1)) c22))] ?_
    refine wl_end rfl ?_
    refine blk_n ?_
    refine seq_n hK13 ?_
    refine wp_reset 158 [(0, (Value.agg ([(Value.slice A z.of.length a), (Value.slice B z.bx.length b), (Value.slice C z.ls.length c), (Value.slice D z.ss.length d)]).toArray)), (1, (pt g2 0)), (2, (Value.pointer none)), (3, (Value.slice none 0 0)), (4, (Value.slice none 0 0)), (5, (Value.slice none 0 0)), (6, (pt tb4 0)), (7, (Value.slice A22 ((i + 1)) c22)), (8, (Value.int .i64 ((i : Int)))), (9, (Value.int .i64 x)), (24, (Value.slice A z.of.length a)), (25, (Value.int .i64 ((z.of.length : Int)))), (26, (Value.int .i64 ((i : Int)))), (27, (Value.bool (decide ((i : Int) < (z.of.length : Int))))), (37, (Value.bool true))] (fun x23 => ?_)
    refine reg_lit ?_
    refine wq_v (some 56) (Value.int .i64 ((i : Int) + 1)) (exec_add _ _ _ _ rfl ((i : Int)) 1 (by kernel_rfl) (by kernel_rfl) ((i : Int) + 1) rfl (by omega) (by omega) _) ?_
    refine wq_p 1 [(26, (Value.int .i64 ((i : Int) + 1)))] ?_
    refine wl_end rfl ?_
    refine ⟨z.of.length - (i + 1), (by omega), (i + 1), s20, F20, A22, c22, (by omega), (hM.derive (by omega) hx h1 h2 hK18 hs20), rfl, (patch_eq _ 158 _ (by kernel_rfl) (by kernel_rfl) (by kernel_rfl)), h22.sel [2, 3, 4] [0, 1, 2, 3, 4, 5] (by kernel_rfl) rfl rfl⟩
   ·
    refine reg_lit ?_
    refine wq_p 1 [(31, (Value.int .i64 x))] ?_
    refine wq_v (some 32) (.bool false) (eq_is (v := (Value.bool (decide (x ≥ 1)))) (by kernel_rfl) (by simp; omega)) ?_
    refine wq_p 3 [(35, undef), (34, undef), (33, (Value.bool false))] ?_
    refine wq_p 1 [(36, undef)] ?_
    refine wq_p 1 [(37, (Value.bool false))] ?_
    refine wl_end rfl ?_
    refine seq_n hK15 ?_
    refine wp_cond_false (by kernel_rfl) ?_
    refine wp_seq_k ?_
    intro K24 hK24
    refine reg_lit ?_
    refine wq_p 1 [(51, (pt tb4 0))] ?_
    refine wq_to (some 52) (x_fresh h9 2 rfl  (by kernel_rfl) (by omega)) ?_
    rintro _ w25 ⟨K25, F25, s25, rfl, hK25, hs25, h25⟩
    refine wl_end rfl ?_
    refine seq_n hK24 ?_
    refine reg_lit ?_
    refine wq_p 1 [(53, (Value.slice A2 i c2))] ?_
    refine wq_to (some 54) (x_bs h25 3 ([(Value.int .i64 0)]) 1 (by kernel_rfl)) ?_
    rintro _ w26 ⟨g26, rfl, h26⟩
    refine wq_to (some 55) (x_pushG h26 2 0 rfl rfl (by kernel_rfl) (.tmp 53) (.tmp 54) 84 (by kernel_rfl) 8 (Value.int .i64 0) (by kernel_rfl) (by kernel_rfl) (by kernel_rfl) (by kernel_rfl) (by kernel_rfl) 1 (by kernel_rfl) (by kernel_rfl) (by kernel_rfl) (by rw [ivs_len, ofTo_len]; omega) (by unfold maxLen; rw [ivs_len, ofTo_len]; omega) (ivs (ofTo z.of (i + 1))) ((i + 1)) (by rw [ofTo_succ, ofV_no hx (by omega)]; simp [ivs]) (by rw [ivs_len, ofTo_len])) ?_
    rintro _ w27 ⟨A27, c27, rfl, h27⟩
    refine wq_p 1 [(7, (Value.slice A27 ((i + 1)) c27))] ?_
    refine wl_end rfl ?_
    refine blk_n ?_
    refine seq_n hK13 ?_
    refine reg_lit ?_
    refine wq_v (some 56) (Value.int .i64 ((i : Int) + 1)) (exec_add _ _ _ _ rfl ((i : Int)) 1 (by kernel_rfl) (by kernel_rfl) ((i : Int) + 1) rfl (by omega) (by omega) _) ?_
    refine wq_p 1 [(26, (Value.int .i64 ((i : Int) + 1)))] ?_
    refine wl_end rfl ?_
    refine ⟨z.of.length - (i + 1), (by omega), (i + 1), s25, F25, A27, c27, (by omega), (hM.fresh hx (by omega) hs25), rfl, (patch_eq _ 158 _ (by kernel_rfl) (by kernel_rfl) (by kernel_rfl)), h27.sel [1, 2, 3] [0, 1, 2, 3, 4, 5] (by kernel_rfl) rfl rfl⟩
   ·
    refine reg_lit ?_
    refine wq_p 1 [(31, (Value.int .i64 x))] ?_
    refine wq_v (some 32) (.bool true) (eq_is (v := (Value.bool (decide (x ≥ 1)))) (by kernel_rfl) (by simp; omega)) ?_
    refine wq_p 3 [(35, (Value.int .i64 ((i : Int)))), (34, (Value.int .i64 x)), (33, (Value.bool true))] ?_
    refine wq_v (some 36) (.bool false) (eq_is (v := (Value.bool (decide (x ≤ (i : Int))))) (by kernel_rfl) (by simp; omega)) ?_
    refine wq_p 1 [(37, (Value.bool false))] ?_
    refine wl_end rfl ?_
    refine seq_n hK15 ?_
    refine wp_cond_false (by kernel_rfl) ?_
    refine wp_seq_k ?_
    intro K28 hK28
    refine reg_lit ?_
    refine wq_p 1 [(51, (pt tb4 0))] ?_
    refine wq_to (some 52) (x_fresh h9 2 rfl  (by kernel_rfl) (by omega)) ?_
    rintro _ w29 ⟨K29, F29, s29, rfl, hK29, hs29, h29⟩
    refine wl_end rfl ?_
    refine seq_n hK28 ?_
    refine reg_lit ?_
    refine wq_p 1 [(53, (Value.slice A2 i c2))] ?_
    refine wq_to (some 54) (x_bs h29 3 ([(Value.int .i64 0)]) 1 (by kernel_rfl)) ?_
    rintro _ w30 ⟨g30, rfl, h30⟩
    refine wq_to (some 55) (x_pushG h30 2 0 rfl rfl (by kernel_rfl) (.tmp 53) (.tmp 54) 84 (by kernel_rfl) 8 (Value.int .i64 0) (by kernel_rfl) (by kernel_rfl) (by kernel_rfl) (by kernel_rfl) (by kernel_rfl) 1 (by kernel_rfl) (by kernel_rfl) (by kernel_rfl) (by rw [ivs_len, ofTo_len]; omega) (by unfold maxLen; rw [ivs_len, ofTo_len]; omega) (ivs (ofTo z.of (i + 1))) ((i + 1)) (by rw [ofTo_succ, ofV_no hx (by omega)]; simp [ivs]) (by rw [ivs_len, ofTo_len])) ?_
    rintro _ w31 ⟨A31, c31, rfl, h31⟩
    refine wq_p 1 [(7, (Value.slice A31 ((i + 1)) c31))] ?_
    refine wl_end rfl ?_
    refine blk_n ?_
    refine seq_n hK13 ?_
    refine reg_lit ?_
    refine wq_v (some 56) (Value.int .i64 ((i : Int) + 1)) (exec_add _ _ _ _ rfl ((i : Int)) 1 (by kernel_rfl) (by kernel_rfl) ((i : Int) + 1) rfl (by omega) (by omega) _) ?_
    refine wq_p 1 [(26, (Value.int .i64 ((i : Int) + 1)))] ?_
    refine wl_end rfl ?_
    refine ⟨z.of.length - (i + 1), (by omega), (i + 1), s29, F29, A31, c31, (by omega), (hM.fresh hx (by omega) hs29), rfl, (patch_eq _ 158 _ (by kernel_rfl) (by kernel_rfl) (by kernel_rfl)), h31.sel [1, 2, 3] [0, 1, 2, 3, 4, 5] (by kernel_rfl) rfl rfl⟩
  ·
   refine wp_exit ?_
   refine seq_e ?_
   refine seq_e ?_
   refine blk_e ?_
   refine seq_n hK7 ?_
   refine wp_seq_k ?_
   intro K32 hK32
   have hE : i = z.of.length := by omega
   subst hE
   have h33a := h9.nilISs
   have h33b := h33a.nilISs
   have h33 := h33b.nilSBsS
   
   refine reg_lit ?_
   refine wq_to (some 57) (x_bs0 h33 28 1 (by kernel_rfl)) ?_
   rintro _ w34 ⟨A34, rfl, h34⟩
   refine wq_p 1 [(10, (Value.slice A34 0 0))] ?_
   refine wl_end rfl ?_
   refine seq_n hK32 ?_
   refine wp_seq_k ?_
   intro K35 hK35
   refine reg_lit ?_
   refine wq_to (some 58) (x_bs0 h34 131 3 (by kernel_rfl)) ?_
   rintro _ w36 ⟨A36, rfl, h36⟩
   refine wq_p 1 [(11, (Value.slice A36 0 0))] ?_
   refine wl_end rfl ?_
   refine seq_n hK35 ?_
   refine wp_seq_k ?_
   intro K37 hK37
   refine wp_seq_k ?_
   intro K38 hK38
   refine reg_lit ?_
   refine wq_p 1 [(59, (pt g2 1))] ?_
   refine wq_v (some 60) (Value.slice B z.bx.length b) (e_load (h36.at_ 5 rfl) 85 (.tmp 59) (by kernel_rfl) 1 (Value.slice B z.bx.length b) (by kernel_rfl) (by kernel_rfl) (by kernel_rfl)) ?_
   refine wq_p 2 [(62, (Value.int .i64 0)), (61, (Value.int .i64 ((z.bx.length : Int))))] ?_
   refine wl_end rfl ?_
   refine seq_n hK38 ?_
   refine wp_block ?_
   refine wp_loopm (fun mM xX aA wL => ∃ (i : Nat) (s2 : STab) (F2 : Nat → Prop) (A3 : Option Addr) (c3 : Nat) (A4 : Option Addr) (c4 : Nat) (mv : List Value) (hb : List KBox), (i ≤ z.bx.length) ∧ (s2.keys = keysTo' z.of z.of.length) ∧ (s2.boxes = kbxTo z.of.length z.bx (i)) ∧ ((mv : List Value).length = i) ∧ ((hb : List KBox).length = i) ∧ ((hb : List KBox).map triOf = triTo z.of.length z.bx (i)) ∧ mM = z.bx.length - (i) ∧ aA = patch xX 158 [(0, (Value.agg ([(Value.slice A z.of.length a), (Value.slice B z.bx.length b), (Value.slice C z.ls.length c), (Value.slice D z.ss.length d)]).toArray)), (1, (pt g2 0)), (2, (Value.pointer none)), (3, (Value.slice none 0 0)), (4, (Value.slice none 0 0)), (5, (Value.slice none 0 0)), (6, (pt tb4 0)), (7, (Value.slice A2 z.of.length c2)), (10, (Value.slice A3 i c3)), (11, (Value.slice A4 i c4)), (24, (Value.slice A z.of.length a)), (25, (Value.int .i64 ((z.of.length : Int)))), (26, (Value.int .i64 ((z.of.length : Int)))), (27, (Value.bool (decide ((z.of.length : Int) < (z.of.length : Int))))), (60, (Value.slice B z.bx.length b)), (61, (Value.int .i64 ((z.bx.length : Int)))), (62, (Value.int .i64 ((i : Int))))] ∧ Hp (fun _ => False) w wL [rRV 1 A a (ivs z.of), rRV 3 B b (z.bx.map kbCells), rISs (z.bx.map (·.kv)) (z.bx.map (·.ks)), rISs (z.bx.map (·.bv)) (z.bx.map (·.bs)), rRV 1 C c (ivs z.ls), rRV 1 D d (ivs z.ss)] [rBlk g2 87 ([(Value.slice A z.of.length a), (Value.slice B z.bx.length b), (Value.slice C z.ls.length c), (Value.slice D z.ss.length d)]), rOV 3 1 ((Value.slice A2 z.of.length c2)) (ivs (ofTo z.of (z.of.length))), rTab F2 tb4 s2, rOV 28 1 ((Value.slice A3 i c3)) (mv.map fun v => [v]), rSBs mv (mkTo (i)), rOV 131 3 ((Value.slice A4 i c4)) (hb.map kbCells), rISs (hb.map (·.kv)) (hb.map (·.ks)), rISs (hb.map (·.bv)) (hb.map (·.bs))]) ⟨_, 0, s1, F1, A34, 0, A36, 0, (([] : List Value)), (([] : List KBox)), (by omega), hM.ks, hM.bx, rfl, rfl, rfl, rfl, (patch_eq _ 158 _ (by kernel_rfl) (by kernel_rfl) (by kernel_rfl)), h36.sel [5, 6, 7, 1, 2, 0, 3, 4] [0, 1, 2, 3, 4, 5] (by kernel_rfl) rfl rfl⟩ ?_
   rintro _ x39 _ w39 ⟨i, s2, F2, A3, c3, A4, c4, mv, hb, hi, hk2, hb2, hmv, hhb, hht, rfl, rfl, h39⟩
   refine wp_seq_k ?_
   intro K40 hK40
   refine reg_lit ?_
   refine wq_p 1 [(63, (Value.bool (decide ((i : Int) < (z.bx.length : Int)))))] ?_
   refine wl_end rfl ?_
   refine seq_n hK40 ?_
   refine wp_seq_k ?_
   intro K41 hK41
   refine wp_if ((i : Int) < (z.bx.length : Int)) (by kernel_rfl) (fun b42 => ?_) (fun b42 => ?_)
   ·
    refine wp_skip ?_
    refine seq_n hK41 ?_
    refine wp_seq_k ?_
    intro K43 hK43
    refine wp_block ?_
    refine wp_seq_k ?_
    intro K44 hK44
    obtain ⟨zb, kv, zk, xv, zx, hzz⟩ : ∃ zb kv zk xv zx, z.bx[i]? = some ⟨zb, kv, zk, xv, zx⟩ := ⟨_, _, _, _, _, List.getElem?_eq_getElem (by omega)⟩
    have hz6 : zk.length ≤ 6 ∧ zx.length ≤ 6 := f6 _ (List.mem_of_getElem? hzz)
    obtain ⟨KA, kc, rfl, hk45⟩ := h39.subISs 2 rfl i (v := kv) (l := zk) (by rw [List.getElem?_map, hzz]; rfl) (by rw [List.getElem?_map, hzz]; rfl)
    obtain ⟨XA, xc, rfl, hx45⟩ := hk45.subISs 4 rfl i (v := xv) (l := zx) (by rw [List.getElem?_map, hzz]; rfl) (by rw [List.getElem?_map, hzz]; rfl)
    have hbl : s2.boxes.length = i := by rw [hb2]; simp [kbxTo]; omega
    have hkl : s2.keys.length = z.of.length := by rw [hk2, kksTo_len]
    
    refine reg_lit ?_
    refine wq_p 1 [(64, (Value.int .i64 ((i : Int))))] ?_
    refine wq_v (some 65) (eAt B (i * 3 + 0)) (e_idxN (RV.lenIs (n := z.bx.length) (hx45.rd 3 rfl) (by simp)).2 i z.bx.length (RV.lenIs (n := z.bx.length) (hx45.rd 3 rfl) (by simp)).1 (by omega) 85 (.tmp 60) (.tmp 62) (by kernel_rfl) .i64 (by kernel_rfl) (by kernel_rfl) 131 (by kernel_rfl) (by kernel_rfl) _) ?_
    refine wq_v (some 66) (Value.agg ([(Value.int .i64 zb), (Value.slice KA zk.length kc), (Value.slice XA zx.length xc)]).toArray) (e_elemsN (RV.lenIs (n := z.bx.length) (hx45.rd 3 rfl) (by simp)).2 i 0 ([(Value.int .i64 zb), (Value.slice KA zk.length kc), (Value.slice XA zx.length xc)]) (by rw [List.getElem?_map, hzz]; rfl) 131 (.tmp 65) (by kernel_rfl) ([(Value.int .i64 zb), (Value.slice KA zk.length kc), (Value.slice XA zx.length xc)]) (by kernel_rfl) (by kernel_rfl) (by kernel_rfl)) ?_
    refine wq_to (some 13) (x_new hx45 131 ([(Value.int .i64 0), (Value.slice none 0 0), (Value.slice none 0 0)]) (fun r => pt r 0) (by kernel_rfl)) ?_
    rintro _ w46 ⟨g46, rfl, h46⟩
    refine wq_p 1 [(12, (Value.int .i64 ((i : Int))))] ?_
    refine wq_to none (x_stores h46 0 rfl 131 (.tmp 13) (.tmp 66) (by kernel_rfl) 0 ([(Value.int .i64 zb), (Value.slice KA zk.length kc), (Value.slice XA zx.length xc)]) ([(Value.int .i64 zb), (Value.slice KA zk.length kc), (Value.slice XA zx.length xc)]) (by kernel_rfl) (by kernel_rfl) (by kernel_rfl) (by kernel_rfl) (by kernel_rfl) (by kernel_rfl)) ?_
    rintro _ w47 h47
    refine wl_end rfl ?_
    refine seq_n hK44 ?_
    refine wp_seq_k ?_
    intro K48 hK48
    refine reg_lit ?_
    refine wq_to (some 67) (x_bs0B h47 (by kernel_rfl)) ?_
    rintro _ w49 ⟨A49, rfl, h49⟩
    refine wq_p 1 [(14, (Value.slice A49 0 0))] ?_
    refine wl_end rfl ?_
    refine seq_n hK48 ?_
    refine wp_seq_k ?_
    intro K50 hK50
    refine reg_lit ?_
    refine wq_p 1 [(68, (pt g46 0))] ?_
    refine wq_v (some 69) (Value.int .i64 zb) (e_load (h49.at_ 1 rfl) 3 (.tmp 68) (by kernel_rfl) 0 (Value.int .i64 zb) (by kernel_rfl) (by kernel_rfl) (by kernel_rfl)) ?_
    refine wq_v (some 70) (Value.int .i64 ((m31 zb : Int))) (eq_is (v := Value.int .i64 (bits .and .i64 zb 31)) (by kernel_rfl) (congrArg (Value.int .i64) (m31_eq zb).1)) ?_
    refine wq_p 1 [(71, (pt g2 0))] ?_
    refine wq_v (some 72) (Value.slice A z.of.length a) (e_load (h49.at_ 2 rfl) 84 (.tmp 71) (by kernel_rfl) 0 (Value.slice A z.of.length a) (by kernel_rfl) (by kernel_rfl) (by kernel_rfl)) ?_
    refine wq_p 1 [(73, (Value.int .i64 ((z.of.length : Int))))] ?_
    refine wq_v (some 74) (Value.int .i64 ((kN z.of.length zb : Int))) (e_rem (.tmp 70) (.tmp 73) 3 3 (by kernel_rfl) (m31 zb) (z.of.length) (by kernel_rfl) (by kernel_rfl) (by omega) _) ?_
    refine wq_v (some 75) (Value.int .i64 (((kN z.of.length zb + 1 : Nat) : Int))) ((by have hkn := kN_lt (n := z.of.length) zb (by omega); exact exec_add _ _ _ _ rfl 1 (kN z.of.length zb : Nat) (by kernel_rfl) (by kernel_rfl) ((kN z.of.length zb + 1 : Nat) : Int) (by omega) (by omega) (by omega) _)) ?_
    refine wq_p 1 [(76, (Value.agg ([(Value.int .i64 (((kN z.of.length zb + 1 : Nat) : Int))), (Value.slice none 0 0), (Value.slice none 0 0)]).toArray))] ?_
    refine wq_to (some 15) (x_new h49 131 ([(Value.int .i64 0), (Value.slice none 0 0), (Value.slice none 0 0)]) (fun r => pt r 0) (by kernel_rfl)) ?_
    rintro _ w51 ⟨g51, rfl, h51⟩
    refine wq_to none (x_stores h51 0 rfl 131 (.tmp 15) (.tmp 76) (by kernel_rfl) 0 ([(Value.int .i64 (((kN z.of.length zb + 1 : Nat) : Int))), (Value.slice none 0 0), (Value.slice none 0 0)]) ([(Value.int .i64 (((kN z.of.length zb + 1 : Nat) : Int))), (Value.slice none 0 0), (Value.slice none 0 0)]) (by kernel_rfl) (by kernel_rfl) (by kernel_rfl) (by kernel_rfl) (by kernel_rfl) (by kernel_rfl)) ?_
    rintro _ w52 h52
    refine wl_end rfl ?_
    refine seq_n hK50 ?_
    refine wp_seq_k ?_
    intro K53 hK53
    refine wp_seq_k ?_
    intro K54 hK54
    refine wp_reset 158 [(0, (Value.agg ([(Value.slice A z.of.length a), (Value.slice B z.bx.length b), (Value.slice C z.ls.length c), (Value.slice D z.ss.length d)]).toArray)), (1, (pt g2 0)), (2, (Value.pointer none)), (3, (Value.slice none 0 0)), (4, (Value.slice none 0 0)), (5, (Value.slice none 0 0)), (6, (pt tb4 0)), (7, (Value.slice A2 z.of.length c2)), (10, (Value.slice A3 i c3)), (11, (Value.slice A4 i c4)), (12, (Value.int .i64 ((i : Int)))), (13, (pt g46 0)), (14, (Value.slice A49 0 0)), (15, (pt g51 0)), (24, (Value.slice A z.of.length a)), (25, (Value.int .i64 ((z.of.length : Int)))), (26, (Value.int .i64 ((z.of.length : Int)))), (27, (Value.bool (decide ((z.of.length : Int) < (z.of.length : Int))))), (60, (Value.slice B z.bx.length b)), (61, (Value.int .i64 ((z.bx.length : Int)))), (62, (Value.int .i64 ((i : Int)))), (63, (Value.bool (decide ((i : Int) < (z.bx.length : Int)))))] (fun x55 => ?_)
    have h56 := h52.ovNil 3 1
    
    refine reg_lit ?_
    refine wq_p 1 [(77, (pt g46 1))] ?_
    refine wq_v (some 78) (Value.slice KA zk.length kc) (e_load (h56.at_ 3 rfl) 84 (.tmp 77) (by kernel_rfl) 1 (Value.slice KA zk.length kc) (by kernel_rfl) (by kernel_rfl) (by kernel_rfl)) ?_
    refine wq_p 2 [(80, (Value.int .i64 0)), (79, (Value.int .i64 ((zk.length : Int))))] ?_
    refine wl_end rfl ?_
    refine seq_n hK54 ?_
    refine wp_block ?_
    refine wp_loopm (fun mM xX aA wL => ∃ (q : Nat) (A5 : Option Addr) (c5 : Nat) (A6 : Option Addr) (c6 : Nat), (q ≤ zk.length) ∧ mM = zk.length - (q) ∧ aA = patch xX 158 [(0, (Value.agg ([(Value.slice A z.of.length a), (Value.slice B z.bx.length b), (Value.slice C z.ls.length c), (Value.slice D z.ss.length d)]).toArray)), (1, (pt g2 0)), (2, (Value.pointer none)), (3, (Value.slice none 0 0)), (4, (Value.slice none 0 0)), (5, (Value.slice none 0 0)), (6, (pt tb4 0)), (7, (Value.slice A2 z.of.length c2)), (10, (Value.slice A3 i c3)), (11, (Value.slice A4 i c4)), (12, (Value.int .i64 ((i : Int)))), (13, (pt g46 0)), (14, (Value.slice A5 ((16 * q)) c5)), (15, (pt g51 0)), (24, (Value.slice A z.of.length a)), (25, (Value.int .i64 ((z.of.length : Int)))), (26, (Value.int .i64 ((z.of.length : Int)))), (27, (Value.bool (decide ((z.of.length : Int) < (z.of.length : Int))))), (60, (Value.slice B z.bx.length b)), (61, (Value.int .i64 ((z.bx.length : Int)))), (62, (Value.int .i64 ((i : Int)))), (63, (Value.bool (decide ((i : Int) < (z.bx.length : Int))))), (78, (Value.slice KA zk.length kc)), (79, (Value.int .i64 ((zk.length : Int)))), (80, (Value.int .i64 ((q : Int))))] ∧ Hp (fun _ => False) w wL [rRV 1 XA xc (ivs zx), rRV 1 KA kc (ivs zk), rRV 1 A a (ivs z.of), rRV 3 B b (z.bx.map kbCells), rISs (z.bx.map (·.kv)) (z.bx.map (·.ks)), rISs (z.bx.map (·.bv)) (z.bx.map (·.bs)), rRV 1 C c (ivs z.ls), rRV 1 D d (ivs z.ss)] [rOB ((Value.slice A5 ((16 * q)) c5)) (kBody (ksN z.of.length (zk.take q))), rBlk g51 131 ([(Value.int .i64 (((kN z.of.length zb + 1 : Nat) : Int))), (Value.slice A6 q c6), (Value.slice none 0 0)]), rOV 3 1 ((Value.slice A6 q c6)) (ivs (natI (ksN z.of.length (zk.take q)))), rBlk g46 131 ([(Value.int .i64 zb), (Value.slice KA zk.length kc), (Value.slice XA zx.length xc)]), rBlk g2 87 ([(Value.slice A z.of.length a), (Value.slice B z.bx.length b), (Value.slice C z.ls.length c), (Value.slice D z.ss.length d)]), rOV 3 1 ((Value.slice A2 z.of.length c2)) (ivs (ofTo z.of (z.of.length))), rTab F2 tb4 s2, rOV 28 1 ((Value.slice A3 i c3)) (mv.map fun v => [v]), rSBs mv (mkTo (i)), rOV 131 3 ((Value.slice A4 i c4)) (hb.map kbCells), rISs (hb.map (·.kv)) (hb.map (·.ks)), rISs (hb.map (·.bv)) (hb.map (·.bs))]) ⟨_, 0, A49, 0, none, 0, (by omega), rfl, (patch_eq _ 158 _ (by kernel_rfl) (by kernel_rfl) (by kernel_rfl)), h56.sel [2, 1, 0, 3, 4, 5, 6, 7, 8, 9, 10, 11] [0, 1, 2, 3, 4, 5, 6, 7] (by kernel_rfl) rfl rfl⟩ ?_
    rintro _ x57 _ w57 ⟨q, A5, c5, A6, c6, hq, rfl, rfl, h57⟩
    refine wp_seq_k ?_
    intro K58 hK58
    refine reg_lit ?_
    refine wq_p 1 [(81, (Value.bool (decide ((q : Int) < (zk.length : Int)))))] ?_
    refine wl_end rfl ?_
    refine seq_n hK58 ?_
    refine wp_seq_k ?_
    intro K59 hK59
    refine wp_if ((q : Int) < (zk.length : Int)) (by kernel_rfl) (fun b60 => ?_) (fun b60 => ?_)
    ·
     refine wp_skip ?_
     refine seq_n hK59 ?_
     refine wp_seq_k ?_
     intro K61 hK61
     refine wp_block ?_
     refine wp_seq_k ?_
     intro K62 hK62
     obtain ⟨y, hy⟩ : ∃ y, zk[q]? = some y := ⟨_, List.getElem?_eq_getElem (by omega)⟩
     refine reg_lit ?_
     refine wq_v (some 82) (eAt KA (q * 1 + 0)) (e_idxN (RV.lenIs (n := zk.length) (h57.rd 1 rfl) (ivs_len _)).2 q zk.length (RV.lenIs (n := zk.length) (h57.rd 1 rfl) (ivs_len _)).1 (by omega) 84 (.tmp 78) (.tmp 80) (by kernel_rfl) .i64 (by kernel_rfl) (by kernel_rfl) 3 (by kernel_rfl) (by kernel_rfl) _) ?_
     refine wq_v (some 83) (Value.int .i64 y) (e_elemN (RV.lenIs (n := zk.length) (h57.rd 1 rfl) (ivs_len _)).2 q 0 ([(Value.int .i64 y)]) (ivs_get hy) 3 (.tmp 82) (by kernel_rfl) (Value.int .i64 y) (by kernel_rfl) (by kernel_rfl) (by kernel_rfl)) ?_
     refine wq_p 1 [(17, (Value.int .i64 y))] ?_
     refine wl_end rfl ?_
     refine seq_n hK62 ?_
     refine wp_seq_k ?_
     intro K63 hK63
     refine pR_go h57 11 (fun W => (rBlk g51 131 ([(Value.int .i64 (((kN z.of.length zb + 1 : Nat) : Int))), (Value.slice A6 q c6), (Value.slice none 0 0)])).Φ W ∧ (rBlk g2 87 ([(Value.slice A z.of.length a), (Value.slice B z.bx.length b), (Value.slice C z.ls.length c), (Value.slice D z.ss.length d)])).Φ W ∧ True) [(85, [15], 0), (86, [84], 1), (87, [17], 0), (88, [86], 4), (89, [1], 0), (90, [88], 16), (91, [89], 32), (92, [87, 90], 72), (93, [91], 128), (94, [92], 256), (95, [85, 93], 514), (96, [15], 2047), (0, [95, 94], 4095)] rfl (fun _ d _ _ _ h => by cases d <;> exact h) ?_
     intro hs64 w64 h64
     refine pR_p 10 [0, 2, 4] [(88, (pt g2 0)), (86, (Value.int .i64 y)), (84, (pt g51 1))] 21 hs64 ⟨h64.at_ 1 rfl, h64.at_ 4 rfl, trivial⟩ ?_
     refine pR_v 3 (some 87) (Value.int .i64 ((m31 y : Int))) 29 rfl hs64 ⟨h64.at_ 1 rfl, h64.at_ 4 rfl, trivial⟩ (fun W hW => eq_is (v := Value.int .i64 (bits .and .i64 y 31)) (by kernel_rfl) (congrArg (Value.int .i64) (m31_eq y).1)) ?_
     refine pR_v 1 (some 85) (Value.slice A6 q c6) 31 rfl hs64 ⟨h64.at_ 1 rfl, h64.at_ 4 rfl, trivial⟩ (fun W hW => e_load hW.1 84 (.tmp 84) (by kernel_rfl) 1 (Value.slice A6 q c6) (by kernel_rfl) (by kernel_rfl) (by kernel_rfl)) ?_
     refine pR_v 5 (some 89) (Value.slice A z.of.length a) 63 rfl hs64 ⟨h64.at_ 1 rfl, h64.at_ 4 rfl, trivial⟩ (fun W hW => e_load hW.2.1 84 (.tmp 88) (by kernel_rfl) 0 (Value.slice A z.of.length a) (by kernel_rfl) (by kernel_rfl) (by kernel_rfl)) ?_
     refine pR_p 6 [6] [(90, (Value.int .i64 ((z.of.length : Int))))] 127 hs64 ⟨h64.at_ 1 rfl, h64.at_ 4 rfl, trivial⟩ ?_
     refine pR_v 7 (some 91) (Value.int .i64 ((kN z.of.length y : Int))) 255 rfl hs64 ⟨h64.at_ 1 rfl, h64.at_ 4 rfl, trivial⟩ (fun W hW => e_rem (.tmp 87) (.tmp 90) 3 3 (by kernel_rfl) (m31 y) (z.of.length) (by kernel_rfl) (by kernel_rfl) (by omega) _) ?_
     refine pR_v 8 (some 92) (Value.int .i64 (((kN z.of.length y + 1 : Nat) : Int))) 511 rfl hs64 ⟨h64.at_ 1 rfl, h64.at_ 4 rfl, trivial⟩ (fun W hW => (by have hkn := kN_lt (n := z.of.length) y (by omega); exact exec_add _ _ _ _ rfl 1 (kN z.of.length y : Nat) (by kernel_rfl) (by kernel_rfl) ((kN z.of.length y + 1 : Nat) : Int) (by omega) (by omega) (by omega) _)) ?_
     refine pR_to 9 (some 93) 1023 rfl hs64 (x_bs h64 3 ([(Value.int .i64 (((kN z.of.length y + 1 : Nat) : Int)))]) 1 (by kernel_rfl)) ?_
     rintro _ w65 ⟨g65, rfl, h65⟩
     refine ⟨fun _ => ⟨h65.at_ 2 rfl, h65.at_ 5 rfl, trivial⟩, ?_⟩
     refine pR_to 10 (some 94) 2047 rfl hs64 (x_pushG h65 3 0 rfl rfl (by kernel_rfl) (.tmp 85) (.tmp 93) 84 (by kernel_rfl) 8 (Value.int .i64 0) (by kernel_rfl) (by kernel_rfl) (by kernel_rfl) (by kernel_rfl) (by kernel_rfl) 1 (by kernel_rfl) (by kernel_rfl) (by kernel_rfl) (by rw [kI_len (by omega)]; omega) (by unfold maxLen; rw [kI_len (by omega)]; omega) (ivs (natI (ksN z.of.length (zk.take (q + 1))))) ((q + 1)) (kI_succ hy) (kI_len (by omega))) ?_
     rintro _ w66 ⟨A66, c66, rfl, h66⟩
     refine ⟨fun _ => ⟨h66.at_ 2 rfl, h66.at_ 5 rfl, trivial⟩, ?_⟩
     refine pR_to 11 (some 95) 4095 rfl hs64 (OpTo.run (pt g51 1) (pureOp_run (by kernel_rfl) _) (R := fun v w => v = (pt g51 1) ∧ w66 = w) ⟨rfl, rfl⟩) ?_
     rintro _ _ ⟨rfl, rfl⟩
     refine ⟨fun h => absurd h (by decide), ?_⟩
     refine pR_to 12 none 8191 rfl hs64 (x_store h66 2 rfl 84 (.tmp 95) (.tmp 94) (by kernel_rfl) 1 (Value.slice A66 ((q + 1)) c66) ([(Value.int .i64 (((kN z.of.length zb + 1 : Nat) : Int))), (Value.slice A66 ((q + 1)) c66), (Value.slice none 0 0)]) (by kernel_rfl) (by kernel_rfl) (by kernel_rfl) (by kernel_rfl) rfl rfl (by kernel_rfl)) ?_
     rintro _ w67 h67
     refine ⟨fun h => absurd h (by decide), ?_⟩
     refine pR_done hs64 ?_ _
     refine seq_n hK63 ?_
     refine wp_seq_k ?_
     intro K68 hK68
     refine reg_lit ?_
     refine wq_p 2 [(97, (pt g51 1)), (96, (pt tb4 0))] ?_
     refine wq_v (some 98) (Value.slice A66 ((q + 1)) c66) (e_load (h67.at_ 2 rfl) 84 (.tmp 97) (by kernel_rfl) 1 (Value.slice A66 ((q + 1)) c66) (by kernel_rfl) (by kernel_rfl) (by kernel_rfl)) ?_
     refine wq_p 1 [(99, (pt g51 1))] ?_
     refine wq_v (some 100) (Value.slice A66 ((q + 1)) c66) (e_load (h67.at_ 2 rfl) 84 (.tmp 99) (by kernel_rfl) 1 (Value.slice A66 ((q + 1)) c66) (by kernel_rfl) (by kernel_rfl) (by kernel_rfl)) ?_
     refine wq_p 1 [(101, (Value.int .i64 (((q + 1) : Int))))] ?_
     refine wq_v (some 102) (Value.int .i64 ((q : Int))) (exec_sub _ _ _ _ rfl (((q + 1) : Int)) 1 (by kernel_rfl) (by kernel_rfl) (q : Int) (by omega) (by omega) (by omega) _) ?_
     refine wq_v (some 103) (eAt A66 (q * 1 + 0)) (e_idxN (OV.rvn (h67.at_ 3 rfl)).2 q ((q + 1)) (OV.rvn (h67.at_ 3 rfl)).1 (by omega) 84 (.tmp 98) (.tmp 102) (by kernel_rfl) .i64 (by kernel_rfl) (by kernel_rfl) 3 (by kernel_rfl) (by kernel_rfl) _) ?_
     refine wq_v (some 104) (Value.int .i64 (((kN z.of.length y + 1 : Nat) : Int))) (e_elemN (OV.rvn (h67.at_ 3 rfl)).2 q 0 ([(Value.int .i64 (((kN z.of.length y + 1 : Nat) : Int)))]) (kI_last hy) 3 (.tmp 103) (by kernel_rfl) (Value.int .i64 (((kN z.of.length y + 1 : Nat) : Int))) (by kernel_rfl) (by kernel_rfl) (by kernel_rfl)) ?_
     refine wq_to (some 105) (x_nth (tb := tb4) h67 ((kN z.of.length y + 1 : Nat)) (by kernel_rfl) (by have := kN_lt (n := z.of.length) y (by omega); omega)) ?_
     rintro _ w69 ⟨K69, rfl, hK69, h69⟩
     refine wq_to (some 18) (x_new h69 42 (vb (List.replicate 16 0)) (fun r => pt r 0) (by kernel_rfl)) ?_
     rintro _ w70 ⟨g70, rfl, h70⟩
     refine wq_to none (x_stores h70 0 rfl 42 (.tmp 18) (.tmp 105) (by kernel_rfl) 0 (vb (kl K69)) (vb (kl K69)) (by kernel_rfl) (by kernel_rfl) (by kernel_rfl) (by kernel_rfl) (by kernel_rfl) (by kernel_rfl)) ?_
     rintro _ w71 h71
     refine wl_end rfl ?_
     refine seq_n hK68 ?_
     refine wp_reset 158 [(0, (Value.agg ([(Value.slice A z.of.length a), (Value.slice B z.bx.length b), (Value.slice C z.ls.length c), (Value.slice D z.ss.length d)]).toArray)), (1, (pt g2 0)), (2, (Value.pointer none)), (3, (Value.slice none 0 0)), (4, (Value.slice none 0 0)), (5, (Value.slice none 0 0)), (6, (pt tb4 0)), (7, (Value.slice A2 z.of.length c2)), (10, (Value.slice A3 i c3)), (11, (Value.slice A4 i c4)), (12, (Value.int .i64 ((i : Int)))), (13, (pt g46 0)), (14, (Value.slice A5 ((16 * q)) c5)), (15, (pt g51 0)), (17, (Value.int .i64 y)), (18, (pt g70 0)), (24, (Value.slice A z.of.length a)), (25, (Value.int .i64 ((z.of.length : Int)))), (26, (Value.int .i64 ((z.of.length : Int)))), (27, (Value.bool (decide ((z.of.length : Int) < (z.of.length : Int))))), (60, (Value.slice B z.bx.length b)), (61, (Value.int .i64 ((z.bx.length : Int)))), (62, (Value.int .i64 ((i : Int)))), (63, (Value.bool (decide ((i : Int) < (z.bx.length : Int))))), (78, (Value.slice KA zk.length kc)), (79, (Value.int .i64 ((zk.length : Int)))), (80, (Value.int .i64 ((q : Int)))), (81, (Value.bool (decide ((q : Int) < (zk.length : Int)))))] (fun x72 => ?_)
     refine reg_lit ?_
     refine wq_p 2 [(107, (Value.slice (some ⟨g70, 0, none⟩) 16 16)), (106, (Value.slice A5 ((16 * q)) c5))] ?_
     refine wq_to (some 108) (x_appG h71 2 rfl (.tmp 106) (.tmp 107) (by kernel_rfl) (Value.slice (some ⟨g70, 0, none⟩) 16 16) (by kernel_rfl) (by kernel_rfl) (SB.blk16 (K := K69) (h71.at_ 0 rfl)) (by rw [kBody_len, ksN_len, List.length_take, kl_len]; omega) (kBody (ksN z.of.length (zk.take (q + 1)))) ((16 * (q + 1))) (by rw [ksN_succ hy, kBody_succ, hK69]) (by rw [kBody_len, ksN_len, List.length_take]; omega)) ?_
     rintro _ w73 ⟨A73, c73, rfl, h73⟩
     refine wq_p 1 [(14, (Value.slice A73 ((16 * (q + 1))) c73))] ?_
     refine wl_end rfl ?_
     refine blk_n ?_
     refine seq_n hK61 ?_
     refine reg_lit ?_
     refine wq_v (some 109) (Value.int .i64 ((q : Int) + 1)) (exec_add _ _ _ _ rfl ((q : Int)) 1 (by kernel_rfl) (by kernel_rfl) ((q : Int) + 1) rfl (by omega) (by omega) _) ?_
     refine wq_p 1 [(80, (Value.int .i64 ((q : Int) + 1)))] ?_
     refine wl_end rfl ?_
     refine ⟨zk.length - (q + 1), (by omega), (q + 1), A73, c73, A66, c66, (by omega), rfl, (patch_eq _ 158 _ (by kernel_rfl) (by kernel_rfl) (by kernel_rfl)), h73.sel [2, 3, 4, 5, 6, 7, 8, 9, 10, 11, 12, 13] [0, 1, 2, 3, 4, 5, 6, 7] (by kernel_rfl) rfl rfl⟩
    ·
     refine wp_exit ?_
     refine seq_e ?_
     refine seq_e ?_
     refine blk_e ?_
     refine seq_n hK53 ?_
     refine wp_seq_k ?_
     intro K74 hK74
     refine wp_seq_k ?_
     intro K75 hK75
     have hEz : zk.take q = zk := ksN_all (by omega)
     have h76 := h57.ovNil 3 1
     
     refine reg_lit ?_
     refine wq_p 1 [(110, (pt g46 2))] ?_
     refine wq_v (some 111) (Value.slice XA zx.length xc) (e_load (h76.at_ 4 rfl) 84 (.tmp 110) (by kernel_rfl) 2 (Value.slice XA zx.length xc) (by kernel_rfl) (by kernel_rfl) (by kernel_rfl)) ?_
     refine wq_p 2 [(113, (Value.int .i64 0)), (112, (Value.int .i64 ((zx.length : Int))))] ?_
     refine wl_end rfl ?_
     refine seq_n hK75 ?_
     refine wp_block ?_
     refine wp_loopm (fun mM xX aA wL => ∃ (r : Nat) (A7 : Option Addr) (c7 : Nat) (L : Nat) (bd : Bytes) (A8 : Option Addr) (c8 : Nat) (lx : Nat) (xs : List Int), (r ≤ zx.length) ∧ (xs = bsN i (zx.take (r))) ∧ (bd = kBody (ksN z.of.length zk) ++ bBody (bsN i (zx.take (r)))) ∧ ((bd : Bytes).length = L) ∧ (L ≤ 16 * 6 + 16 * (r)) ∧ ((xs : List Int).length = lx) ∧ mM = zx.length - (r) ∧ aA = patch xX 158 [(0, (Value.agg ([(Value.slice A z.of.length a), (Value.slice B z.bx.length b), (Value.slice C z.ls.length c), (Value.slice D z.ss.length d)]).toArray)), (1, (pt g2 0)), (2, (Value.pointer none)), (3, (Value.slice none 0 0)), (4, (Value.slice none 0 0)), (5, (Value.slice none 0 0)), (6, (pt tb4 0)), (7, (Value.slice A2 z.of.length c2)), (10, (Value.slice A3 i c3)), (11, (Value.slice A4 i c4)), (12, (Value.int .i64 ((i : Int)))), (13, (pt g46 0)), (14, (Value.slice A7 L c7)), (15, (pt g51 0)), (24, (Value.slice A z.of.length a)), (25, (Value.int .i64 ((z.of.length : Int)))), (26, (Value.int .i64 ((z.of.length : Int)))), (27, (Value.bool (decide ((z.of.length : Int) < (z.of.length : Int))))), (60, (Value.slice B z.bx.length b)), (61, (Value.int .i64 ((z.bx.length : Int)))), (62, (Value.int .i64 ((i : Int)))), (63, (Value.bool (decide ((i : Int) < (z.bx.length : Int))))), (78, (Value.slice KA zk.length kc)), (79, (Value.int .i64 ((zk.length : Int)))), (80, (Value.int .i64 ((q : Int)))), (81, (Value.bool (decide ((q : Int) < (zk.length : Int))))), (111, (Value.slice XA zx.length xc)), (112, (Value.int .i64 ((zx.length : Int)))), (113, (Value.int .i64 ((r : Int))))] ∧ Hp (fun _ => False) w wL [rRV 1 XA xc (ivs zx), rRV 1 KA kc (ivs zk), rRV 1 A a (ivs z.of), rRV 3 B b (z.bx.map kbCells), rISs (z.bx.map (·.kv)) (z.bx.map (·.ks)), rISs (z.bx.map (·.bv)) (z.bx.map (·.bs)), rRV 1 C c (ivs z.ls), rRV 1 D d (ivs z.ss)] [rOB ((Value.slice A7 L c7)) bd, rBlk g51 131 ([(Value.int .i64 (((kN z.of.length zb + 1 : Nat) : Int))), (Value.slice A6 q c6), (Value.slice A8 lx c8)]), rOV 3 1 ((Value.slice A8 lx c8)) (ivs xs), rOV 3 1 ((Value.slice A6 q c6)) (ivs (natI (ksN z.of.length (zk.take q)))), rBlk g46 131 ([(Value.int .i64 zb), (Value.slice KA zk.length kc), (Value.slice XA zx.length xc)]), rBlk g2 87 ([(Value.slice A z.of.length a), (Value.slice B z.bx.length b), (Value.slice C z.ls.length c), (Value.slice D z.ss.length d)]), rOV 3 1 ((Value.slice A2 z.of.length c2)) (ivs (ofTo z.of (z.of.length))), rTab F2 tb4 s2, rOV 28 1 ((Value.slice A3 i c3)) (mv.map fun v => [v]), rSBs mv (mkTo (i)), rOV 131 3 ((Value.slice A4 i c4)) (hb.map kbCells), rISs (hb.map (·.kv)) (hb.map (·.ks)), rISs (hb.map (·.bv)) (hb.map (·.bs))]) ⟨_, 0, A5, c5, ((16 * q)), (kBody (ksN z.of.length (zk.take q))), none, 0, 0, ([]), (by omega), rfl, (by rw [hEz]; simp [bsN, bBody]), (by rw [kBody_len, ksN_len, List.length_take]; omega), (by omega), rfl, rfl, (patch_eq _ 158 _ (by kernel_rfl) (by kernel_rfl) (by kernel_rfl)), h76.sel [1, 2, 0, 3, 4, 5, 6, 7, 8, 9, 10, 11, 12] [0, 1, 2, 3, 4, 5, 6, 7] (by kernel_rfl) rfl rfl⟩ ?_
     rintro _ x77 _ w77 ⟨r, A7, c7, L, bd, A8, c8, lx, xs, hr, hxs, hbd, hL, hLr, hlx, rfl, rfl, h77⟩
     refine wp_seq_k ?_
     intro K78 hK78
     refine reg_lit ?_
     refine wq_p 1 [(114, (Value.bool (decide ((r : Int) < (zx.length : Int)))))] ?_
     refine wl_end rfl ?_
     refine seq_n hK78 ?_
     refine wp_seq_k ?_
     intro K79 hK79
     refine wp_if ((r : Int) < (zx.length : Int)) (by kernel_rfl) (fun b80 => ?_) (fun b80 => ?_)
     ·
      refine wp_skip ?_
      refine seq_n hK79 ?_
      refine wp_seq_k ?_
      intro K81 hK81
      refine wp_block ?_
      refine wp_seq_k ?_
      intro K82 hK82
      obtain ⟨y, hy⟩ : ∃ y, zx[r]? = some y := ⟨_, List.getElem?_eq_getElem (by omega)⟩
      have hxl : xs.length ≤ r := by rw [hxs]; exact Nat.le_trans bsN_len (by rw [List.length_take]; omega)
      refine reg_lit ?_
      refine wq_v (some 115) (eAt XA (r * 1 + 0)) (e_idxN (RV.lenIs (n := zx.length) (h77.rd 0 rfl) (ivs_len _)).2 r zx.length (RV.lenIs (n := zx.length) (h77.rd 0 rfl) (ivs_len _)).1 (by omega) 84 (.tmp 111) (.tmp 113) (by kernel_rfl) .i64 (by kernel_rfl) (by kernel_rfl) 3 (by kernel_rfl) (by kernel_rfl) _) ?_
      refine wq_v (some 116) (Value.int .i64 y) (e_elemN (RV.lenIs (n := zx.length) (h77.rd 0 rfl) (ivs_len _)).2 r 0 ([(Value.int .i64 y)]) (ivs_get hy) 3 (.tmp 115) (by kernel_rfl) (Value.int .i64 y) (by kernel_rfl) (by kernel_rfl) (by kernel_rfl)) ?_
      refine wq_p 1 [(20, (Value.int .i64 y))] ?_
      refine wl_end rfl ?_
      refine seq_n hK82 ?_
      refine wp_seq_k ?_
      intro K83 hK83
      rcases (show (1 ≤ y ∧ y ≤ (i : Int)) ∨ (¬ 1 ≤ y) ∨ (1 ≤ y ∧ ¬ y ≤ (i : Int)) by omega) with ⟨u1, u2⟩ | u1 | ⟨u1, u2⟩
      ·
       refine reg_lit ?_
       refine wq_p 1 [(117, (Value.int .i64 y))] ?_
       refine wq_v (some 118) (.bool true) (eq_is (v := (Value.bool (decide (y ≥ 1)))) (by kernel_rfl) (by simp; omega)) ?_
       refine wq_p 3 [(121, (Value.int .i64 ((i : Int)))), (120, (Value.int .i64 y)), (119, (Value.bool true))] ?_
       refine wq_v (some 122) (.bool true) (eq_is (v := (Value.bool (decide (y ≤ (i : Int))))) (by kernel_rfl) (by simp; omega)) ?_
       refine wq_p 1 [(123, (Value.bool true))] ?_
       refine wl_end rfl ?_
       refine seq_n hK83 ?_
       refine wp_cond_true (by kernel_rfl) ?_
       refine wp_seq_k ?_
       intro K85 hK85
       refine reg_lit ?_
       refine wq_p 1 [(124, (pt g51 2))] ?_
       refine wq_v (some 125) (Value.slice A8 lx c8) (e_load (h77.at_ 1 rfl) 84 (.tmp 124) (by kernel_rfl) 2 (Value.slice A8 lx c8) (by kernel_rfl) (by kernel_rfl) (by kernel_rfl)) ?_
       refine wq_p 1 [(126, (Value.int .i64 y))] ?_
       refine wq_to (some 127) (x_bs h77 3 ([(Value.int .i64 y)]) 1 (by kernel_rfl)) ?_
       rintro _ w86 ⟨g86, rfl, h86⟩
       refine wq_to (some 128) (x_pushG h86 3 0 rfl rfl (by kernel_rfl) (.tmp 125) (.tmp 127) 84 (by kernel_rfl) 8 (Value.int .i64 0) (by kernel_rfl) (by kernel_rfl) (by kernel_rfl) (by kernel_rfl) (by kernel_rfl) 1 (by kernel_rfl) (by kernel_rfl) (by kernel_rfl) (by rw [ivs_len]; omega) (by unfold maxLen; rw [ivs_len]; omega) (ivs (xs ++ [y])) ((xs ++ [y]).length) (by simp [ivs]) (by simp [ivs])) ?_
       rintro _ w87 ⟨A87, c87, rfl, h87⟩
       refine wq_p 1 [(129, (pt g51 2))] ?_
       refine wq_to none (x_store h87 2 rfl 84 (.tmp 129) (.tmp 128) (by kernel_rfl) 2 (Value.slice A87 ((xs ++ [y]).length) c87) ([(Value.int .i64 (((kN z.of.length zb + 1 : Nat) : Int))), (Value.slice A6 q c6), (Value.slice A87 ((xs ++ [y]).length) c87)]) (by kernel_rfl) (by kernel_rfl) (by kernel_rfl) (by kernel_rfl) rfl rfl (by kernel_rfl)) ?_
       rintro _ w88 h88
       refine wl_end rfl ?_
       refine seq_n hK85 ?_
       obtain ⟨MA, mc, my, hm1, hm2⟩ := sbsget (h88.at_ 10 rfl) (by rw [mkTo_len]; exact hmv) (y.toNat - 1) (by rw [mkTo_len]; omega)
       have hm3 : my = mkB 98 y.toNat := by
         rw [mkTo_at (by omega)] at hm2
         injection hm2 with hm2
         rw [← hm2, show y.toNat - 1 + 1 = y.toNat by omega]
       
       refine reg_lit ?_
       refine wq_p 3 [(132, (Value.int .i64 y)), (131, (Value.slice A3 i c3)), (130, (Value.slice A7 L c7))] ?_
       refine wq_v (some 133) (Value.int .i64 (((y.toNat - 1 : Nat) : Int))) (exec_sub _ _ _ _ rfl y 1 (by kernel_rfl) (by kernel_rfl) ((y.toNat - 1 : Nat) : Int) (by omega) (by omega) (by omega) _) ?_
       refine wq_v (some 134) (eAt A3 ((((y.toNat - 1))) * 1 + 0)) (e_idxN (OV.rvn (h88.at_ 9 rfl)).2 (((y.toNat - 1))) i (OV.rvn (h88.at_ 9 rfl)).1 (by omega) 63 (.tmp 131) (.tmp 133) (by kernel_rfl) .i64 (by kernel_rfl) (by kernel_rfl) 28 (by kernel_rfl) (by kernel_rfl) _) ?_
       refine wq_v (some 135) (Value.slice MA my.length mc) (e_elemN (OV.rvn (h88.at_ 9 rfl)).2 (((y.toNat - 1))) 0 ([(Value.slice MA my.length mc)]) (by rw [List.getElem?_map, hm1]; rfl) 28 (.tmp 134) (by kernel_rfl) (Value.slice MA my.length mc) (by kernel_rfl) (by kernel_rfl) (by kernel_rfl)) ?_
       refine wq_to (some 136) (x_appG h88 1 rfl (.tmp 130) (.tmp 135) (by kernel_rfl) (Value.slice MA my.length mc) (by kernel_rfl) (by kernel_rfl) ((h88.at_ 10 rfl) _ _ _ hm1 hm2) (by rw [hL, hm3]; show L + 16 ≤ _; omega) (bd ++ my) ((L + 16)) rfl (by rw [List.length_append, hL, hm3]; rfl)) ?_
       rintro _ w89 ⟨A89, c89, rfl, h89⟩
       refine wq_p 1 [(14, (Value.slice A89 ((L + 16)) c89))] ?_
       refine wl_end rfl ?_
       refine blk_n ?_
       refine seq_n hK81 ?_
       refine wp_reset 158 [(0, (Value.agg ([(Value.slice A z.of.length a), (Value.slice B z.bx.length b), (Value.slice C z.ls.length c), (Value.slice D z.ss.length d)]).toArray)), (1, (pt g2 0)), (2, (Value.pointer none)), (3, (Value.slice none 0 0)), (4, (Value.slice none 0 0)), (5, (Value.slice none 0 0)), (6, (pt tb4 0)), (7, (Value.slice A2 z.of.length c2)), (10, (Value.slice A3 i c3)), (11, (Value.slice A4 i c4)), (12, (Value.int .i64 ((i : Int)))), (13, (pt g46 0)), (14, (Value.slice A89 ((L + 16)) c89)), (15, (pt g51 0)), (20, (Value.int .i64 y)), (24, (Value.slice A z.of.length a)), (25, (Value.int .i64 ((z.of.length : Int)))), (26, (Value.int .i64 ((z.of.length : Int)))), (27, (Value.bool (decide ((z.of.length : Int) < (z.of.length : Int))))), (60, (Value.slice B z.bx.length b)), (61, (Value.int .i64 ((z.bx.length : Int)))), (62, (Value.int .i64 ((i : Int)))), (63, (Value.bool (decide ((i : Int) < (z.bx.length : Int))))), (78, (Value.slice KA zk.length kc)), (79, (Value.int .i64 ((zk.length : Int)))), (80, (Value.int .i64 ((q : Int)))), (81, (Value.bool (decide ((q : Int) < (zk.length : Int))))), (111, (Value.slice XA zx.length xc)), (112, (Value.int .i64 ((zx.length : Int)))), (113, (Value.int .i64 ((r : Int)))), (114, (Value.bool (decide ((r : Int) < (zx.length : Int))))), (123, (Value.bool true))] (fun x90 => ?_)
       refine reg_lit ?_
       refine wq_v (some 137) (Value.int .i64 ((r : Int) + 1)) (exec_add _ _ _ _ rfl ((r : Int)) 1 (by kernel_rfl) (by kernel_rfl) ((r : Int) + 1) rfl (by omega) (by omega) _) ?_
       refine wq_p 1 [(113, (Value.int .i64 ((r : Int) + 1)))] ?_
       refine wl_end rfl ?_
       refine ⟨zx.length - (r + 1), (by omega), (r + 1), A89, c89, ((L + 16)), (bd ++ my), A87, c87, ((xs ++ [y]).length), (xs ++ [y]), (by omega), (by rw [hxs]; exact (bsN_yes hy u1 u2).symm), (by rw [hbd, bsN_yes hy u1 u2, bBody_succ, hm3, List.append_assoc]), (by rw [List.length_append, hL, hm3]; rfl), (by omega), rfl, rfl, (patch_eq _ 158 _ (by kernel_rfl) (by kernel_rfl) (by kernel_rfl)), h89.sel [1, 2, 3, 4, 5, 6, 7, 8, 9, 10, 11, 12, 13] [0, 1, 2, 3, 4, 5, 6, 7] (by kernel_rfl) rfl rfl⟩
      ·
       refine reg_lit ?_
       refine wq_p 1 [(117, (Value.int .i64 y))] ?_
       refine wq_v (some 118) (.bool false) (eq_is (v := (Value.bool (decide (y ≥ 1)))) (by kernel_rfl) (by simp; omega)) ?_
       refine wq_p 3 [(121, undef), (120, undef), (119, (Value.bool false))] ?_
       refine wq_p 1 [(122, undef)] ?_
       refine wq_p 1 [(123, (Value.bool false))] ?_
       refine wl_end rfl ?_
       refine seq_n hK83 ?_
       refine wp_cond_false (by kernel_rfl) ?_
       refine wp_skip ?_
       refine blk_n ?_
       refine seq_n hK81 ?_
       refine reg_lit ?_
       refine wq_v (some 137) (Value.int .i64 ((r : Int) + 1)) (exec_add _ _ _ _ rfl ((r : Int)) 1 (by kernel_rfl) (by kernel_rfl) ((r : Int) + 1) rfl (by omega) (by omega) _) ?_
       refine wq_p 1 [(113, (Value.int .i64 ((r : Int) + 1)))] ?_
       refine wl_end rfl ?_
       refine ⟨zx.length - (r + 1), (by omega), (r + 1), A7, c7, L, bd, A8, c8, lx, xs, (by omega), (by rw [hxs]; exact (bsN_no hy (by omega)).symm), (by rw [hbd, bsN_no hy (by omega)]), hL, (by omega), hlx, rfl, (patch_eq _ 158 _ (by kernel_rfl) (by kernel_rfl) (by kernel_rfl)), h77.sel [0, 1, 2, 3, 4, 5, 6, 7, 8, 9, 10, 11, 12] [0, 1, 2, 3, 4, 5, 6, 7] (by kernel_rfl) rfl rfl⟩
      ·
       refine reg_lit ?_
       refine wq_p 1 [(117, (Value.int .i64 y))] ?_
       refine wq_v (some 118) (.bool true) (eq_is (v := (Value.bool (decide (y ≥ 1)))) (by kernel_rfl) (by simp; omega)) ?_
       refine wq_p 3 [(121, (Value.int .i64 ((i : Int)))), (120, (Value.int .i64 y)), (119, (Value.bool true))] ?_
       refine wq_v (some 122) (.bool false) (eq_is (v := (Value.bool (decide (y ≤ (i : Int))))) (by kernel_rfl) (by simp; omega)) ?_
       refine wq_p 1 [(123, (Value.bool false))] ?_
       refine wl_end rfl ?_
       refine seq_n hK83 ?_
       refine wp_cond_false (by kernel_rfl) ?_
       refine wp_skip ?_
       refine blk_n ?_
       refine seq_n hK81 ?_
       refine reg_lit ?_
       refine wq_v (some 137) (Value.int .i64 ((r : Int) + 1)) (exec_add _ _ _ _ rfl ((r : Int)) 1 (by kernel_rfl) (by kernel_rfl) ((r : Int) + 1) rfl (by omega) (by omega) _) ?_
       refine wq_p 1 [(113, (Value.int .i64 ((r : Int) + 1)))] ?_
       refine wl_end rfl ?_
       refine ⟨zx.length - (r + 1), (by omega), (r + 1), A7, c7, L, bd, A8, c8, lx, xs, (by omega), (by rw [hxs]; exact (bsN_no hy (by omega)).symm), (by rw [hbd, bsN_no hy (by omega)]), hL, (by omega), hlx, rfl, (patch_eq _ 158 _ (by kernel_rfl) (by kernel_rfl) (by kernel_rfl)), h77.sel [0, 1, 2, 3, 4, 5, 6, 7, 8, 9, 10, 11, 12] [0, 1, 2, 3, 4, 5, 6, 7] (by kernel_rfl) rfl rfl⟩
     ·
      refine wp_exit ?_
      refine seq_e ?_
      refine seq_e ?_
      refine blk_e ?_
      refine seq_n hK74 ?_
      refine wp_seq_k ?_
      intro K91 hK91
      have hEx : zx.take r = zx := ksN_all (by omega)
      refine reg_lit ?_
      refine wq_p 4 [(141, (pt g51 0)), (140, (pt tb4 0)), (139, (pt tb4 0)), (138, (Value.slice A3 i c3))] ?_
      refine wq_v (some 142) (Value.int .i64 (((kN z.of.length zb + 1 : Nat) : Int))) (e_load (h77.at_ 1 rfl) 3 (.tmp 141) (by kernel_rfl) 0 (Value.int .i64 (((kN z.of.length zb + 1 : Nat) : Int))) (by kernel_rfl) (by kernel_rfl) (by kernel_rfl)) ?_
      refine wq_to (some 143) (x_nth (tb := tb4) h77 ((kN z.of.length zb + 1 : Nat)) (by kernel_rfl) (by have := kN_lt (n := z.of.length) zb (by omega); omega)) ?_
      rintro _ w92 ⟨K92, rfl, hK92, h92⟩
      refine wq_p 2 [(145, (Value.slice A7 L c7)), (144, (Value.int .i64 ((i : Int))))] ?_
      refine wq_to (some 146) (x_sealB h92 7 rfl K92 ((i : Int)) bd (Value.slice A7 L c7) (by kernel_rfl) (OB.sb (h92.at_ 0 rfl)) (by omega) (by omega)) ?_
      rintro _ w93 ⟨A93, c93, F93, s93, rfl, hs93, h93⟩
      have hsl := seal_all hs93
      have hKB := hK92
      refine wq_to (some 147) (x_bs h93 28 ([(Value.slice A93 16 c93)]) 1 (by kernel_rfl)) ?_
      rintro _ w94 ⟨g94, rfl, h94⟩
      refine wq_to (some 148) (x_pushG h94 10 0 rfl rfl (by kernel_rfl) (.tmp 138) (.tmp 147) 63 (by kernel_rfl) 24 (Value.slice none 0 0) (by kernel_rfl) (by kernel_rfl) (by kernel_rfl) (by kernel_rfl) (by kernel_rfl) 1 (by kernel_rfl) (by kernel_rfl) (by kernel_rfl) (by simp; omega) (by unfold maxLen; simp; omega) ((mv ++ [(Value.slice A93 16 c93)]).map fun v => [v]) ((i + 1)) (by simp) (by simp [hmv])) ?_
      rintro _ w95 ⟨A95, c95, rfl, h95⟩
      refine wq_p 1 [(10, (Value.slice A95 ((i + 1)) c95))] ?_
      refine wl_end rfl ?_
      refine seq_n hK91 ?_
      refine reg_lit ?_
      refine wq_p 1 [(149, (Value.slice A4 i c4))] ?_
      refine wq_v (some 150) (Value.agg ([(Value.int .i64 (((kN z.of.length zb + 1 : Nat) : Int))), (Value.slice A6 q c6), (Value.slice A8 lx c8)]).toArray) (e_loads (h95.at_ 3 rfl) 131 (.tmp 15) (by kernel_rfl) 0 ([(Value.int .i64 (((kN z.of.length zb + 1 : Nat) : Int))), (Value.slice A6 q c6), (Value.slice A8 lx c8)]) (by kernel_rfl) (by kernel_rfl) (by kernel_rfl)) ?_
      refine wq_to (some 151) (x_bs h95 131 ([(Value.int .i64 (((kN z.of.length zb + 1 : Nat) : Int))), (Value.slice A6 q c6), (Value.slice A8 lx c8)]) 1 (by kernel_rfl)) ?_
      rintro _ w96 ⟨g96, rfl, h96⟩
      refine wq_to (some 152) (x_pushG h96 13 0 rfl rfl (by kernel_rfl) (.tmp 149) (.tmp 151) 85 (by kernel_rfl) 56 (Value.agg ([(Value.int .i64 0), (Value.slice none 0 0), (Value.slice none 0 0)]).toArray) (by kernel_rfl) (by kernel_rfl) (by kernel_rfl) (by kernel_rfl) (by kernel_rfl) 1 (by kernel_rfl) (by kernel_rfl) (by kernel_rfl) (by simp; omega) (by unfold maxLen; simp; omega) ((hb ++ [(⟨((kN z.of.length zb + 1 : Nat) : Int), (Value.slice A6 q c6), natI (ksN z.of.length (zk.take q)), (Value.slice A8 lx c8), xs⟩ : KBox)]).map kbCells) ((i + 1)) (by simp [kbCells]) (by simp [hhb])) ?_
      rintro _ w97 ⟨A97, c97, rfl, h97⟩
      refine wq_p 1 [(11, (Value.slice A97 ((i + 1)) c97))] ?_
      refine wl_end rfl ?_
      refine blk_n ?_
      refine seq_n hK43 ?_
      have h98 := made_join (by_ := ((kN z.of.length zb + 1 : Nat) : Int)) hbl hmv (h97.selS [2, 12, 6, 14, 5, 15, 8, 9, 10, 11, 13] [rSB ((Value.slice A93 16 c93)) (mkB 98 (s2.boxes.length + 1)), rSBs mv (mkTo (i)), rOV 3 1 ((Value.slice A6 q c6)) (ivs (natI (ksN z.of.length (zk.take q)))), rISs (hb.map (·.kv)) (hb.map (·.ks)), rOV 3 1 ((Value.slice A8 lx c8)) (ivs xs), rISs (hb.map (·.bv)) (hb.map (·.bs)), rBlk g2 87 ([(Value.slice A z.of.length a), (Value.slice B z.bx.length b), (Value.slice C z.ls.length c), (Value.slice D z.ss.length d)]), rOV 3 1 ((Value.slice A2 z.of.length c2)) (ivs (ofTo z.of (z.of.length))), rTab F93 tb4 s93, rOV 28 1 ((Value.slice A95 ((i + 1)) c95)) ((mv ++ [(Value.slice A93 16 c93)]).map fun v => [v]), rOV 131 3 ((Value.slice A97 ((i + 1)) c97)) ((hb ++ [(⟨((kN z.of.length zb + 1 : Nat) : Int), (Value.slice A6 q c6), natI (ksN z.of.length (zk.take q)), (Value.slice A8 lx c8), xs⟩ : KBox)]).map kbCells)] (by kernel_rfl) rfl)
      
      refine reg_lit ?_
      refine wq_v (some 153) (Value.int .i64 ((i : Int) + 1)) (exec_add _ _ _ _ rfl ((i : Int)) 1 (by kernel_rfl) (by kernel_rfl) ((i : Int) + 1) rfl (by omega) (by omega) _) ?_
      refine wq_p 1 [(62, (Value.int .i64 ((i : Int) + 1)))] ?_
      refine wl_end rfl ?_
      refine ⟨z.bx.length - (i + 1), (by omega), (i + 1), s93, F93, A95, c95, A97, c97, ((mv ++ [(Value.slice A93 16 c93)])), ((hb ++ [(⟨((kN z.of.length zb + 1 : Nat) : Int), (Value.slice A6 q c6), natI (ksN z.of.length (zk.take q)), (Value.slice A8 lx c8), xs⟩ : KBox)])), (by omega), (by rw [hsl.2.2.1]; exact hk2), (by rw [hsl.1, hb2, kbxTo_succ hzz]; simp only [boxF, hbd, hKB, hEx]), (by simp [hmv]), (by simp [hhb]), (by rw [List.map_append, hht, triTo_succ hzz]; simp only [triOf, triF, hEz, hxs, hEx, List.map_cons, List.map_nil]), rfl, (patch_eq _ 158 _ (by kernel_rfl) (by kernel_rfl) (by kernel_rfl)), h98.sel [3, 4, 5, 6, 2, 7, 1, 0] [2, 3, 4, 5, 6, 7] (by kernel_rfl) rfl rfl⟩
   ·
    refine wp_exit ?_
    refine seq_e ?_
    refine seq_e ?_
    refine blk_e ?_
    refine seq_n hK37 ?_
    refine wp_seq_k ?_
    intro K99 hK99
    refine reg_lit ?_
    refine wq_p 8 [(5, (Value.slice A4 i c4)), (4, (Value.slice A2 z.of.length c2)), (3, (Value.slice A3 i c3)), (2, (pt tb4 0)), (157, (Value.slice A4 i c4)), (156, (Value.slice A2 z.of.length c2)), (155, (Value.slice A3 i c3)), (154, (pt tb4 0))] ?_
    refine wl_end rfl ?_
    refine seq_n hK99 ?_
    refine wp_ret ?_
    refine post_4 rfl (by kernel_rfl) (rtmp (v := (pt tb4 0)) (by kernel_rfl)) (rtmp (v := (Value.slice A3 i c3)) (by kernel_rfl)) (rtmp (v := (Value.slice A2 z.of.length c2)) (by kernel_rfl)) (rtmp (v := (Value.slice A4 i c4)) (by kernel_rfl)) ?_
    have hE2 : i = z.bx.length := by omega
    subst hE2
    exact ⟨_, _, _, _, _, _, _, _, _, mv, hb, rfl, hk2, hb2, hmv, hht, h39.sel [2, 3, 4, 1, 5, 6, 7] [] (by decide) rfl rfl⟩
end Go.Proofs.Ytjjcnijdjhhdoaa
end
/-! Plain law of KnowsMore; calls of few and made. -/
section
namespace Go.Proofs.Ytjjcnijdjhhdoaa
open Go.RowKit Go.QT
def lkTo (n : Nat) (l : List Int) (i : Nat) : List Bytes := (l.take i).map fun x => mkB 107 (kN n x + 1)
def lbTo (m : Nat) (l : List Int) (i : Nat) : List Bytes := if m = 0 then [] else (l.take i).map fun x => mkB 98 (kN m x + 1)
section
variable {s : STab} {N n m i : Nat} {S S' : KM} {l : List Int} {x : Int} {Lk Lb Lk' Lb' : List Bytes} {k : Bytes}
theorem lkTo_succ (h : l[i]? = some x) : lkTo n l (i + 1) = lkTo n l i ++ [mkB 107 (kN n x + 1)] := by
  unfold lkTo
  rw [List.take_add_one, h, List.map_append]; rfl
theorem lbTo_succ (hm : 0 < m) (h : l[i]? = some x) : lbTo m l (i + 1) = lbTo m l i ++ [mkB 98 (kN m x + 1)] := by
  unfold lbTo
  rw [if_neg (by omega), if_neg (by omega), List.take_add_one, h, List.map_append]; rfl
theorem lbTo_none (hm : m = 0) : lbTo m l i = [] := by unfold lbTo; rw [if_pos hm]
theorem rev_get (h : i < l.length) : l.reverse[i]? = l[l.length - 1 - i]? := by rw [List.getElem?_reverse h]
theorem lk_mem : k ∈ lkTo n l l.length ↔ k ∈ lkTo n l.reverse l.length := by
  unfold lkTo
  rw [List.take_of_length_le (Nat.le_refl _), List.take_of_length_le (by rw [List.length_reverse]; exact Nat.le_refl _), List.map_reverse, List.mem_reverse]
theorem lb_mem : k ∈ lbTo m l l.length ↔ k ∈ lbTo m l.reverse l.length := by
  unfold lbTo
  split
  · exact Iff.rfl
  · rw [List.take_of_length_le (Nat.le_refl _), List.take_of_length_le (by rw [List.length_reverse]; exact Nat.le_refl _), List.map_reverse, List.mem_reverse]
theorem WS.moreN (h : WSl s Lk Lb N S) {M : Nat} (hN : N ≤ M) : WSl s Lk Lb M S := { h with al := Nat.le_trans h.al (Nat.add_le_add_right hN _) }
/-- A mark was seen. -/
theorem WS.sawMark (h : WSl s (Lk ++ marksIn 107 k) (Lb ++ marksIn 98 k) N S) (hk : k = mkB 98 n) (hn : n ≤ 1099511627776) : WSl s Lk (Lb ++ [k]) N S := by
  subst hk
  rw [marksIn_other (.inr (.inl rfl)) hn (by decide), marksIn_same (.inr (.inl rfl)) hn, List.append_nil] at h
  exact h
theorem WS.lists (h : WSl s Lk Lb N S) (h1 : Lk = Lk') (h2 : Lb = Lb') : WSl s Lk' Lb' N S := by subst h1; subst h2; exact h
abbrev Knl (s : STab) (Lk Lb : List Bytes) (i : Nat) (k : Bytes) : Prop := Kn s (fun k => k ∈ Lk) (fun k => k ∈ Lb) i k
theorem Kn.same (hk : ∀ k, k ∈ Lk → k ∈ Lk') (hb : ∀ k, k ∈ Lb → k ∈ Lb') {j : Nat} (h : Knl s Lk Lb j k) : Knl s Lk' Lb' j k :=
  h.mono (fun _ _ h => h) (fun _ _ h => h) (fun k h => .key k (hk k h)) (fun k h => .box k (hb k h))
theorem kn_ac {j : Nat} {l l' : List Int} : Knl s (lkTo n l l.length) (lbTo m l' l'.length) j k ↔ Knl s (lkTo n l.reverse l.length) (lbTo m l'.reverse l'.length) j k :=
  ⟨Kn.same (fun _ h => lk_mem.1 h) (fun _ h => lb_mem.1 h), Kn.same (fun _ h => lk_mem.2 h) (fun _ h => lb_mem.2 h)⟩
theorem more_key (l l' : List Int) (s : STab) (n m : Nat) (k : Bytes) : (¬ Knl s (lkTo n l l.length) (lbTo m l' l'.length) 0 k ∧ ¬ Knl s (lkTo n l l.length) [] 0 k ∧ ¬ Knl s (lkTo n l.reverse l.length) (lbTo m l'.reverse l'.length) 0 k) ∨
    (Knl s (lkTo n l l.length) (lbTo m l' l'.length) 0 k ∧ ¬ Knl s (lkTo n l l.length) [] 0 k ∧ Knl s (lkTo n l.reverse l.length) (lbTo m l'.reverse l'.length) 0 k) ∨
    (Knl s (lkTo n l l.length) (lbTo m l' l'.length) 0 k ∧ Knl s (lkTo n l l.length) [] 0 k ∧ Knl s (lkTo n l.reverse l.length) (lbTo m l'.reverse l'.length) 0 k) := by
  by_cases ha : Knl s (lkTo n l l.length) (lbTo m l' l'.length) 0 k
  · by_cases hb : Knl s (lkTo n l l.length) [] 0 k
    · exact .inr (.inr ⟨ha, hb, kn_ac.1 ha⟩)
    · exact .inr (.inl ⟨ha, hb, kn_ac.1 ha⟩)
  · exact .inl ⟨ha, fun hb => ha (hb.same (fun _ h => h) (fun _ h => by simp at h)), fun hc => ha (kn_ac.2 hc)⟩
theorem kn_21 (h : Knl s Lk Lb 2 k) : Knl s Lk Lb 1 k := by
  cases h with
  | opens _ _ h1 _ _ => exact h1
theorem more_box (l l' : List Int) (s : STab) (n m : Nat) (k : Bytes) :
    (¬ Knl s (lkTo n l l.length) (lbTo m l' l'.length) 1 k ∧ ¬ Knl s (lkTo n l l.length) (lbTo m l' l'.length) 2 k ∧ ¬ Knl s (lkTo n l.reverse l.length) (lbTo m l'.reverse l'.length) 1 k ∧ ¬ Knl s (lkTo n l.reverse l.length) (lbTo m l'.reverse l'.length) 2 k) ∨
    (Knl s (lkTo n l l.length) (lbTo m l' l'.length) 1 k ∧ ¬ Knl s (lkTo n l l.length) (lbTo m l' l'.length) 2 k ∧ Knl s (lkTo n l.reverse l.length) (lbTo m l'.reverse l'.length) 1 k ∧ ¬ Knl s (lkTo n l.reverse l.length) (lbTo m l'.reverse l'.length) 2 k) ∨
    (Knl s (lkTo n l l.length) (lbTo m l' l'.length) 1 k ∧ Knl s (lkTo n l l.length) (lbTo m l' l'.length) 2 k ∧ Knl s (lkTo n l.reverse l.length) (lbTo m l'.reverse l'.length) 1 k ∧ Knl s (lkTo n l.reverse l.length) (lbTo m l'.reverse l'.length) 2 k) := by
  by_cases h1 : Knl s (lkTo n l l.length) (lbTo m l' l'.length) 1 k
  · by_cases h2 : Knl s (lkTo n l l.length) (lbTo m l' l'.length) 2 k
    · exact .inr (.inr ⟨h1, h2, kn_ac.1 h1, kn_ac.1 h2⟩)
    · exact .inr (.inl ⟨h1, h2, kn_ac.1 h1, fun hc => h2 (kn_ac.2 hc)⟩)
  · exact .inl ⟨h1, fun h2 => h1 (kn_21 h2), fun hc => h1 (kn_ac.2 hc), fun hc => h1 (kn_21 (kn_ac.2 hc))⟩
theorem knownN_mono (h : ∀ k, k ∈ S.kk → k ∈ S'.kk) : knownN S n ≤ knownN S' n := by
  unfold knownN
  rw [← List.countP_eq_length_filter, ← List.countP_eq_length_filter]
  exact List.countP_mono_left fun i _ hi => by
    rw [decide_eq_true_iff] at hi ⊢
    exact h _ hi
theorem knownN_ac {N' : Nat} {l l' : List Int} (ha : MSl s (lkTo n l l.length) (lbTo m l' l'.length) N S) (hc : MSl s (lkTo n l.reverse l.length) (lbTo m l'.reverse l'.length) N' S') (q : Nat) : knownN S q = knownN S' q :=
  Nat.le_antisymm (knownN_mono fun k hk => (hc.iff.1 k).2 (kn_ac.1 ((ha.iff.1 k).1 hk))) (knownN_mono fun k hk => (ha.iff.1 k).2 (kn_ac.2 ((hc.iff.1 k).1 hk)))
theorem knownN_ba {N' : Nat} {l l' : List Int} (hb : MSl s (lkTo n l l.length) [] N S) (ha : MSl s (lkTo n l l.length) (lbTo m l' l'.length) N' S') (q : Nat) : knownN S q ≤ knownN S' q :=
  knownN_mono fun k hk => (ha.iff.1 k).2 (((hb.iff.1 k).1 hk).same (fun _ h => h) (fun _ h => by simp at h))
theorem kbx_len {bx : List KBox} : (kbxTo n bx bx.length).length = bx.length := by unfold kbxTo; simp
theorem kbx_body {bx : List KBox} (h : ∀ y ∈ bx, y.ks.length ≤ 6 ∧ y.bs.length ≤ 6) : ∀ b ∈ kbxTo n bx i, b.body.length ≤ 1000000 := by
  intro b hb
  unfold kbxTo at hb
  obtain ⟨j, hj, rfl⟩ := List.getElem_of_mem hb
  rw [List.getElem_mapIdx]
  have hm : (bx.take i)[j]'(by simpa using hj) ∈ bx := List.mem_of_mem_take (List.getElem_mem _)
  obtain ⟨h1, h2⟩ := h _ hm
  simp only [boxF, List.length_append, kBody_len, bBody_len, ksN_len]
  have := bsN_len (j := j) (l := ((bx.take i)[j]'(by simpa using hj)).bs)
  omega
theorem made_sm {z : KIn} (hf : fewP z) (h1 : s.keys = keysTo' z.of z.of.length) (h2 : s.boxes = kbxTo z.of.length z.bx z.bx.length) : Sm s := by
  obtain ⟨f1, f2, f3, f4, f5, f6⟩ := hf
  refine ⟨fun b hb => kbx_body f6 b (h2 ▸ hb), ?_, ?_⟩
  · rw [h2, kbx_len]; omega
  · rw [h1, kksTo_len]; omega
end
section
variable {F0 F : Nat → Prop} {w0 w w' : World} {ro rs : List Res} {o : Oper} {a : Act} {tb : Nat} {s : STab} {A B C D : Option Addr} {a1 b1 c1 d1 : Nat} {z : KIn}
theorem x_few (h : Hp F0 w0 w ro rs) (hp : pureVal Try.prog (execOp a.eval o) = some (.enter 47 #[.agg #[.slice A z.of.length a1, .slice B z.bx.length b1, .slice C z.ls.length c1, .slice D z.ss.length d1]])) (hz : InAt w A B C D a1 b1 c1 d1 z) :
    OpTo Try.prog o a w (fun u w' => ∃ t, u = .bool t ∧ (t = true → fewP z) ∧ Hp F0 w0 w' ro rs) :=
  OpTo.enter 47 [.agg #[.slice A z.of.length a1, .slice B z.bx.length b1, .slice C z.ls.length c1, .slice D z.ss.length d1]] hp (few_any A B C D a1 b1 c1 d1 z w hz) fun e w' hq => by
    obtain ⟨⟨t, he, ht⟩, hb⟩ := hq
    exact ⟨_, he, t, rfl, ht, h.below hb⟩
theorem x_kmade (h : Hp F0 w0 w ro rs) (hp : pureVal Try.prog (execOp a.eval o) = some (.enter 48 #[.agg #[.slice A z.of.length a1, .slice B z.bx.length b1, .slice C z.ls.length c1, .slice D z.ss.length d1]])) (hz : InAt w A B C D a1 b1 c1 d1 z) (hf : fewP z) :
    OpTo Try.prog o a w (fun u w' => ∃ tb F s A1 c1 A2 c2 A3 c3 mv, ∃ hb : List KBox, u = .tuple #[pt tb 0, .slice A1 z.bx.length c1, .slice A2 z.of.length c2, .slice A3 z.bx.length c3] ∧ s.keys = keysTo' z.of z.of.length ∧ s.boxes = kbxTo z.of.length z.bx z.bx.length ∧ mv.length = z.bx.length ∧ hb.map triOf = triTo z.of.length z.bx z.bx.length ∧
      Hp F0 w0 w' ro ([rTab F tb s, rOV 28 1 (.slice A1 z.bx.length c1) (mv.map fun v => [v]), rSBs mv (mkTo z.bx.length), rOV 3 1 (.slice A2 z.of.length c2) (ivs (ofTo z.of z.of.length)), rOV 131 3 (.slice A3 z.bx.length c3) (hb.map kbCells), rISs (hb.map (·.kv)) (hb.map (·.ks)), rISs (hb.map (·.bv)) (hb.map (·.bs))] ++ rs)) :=
  OpTo.enter 48 [.agg #[.slice A z.of.length a1, .slice B z.bx.length b1, .slice C z.ls.length c1, .slice D z.ss.length d1]] hp (kmade_any A B C D a1 b1 c1 d1 z w hz hf) fun e w' hq => by
    obtain ⟨tb, F, s, A1, c1, A2, c2, A3, c3, mv, hb, he, h1, h2, h3, h4, hh⟩ := hq
    exact ⟨_, he, tb, F, s, A1, c1, A2, c2, A3, c3, mv, hb, rfl, h1, h2, h3, h4, h.call0 hh⟩
/-- A row among rows lies apart from a mind and a table. -/
theorem Hp.apartL (h : Hp F0 w0 w ro rs) (i j k : Nat) {r t : Res} {vs : List Value} {ls : List Bytes} {v : Value} {b : Bytes} (hi : rs[i]? = some r) (hj : rs[j]? = some t) (hk : rs[k]? = some (rSBs vs ls)) (h1 : decide (k ≠ i) = true) (h2 : decide (k ≠ j) = true) {x : Nat} (hv : vs[x]? = some v) (hl : ls[x]? = some b) : Apart w v b r t :=
  h.apartS i j k hi hj hk h1 h2 ((h.own k _ hk) x v b hv hl) (fun _ hq => ⟨x, v, b, hv, hl, hq.1, hq.2⟩)
end
end Go.Proofs.Ytjjcnijdjhhdoaa
end
/-! Rows of truths; what compeerref08.Close computes. -/
section
namespace Go.Proofs.Ytjjcnijdjhhdoaa
open Go.RowKit Go.QT
def bvs (l : List Bool) : List (List Value) := l.map fun b => [.bool b]
theorem bvs_len (l : List Bool) : (bvs l).length = l.length := by simp [bvs]
theorem bvs_flat (l : List Bool) : (bvs l).flatten = l.map Value.bool := by
  induction l with
  | nil => rfl
  | cons a l ih =>
    have : bvs (a :: l) = [.bool a] :: bvs l := rfl
    rw [this, List.flatten_cons, ih]; rfl
theorem bvs_get {l : List Bool} {i : Nat} {b : Bool} (h : l[i]? = some b) : (bvs l)[i]? = some [.bool b] := by
  unfold bvs; rw [List.getElem?_map, h]; rfl
section
variable {F0 : Nat → Prop} {w0 w : World} {ro rs : List Res} {o : Oper} {a : Act} {A : Option Addr} {n c : Nat} {l m : List Bool}
theorem run_mkBools : ∀ (n : Nat), n ≤ 12 → ∀ W : World, (Instr.makeSlice 98 (.int .i64 (n : Int)) (.int .i64 (n : Int))).run Try.prog W = .ok (.slice (some ⟨W.heap.size, 0, none⟩) n n) (W.alloc (.cells ((List.replicate n false).map Value.bool).toArray 4))
  | 0, _, W => by kernel_rfl
  | 1, _, W => by kernel_rfl
  | 2, _, W => by kernel_rfl
  | 3, _, W => by kernel_rfl
  | 4, _, W => by kernel_rfl
  | 5, _, W => by kernel_rfl
  | 6, _, W => by kernel_rfl
  | 7, _, W => by kernel_rfl
  | 8, _, W => by kernel_rfl
  | 9, _, W => by kernel_rfl
  | 10, _, W => by kernel_rfl
  | 11, _, W => by kernel_rfl
  | 12, _, W => by kernel_rfl
  | n+13, h, W => absurd h (by omega)
theorem OV.bools {g n : Nat} {cs : List Value} (hb : Blk w g 4 cs) (hc : cs = l.map Value.bool) (hn : l.length = n) (hm : n ≤ maxLen) : OV w 0 4 1 (.slice (some ⟨g, 0, none⟩) n n) (bvs l) := by
  subst hc; subst hn
  refine ⟨⟨by rw [bvs_flat]; simp [bvs], .inr ⟨g, l.length, (l.map Value.bool).toArray, by rw [bvs_len], Nat.zero_le _, hb, by rw [bvs_len]; exact Nat.le_refl _, hm, by simp, ?_⟩⟩, ?_, ?_⟩
  · rw [bvs_flat, bvs_len]
    exact List.take_of_length_le (by simp)
  · intro x hx
    unfold bvs at hx
    obtain ⟨b, _, rfl⟩ := List.mem_map.1 hx
    rfl
  · intro x hx u hu
    unfold bvs at hx
    obtain ⟨b, _, rfl⟩ := List.mem_map.1 hx
    have : u = .bool b := by simpa using hu
    subst this; rfl
set_option maxRecDepth 100000 in
theorem x_makeBools (h : Hp F0 w0 w ro rs) (n : Nat) (hn : n ≤ 12) (x y : Operand) (ho : o.op = .makeSlice 98 x y) (hx : a.eval x = .int .i64 (n : Int)) (hy : a.eval y = .int .i64 (n : Int)) :
    OpTo Try.prog o a w (fun v w' => ∃ A, v = .slice A n n ∧ Hp F0 w0 w' ro (rOV 4 1 (.slice A n n) (bvs (List.replicate n false)) :: rs)) := by
  refine OpTo.run _ (w' := w.alloc (.cells ((List.replicate n false).map Value.bool).toArray 4)) ?_ ⟨_, rfl, h.newS ((Below.refl _ _).alloc (Nat.le_refl _) _) _ (OV.bools (Blk.new w 4 _) rfl (by simp) (by unfold maxLen; omega)) (fun q hq => ?_)⟩
  · unfold execOp
    simp only [ho, hx, hy, Sem.run_bind, run_mkBools n hn w, Result.andThen_ok, Sem.run_pure]
  · have : w.heap.size = q := by simpa [rOV, Value.ownBlock] using hq
    omega
theorem iBool : (Try.prog.info? 4).map (fun i => (i.zero, i.size, i.bytes)) = some (some (.bool false), 1, 1) := by kernel_rfl
theorem uBools : Try.prog.underlying 98 = some (.slice 4) := by kernel_rfl
-- append of truths to an empty row
set_option maxRecDepth 100000 in
theorem x_appBools (h : Hp F0 w0 w ro rs) (i : Nat) {v : Value} (hi : rs[i]? = some (rOV 4 1 v [])) (s x : Operand) (ho : o.op = .call { callee := .builtin .append, args := #[s, x], argTypes := #[98, 98] })
    (hs : a.eval s = v) (hx : a.eval x = .slice A n c) (hn : n = m.length) (hu : RV w 1 A c (bvs m)) (hl : n ≤ 12) :
    OpTo Try.prog o a w (fun u w' => ∃ A cc, u = .slice A n cc ∧ Hp F0 w0 w' ro (rs.set i (rOV 4 1 (.slice A n cc) (bvs m)))) := by
  subst hn
  have hv : OV w 0 4 1 v [] := h.own i _ hi
  obtain ⟨i0, hi0, hz0, hz1, hz2⟩ := info_parts iBool
  have hr : Reads w w.heap.size 1 A m.length (m.map Value.bool) := ⟨by simp, fun hne => by
    obtain ⟨b, k, e, hb, hc⟩ := hu.at_ (by rintro e; unfold bvs at e; simp at e; subst e; simp at hne)
    refine ⟨_, e, hb, fun j u hj => ?_⟩
    have hjl : j < m.length := by have := (List.getElem?_eq_some_iff.1 hj).1; simpa using this
    have := hc j _ (bvs_get (List.getElem?_eq_getElem hjl)) 0 (.bool m[j]) rfl
    rw [Nat.mul_one, Nat.add_zero] at this
    have hu' : u = .bool m[j] := by
      rw [List.getElem?_map, List.getElem?_eq_getElem hjl] at hj
      injection hj with hj; exact hj.symm
    rw [Addr.add_mid, this, hu']⟩
  obtain ⟨v', w', hrun, h2, h3, h4⟩ := run_append_any (P := Try.prog) w 0 98 o.type 4 i0 _ 1 1 uBools hi0 hz0 hz1 hz2 rfl (by omega) v 0 [] hv.own w.heap.size A m.length c (m.map Value.bool) hr (by
    intro u hu
    obtain ⟨b, _, rfl⟩ := List.mem_map.1 hu
    rfl) (by unfold maxLen; omega) (by omega) (Nat.zero_le _)
  have h2' : OV w' 0 4 1 v' (bvs m) := by
    refine ⟨?_, fun x hx => ?_, fun x hx u hu => ?_⟩
    · rw [bvs_flat, bvs_len]
      simpa using h2
    · unfold bvs at hx
      obtain ⟨b, _, rfl⟩ := List.mem_map.1 hx
      rfl
    · unfold bvs at hx
      obtain ⟨b, _, rfl⟩ := List.mem_map.1 hx
      have : u = .bool b := by simpa using hu
      subst this; rfl
  obtain ⟨A', c', e, _, _⟩ := h2'.form
  rw [bvs_len] at e
  subst e
  have hrun' : (execOp a.eval o).run Try.prog w = .ok (.value (.slice A' m.length c')) w' := by
    unfold execOp
    simp only [ho, resolve, invoke, builtin, Sem.run_bind, Sem.run_pure, Result.andThen_ok, List.map_toArray, List.map_cons, List.map_nil, hs, hx, hrun]
  refine OpTo.run _ hrun' ⟨A', c', rfl, h.upd i hi (Fr.of_grown h3 (fun q hq => .inl hq)) _ h2' (fun q hq => ?_)⟩
  rcases h4 with h4 | h4
  · left; show v.ownBlock = some q; rw [← h4]; exact hq
  · right
    have : Value.ownBlock (.slice A' m.length c') = some q := hq
    rw [h4] at this
    injection this with this
    omega
/-- A truth is laid into a row. -/
theorem x_setBool (h : Hp F0 w0 w ro rs) (i : Nat) (hi : rs[i]? = some (rOV 4 1 (.slice A n c) (bvs l))) (j : Nat) (hj : j < l.length) (t : TypeId) (x y : Operand) (ho : o.op = .store t x y) (b : Bool) (hx : a.eval x = eAt A (j * 1 + 0)) (hy : a.eval y = .bool b) (hsz : (Try.prog.info? t).map (·.size) = some 1) (r : List Bool) (hr : r = l.set j b) :
    OpTo Try.prog o a w (fun _ w' => Hp F0 w0 w' ro (rs.set i (rOV 4 1 (.slice A n c) (bvs r)))) := by
  subst hr
  have hv : OV w 0 4 1 (.slice A n c) (bvs l) := h.own i _ hi
  rcases hv.own.2 with ⟨e, h0⟩ | ⟨g, cap, cur, e, _, hg, hn, hm, hs, ht⟩
  · rw [bvs_len] at h0; omega
  · injection e with e1 e2 e3
    subst e1; subst e3
    have hb : Blk w g 4 cur.toList := by unfold Blk; simpa using hg
    have hx' : a.eval x = .pointer (some ⟨g, j, none⟩) := by
      rw [hx]; simp only [eAt, Addr.add, Nat.mul_one, Nat.add_zero, Nat.zero_add]
      by_cases h0 : j = 0
      · subst h0; rfl
      · simp [h0]
    rw [bvs_len] at hn e2
    have hl : j < cur.toList.length := by simp; omega
    refine OpTo.runs (w' := w.setCell ⟨g, j, none⟩ (.bool b)) (exec_storeCell t x y ho g j _ hx' hy 4 cur.toList hb hl hsz rfl rfl) ?_
    have hf := Fr.setCell w g j (.bool b)
    have hb' : Blk (w.setCell ⟨g, j, none⟩ (.bool b)) g 4 (cur.toList.set j (.bool b)) := hb.set j (.bool b)
    refine h.upd i hi ⟨hf.os, hf.tape, hf.output, hf.size, fun k hk hn => hf.block k hk (fun e => hn (by subst e; rfl))⟩ (rOV 4 1 (.slice (some ⟨g, 0, none⟩) n c) (bvs (l.set j b))) ⟨⟨by rw [bvs_flat]; simp [bvs], .inr ⟨g, c, (cur.toList.set j (.bool b)).toArray, by rw [bvs_len, List.length_set, e2], Nat.zero_le _, hb', by rw [bvs_len, List.length_set]; exact hn, hm, by simpa using hs, ?_⟩⟩, ?_, ?_⟩ (fun q hq => .inl hq)
    · rw [bvs_flat, bvs_len] at ht
      rw [bvs_flat, bvs_len, List.length_set, List.map_set, ← ht]
      simp [List.take_set]
    · intro x hx
      unfold bvs at hx
      obtain ⟨b, _, rfl⟩ := List.mem_map.1 hx
      rfl
    · intro x hx u hu
      unfold bvs at hx
      obtain ⟨b, _, rfl⟩ := List.mem_map.1 hx
      have : u = .bool b := by simpa using hu
      subst this; rfl
end
/-! ### Rounds -/
abbrev Tri := Int × List Int × List Int
structure KHO where
  kn : List Bool
  hd : List Bool
  op : List Bool
def bt (l : List Bool) (i : Nat) : Bool := l.getD i false
def keyS (kn : List Bool) (x : Int) : List Bool := if 1 ≤ x ∧ x ≤ (kn.length : Int) then kn.set (x.toNat - 1) true else kn
def keysS (kn : List Bool) (l : List Int) : List Bool := l.foldl keyS kn
def lateS (of : List Int) (kn : List Bool) (k : Nat) : List Bool := if 0 < of.getD k 0 ∧ bt kn ((of.getD k 0).toNat - 1) = true then kn.set k true else kn
def lateTo (of : List Int) (kn : List Bool) (i : Nat) : List Bool := (List.range i).foldl (lateS of) kn
def boxOk (X : KHO) (b : Nat) (t : Tri) : Prop := bt X.hd b = true ∧ 1 ≤ t.1 ∧ t.1 ≤ (X.kn.length : Int) ∧ bt X.kn (t.1.toNat - 1) = true
instance (X : KHO) (b : Nat) (t : Tri) : Decidable (boxOk X b t) := by unfold boxOk; exact inferInstance
def boxR1 (bx : List Tri) (X : KHO) (b : Nat) : KHO :=
  match bx[b]? with
  | some t => if boxOk X b t then ⟨keysS X.kn t.2.1, keysS X.hd t.2.2, X.op.set b true⟩ else X
  | none => X
def boxRTo (bx : List Tri) (X : KHO) (i : Nat) : KHO := (List.range i).foldl (boxR1 bx) X
def roundS (of : List Int) (bx : List Tri) (X : KHO) : KHO := boxRTo bx ⟨lateTo of X.kn X.kn.length, X.hd, X.op⟩ bx.length
def closeS (of : List Int) (bx : List Tri) (X : KHO) : Nat → KHO
  | 0 => X
  | n+1 => roundS of bx (closeS of bx X n)
section
variable {of : List Int} {kn : List Bool} {x : Int} {i j n : Nat} {bx : List Tri} {X : KHO} {l : List Int}
theorem lateTo_succ : lateTo of kn (i + 1) = lateS of (lateTo of kn i) i := by unfold lateTo; rw [List.range_succ, List.foldl_append]; rfl
theorem boxRTo_succ : boxRTo bx X (i + 1) = boxR1 bx (boxRTo bx X i) i := by unfold boxRTo; rw [List.range_succ, List.foldl_append]; rfl
theorem keyS_len : (keyS kn x).length = kn.length := by unfold keyS; split <;> simp
theorem keysS_len : ∀ (l : List Int) (kn : List Bool), (keysS kn l).length = kn.length
  | [], _ => rfl
  | x :: l, kn => by
    have : keysS kn (x :: l) = keysS (keyS kn x) l := rfl
    rw [this, keysS_len l, keyS_len]
theorem keysS_succ (h : l[i]? = some x) : keysS kn (l.take (i + 1)) = keyS (keysS kn (l.take i)) x := by
  unfold keysS
  rw [List.take_add_one, h, List.foldl_append]; rfl
theorem lateS_len : (lateS of kn i).length = kn.length := by unfold lateS; split <;> simp
theorem lateTo_len : ∀ i, (lateTo of kn i).length = kn.length
  | 0 => rfl
  | i+1 => by rw [lateTo_succ, lateS_len, lateTo_len i]
theorem boxR1_len : (boxR1 bx X i).kn.length = X.kn.length ∧ (boxR1 bx X i).hd.length = X.hd.length ∧ (boxR1 bx X i).op.length = X.op.length := by
  unfold boxR1
  split
  · split
    · simp only [keysS_len, List.length_set, and_self]
    · exact ⟨rfl, rfl, rfl⟩
  · exact ⟨rfl, rfl, rfl⟩
theorem boxRTo_len : ∀ i, (boxRTo bx X i).kn.length = X.kn.length ∧ (boxRTo bx X i).hd.length = X.hd.length ∧ (boxRTo bx X i).op.length = X.op.length
  | 0 => ⟨rfl, rfl, rfl⟩
  | i+1 => by
    have h1 := boxR1_len (bx := bx) (X := boxRTo bx X i) (i := i)
    have h2 := boxRTo_len i
    rw [boxRTo_succ]
    exact ⟨h1.1.trans h2.1, h1.2.1.trans h2.2.1, h1.2.2.trans h2.2.2⟩
theorem roundS_len : (roundS of bx X).kn.length = X.kn.length ∧ (roundS of bx X).hd.length = X.hd.length ∧ (roundS of bx X).op.length = X.op.length := by
  have := boxRTo_len (bx := bx) (X := ⟨lateTo of X.kn X.kn.length, X.hd, X.op⟩) bx.length
  unfold roundS
  exact ⟨this.1.trans (lateTo_len _), this.2.1, this.2.2⟩
theorem closeS_len : ∀ n, (closeS of bx X n).kn.length = X.kn.length ∧ (closeS of bx X n).hd.length = X.hd.length ∧ (closeS of bx X n).op.length = X.op.length
  | 0 => ⟨rfl, rfl, rfl⟩
  | n+1 => by
    have h1 := roundS_len (of := of) (bx := bx) (X := closeS of bx X n)
    have h2 := closeS_len n
    exact ⟨h1.1.trans h2.1, h1.2.1.trans h2.2.1, h1.2.2.trans h2.2.2⟩
end
end Go.Proofs.Ytjjcnijdjhhdoaa
end
/-! Ways that a round of compeerref08.Close can go. -/
section
namespace Go.Proofs.Ytjjcnijdjhhdoaa
open Go.RowKit Go.QT
section
variable {of : List Int} {kn hd l : List Bool} {x : Int} {i j n k b : Nat} {bx : List Tri} {X : KHO} {t : Tri}
theorem bool_at (h : i < l.length) : l[i]? = some true ∨ l[i]? = some false := by
  rw [List.getElem?_eq_getElem h]
  cases l[i] <;> simp
theorem bt_of {c : Bool} (h : l[i]? = some c) : bt l i = c := by unfold bt; rw [List.getD_eq_getElem?_getD, h]; rfl
theorem late3 (hx : x ≤ (kn.length : Int)) : (0 < x ∧ kn[x.toNat - 1]? = some true) ∨ (0 < x ∧ kn[x.toNat - 1]? = some false) ∨ ¬ 0 < x := by
  by_cases h : 0 < x
  · rcases bool_at (l := kn) (i := x.toNat - 1) (by omega) with h1 | h1
    · exact .inl ⟨h, h1⟩
    · exact .inr (.inl ⟨h, h1⟩)
  · exact .inr (.inr h)
theorem lateS_yes (hx : of[k]? = some x) (h : 0 < x) (h1 : kn[x.toNat - 1]? = some true) : lateS of kn k = kn.set k true := by
  unfold lateS
  have e : of.getD k 0 = x := by rw [List.getD_eq_getElem?_getD, hx]; rfl
  rw [e, if_pos ⟨h, bt_of h1⟩]
theorem lateS_no (hx : of[k]? = some x) (h : ¬ (0 < x ∧ kn[x.toNat - 1]? = some true)) (hl : x ≤ (kn.length : Int)) : lateS of kn k = kn := by
  unfold lateS
  have e : of.getD k 0 = x := by rw [List.getD_eq_getElem?_getD, hx]; rfl
  rw [e, if_neg]
  rintro ⟨h1, h2⟩
  rcases bool_at (l := kn) (i := x.toNat - 1) (by omega) with h3 | h3
  · exact h ⟨h1, h3⟩
  · rw [bt_of h3] at h2; cases h2
theorem box5 (hb : b < hd.length) : hd[b]? = some false ∨ (hd[b]? = some true ∧ x < 1) ∨ (hd[b]? = some true ∧ ¬ x < 1 ∧ x > (kn.length : Int)) ∨
    (hd[b]? = some true ∧ ¬ x < 1 ∧ ¬ x > (kn.length : Int) ∧ kn[x.toNat - 1]? = some false) ∨ (hd[b]? = some true ∧ ¬ x < 1 ∧ ¬ x > (kn.length : Int) ∧ kn[x.toNat - 1]? = some true) := by
  rcases bool_at (l := hd) hb with h | h
  · by_cases h1 : x < 1
    · exact .inr (.inl ⟨h, h1⟩)
    · by_cases h2 : x > (kn.length : Int)
      · exact .inr (.inr (.inl ⟨h, h1, h2⟩))
      · rcases bool_at (l := kn) (i := x.toNat - 1) (by omega) with h3 | h3
        · exact .inr (.inr (.inr (.inr ⟨h, h1, h2, h3⟩)))
        · exact .inr (.inr (.inr (.inl ⟨h, h1, h2, h3⟩)))
  · exact .inl h
theorem boxR1_no {op : List Bool} (ht : bx[b]? = some t) (h : ¬ boxOk ⟨kn, hd, op⟩ b t) : boxR1 bx ⟨kn, hd, op⟩ b = ⟨kn, hd, op⟩ := by
  unfold boxR1
  rw [ht]
  simp only [if_neg h]
theorem boxR1_yes {op : List Bool} (ht : bx[b]? = some t) (h : boxOk ⟨kn, hd, op⟩ b t) : boxR1 bx ⟨kn, hd, op⟩ b = ⟨keysS kn t.2.1, keysS hd t.2.2, op.set b true⟩ := by
  unfold boxR1
  rw [ht]
  simp only [if_pos h]
theorem keyS_yes (h1 : 1 ≤ x) (h2 : x ≤ (kn.length : Int)) : keyS kn x = kn.set (x.toNat - 1) true := by unfold keyS; rw [if_pos ⟨h1, h2⟩]
theorem keyS_no (h : ¬ (1 ≤ x ∧ x ≤ (kn.length : Int))) : keyS kn x = kn := by unfold keyS; rw [if_neg h]
theorem keysS_all {ks : List Int} (h : ¬ i < ks.length) : keysS kn (ks.take i) = keysS kn ks := by rw [List.take_of_length_le (by omega)]
end
end Go.Proofs.Ytjjcnijdjhhdoaa
end
