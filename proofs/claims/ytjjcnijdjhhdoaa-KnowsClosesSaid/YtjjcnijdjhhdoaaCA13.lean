/- Plain law of KnowsCloses: marks that stand one behind the other; what the document's rounds come to is what can be known. (Texts laid one behind the other: RClose, RClP, KClP.) -/
import Derived.Test.YtjjcnijdjhhdoaaCA12
/-! The walk of compeerref08.Close. -/
section
namespace Go.Proofs.Ytjjcnijdjhhdoaa
open Go.RowKit Go.QT
set_option maxRecDepth 100000 in
set_option maxHeartbeats 4000000 in
theorem rclose_any (A B C D : Option Addr) (a b c d : Nat) (of : List Int) (hb : List KBox) (k0 s0 : List Bool) (w : World) (r1 : RV w 1 A a (ivs of)) (r2 : RV w 3 B b (hb.map kbCells)) (r3 : (rISs (hb.map (·.kv)) (hb.map (·.ks))).Φ w) (r4 : (rISs (hb.map (·.bv)) (hb.map (·.bs))).Φ w) (r5 : RV w 1 C c (bvs k0)) (r6 : RV w 1 D d (bvs s0))
    (u1 : of.length = k0.length) (u2 : s0.length = hb.length) (u3 : k0.length ≤ 12) (u4 : hb.length ≤ 12) (u5 : ∀ (k : Nat) (x : Int), of[k]? = some x → x ≤ (k0.length : Int)) (u6 : ∀ y ∈ hb, y.ks.length ≤ 6 ∧ y.bs.length ≤ 6) :
    Calls Try.prog 58 #[.slice A k0.length a, .slice B hb.length b, .slice C k0.length c, .slice D hb.length d] w fun e w' => ∃ A1 c1 A2 c2 A3 X, e = .returned (.tuple #[.slice A1 k0.length c1, .slice A2 hb.length c2, .slice A3 hb.length hb.length]) ∧ X = closeS of (hb.map triOf) ⟨k0, s0, List.replicate hb.length false⟩ (k0.length + hb.length + 2) ∧
      Hp (fun _ => False) w w' [] [rOV 4 1 (.slice A1 k0.length c1) (bvs (KHO.kn X)), rOV 4 1 (.slice A2 hb.length c2) (bvs X.hd), rOV 4 1 (.slice A3 hb.length hb.length) (bvs X.op)] := by
  have h0 := addRB (addRB (addRB (addRB (addRB (addRB (Hp.nil (fun _ => False) w) (rRV 1 D d (bvs s0)) r6) (rRV 1 C c (bvs k0)) r5) (rISs (hb.map (·.bv)) (hb.map (·.bs))) r4) (rISs (hb.map (·.kv)) (hb.map (·.ks))) r3) (rRV 3 B b (hb.map kbCells)) r2) (rRV 1 A a (ivs of)) r1
  refine enter 167 Try.func58 rfl rfl ?_
  refine wp_reset 171 [(0, (Value.slice A k0.length a)), (1, (Value.slice B hb.length b)), (2, (Value.slice C k0.length c)), (3, (Value.slice D hb.length d))] (fun x0 => ?_)
  refine wp_seq_k ?_
  intro K1 hK1
  refine reg_lit ?_
  refine wq_p 3 [(10, (Value.slice none 0 0)), (9, (Value.slice none 0 0)), (8, (Value.slice none 0 0))] ?_
  refine wl_end rfl ?_
  refine seq_n hK1 ?_
  refine wp_seq_k ?_
  intro K2 hK2
  refine reg_lit ?_
  refine wq_to (some 21) (x_bs0 h0 4 1 (by kernel_rfl)) ?_
  rintro _ w3 ⟨A3, rfl, h3⟩
  refine wq_p 1 [(22, (Value.slice C k0.length c))] ?_
  refine wq_to (some 23) (x_appBools h3 0 rfl (.tmp 21) (.tmp 22) (by kernel_rfl) (by kernel_rfl) (by kernel_rfl) rfl (h3.rd 4 rfl) (by omega)) ?_
  rintro _ w4 ⟨A4, c4, rfl, h4⟩
  refine wq_p 1 [(11, (Value.slice A4 k0.length c4))] ?_
  refine wl_end rfl ?_
  refine seq_n hK2 ?_
  refine wp_seq_k ?_
  intro K5 hK5
  refine reg_lit ?_
  refine wq_to (some 24) (x_bs0 h4 4 1 (by kernel_rfl)) ?_
  rintro _ w6 ⟨A6, rfl, h6⟩
  refine wq_p 1 [(25, (Value.slice D hb.length d))] ?_
  refine wq_to (some 26) (x_appBools h6 0 rfl (.tmp 24) (.tmp 25) (by kernel_rfl) (by kernel_rfl) (by kernel_rfl) u2.symm (h6.rd 5 rfl) (by omega)) ?_
  rintro _ w7 ⟨A7, c7, rfl, h7⟩
  refine wq_p 1 [(12, (Value.slice A7 hb.length c7))] ?_
  refine wl_end rfl ?_
  refine seq_n hK5 ?_
  refine wp_seq_k ?_
  intro K8 hK8
  refine reg_lit ?_
  refine wq_p 2 [(28, (Value.int .i64 ((hb.length : Int)))), (27, (Value.slice B hb.length b))] ?_
  refine wq_to (some 29) (x_makeBools h7 hb.length (by omega) (.tmp 28) (.tmp 28) (by kernel_rfl) (by kernel_rfl) (by kernel_rfl)) ?_
  rintro _ w9 ⟨A9, rfl, h9⟩
  refine wq_p 1 [(13, (Value.slice A9 hb.length hb.length))] ?_
  refine wl_end rfl ?_
  refine seq_n hK8 ?_
  refine wp_seq_k ?_
  intro K10 hK10
  refine wp_seq_k ?_
  intro K11 hK11
  refine reg_lit ?_
  refine wq_p 1 [(14, (Value.int .i64 0))] ?_
  refine wl_end rfl ?_
  refine seq_n hK11 ?_
  refine wp_block ?_
  refine wp_loopm (fun mM xX aA wL => ∃ (rn : Nat) (kn : List Bool) (hd : List Bool) (op : List Bool), (rn ≤ k0.length + hb.length + 2) ∧ ((⟨kn, hd, op⟩ : KHO) = closeS of (hb.map triOf) ⟨k0, s0, List.replicate hb.length false⟩ (rn)) ∧ ((kn : List Bool).length = k0.length) ∧ ((hd : List Bool).length = hb.length) ∧ ((op : List Bool).length = hb.length) ∧ mM = k0.length + hb.length + 2 - (rn) ∧ aA = patch xX 171 [(0, (Value.slice A k0.length a)), (1, (Value.slice B hb.length b)), (2, (Value.slice C k0.length c)), (3, (Value.slice D hb.length d)), (8, (Value.slice none 0 0)), (9, (Value.slice none 0 0)), (10, (Value.slice none 0 0)), (11, (Value.slice A4 k0.length c4)), (12, (Value.slice A7 hb.length c7)), (13, (Value.slice A9 hb.length hb.length)), (14, (Value.int .i64 ((rn : Int))))] ∧ Hp (fun _ => False) w wL [rRV 1 A a (ivs of), rRV 3 B b (hb.map kbCells), rISs (hb.map (·.kv)) (hb.map (·.ks)), rISs (hb.map (·.bv)) (hb.map (·.bs)), rRV 1 C c (bvs k0), rRV 1 D d (bvs s0)] [rOV 4 1 ((Value.slice A4 k0.length c4)) (bvs kn), rOV 4 1 ((Value.slice A7 hb.length c7)) (bvs hd), rOV 4 1 ((Value.slice A9 hb.length hb.length)) (bvs op)]) ⟨_, 0, k0, s0, ((List.replicate hb.length false)), (by omega), rfl, rfl, u2, (by simp), rfl, (patch_eq _ 171 _ (by kernel_rfl) (by kernel_rfl) (by kernel_rfl)), h9.sel [2, 1, 0] [0, 1, 2, 3, 4, 5] (by kernel_rfl) rfl rfl⟩ ?_
  rintro _ x12 _ w12 ⟨rn, kn, hd, op, hrn, hX, hlk, hlh, hlo, rfl, rfl, h12⟩
  refine wp_seq_k ?_
  intro K13 hK13
  refine wp_seq_k ?_
  intro K14 hK14
  refine reg_lit ?_
  refine wq_p 5 [(34, (Value.int .i64 ((hb.length : Int)))), (33, (Value.slice A7 hb.length c7)), (32, (Value.int .i64 ((k0.length : Int)))), (31, (Value.slice A4 k0.length c4)), (30, (Value.int .i64 ((rn : Int))))] ?_
  refine wq_v (some 35) (Value.int .i64 ((k0.length : Int) + (hb.length : Int))) (exec_add _ _ _ _ rfl ((k0.length : Int)) ((hb.length : Int)) (by kernel_rfl) (by kernel_rfl) ((k0.length : Int) + (hb.length : Int)) rfl (by omega) (by omega) _) ?_
  refine wq_v (some 36) (Value.int .i64 ((k0.length : Int) + (hb.length : Int) + 2)) (exec_add _ _ _ _ rfl ((k0.length : Int) + (hb.length : Int)) 2 (by kernel_rfl) (by kernel_rfl) ((k0.length : Int) + (hb.length : Int) + 2) rfl (by omega) (by omega) _) ?_
  refine wq_p 1 [(37, (Value.bool (decide ((rn : Int) < (k0.length : Int) + (hb.length : Int) + 2))))] ?_
  refine wl_end rfl ?_
  refine seq_n hK14 ?_
  refine wp_if ((rn : Int) < (k0.length : Int) + (hb.length : Int) + 2) (by kernel_rfl) (fun b15 => ?_) (fun b15 => ?_)
  ·
   refine wp_skip ?_
   refine seq_n hK13 ?_
   refine wp_seq_k ?_
   intro K16 hK16
   refine wp_block ?_
   refine wp_seq_k ?_
   intro K17 hK17
   refine wp_seq_k ?_
   intro K18 hK18
   refine reg_lit ?_
   refine wq_p 1 [(15, (Value.int .i64 0))] ?_
   refine wl_end rfl ?_
   refine seq_n hK18 ?_
   refine wp_block ?_
   refine wp_loopm (fun mM xX aA wL => ∃ (k : Nat) (kn1 : List Bool), (k ≤ k0.length) ∧ (kn1 = lateTo of kn (k)) ∧ ((kn1 : List Bool).length = k0.length) ∧ mM = k0.length - (k) ∧ aA = patch xX 171 [(0, (Value.slice A k0.length a)), (1, (Value.slice B hb.length b)), (2, (Value.slice C k0.length c)), (3, (Value.slice D hb.length d)), (8, (Value.slice none 0 0)), (9, (Value.slice none 0 0)), (10, (Value.slice none 0 0)), (11, (Value.slice A4 k0.length c4)), (12, (Value.slice A7 hb.length c7)), (13, (Value.slice A9 hb.length hb.length)), (14, (Value.int .i64 ((rn : Int)))), (15, (Value.int .i64 ((k : Int)))), (37, (Value.bool (decide ((rn : Int) < (k0.length : Int) + (hb.length : Int) + 2))))] ∧ Hp (fun _ => False) w wL [rRV 1 A a (ivs of), rRV 3 B b (hb.map kbCells), rISs (hb.map (·.kv)) (hb.map (·.ks)), rISs (hb.map (·.bv)) (hb.map (·.bs)), rRV 1 C c (bvs k0), rRV 1 D d (bvs s0)] [rOV 4 1 ((Value.slice A4 k0.length c4)) (bvs kn1), rOV 4 1 ((Value.slice A7 hb.length c7)) (bvs hd), rOV 4 1 ((Value.slice A9 hb.length hb.length)) (bvs op)]) ⟨_, 0, kn, (by omega), rfl, hlk, rfl, (patch_eq _ 171 _ (by kernel_rfl) (by kernel_rfl) (by kernel_rfl)), h12.sel [0, 1, 2] [0, 1, 2, 3, 4, 5] (by kernel_rfl) rfl rfl⟩ ?_
   rintro _ x19 _ w19 ⟨k, kn1, hk, hk1, hl1, rfl, rfl, h19⟩
   refine wp_seq_k ?_
   intro K20 hK20
   refine wp_seq_k ?_
   intro K21 hK21
   refine reg_lit ?_
   refine wq_p 4 [(43, (Value.bool (decide ((k : Int) < (k0.length : Int))))), (42, (Value.int .i64 ((k0.length : Int)))), (41, (Value.slice A4 k0.length c4)), (40, (Value.int .i64 ((k : Int))))] ?_
   refine wl_end rfl ?_
   refine seq_n hK21 ?_
   refine wp_if ((k : Int) < (k0.length : Int)) (by kernel_rfl) (fun b22 => ?_) (fun b22 => ?_)
   ·
    refine wp_skip ?_
    refine seq_n hK20 ?_
    refine wp_seq_k ?_
    intro K23 hK23
    refine wp_block ?_
    refine wp_seq_k ?_
    intro K24 hK24
    obtain ⟨x, hx⟩ : ∃ x, of[k]? = some x := ⟨_, List.getElem?_eq_getElem (by omega)⟩
    have hxl : x ≤ (k0.length : Int) := u5 k x hx
    rcases late3 (kn := kn1) (x := x) (by rw [hl1]; exact hxl) with ⟨p1, p2⟩ | ⟨p1, p2⟩ | p1
    ·
     refine reg_lit ?_
     refine wq_p 2 [(47, (Value.int .i64 ((k : Int)))), (46, (Value.slice A k0.length a))] ?_
     refine wq_v (some 48) (eAt A (k * 1 + 0)) (e_idxN (RV.lenIs (n := k0.length) (h19.rd 0 rfl) (by rw [ivs_len, u1])).2 k k0.length (RV.lenIs (n := k0.length) (h19.rd 0 rfl) (by rw [ivs_len, u1])).1 (by omega) 84 (.tmp 46) (.tmp 47) (by kernel_rfl) .i64 (by kernel_rfl) (by kernel_rfl) 3 (by kernel_rfl) (by kernel_rfl) _) ?_
     refine wq_v (some 49) (Value.int .i64 x) (e_elemN (RV.lenIs (n := k0.length) (h19.rd 0 rfl) (by rw [ivs_len, u1])).2 k 0 ([(Value.int .i64 x)]) (ivs_get hx) 3 (.tmp 48) (by kernel_rfl) (Value.int .i64 x) (by kernel_rfl) (by kernel_rfl) (by kernel_rfl)) ?_
     refine wq_v (some 50) (.bool true) (eq_is (v := (Value.bool (decide (x > 0)))) (by kernel_rfl) (congrArg Value.bool (decide_eq_true (by omega)))) ?_
     refine wq_p 4 [(54, (Value.int .i64 ((k : Int)))), (53, (Value.slice A k0.length a)), (52, (Value.slice A4 k0.length c4)), (51, (Value.bool true))] ?_
     refine wq_v (some 55) (eAt A (k * 1 + 0)) (e_idxN (RV.lenIs (n := k0.length) (h19.rd 0 rfl) (by rw [ivs_len, u1])).2 k k0.length (RV.lenIs (n := k0.length) (h19.rd 0 rfl) (by rw [ivs_len, u1])).1 (by omega) 84 (.tmp 53) (.tmp 54) (by kernel_rfl) .i64 (by kernel_rfl) (by kernel_rfl) 3 (by kernel_rfl) (by kernel_rfl) _) ?_
     refine wq_v (some 56) (Value.int .i64 x) (e_elemN (RV.lenIs (n := k0.length) (h19.rd 0 rfl) (by rw [ivs_len, u1])).2 k 0 ([(Value.int .i64 x)]) (ivs_get hx) 3 (.tmp 55) (by kernel_rfl) (Value.int .i64 x) (by kernel_rfl) (by kernel_rfl) (by kernel_rfl)) ?_
     refine wq_v (some 57) (Value.int .i64 (((x.toNat - 1 : Nat) : Int))) (exec_sub _ _ _ _ rfl x 1 (by kernel_rfl) (by kernel_rfl) ((x.toNat - 1 : Nat) : Int) (by omega) (by omega) (by omega) _) ?_
     refine wq_v (some 58) (eAt A4 ((((x.toNat - 1))) * 1 + 0)) (e_idxN (OV.rvn (h19.at_ 0 rfl)).2 (((x.toNat - 1))) k0.length (OV.rvn (h19.at_ 0 rfl)).1 (by omega) 98 (.tmp 52) (.tmp 57) (by kernel_rfl) .i64 (by kernel_rfl) (by kernel_rfl) 4 (by kernel_rfl) (by kernel_rfl) _) ?_
     refine wq_v (some 59) (Value.bool true) (e_elemN (OV.rvn (h19.at_ 0 rfl)).2 (((x.toNat - 1))) 0 ([(Value.bool true)]) (bvs_get p2) 4 (.tmp 58) (by kernel_rfl) (Value.bool true) (by kernel_rfl) (by kernel_rfl) (by kernel_rfl)) ?_
     refine wq_p 1 [(60, (Value.bool true))] ?_
     refine wl_end rfl ?_
     refine seq_n hK24 ?_
     refine wp_cond_true (by kernel_rfl) ?_
     refine reg_lit ?_
     refine wq_p 2 [(62, (Value.int .i64 ((k : Int)))), (61, (Value.slice A4 k0.length c4))] ?_
     refine wq_v (some 63) (eAt A4 (k * 1 + 0)) (e_idxN (OV.rvn (h19.at_ 0 rfl)).2 k k0.length (OV.rvn (h19.at_ 0 rfl)).1 (by omega) 98 (.tmp 61) (.tmp 62) (by kernel_rfl) .i64 (by kernel_rfl) (by kernel_rfl) 4 (by kernel_rfl) (by kernel_rfl) _) ?_
     refine wq_to none (x_setBool h19 0 rfl k (by omega) 4 (.tmp 63) (.const (Value.bool true)) (by kernel_rfl) true (by kernel_rfl) (by kernel_rfl) (by kernel_rfl) (lateTo of kn (k + 1)) (by rw [lateTo_succ, ← hk1]; exact lateS_yes hx p1 p2)) ?_
     rintro _ w26 h26
     refine wl_end rfl ?_
     refine blk_n ?_
     refine seq_n hK23 ?_
     refine reg_lit ?_
     refine wq_p 1 [(44, (Value.int .i64 ((k : Int))))] ?_
     refine wq_v (some 45) (Value.int .i64 ((k : Int) + 1)) (exec_add _ _ _ _ rfl ((k : Int)) 1 (by kernel_rfl) (by kernel_rfl) ((k : Int) + 1) rfl (by omega) (by omega) _) ?_
     refine wq_p 1 [(15, (Value.int .i64 ((k : Int) + 1)))] ?_
     refine wl_end rfl ?_
     refine ⟨k0.length - (k + 1), (by omega), (k + 1), ((lateTo of kn (k + 1))), (by omega), rfl, (by rw [lateTo_len, hlk]), rfl, (patch_eq _ 171 _ (by kernel_rfl) (by kernel_rfl) (by kernel_rfl)), h26.sel [0, 1, 2] [0, 1, 2, 3, 4, 5] (by kernel_rfl) rfl rfl⟩
    ·
     refine reg_lit ?_
     refine wq_p 2 [(47, (Value.int .i64 ((k : Int)))), (46, (Value.slice A k0.length a))] ?_
     refine wq_v (some 48) (eAt A (k * 1 + 0)) (e_idxN (RV.lenIs (n := k0.length) (h19.rd 0 rfl) (by rw [ivs_len, u1])).2 k k0.length (RV.lenIs (n := k0.length) (h19.rd 0 rfl) (by rw [ivs_len, u1])).1 (by omega) 84 (.tmp 46) (.tmp 47) (by kernel_rfl) .i64 (by kernel_rfl) (by kernel_rfl) 3 (by kernel_rfl) (by kernel_rfl) _) ?_
     refine wq_v (some 49) (Value.int .i64 x) (e_elemN (RV.lenIs (n := k0.length) (h19.rd 0 rfl) (by rw [ivs_len, u1])).2 k 0 ([(Value.int .i64 x)]) (ivs_get hx) 3 (.tmp 48) (by kernel_rfl) (Value.int .i64 x) (by kernel_rfl) (by kernel_rfl) (by kernel_rfl)) ?_
     refine wq_v (some 50) (.bool true) (eq_is (v := (Value.bool (decide (x > 0)))) (by kernel_rfl) (congrArg Value.bool (decide_eq_true (by omega)))) ?_
     refine wq_p 4 [(54, (Value.int .i64 ((k : Int)))), (53, (Value.slice A k0.length a)), (52, (Value.slice A4 k0.length c4)), (51, (Value.bool true))] ?_
     refine wq_v (some 55) (eAt A (k * 1 + 0)) (e_idxN (RV.lenIs (n := k0.length) (h19.rd 0 rfl) (by rw [ivs_len, u1])).2 k k0.length (RV.lenIs (n := k0.length) (h19.rd 0 rfl) (by rw [ivs_len, u1])).1 (by omega) 84 (.tmp 53) (.tmp 54) (by kernel_rfl) .i64 (by kernel_rfl) (by kernel_rfl) 3 (by kernel_rfl) (by kernel_rfl) _) ?_
     refine wq_v (some 56) (Value.int .i64 x) (e_elemN (RV.lenIs (n := k0.length) (h19.rd 0 rfl) (by rw [ivs_len, u1])).2 k 0 ([(Value.int .i64 x)]) (ivs_get hx) 3 (.tmp 55) (by kernel_rfl) (Value.int .i64 x) (by kernel_rfl) (by kernel_rfl) (by kernel_rfl)) ?_
     refine wq_v (some 57) (Value.int .i64 (((x.toNat - 1 : Nat) : Int))) (exec_sub _ _ _ _ rfl x 1 (by kernel_rfl) (by kernel_rfl) ((x.toNat - 1 : Nat) : Int) (by omega) (by omega) (by omega) _) ?_
     refine wq_v (some 58) (eAt A4 ((((x.toNat - 1))) * 1 + 0)) (e_idxN (OV.rvn (h19.at_ 0 rfl)).2 (((x.toNat - 1))) k0.length (OV.rvn (h19.at_ 0 rfl)).1 (by omega) 98 (.tmp 52) (.tmp 57) (by kernel_rfl) .i64 (by kernel_rfl) (by kernel_rfl) 4 (by kernel_rfl) (by kernel_rfl) _) ?_
     refine wq_v (some 59) (Value.bool false) (e_elemN (OV.rvn (h19.at_ 0 rfl)).2 (((x.toNat - 1))) 0 ([(Value.bool false)]) (bvs_get p2) 4 (.tmp 58) (by kernel_rfl) (Value.bool false) (by kernel_rfl) (by kernel_rfl) (by kernel_rfl)) ?_
     refine wq_p 1 [(60, (Value.bool false))] ?_
     refine wl_end rfl ?_
     refine seq_n hK24 ?_
     refine wp_cond_false (by kernel_rfl) ?_
     refine wp_skip ?_
     refine blk_n ?_
     refine seq_n hK23 ?_
     refine reg_lit ?_
     refine wq_p 1 [(44, (Value.int .i64 ((k : Int))))] ?_
     refine wq_v (some 45) (Value.int .i64 ((k : Int) + 1)) (exec_add _ _ _ _ rfl ((k : Int)) 1 (by kernel_rfl) (by kernel_rfl) ((k : Int) + 1) rfl (by omega) (by omega) _) ?_
     refine wq_p 1 [(15, (Value.int .i64 ((k : Int) + 1)))] ?_
     refine wl_end rfl ?_
     refine ⟨k0.length - (k + 1), (by omega), (k + 1), kn1, (by omega), (by rw [lateTo_succ, ← hk1, lateS_no hx (by first | (rintro ⟨_, e⟩; rw [p2] at e; cases e) | exact fun h => p1 h.1) (by rw [hl1]; exact hxl)]), hl1, rfl, (patch_eq _ 171 _ (by kernel_rfl) (by kernel_rfl) (by kernel_rfl)), h19.sel [0, 1, 2] [0, 1, 2, 3, 4, 5] (by kernel_rfl) rfl rfl⟩
    ·
     refine reg_lit ?_
     refine wq_p 2 [(47, (Value.int .i64 ((k : Int)))), (46, (Value.slice A k0.length a))] ?_
     refine wq_v (some 48) (eAt A (k * 1 + 0)) (e_idxN (RV.lenIs (n := k0.length) (h19.rd 0 rfl) (by rw [ivs_len, u1])).2 k k0.length (RV.lenIs (n := k0.length) (h19.rd 0 rfl) (by rw [ivs_len, u1])).1 (by omega) 84 (.tmp 46) (.tmp 47) (by kernel_rfl) .i64 (by kernel_rfl) (by kernel_rfl) 3 (by kernel_rfl) (by kernel_rfl) _) ?_
     refine wq_v (some 49) (Value.int .i64 x) (e_elemN (RV.lenIs (n := k0.length) (h19.rd 0 rfl) (by rw [ivs_len, u1])).2 k 0 ([(Value.int .i64 x)]) (ivs_get hx) 3 (.tmp 48) (by kernel_rfl) (Value.int .i64 x) (by kernel_rfl) (by kernel_rfl) (by kernel_rfl)) ?_
     refine wq_v (some 50) (.bool false) (eq_is (v := (Value.bool (decide (x > 0)))) (by kernel_rfl) (congrArg Value.bool (decide_eq_false (by omega)))) ?_
     refine wq_p 6 [(56, undef), (55, undef), (54, undef), (53, undef), (52, undef), (51, (Value.bool false))] ?_
     refine wq_p 1 [(57, undef)] ?_
     refine wq_p 3 [(60, (Value.bool false)), (59, undef), (58, undef)] ?_
     refine wl_end rfl ?_
     refine seq_n hK24 ?_
     refine wp_cond_false (by kernel_rfl) ?_
     refine wp_skip ?_
     refine blk_n ?_
     refine seq_n hK23 ?_
     refine reg_lit ?_
     refine wq_p 1 [(44, (Value.int .i64 ((k : Int))))] ?_
     refine wq_v (some 45) (Value.int .i64 ((k : Int) + 1)) (exec_add _ _ _ _ rfl ((k : Int)) 1 (by kernel_rfl) (by kernel_rfl) ((k : Int) + 1) rfl (by omega) (by omega) _) ?_
     refine wq_p 1 [(15, (Value.int .i64 ((k : Int) + 1)))] ?_
     refine wl_end rfl ?_
     refine ⟨k0.length - (k + 1), (by omega), (k + 1), kn1, (by omega), (by rw [lateTo_succ, ← hk1, lateS_no hx (by first | (rintro ⟨_, e⟩; rw [p2] at e; cases e) | exact fun h => p1 h.1) (by rw [hl1]; exact hxl)]), hl1, rfl, (patch_eq _ 171 _ (by kernel_rfl) (by kernel_rfl) (by kernel_rfl)), h19.sel [0, 1, 2] [0, 1, 2, 3, 4, 5] (by kernel_rfl) rfl rfl⟩
   ·
    refine wp_exit ?_
    refine seq_e ?_
    refine seq_e ?_
    refine blk_e ?_
    refine seq_n hK17 ?_
    refine wp_seq_k ?_
    intro K27 hK27
    refine reg_lit ?_
    refine wq_p 1 [(16, (Value.int .i64 0))] ?_
    refine wl_end rfl ?_
    refine seq_n hK27 ?_
    refine wp_block ?_
    have hk9 : kn1 = lateTo of kn kn.length := by rw [hk1, show k = kn.length by omega]
    refine wp_loopm (fun mM xX aA wL => ∃ (b1 : Nat) (kn2 : List Bool) (hd2 : List Bool) (op2 : List Bool), (b1 ≤ hb.length) ∧ ((⟨kn2, hd2, op2⟩ : KHO) = boxRTo (hb.map triOf) ⟨lateTo of kn kn.length, hd, op⟩ (b1)) ∧ ((kn2 : List Bool).length = k0.length) ∧ ((hd2 : List Bool).length = hb.length) ∧ ((op2 : List Bool).length = hb.length) ∧ mM = hb.length - (b1) ∧ aA = patch xX 171 [(0, (Value.slice A k0.length a)), (1, (Value.slice B hb.length b)), (2, (Value.slice C k0.length c)), (3, (Value.slice D hb.length d)), (8, (Value.slice none 0 0)), (9, (Value.slice none 0 0)), (10, (Value.slice none 0 0)), (11, (Value.slice A4 k0.length c4)), (12, (Value.slice A7 hb.length c7)), (13, (Value.slice A9 hb.length hb.length)), (14, (Value.int .i64 ((rn : Int)))), (15, (Value.int .i64 ((k : Int)))), (16, (Value.int .i64 ((b1 : Int)))), (37, (Value.bool (decide ((rn : Int) < (k0.length : Int) + (hb.length : Int) + 2)))), (43, (Value.bool (decide ((k : Int) < (k0.length : Int)))))] ∧ Hp (fun _ => False) w wL [rRV 1 A a (ivs of), rRV 3 B b (hb.map kbCells), rISs (hb.map (·.kv)) (hb.map (·.ks)), rISs (hb.map (·.bv)) (hb.map (·.bs)), rRV 1 C c (bvs k0), rRV 1 D d (bvs s0)] [rOV 4 1 ((Value.slice A4 k0.length c4)) (bvs kn2), rOV 4 1 ((Value.slice A7 hb.length c7)) (bvs hd2), rOV 4 1 ((Value.slice A9 hb.length hb.length)) (bvs op2)]) ⟨_, 0, kn1, hd, op, (by omega), (by rw [hk9]; rfl), hl1, hlh, hlo, rfl, (patch_eq _ 171 _ (by kernel_rfl) (by kernel_rfl) (by kernel_rfl)), h19.sel [0, 1, 2] [0, 1, 2, 3, 4, 5] (by kernel_rfl) rfl rfl⟩ ?_
    rintro _ x28 _ w28 ⟨b1, kn2, hd2, op2, hb1, hXb, hl2, hh2, ho2, rfl, rfl, h28⟩
    refine wp_seq_k ?_
    intro K29 hK29
    refine wp_seq_k ?_
    intro K30 hK30
    refine reg_lit ?_
    refine wq_p 4 [(67, (Value.bool (decide ((b1 : Int) < (hb.length : Int))))), (66, (Value.int .i64 ((hb.length : Int)))), (65, (Value.slice B hb.length b)), (64, (Value.int .i64 ((b1 : Int))))] ?_
    refine wl_end rfl ?_
    refine seq_n hK30 ?_
    refine wp_if ((b1 : Int) < (hb.length : Int)) (by kernel_rfl) (fun b31 => ?_) (fun b31 => ?_)
    ·
     refine wp_skip ?_
     refine seq_n hK29 ?_
     refine wp_seq_k ?_
     intro K32 hK32
     refine wp_block ?_
     refine wp_seq_k ?_
     intro K33 hK33
     refine wp_seq_k ?_
     intro K34 hK34
     obtain ⟨zb, kv, zk, xv, zx, hzz⟩ : ∃ zb kv zk xv zx, hb[b1]? = some ⟨zb, kv, zk, xv, zx⟩ := ⟨_, _, _, _, _, List.getElem?_eq_getElem (by omega)⟩
     have hz6 : zk.length ≤ 6 ∧ zx.length ≤ 6 := u6 _ (List.mem_of_getElem? hzz)
     obtain ⟨KA, kc, rfl, hk36⟩ := h28.subISs 2 rfl b1 (v := kv) (l := zk) (by rw [List.getElem?_map, hzz]; rfl) (by rw [List.getElem?_map, hzz]; rfl)
     obtain ⟨XA, xc, rfl, hx36⟩ := hk36.subISs 4 rfl b1 (v := xv) (l := zx) (by rw [List.getElem?_map, hzz]; rfl) (by rw [List.getElem?_map, hzz]; rfl)
     have htt : (hb.map triOf)[b1]? = some (triOf ⟨zb, .slice KA zk.length kc, zk, .slice XA zx.length xc, zx⟩) := by rw [List.getElem?_map, hzz]; rfl
     rcases box5 (hd := hd2) (kn := kn2) (b := b1) (x := zb) (by omega) with q0 | ⟨q0, q1⟩ | ⟨q0, q1, q2⟩ | ⟨q0, q1, q2, q3⟩ | ⟨q0, q1, q2, q3⟩
     ·
      refine reg_lit ?_
      refine wq_p 2 [(71, (Value.int .i64 ((b1 : Int)))), (70, (Value.slice A7 hb.length c7))] ?_
      refine wq_v (some 72) (eAt A7 (b1 * 1 + 0)) (e_idxN (OV.rvn (hx36.at_ 1 rfl)).2 b1 hb.length (OV.rvn (hx36.at_ 1 rfl)).1 (by omega) 98 (.tmp 70) (.tmp 71) (by kernel_rfl) .i64 (by kernel_rfl) (by kernel_rfl) 4 (by kernel_rfl) (by kernel_rfl) _) ?_
      refine wq_v (some 73) (Value.bool false) (e_elemN (OV.rvn (hx36.at_ 1 rfl)).2 b1 0 ([(Value.bool false)]) (bvs_get q0) 4 (.tmp 72) (by kernel_rfl) (Value.bool false) (by kernel_rfl) (by kernel_rfl) (by kernel_rfl)) ?_
      refine wq_p 7 [(80, undef), (79, undef), (78, undef), (77, undef), (76, undef), (75, (Value.bool true)), (74, (Value.bool true))] ?_
      refine wq_p 1 [(81, undef)] ?_
      refine wq_p 9 [(90, undef), (89, undef), (88, undef), (87, undef), (86, undef), (85, undef), (84, undef), (83, (Value.bool true)), (82, (Value.bool true))] ?_
      refine wq_p 1 [(91, undef)] ?_
      refine wq_p 8 [(99, undef), (98, undef), (97, undef), (96, undef), (95, undef), (94, undef), (93, (Value.bool true)), (92, (Value.bool true))] ?_
      refine wq_p 1 [(100, undef)] ?_
      refine wq_p 4 [(104, (Value.bool true)), (103, undef), (102, undef), (101, undef)] ?_
      refine wl_end rfl ?_
      refine seq_n hK34 ?_
      refine wp_cond_true (by kernel_rfl) ?_
      refine wp_exit ?_
      refine seq_e ?_
      refine blk_e ?_
      refine seq_n hK32 ?_
      
      refine reg_lit ?_
      refine wq_p 1 [(68, (Value.int .i64 ((b1 : Int))))] ?_
      refine wq_v (some 69) (Value.int .i64 ((b1 : Int) + 1)) (exec_add _ _ _ _ rfl ((b1 : Int)) 1 (by kernel_rfl) (by kernel_rfl) ((b1 : Int) + 1) rfl (by omega) (by omega) _) ?_
      refine wq_p 1 [(16, (Value.int .i64 ((b1 : Int) + 1)))] ?_
      refine wl_end rfl ?_
      refine ⟨hb.length - (b1 + 1), (by omega), (b1 + 1), kn2, hd2, op2, (by omega), (by rw [boxRTo_succ, ← hXb, boxR1_no htt (fun h => by have := h.1; rw [show bt hd2 b1 = false from bt_of q0] at this; cases this)]), hl2, hh2, ho2, rfl, (patch_eq _ 171 _ (by kernel_rfl) (by kernel_rfl) (by kernel_rfl)), hx36.sel [0, 1, 2] [2, 3, 4, 5, 6, 7] (by kernel_rfl) rfl rfl⟩
     ·
      refine reg_lit ?_
      refine wq_p 2 [(71, (Value.int .i64 ((b1 : Int)))), (70, (Value.slice A7 hb.length c7))] ?_
      refine wq_v (some 72) (eAt A7 (b1 * 1 + 0)) (e_idxN (OV.rvn (hx36.at_ 1 rfl)).2 b1 hb.length (OV.rvn (hx36.at_ 1 rfl)).1 (by omega) 98 (.tmp 70) (.tmp 71) (by kernel_rfl) .i64 (by kernel_rfl) (by kernel_rfl) 4 (by kernel_rfl) (by kernel_rfl) _) ?_
      refine wq_v (some 73) (Value.bool true) (e_elemN (OV.rvn (hx36.at_ 1 rfl)).2 b1 0 ([(Value.bool true)]) (bvs_get q0) 4 (.tmp 72) (by kernel_rfl) (Value.bool true) (by kernel_rfl) (by kernel_rfl) (by kernel_rfl)) ?_
      refine wq_p 4 [(77, (Value.int .i64 ((b1 : Int)))), (76, (Value.slice B hb.length b)), (75, (Value.bool false)), (74, (Value.bool false))] ?_
      refine wq_v (some 78) (eAt B (b1 * 3 + 0)) (e_idxN (RV.lenIs (n := hb.length) (hx36.rd 3 rfl) (by simp)).2 b1 hb.length (RV.lenIs (n := hb.length) (hx36.rd 3 rfl) (by simp)).1 (by omega) 85 (.tmp 76) (.tmp 77) (by kernel_rfl) .i64 (by kernel_rfl) (by kernel_rfl) 131 (by kernel_rfl) (by kernel_rfl) _) ?_
      refine wq_v (some 79) (eAt B (b1 * 3 + 0)) (e_fldN (RV.lenIs (n := hb.length) (hx36.rd 3 rfl) (by simp)).2 b1 0 0 ([(Value.int .i64 zb), (Value.slice KA zk.length kc), (Value.slice XA zx.length xc)]) (by rw [List.getElem?_map, hzz]; rfl) (.tmp 78) (by kernel_rfl) (fun _ _ => by kernel_rfl) (fun _ => rfl) _) ?_
      refine wq_v (some 80) (Value.int .i64 zb) (e_elemN (RV.lenIs (n := hb.length) (hx36.rd 3 rfl) (by simp)).2 b1 0 ([(Value.int .i64 zb), (Value.slice KA zk.length kc), (Value.slice XA zx.length xc)]) (by rw [List.getElem?_map, hzz]; rfl) 3 (.tmp 79) (by kernel_rfl) (Value.int .i64 zb) (by kernel_rfl) (by kernel_rfl) (by kernel_rfl)) ?_
      refine wq_v (some 81) (.bool true) (eq_is (v := (Value.bool (decide (zb < 1)))) (by kernel_rfl) (congrArg Value.bool (decide_eq_true (by omega)))) ?_
      refine wq_p 9 [(90, undef), (89, undef), (88, undef), (87, undef), (86, undef), (85, undef), (84, undef), (83, (Value.bool true)), (82, (Value.bool true))] ?_
      refine wq_p 1 [(91, undef)] ?_
      refine wq_p 8 [(99, undef), (98, undef), (97, undef), (96, undef), (95, undef), (94, undef), (93, (Value.bool true)), (92, (Value.bool true))] ?_
      refine wq_p 1 [(100, undef)] ?_
      refine wq_p 4 [(104, (Value.bool true)), (103, undef), (102, undef), (101, undef)] ?_
      refine wl_end rfl ?_
      refine seq_n hK34 ?_
      refine wp_cond_true (by kernel_rfl) ?_
      refine wp_exit ?_
      refine seq_e ?_
      refine blk_e ?_
      refine seq_n hK32 ?_
      
      refine reg_lit ?_
      refine wq_p 1 [(68, (Value.int .i64 ((b1 : Int))))] ?_
      refine wq_v (some 69) (Value.int .i64 ((b1 : Int) + 1)) (exec_add _ _ _ _ rfl ((b1 : Int)) 1 (by kernel_rfl) (by kernel_rfl) ((b1 : Int) + 1) rfl (by omega) (by omega) _) ?_
      refine wq_p 1 [(16, (Value.int .i64 ((b1 : Int) + 1)))] ?_
      refine wl_end rfl ?_
      refine ⟨hb.length - (b1 + 1), (by omega), (b1 + 1), kn2, hd2, op2, (by omega), (by rw [boxRTo_succ, ← hXb, boxR1_no htt (fun h => by have := h.2.1; simp only [triOf] at this; omega)]), hl2, hh2, ho2, rfl, (patch_eq _ 171 _ (by kernel_rfl) (by kernel_rfl) (by kernel_rfl)), hx36.sel [0, 1, 2] [2, 3, 4, 5, 6, 7] (by kernel_rfl) rfl rfl⟩
     ·
      refine reg_lit ?_
      refine wq_p 2 [(71, (Value.int .i64 ((b1 : Int)))), (70, (Value.slice A7 hb.length c7))] ?_
      refine wq_v (some 72) (eAt A7 (b1 * 1 + 0)) (e_idxN (OV.rvn (hx36.at_ 1 rfl)).2 b1 hb.length (OV.rvn (hx36.at_ 1 rfl)).1 (by omega) 98 (.tmp 70) (.tmp 71) (by kernel_rfl) .i64 (by kernel_rfl) (by kernel_rfl) 4 (by kernel_rfl) (by kernel_rfl) _) ?_
      refine wq_v (some 73) (Value.bool true) (e_elemN (OV.rvn (hx36.at_ 1 rfl)).2 b1 0 ([(Value.bool true)]) (bvs_get q0) 4 (.tmp 72) (by kernel_rfl) (Value.bool true) (by kernel_rfl) (by kernel_rfl) (by kernel_rfl)) ?_
      refine wq_p 4 [(77, (Value.int .i64 ((b1 : Int)))), (76, (Value.slice B hb.length b)), (75, (Value.bool false)), (74, (Value.bool false))] ?_
      refine wq_v (some 78) (eAt B (b1 * 3 + 0)) (e_idxN (RV.lenIs (n := hb.length) (hx36.rd 3 rfl) (by simp)).2 b1 hb.length (RV.lenIs (n := hb.length) (hx36.rd 3 rfl) (by simp)).1 (by omega) 85 (.tmp 76) (.tmp 77) (by kernel_rfl) .i64 (by kernel_rfl) (by kernel_rfl) 131 (by kernel_rfl) (by kernel_rfl) _) ?_
      refine wq_v (some 79) (eAt B (b1 * 3 + 0)) (e_fldN (RV.lenIs (n := hb.length) (hx36.rd 3 rfl) (by simp)).2 b1 0 0 ([(Value.int .i64 zb), (Value.slice KA zk.length kc), (Value.slice XA zx.length xc)]) (by rw [List.getElem?_map, hzz]; rfl) (.tmp 78) (by kernel_rfl) (fun _ _ => by kernel_rfl) (fun _ => rfl) _) ?_
      refine wq_v (some 80) (Value.int .i64 zb) (e_elemN (RV.lenIs (n := hb.length) (hx36.rd 3 rfl) (by simp)).2 b1 0 ([(Value.int .i64 zb), (Value.slice KA zk.length kc), (Value.slice XA zx.length xc)]) (by rw [List.getElem?_map, hzz]; rfl) 3 (.tmp 79) (by kernel_rfl) (Value.int .i64 zb) (by kernel_rfl) (by kernel_rfl) (by kernel_rfl)) ?_
      refine wq_v (some 81) (.bool false) (eq_is (v := (Value.bool (decide (zb < 1)))) (by kernel_rfl) (congrArg Value.bool (decide_eq_false (by omega)))) ?_
      refine wq_p 4 [(85, (Value.int .i64 ((b1 : Int)))), (84, (Value.slice B hb.length b)), (83, (Value.bool false)), (82, (Value.bool false))] ?_
      refine wq_v (some 86) (eAt B (b1 * 3 + 0)) (e_idxN (RV.lenIs (n := hb.length) (hx36.rd 3 rfl) (by simp)).2 b1 hb.length (RV.lenIs (n := hb.length) (hx36.rd 3 rfl) (by simp)).1 (by omega) 85 (.tmp 84) (.tmp 85) (by kernel_rfl) .i64 (by kernel_rfl) (by kernel_rfl) 131 (by kernel_rfl) (by kernel_rfl) _) ?_
      refine wq_v (some 87) (eAt B (b1 * 3 + 0)) (e_fldN (RV.lenIs (n := hb.length) (hx36.rd 3 rfl) (by simp)).2 b1 0 0 ([(Value.int .i64 zb), (Value.slice KA zk.length kc), (Value.slice XA zx.length xc)]) (by rw [List.getElem?_map, hzz]; rfl) (.tmp 86) (by kernel_rfl) (fun _ _ => by kernel_rfl) (fun _ => rfl) _) ?_
      refine wq_v (some 88) (Value.int .i64 zb) (e_elemN (RV.lenIs (n := hb.length) (hx36.rd 3 rfl) (by simp)).2 b1 0 ([(Value.int .i64 zb), (Value.slice KA zk.length kc), (Value.slice XA zx.length xc)]) (by rw [List.getElem?_map, hzz]; rfl) 3 (.tmp 87) (by kernel_rfl) (Value.int .i64 zb) (by kernel_rfl) (by kernel_rfl) (by kernel_rfl)) ?_
      refine wq_p 2 [(90, (Value.int .i64 ((k0.length : Int)))), (89, (Value.slice A4 k0.length c4))] ?_
      refine wq_v (some 91) (.bool true) (eq_is (v := (Value.bool (decide (zb > (k0.length : Int))))) (by kernel_rfl) (congrArg Value.bool (decide_eq_true (by omega)))) ?_
      refine wq_p 8 [(99, undef), (98, undef), (97, undef), (96, undef), (95, undef), (94, undef), (93, (Value.bool true)), (92, (Value.bool true))] ?_
      refine wq_p 1 [(100, undef)] ?_
      refine wq_p 4 [(104, (Value.bool true)), (103, undef), (102, undef), (101, undef)] ?_
      refine wl_end rfl ?_
      refine seq_n hK34 ?_
      refine wp_cond_true (by kernel_rfl) ?_
      refine wp_exit ?_
      refine seq_e ?_
      refine blk_e ?_
      refine seq_n hK32 ?_
      
      refine reg_lit ?_
      refine wq_p 1 [(68, (Value.int .i64 ((b1 : Int))))] ?_
      refine wq_v (some 69) (Value.int .i64 ((b1 : Int) + 1)) (exec_add _ _ _ _ rfl ((b1 : Int)) 1 (by kernel_rfl) (by kernel_rfl) ((b1 : Int) + 1) rfl (by omega) (by omega) _) ?_
      refine wq_p 1 [(16, (Value.int .i64 ((b1 : Int) + 1)))] ?_
      refine wl_end rfl ?_
      refine ⟨hb.length - (b1 + 1), (by omega), (b1 + 1), kn2, hd2, op2, (by omega), (by rw [boxRTo_succ, ← hXb, boxR1_no htt (fun h => by have := h.2.2.1; simp only [triOf] at this; omega)]), hl2, hh2, ho2, rfl, (patch_eq _ 171 _ (by kernel_rfl) (by kernel_rfl) (by kernel_rfl)), hx36.sel [0, 1, 2] [2, 3, 4, 5, 6, 7] (by kernel_rfl) rfl rfl⟩
     ·
      refine reg_lit ?_
      refine wq_p 2 [(71, (Value.int .i64 ((b1 : Int)))), (70, (Value.slice A7 hb.length c7))] ?_
      refine wq_v (some 72) (eAt A7 (b1 * 1 + 0)) (e_idxN (OV.rvn (hx36.at_ 1 rfl)).2 b1 hb.length (OV.rvn (hx36.at_ 1 rfl)).1 (by omega) 98 (.tmp 70) (.tmp 71) (by kernel_rfl) .i64 (by kernel_rfl) (by kernel_rfl) 4 (by kernel_rfl) (by kernel_rfl) _) ?_
      refine wq_v (some 73) (Value.bool true) (e_elemN (OV.rvn (hx36.at_ 1 rfl)).2 b1 0 ([(Value.bool true)]) (bvs_get q0) 4 (.tmp 72) (by kernel_rfl) (Value.bool true) (by kernel_rfl) (by kernel_rfl) (by kernel_rfl)) ?_
      refine wq_p 4 [(77, (Value.int .i64 ((b1 : Int)))), (76, (Value.slice B hb.length b)), (75, (Value.bool false)), (74, (Value.bool false))] ?_
      refine wq_v (some 78) (eAt B (b1 * 3 + 0)) (e_idxN (RV.lenIs (n := hb.length) (hx36.rd 3 rfl) (by simp)).2 b1 hb.length (RV.lenIs (n := hb.length) (hx36.rd 3 rfl) (by simp)).1 (by omega) 85 (.tmp 76) (.tmp 77) (by kernel_rfl) .i64 (by kernel_rfl) (by kernel_rfl) 131 (by kernel_rfl) (by kernel_rfl) _) ?_
      refine wq_v (some 79) (eAt B (b1 * 3 + 0)) (e_fldN (RV.lenIs (n := hb.length) (hx36.rd 3 rfl) (by simp)).2 b1 0 0 ([(Value.int .i64 zb), (Value.slice KA zk.length kc), (Value.slice XA zx.length xc)]) (by rw [List.getElem?_map, hzz]; rfl) (.tmp 78) (by kernel_rfl) (fun _ _ => by kernel_rfl) (fun _ => rfl) _) ?_
      refine wq_v (some 80) (Value.int .i64 zb) (e_elemN (RV.lenIs (n := hb.length) (hx36.rd 3 rfl) (by simp)).2 b1 0 ([(Value.int .i64 zb), (Value.slice KA zk.length kc), (Value.slice XA zx.length xc)]) (by rw [List.getElem?_map, hzz]; rfl) 3 (.tmp 79) (by kernel_rfl) (Value.int .i64 zb) (by kernel_rfl) (by kernel_rfl) (by kernel_rfl)) ?_
      refine wq_v (some 81) (.bool false) (eq_is (v := (Value.bool (decide (zb < 1)))) (by kernel_rfl) (congrArg Value.bool (decide_eq_false (by omega)))) ?_
      refine wq_p 4 [(85, (Value.int .i64 ((b1 : Int)))), (84, (Value.slice B hb.length b)), (83, (Value.bool false)), (82, (Value.bool false))] ?_
      refine wq_v (some 86) (eAt B (b1 * 3 + 0)) (e_idxN (RV.lenIs (n := hb.length) (hx36.rd 3 rfl) (by simp)).2 b1 hb.length (RV.lenIs (n := hb.length) (hx36.rd 3 rfl) (by simp)).1 (by omega) 85 (.tmp 84) (.tmp 85) (by kernel_rfl) .i64 (by kernel_rfl) (by kernel_rfl) 131 (by kernel_rfl) (by kernel_rfl) _) ?_
      refine wq_v (some 87) (eAt B (b1 * 3 + 0)) (e_fldN (RV.lenIs (n := hb.length) (hx36.rd 3 rfl) (by simp)).2 b1 0 0 ([(Value.int .i64 zb), (Value.slice KA zk.length kc), (Value.slice XA zx.length xc)]) (by rw [List.getElem?_map, hzz]; rfl) (.tmp 86) (by kernel_rfl) (fun _ _ => by kernel_rfl) (fun _ => rfl) _) ?_
      refine wq_v (some 88) (Value.int .i64 zb) (e_elemN (RV.lenIs (n := hb.length) (hx36.rd 3 rfl) (by simp)).2 b1 0 ([(Value.int .i64 zb), (Value.slice KA zk.length kc), (Value.slice XA zx.length xc)]) (by rw [List.getElem?_map, hzz]; rfl) 3 (.tmp 87) (by kernel_rfl) (Value.int .i64 zb) (by kernel_rfl) (by kernel_rfl) (by kernel_rfl)) ?_
      refine wq_p 2 [(90, (Value.int .i64 ((k0.length : Int)))), (89, (Value.slice A4 k0.length c4))] ?_
      refine wq_v (some 91) (.bool false) (eq_is (v := (Value.bool (decide (zb > (k0.length : Int))))) (by kernel_rfl) (congrArg Value.bool (decide_eq_false (by omega)))) ?_
      refine wq_p 5 [(96, (Value.int .i64 ((b1 : Int)))), (95, (Value.slice B hb.length b)), (94, (Value.slice A4 k0.length c4)), (93, (Value.bool false)), (92, (Value.bool false))] ?_
      refine wq_v (some 97) (eAt B (b1 * 3 + 0)) (e_idxN (RV.lenIs (n := hb.length) (hx36.rd 3 rfl) (by simp)).2 b1 hb.length (RV.lenIs (n := hb.length) (hx36.rd 3 rfl) (by simp)).1 (by omega) 85 (.tmp 95) (.tmp 96) (by kernel_rfl) .i64 (by kernel_rfl) (by kernel_rfl) 131 (by kernel_rfl) (by kernel_rfl) _) ?_
      refine wq_v (some 98) (eAt B (b1 * 3 + 0)) (e_fldN (RV.lenIs (n := hb.length) (hx36.rd 3 rfl) (by simp)).2 b1 0 0 ([(Value.int .i64 zb), (Value.slice KA zk.length kc), (Value.slice XA zx.length xc)]) (by rw [List.getElem?_map, hzz]; rfl) (.tmp 97) (by kernel_rfl) (fun _ _ => by kernel_rfl) (fun _ => rfl) _) ?_
      refine wq_v (some 99) (Value.int .i64 zb) (e_elemN (RV.lenIs (n := hb.length) (hx36.rd 3 rfl) (by simp)).2 b1 0 ([(Value.int .i64 zb), (Value.slice KA zk.length kc), (Value.slice XA zx.length xc)]) (by rw [List.getElem?_map, hzz]; rfl) 3 (.tmp 98) (by kernel_rfl) (Value.int .i64 zb) (by kernel_rfl) (by kernel_rfl) (by kernel_rfl)) ?_
      refine wq_v (some 100) (Value.int .i64 (((zb.toNat - 1 : Nat) : Int))) (exec_sub _ _ _ _ rfl zb 1 (by kernel_rfl) (by kernel_rfl) ((zb.toNat - 1 : Nat) : Int) (by omega) (by omega) (by omega) _) ?_
      refine wq_v (some 101) (eAt A4 ((((zb.toNat - 1))) * 1 + 0)) (e_idxN (OV.rvn (hx36.at_ 0 rfl)).2 (((zb.toNat - 1))) k0.length (OV.rvn (hx36.at_ 0 rfl)).1 (by omega) 98 (.tmp 94) (.tmp 100) (by kernel_rfl) .i64 (by kernel_rfl) (by kernel_rfl) 4 (by kernel_rfl) (by kernel_rfl) _) ?_
      refine wq_v (some 102) (Value.bool false) (e_elemN (OV.rvn (hx36.at_ 0 rfl)).2 (((zb.toNat - 1))) 0 ([(Value.bool false)]) (bvs_get q3) 4 (.tmp 101) (by kernel_rfl) (Value.bool false) (by kernel_rfl) (by kernel_rfl) (by kernel_rfl)) ?_
      refine wq_p 2 [(104, (Value.bool true)), (103, (Value.bool true))] ?_
      refine wl_end rfl ?_
      refine seq_n hK34 ?_
      refine wp_cond_true (by kernel_rfl) ?_
      refine wp_exit ?_
      refine seq_e ?_
      refine blk_e ?_
      refine seq_n hK32 ?_
      
      refine reg_lit ?_
      refine wq_p 1 [(68, (Value.int .i64 ((b1 : Int))))] ?_
      refine wq_v (some 69) (Value.int .i64 ((b1 : Int) + 1)) (exec_add _ _ _ _ rfl ((b1 : Int)) 1 (by kernel_rfl) (by kernel_rfl) ((b1 : Int) + 1) rfl (by omega) (by omega) _) ?_
      refine wq_p 1 [(16, (Value.int .i64 ((b1 : Int) + 1)))] ?_
      refine wl_end rfl ?_
      refine ⟨hb.length - (b1 + 1), (by omega), (b1 + 1), kn2, hd2, op2, (by omega), (by rw [boxRTo_succ, ← hXb, boxR1_no htt (fun h => by have := h.2.2.2; rw [show bt kn2 ((triOf ⟨zb, .slice KA zk.length kc, zk, .slice XA zx.length xc, zx⟩).1.toNat - 1) = false from bt_of q3] at this; cases this)]), hl2, hh2, ho2, rfl, (patch_eq _ 171 _ (by kernel_rfl) (by kernel_rfl) (by kernel_rfl)), hx36.sel [0, 1, 2] [2, 3, 4, 5, 6, 7] (by kernel_rfl) rfl rfl⟩
     ·
      refine reg_lit ?_
      refine wq_p 2 [(71, (Value.int .i64 ((b1 : Int)))), (70, (Value.slice A7 hb.length c7))] ?_
      refine wq_v (some 72) (eAt A7 (b1 * 1 + 0)) (e_idxN (OV.rvn (hx36.at_ 1 rfl)).2 b1 hb.length (OV.rvn (hx36.at_ 1 rfl)).1 (by omega) 98 (.tmp 70) (.tmp 71) (by kernel_rfl) .i64 (by kernel_rfl) (by kernel_rfl) 4 (by kernel_rfl) (by kernel_rfl) _) ?_
      refine wq_v (some 73) (Value.bool true) (e_elemN (OV.rvn (hx36.at_ 1 rfl)).2 b1 0 ([(Value.bool true)]) (bvs_get q0) 4 (.tmp 72) (by kernel_rfl) (Value.bool true) (by kernel_rfl) (by kernel_rfl) (by kernel_rfl)) ?_
      refine wq_p 4 [(77, (Value.int .i64 ((b1 : Int)))), (76, (Value.slice B hb.length b)), (75, (Value.bool false)), (74, (Value.bool false))] ?_
      refine wq_v (some 78) (eAt B (b1 * 3 + 0)) (e_idxN (RV.lenIs (n := hb.length) (hx36.rd 3 rfl) (by simp)).2 b1 hb.length (RV.lenIs (n := hb.length) (hx36.rd 3 rfl) (by simp)).1 (by omega) 85 (.tmp 76) (.tmp 77) (by kernel_rfl) .i64 (by kernel_rfl) (by kernel_rfl) 131 (by kernel_rfl) (by kernel_rfl) _) ?_
      refine wq_v (some 79) (eAt B (b1 * 3 + 0)) (e_fldN (RV.lenIs (n := hb.length) (hx36.rd 3 rfl) (by simp)).2 b1 0 0 ([(Value.int .i64 zb), (Value.slice KA zk.length kc), (Value.slice XA zx.length xc)]) (by rw [List.getElem?_map, hzz]; rfl) (.tmp 78) (by kernel_rfl) (fun _ _ => by kernel_rfl) (fun _ => rfl) _) ?_
      refine wq_v (some 80) (Value.int .i64 zb) (e_elemN (RV.lenIs (n := hb.length) (hx36.rd 3 rfl) (by simp)).2 b1 0 ([(Value.int .i64 zb), (Value.slice KA zk.length kc), (Value.slice XA zx.length xc)]) (by rw [List.getElem?_map, hzz]; rfl) 3 (.tmp 79) (by kernel_rfl) (Value.int .i64 zb) (by kernel_rfl) (by kernel_rfl) (by kernel_rfl)) ?_
      refine wq_v (some 81) (.bool false) (eq_is (v := (Value.bool (decide (zb < 1)))) (by kernel_rfl) (congrArg Value.bool (decide_eq_false (by omega)))) ?_
      refine wq_p 4 [(85, (Value.int .i64 ((b1 : Int)))), (84, (Value.slice B hb.length b)), (83, (Value.bool false)), (82, (Value.bool false))] ?_
      refine wq_v (some 86) (eAt B (b1 * 3 + 0)) (e_idxN (RV.lenIs (n := hb.length) (hx36.rd 3 rfl) (by simp)).2 b1 hb.length (RV.lenIs (n := hb.length) (hx36.rd 3 rfl) (by simp)).1 (by omega) 85 (.tmp 84) (.tmp 85) (by kernel_rfl) .i64 (by kernel_rfl) (by kernel_rfl) 131 (by kernel_rfl) (by kernel_rfl) _) ?_
      refine wq_v (some 87) (eAt B (b1 * 3 + 0)) (e_fldN (RV.lenIs (n := hb.length) (hx36.rd 3 rfl) (by simp)).2 b1 0 0 ([(Value.int .i64 zb), (Value.slice KA zk.length kc), (Value.slice XA zx.length xc)]) (by rw [List.getElem?_map, hzz]; rfl) (.tmp 86) (by kernel_rfl) (fun _ _ => by kernel_rfl) (fun _ => rfl) _) ?_
      refine wq_v (some 88) (Value.int .i64 zb) (e_elemN (RV.lenIs (n := hb.length) (hx36.rd 3 rfl) (by simp)).2 b1 0 ([(Value.int .i64 zb), (Value.slice KA zk.length kc), (Value.slice XA zx.length xc)]) (by rw [List.getElem?_map, hzz]; rfl) 3 (.tmp 87) (by kernel_rfl) (Value.int .i64 zb) (by kernel_rfl) (by kernel_rfl) (by kernel_rfl)) ?_
      refine wq_p 2 [(90, (Value.int .i64 ((k0.length : Int)))), (89, (Value.slice A4 k0.length c4))] ?_
      refine wq_v (some 91) (.bool false) (eq_is (v := (Value.bool (decide (zb > (k0.length : Int))))) (by kernel_rfl) (congrArg Value.bool (decide_eq_false (by omega)))) ?_
      refine wq_p 5 [(96, (Value.int .i64 ((b1 : Int)))), (95, (Value.slice B hb.length b)), (94, (Value.slice A4 k0.length c4)), (93, (Value.bool false)), (92, (Value.bool false))] ?_
      refine wq_v (some 97) (eAt B (b1 * 3 + 0)) (e_idxN (RV.lenIs (n := hb.length) (hx36.rd 3 rfl) (by simp)).2 b1 hb.length (RV.lenIs (n := hb.length) (hx36.rd 3 rfl) (by simp)).1 (by omega) 85 (.tmp 95) (.tmp 96) (by kernel_rfl) .i64 (by kernel_rfl) (by kernel_rfl) 131 (by kernel_rfl) (by kernel_rfl) _) ?_
      refine wq_v (some 98) (eAt B (b1 * 3 + 0)) (e_fldN (RV.lenIs (n := hb.length) (hx36.rd 3 rfl) (by simp)).2 b1 0 0 ([(Value.int .i64 zb), (Value.slice KA zk.length kc), (Value.slice XA zx.length xc)]) (by rw [List.getElem?_map, hzz]; rfl) (.tmp 97) (by kernel_rfl) (fun _ _ => by kernel_rfl) (fun _ => rfl) _) ?_
      refine wq_v (some 99) (Value.int .i64 zb) (e_elemN (RV.lenIs (n := hb.length) (hx36.rd 3 rfl) (by simp)).2 b1 0 ([(Value.int .i64 zb), (Value.slice KA zk.length kc), (Value.slice XA zx.length xc)]) (by rw [List.getElem?_map, hzz]; rfl) 3 (.tmp 98) (by kernel_rfl) (Value.int .i64 zb) (by kernel_rfl) (by kernel_rfl) (by kernel_rfl)) ?_
      refine wq_v (some 100) (Value.int .i64 (((zb.toNat - 1 : Nat) : Int))) (exec_sub _ _ _ _ rfl zb 1 (by kernel_rfl) (by kernel_rfl) ((zb.toNat - 1 : Nat) : Int) (by omega) (by omega) (by omega) _) ?_
      refine wq_v (some 101) (eAt A4 ((((zb.toNat - 1))) * 1 + 0)) (e_idxN (OV.rvn (hx36.at_ 0 rfl)).2 (((zb.toNat - 1))) k0.length (OV.rvn (hx36.at_ 0 rfl)).1 (by omega) 98 (.tmp 94) (.tmp 100) (by kernel_rfl) .i64 (by kernel_rfl) (by kernel_rfl) 4 (by kernel_rfl) (by kernel_rfl) _) ?_
      refine wq_v (some 102) (Value.bool true) (e_elemN (OV.rvn (hx36.at_ 0 rfl)).2 (((zb.toNat - 1))) 0 ([(Value.bool true)]) (bvs_get q3) 4 (.tmp 101) (by kernel_rfl) (Value.bool true) (by kernel_rfl) (by kernel_rfl) (by kernel_rfl)) ?_
      refine wq_p 2 [(104, (Value.bool false)), (103, (Value.bool false))] ?_
      refine wl_end rfl ?_
      refine seq_n hK34 ?_
      refine wp_cond_false (by kernel_rfl) ?_
      refine wp_skip ?_
      refine seq_n hK33 ?_
      refine wp_seq_k ?_
      intro K37 hK37
      have hok : boxOk ⟨kn2, hd2, op2⟩ b1 (triOf ⟨zb, .slice KA zk.length kc, zk, .slice XA zx.length xc, zx⟩) := ⟨bt_of q0, by simp only [triOf]; omega, by simp only [triOf]; omega, bt_of q3⟩
      refine reg_lit ?_
      refine wq_p 2 [(106, (Value.int .i64 ((b1 : Int)))), (105, (Value.slice A9 hb.length hb.length))] ?_
      refine wq_v (some 107) (eAt A9 (b1 * 1 + 0)) (e_idxN (OV.rvn (hx36.at_ 2 rfl)).2 b1 hb.length (OV.rvn (hx36.at_ 2 rfl)).1 (by omega) 98 (.tmp 105) (.tmp 106) (by kernel_rfl) .i64 (by kernel_rfl) (by kernel_rfl) 4 (by kernel_rfl) (by kernel_rfl) _) ?_
      refine wq_to none (x_setBool hx36 2 rfl b1 (by omega) 4 (.tmp 107) (.const (Value.bool true)) (by kernel_rfl) true (by kernel_rfl) (by kernel_rfl) (by kernel_rfl) (op2.set b1 true) rfl) ?_
      rintro _ w38 h38
      refine wl_end rfl ?_
      refine seq_n hK37 ?_
      refine wp_seq_k ?_
      intro K39 hK39
      refine wp_seq_k ?_
      intro K40 hK40
      refine wp_reset 171 [(0, (Value.slice A k0.length a)), (1, (Value.slice B hb.length b)), (2, (Value.slice C k0.length c)), (3, (Value.slice D hb.length d)), (8, (Value.slice none 0 0)), (9, (Value.slice none 0 0)), (10, (Value.slice none 0 0)), (11, (Value.slice A4 k0.length c4)), (12, (Value.slice A7 hb.length c7)), (13, (Value.slice A9 hb.length hb.length)), (14, (Value.int .i64 ((rn : Int)))), (15, (Value.int .i64 ((k : Int)))), (16, (Value.int .i64 ((b1 : Int)))), (37, (Value.bool (decide ((rn : Int) < (k0.length : Int) + (hb.length : Int) + 2)))), (43, (Value.bool (decide ((k : Int) < (k0.length : Int))))), (67, (Value.bool (decide ((b1 : Int) < (hb.length : Int))))), (104, (Value.bool false))] (fun x41 => ?_)
      refine reg_lit ?_
      refine wq_p 1 [(17, (Value.int .i64 0))] ?_
      refine wl_end rfl ?_
      refine seq_n hK40 ?_
      refine wp_block ?_
      refine wp_loopm (fun mM xX aA wL => ∃ (j : Nat) (kn3 : List Bool), (j ≤ zk.length) ∧ (kn3 = keysS kn2 (zk.take (j))) ∧ ((kn3 : List Bool).length = k0.length) ∧ mM = zk.length - (j) ∧ aA = patch xX 171 [(0, (Value.slice A k0.length a)), (1, (Value.slice B hb.length b)), (2, (Value.slice C k0.length c)), (3, (Value.slice D hb.length d)), (8, (Value.slice none 0 0)), (9, (Value.slice none 0 0)), (10, (Value.slice none 0 0)), (11, (Value.slice A4 k0.length c4)), (12, (Value.slice A7 hb.length c7)), (13, (Value.slice A9 hb.length hb.length)), (14, (Value.int .i64 ((rn : Int)))), (15, (Value.int .i64 ((k : Int)))), (16, (Value.int .i64 ((b1 : Int)))), (17, (Value.int .i64 ((j : Int)))), (37, (Value.bool (decide ((rn : Int) < (k0.length : Int) + (hb.length : Int) + 2)))), (43, (Value.bool (decide ((k : Int) < (k0.length : Int))))), (67, (Value.bool (decide ((b1 : Int) < (hb.length : Int))))), (104, (Value.bool false))] ∧ Hp (fun _ => False) w wL [rRV 1 XA xc (ivs zx), rRV 1 KA kc (ivs zk), rRV 1 A a (ivs of), rRV 3 B b (hb.map kbCells), rISs (hb.map (·.kv)) (hb.map (·.ks)), rISs (hb.map (·.bv)) (hb.map (·.bs)), rRV 1 C c (bvs k0), rRV 1 D d (bvs s0)] [rOV 4 1 ((Value.slice A4 k0.length c4)) (bvs kn3), rOV 4 1 ((Value.slice A7 hb.length c7)) (bvs hd2), rOV 4 1 ((Value.slice A9 hb.length hb.length)) (bvs (op2.set b1 true))]) ⟨_, 0, kn2, (by omega), rfl, hl2, rfl, (patch_eq _ 171 _ (by kernel_rfl) (by kernel_rfl) (by kernel_rfl)), h38.sel [0, 1, 2] [0, 1, 2, 3, 4, 5, 6, 7] (by kernel_rfl) rfl rfl⟩ ?_
      rintro _ x42 _ w42 ⟨j, kn3, hj, ekn3, hkn3l, rfl, rfl, h42⟩
      refine wp_seq_k ?_
      intro K43 hK43
      refine wp_seq_k ?_
      intro K44 hK44
      refine reg_lit ?_
      refine wq_p 3 [(110, (Value.int .i64 ((b1 : Int)))), (109, (Value.slice B hb.length b)), (108, (Value.int .i64 ((j : Int))))] ?_
      refine wq_v (some 111) (eAt B (b1 * 3 + 0)) (e_idxN (RV.lenIs (n := hb.length) (h42.rd 3 rfl) (by simp)).2 b1 hb.length (RV.lenIs (n := hb.length) (h42.rd 3 rfl) (by simp)).1 (by omega) 85 (.tmp 109) (.tmp 110) (by kernel_rfl) .i64 (by kernel_rfl) (by kernel_rfl) 131 (by kernel_rfl) (by kernel_rfl) _) ?_
      refine wq_v (some 112) (eAt B (b1 * 3 + 1)) (e_fldN (RV.lenIs (n := hb.length) (h42.rd 3 rfl) (by simp)).2 b1 0 1 ([(Value.int .i64 zb), (Value.slice KA zk.length kc), (Value.slice XA zx.length xc)]) (by rw [List.getElem?_map, hzz]; rfl) (.tmp 111) (by kernel_rfl) (fun _ _ => by kernel_rfl) (fun _ => rfl) _) ?_
      refine wq_v (some 113) (Value.slice KA zk.length kc) (e_elemN (RV.lenIs (n := hb.length) (h42.rd 3 rfl) (by simp)).2 b1 1 ([(Value.int .i64 zb), (Value.slice KA zk.length kc), (Value.slice XA zx.length xc)]) (by rw [List.getElem?_map, hzz]; rfl) 84 (.tmp 112) (by kernel_rfl) (Value.slice KA zk.length kc) (by kernel_rfl) (by kernel_rfl) (by kernel_rfl)) ?_
      refine wq_p 2 [(115, (Value.bool (decide ((j : Int) < (zk.length : Int))))), (114, (Value.int .i64 ((zk.length : Int))))] ?_
      refine wl_end rfl ?_
      refine seq_n hK44 ?_
      refine wp_if ((j : Int) < (zk.length : Int)) (by kernel_rfl) (fun b45 => ?_) (fun b45 => ?_)
      ·
       refine wp_skip ?_
       refine seq_n hK43 ?_
       refine wp_seq_k ?_
       intro K46 hK46
       refine wp_block ?_
       refine wp_seq_k ?_
       intro K47 hK47
       obtain ⟨y, hy⟩ : ∃ y, zk[j]? = some y := ⟨_, List.getElem?_eq_getElem (by omega)⟩
       refine reg_lit ?_
       refine wq_p 2 [(119, (Value.int .i64 ((b1 : Int)))), (118, (Value.slice B hb.length b))] ?_
       refine wq_v (some 120) (eAt B (b1 * 3 + 0)) (e_idxN (RV.lenIs (n := hb.length) (h42.rd 3 rfl) (by simp)).2 b1 hb.length (RV.lenIs (n := hb.length) (h42.rd 3 rfl) (by simp)).1 (by omega) 85 (.tmp 118) (.tmp 119) (by kernel_rfl) .i64 (by kernel_rfl) (by kernel_rfl) 131 (by kernel_rfl) (by kernel_rfl) _) ?_
       refine wq_v (some 121) (eAt B (b1 * 3 + 1)) (e_fldN (RV.lenIs (n := hb.length) (h42.rd 3 rfl) (by simp)).2 b1 0 1 ([(Value.int .i64 zb), (Value.slice KA zk.length kc), (Value.slice XA zx.length xc)]) (by rw [List.getElem?_map, hzz]; rfl) (.tmp 120) (by kernel_rfl) (fun _ _ => by kernel_rfl) (fun _ => rfl) _) ?_
       refine wq_v (some 122) (Value.slice KA zk.length kc) (e_elemN (RV.lenIs (n := hb.length) (h42.rd 3 rfl) (by simp)).2 b1 1 ([(Value.int .i64 zb), (Value.slice KA zk.length kc), (Value.slice XA zx.length xc)]) (by rw [List.getElem?_map, hzz]; rfl) 84 (.tmp 121) (by kernel_rfl) (Value.slice KA zk.length kc) (by kernel_rfl) (by kernel_rfl) (by kernel_rfl)) ?_
       refine wq_p 1 [(123, (Value.int .i64 ((j : Int))))] ?_
       refine wq_v (some 124) (eAt KA (j * 1 + 0)) (e_idxN (RV.lenIs (n := zk.length) (h42.rd 1 rfl) (ivs_len _)).2 j zk.length (RV.lenIs (n := zk.length) (h42.rd 1 rfl) (ivs_len _)).1 (by omega) 84 (.tmp 122) (.tmp 123) (by kernel_rfl) .i64 (by kernel_rfl) (by kernel_rfl) 3 (by kernel_rfl) (by kernel_rfl) _) ?_
       refine wq_v (some 125) (Value.int .i64 y) (e_elemN (RV.lenIs (n := zk.length) (h42.rd 1 rfl) (ivs_len _)).2 j 0 ([(Value.int .i64 y)]) (ivs_get hy) 3 (.tmp 124) (by kernel_rfl) (Value.int .i64 y) (by kernel_rfl) (by kernel_rfl) (by kernel_rfl)) ?_
       refine wq_p 1 [(18, (Value.int .i64 y))] ?_
       refine wl_end rfl ?_
       refine seq_n hK47 ?_
       refine wp_seq_k ?_
       intro K48 hK48
       rcases (show (1 ≤ y ∧ y ≤ (k0.length : Int)) ∨ (¬ 1 ≤ y) ∨ (1 ≤ y ∧ ¬ y ≤ (k0.length : Int)) by omega) with ⟨g1, g2⟩ | g1 | ⟨g1, g2⟩
       ·
        refine reg_lit ?_
        refine wq_p 1 [(126, (Value.int .i64 y))] ?_
        refine wq_v (some 127) (.bool true) (eq_is (v := (Value.bool (decide (y ≥ 1)))) (by kernel_rfl) (congrArg Value.bool (decide_eq_true (by omega)))) ?_
        refine wq_p 4 [(131, (Value.int .i64 ((k0.length : Int)))), (130, (Value.slice A4 k0.length c4)), (129, (Value.int .i64 y)), (128, (Value.bool true))] ?_
        refine wq_v (some 132) (.bool true) (eq_is (v := (Value.bool (decide (y ≤ (k0.length : Int))))) (by kernel_rfl) (congrArg Value.bool (decide_eq_true (by omega)))) ?_
        refine wq_p 1 [(133, (Value.bool true))] ?_
        refine wl_end rfl ?_
        refine seq_n hK48 ?_
        refine wp_cond_true (by kernel_rfl) ?_
        refine reg_lit ?_
        refine wq_p 2 [(135, (Value.int .i64 y)), (134, (Value.slice A4 k0.length c4))] ?_
        refine wq_v (some 136) (Value.int .i64 (((y.toNat - 1 : Nat) : Int))) (exec_sub _ _ _ _ rfl y 1 (by kernel_rfl) (by kernel_rfl) ((y.toNat - 1 : Nat) : Int) (by omega) (by omega) (by omega) _) ?_
        refine wq_v (some 137) (eAt A4 ((((y.toNat - 1))) * 1 + 0)) (e_idxN (OV.rvn (h42.at_ 0 rfl)).2 (((y.toNat - 1))) k0.length (OV.rvn (h42.at_ 0 rfl)).1 (by omega) 98 (.tmp 134) (.tmp 136) (by kernel_rfl) .i64 (by kernel_rfl) (by kernel_rfl) 4 (by kernel_rfl) (by kernel_rfl) _) ?_
        refine wq_to none (x_setBool h42 0 rfl (((y.toNat - 1))) (by omega) 4 (.tmp 137) (.const (Value.bool true)) (by kernel_rfl) true (by kernel_rfl) (by kernel_rfl) (by kernel_rfl) (keysS kn2 (zk.take (j + 1))) (by rw [keysS_succ hy, ← ekn3]; exact keyS_yes g1 (by rw [hkn3l]; exact g2))) ?_
        rintro _ w50 h50
        refine wl_end rfl ?_
        refine blk_n ?_
        refine seq_n hK46 ?_
        refine reg_lit ?_
        refine wq_p 1 [(116, (Value.int .i64 ((j : Int))))] ?_
        refine wq_v (some 117) (Value.int .i64 ((j : Int) + 1)) (exec_add _ _ _ _ rfl ((j : Int)) 1 (by kernel_rfl) (by kernel_rfl) ((j : Int) + 1) rfl (by omega) (by omega) _) ?_
        refine wq_p 1 [(17, (Value.int .i64 ((j : Int) + 1)))] ?_
        refine wl_end rfl ?_
        refine ⟨zk.length - (j + 1), (by omega), (j + 1), ((keysS kn2 (zk.take (j + 1)))), (by omega), rfl, (by rw [keysS_len, hl2]), rfl, (patch_eq _ 171 _ (by kernel_rfl) (by kernel_rfl) (by kernel_rfl)), h50.sel [0, 1, 2] [0, 1, 2, 3, 4, 5, 6, 7] (by kernel_rfl) rfl rfl⟩
       ·
        refine reg_lit ?_
        refine wq_p 1 [(126, (Value.int .i64 y))] ?_
        refine wq_v (some 127) (.bool false) (eq_is (v := (Value.bool (decide (y ≥ 1)))) (by kernel_rfl) (congrArg Value.bool (decide_eq_false (by omega)))) ?_
        refine wq_p 4 [(131, undef), (130, undef), (129, undef), (128, (Value.bool false))] ?_
        refine wq_p 1 [(132, undef)] ?_
        refine wq_p 1 [(133, (Value.bool false))] ?_
        refine wl_end rfl ?_
        refine seq_n hK48 ?_
        refine wp_cond_false (by kernel_rfl) ?_
        refine wp_skip ?_
        refine blk_n ?_
        refine seq_n hK46 ?_
        refine reg_lit ?_
        refine wq_p 1 [(116, (Value.int .i64 ((j : Int))))] ?_
        refine wq_v (some 117) (Value.int .i64 ((j : Int) + 1)) (exec_add _ _ _ _ rfl ((j : Int)) 1 (by kernel_rfl) (by kernel_rfl) ((j : Int) + 1) rfl (by omega) (by omega) _) ?_
        refine wq_p 1 [(17, (Value.int .i64 ((j : Int) + 1)))] ?_
        refine wl_end rfl ?_
        refine ⟨zk.length - (j + 1), (by omega), (j + 1), kn3, (by omega), (by rw [keysS_succ hy, ← ekn3, keyS_no (by rw [hkn3l]; omega)]), hkn3l, rfl, (patch_eq _ 171 _ (by kernel_rfl) (by kernel_rfl) (by kernel_rfl)), h42.sel [0, 1, 2] [0, 1, 2, 3, 4, 5, 6, 7] (by kernel_rfl) rfl rfl⟩
       ·
        refine reg_lit ?_
        refine wq_p 1 [(126, (Value.int .i64 y))] ?_
        refine wq_v (some 127) (.bool true) (eq_is (v := (Value.bool (decide (y ≥ 1)))) (by kernel_rfl) (congrArg Value.bool (decide_eq_true (by omega)))) ?_
        refine wq_p 4 [(131, (Value.int .i64 ((k0.length : Int)))), (130, (Value.slice A4 k0.length c4)), (129, (Value.int .i64 y)), (128, (Value.bool true))] ?_
        refine wq_v (some 132) (.bool false) (eq_is (v := (Value.bool (decide (y ≤ (k0.length : Int))))) (by kernel_rfl) (congrArg Value.bool (decide_eq_false (by omega)))) ?_
        refine wq_p 1 [(133, (Value.bool false))] ?_
        refine wl_end rfl ?_
        refine seq_n hK48 ?_
        refine wp_cond_false (by kernel_rfl) ?_
        refine wp_skip ?_
        refine blk_n ?_
        refine seq_n hK46 ?_
        refine reg_lit ?_
        refine wq_p 1 [(116, (Value.int .i64 ((j : Int))))] ?_
        refine wq_v (some 117) (Value.int .i64 ((j : Int) + 1)) (exec_add _ _ _ _ rfl ((j : Int)) 1 (by kernel_rfl) (by kernel_rfl) ((j : Int) + 1) rfl (by omega) (by omega) _) ?_
        refine wq_p 1 [(17, (Value.int .i64 ((j : Int) + 1)))] ?_
        refine wl_end rfl ?_
        refine ⟨zk.length - (j + 1), (by omega), (j + 1), kn3, (by omega), (by rw [keysS_succ hy, ← ekn3, keyS_no (by rw [hkn3l]; omega)]), hkn3l, rfl, (patch_eq _ 171 _ (by kernel_rfl) (by kernel_rfl) (by kernel_rfl)), h42.sel [0, 1, 2] [0, 1, 2, 3, 4, 5, 6, 7] (by kernel_rfl) rfl rfl⟩
      ·
       refine wp_exit ?_
       refine seq_e ?_
       refine seq_e ?_
       refine blk_e ?_
       refine seq_n hK39 ?_
       refine wp_seq_k ?_
       intro K51 hK51
       have kn3e : kn3 = keysS kn2 zk := by rw [ekn3]; exact keysS_all (by omega)
       refine reg_lit ?_
       refine wq_p 1 [(19, (Value.int .i64 0))] ?_
       refine wl_end rfl ?_
       refine seq_n hK51 ?_
       refine wp_block ?_
       refine wp_loopm (fun mM xX aA wL => ∃ (q : Nat) (hd3 : List Bool), (q ≤ zx.length) ∧ (hd3 = keysS hd2 (zx.take (q))) ∧ ((hd3 : List Bool).length = hb.length) ∧ mM = zx.length - (q) ∧ aA = patch xX 171 [(0, (Value.slice A k0.length a)), (1, (Value.slice B hb.length b)), (2, (Value.slice C k0.length c)), (3, (Value.slice D hb.length d)), (8, (Value.slice none 0 0)), (9, (Value.slice none 0 0)), (10, (Value.slice none 0 0)), (11, (Value.slice A4 k0.length c4)), (12, (Value.slice A7 hb.length c7)), (13, (Value.slice A9 hb.length hb.length)), (14, (Value.int .i64 ((rn : Int)))), (15, (Value.int .i64 ((k : Int)))), (16, (Value.int .i64 ((b1 : Int)))), (17, (Value.int .i64 ((j : Int)))), (19, (Value.int .i64 ((q : Int)))), (37, (Value.bool (decide ((rn : Int) < (k0.length : Int) + (hb.length : Int) + 2)))), (43, (Value.bool (decide ((k : Int) < (k0.length : Int))))), (67, (Value.bool (decide ((b1 : Int) < (hb.length : Int))))), (104, (Value.bool false)), (115, (Value.bool (decide ((j : Int) < (zk.length : Int)))))] ∧ Hp (fun _ => False) w wL [rRV 1 XA xc (ivs zx), rRV 1 KA kc (ivs zk), rRV 1 A a (ivs of), rRV 3 B b (hb.map kbCells), rISs (hb.map (·.kv)) (hb.map (·.ks)), rISs (hb.map (·.bv)) (hb.map (·.bs)), rRV 1 C c (bvs k0), rRV 1 D d (bvs s0)] [rOV 4 1 ((Value.slice A7 hb.length c7)) (bvs hd3), rOV 4 1 ((Value.slice A4 k0.length c4)) (bvs kn3), rOV 4 1 ((Value.slice A9 hb.length hb.length)) (bvs (op2.set b1 true))]) ⟨_, 0, hd2, (by omega), rfl, hh2, rfl, (patch_eq _ 171 _ (by kernel_rfl) (by kernel_rfl) (by kernel_rfl)), h42.sel [1, 0, 2] [0, 1, 2, 3, 4, 5, 6, 7] (by kernel_rfl) rfl rfl⟩ ?_
       rintro _ x52 _ w52 ⟨q, hd3, hq, ehd3, hhd3l, rfl, rfl, h52⟩
       refine wp_seq_k ?_
       intro K53 hK53
       refine wp_seq_k ?_
       intro K54 hK54
       refine reg_lit ?_
       refine wq_p 3 [(140, (Value.int .i64 ((b1 : Int)))), (139, (Value.slice B hb.length b)), (138, (Value.int .i64 ((q : Int))))] ?_
       refine wq_v (some 141) (eAt B (b1 * 3 + 0)) (e_idxN (RV.lenIs (n := hb.length) (h52.rd 3 rfl) (by simp)).2 b1 hb.length (RV.lenIs (n := hb.length) (h52.rd 3 rfl) (by simp)).1 (by omega) 85 (.tmp 139) (.tmp 140) (by kernel_rfl) .i64 (by kernel_rfl) (by kernel_rfl) 131 (by kernel_rfl) (by kernel_rfl) _) ?_
       refine wq_v (some 142) (eAt B (b1 * 3 + 2)) (e_fldN (RV.lenIs (n := hb.length) (h52.rd 3 rfl) (by simp)).2 b1 0 2 ([(Value.int .i64 zb), (Value.slice KA zk.length kc), (Value.slice XA zx.length xc)]) (by rw [List.getElem?_map, hzz]; rfl) (.tmp 141) (by kernel_rfl) (fun _ _ => by kernel_rfl) (fun _ => rfl) _) ?_
       refine wq_v (some 143) (Value.slice XA zx.length xc) (e_elemN (RV.lenIs (n := hb.length) (h52.rd 3 rfl) (by simp)).2 b1 2 ([(Value.int .i64 zb), (Value.slice KA zk.length kc), (Value.slice XA zx.length xc)]) (by rw [List.getElem?_map, hzz]; rfl) 84 (.tmp 142) (by kernel_rfl) (Value.slice XA zx.length xc) (by kernel_rfl) (by kernel_rfl) (by kernel_rfl)) ?_
       refine wq_p 2 [(145, (Value.bool (decide ((q : Int) < (zx.length : Int))))), (144, (Value.int .i64 ((zx.length : Int))))] ?_
       refine wl_end rfl ?_
       refine seq_n hK54 ?_
       refine wp_if ((q : Int) < (zx.length : Int)) (by kernel_rfl) (fun b55 => ?_) (fun b55 => ?_)
       ·
        refine wp_skip ?_
        refine seq_n hK53 ?_
        refine wp_seq_k ?_
        intro K56 hK56
        refine wp_block ?_
        refine wp_seq_k ?_
        intro K57 hK57
        obtain ⟨y, hy⟩ : ∃ y, zx[q]? = some y := ⟨_, List.getElem?_eq_getElem (by omega)⟩
        refine reg_lit ?_
        refine wq_p 2 [(149, (Value.int .i64 ((b1 : Int)))), (148, (Value.slice B hb.length b))] ?_
        refine wq_v (some 150) (eAt B (b1 * 3 + 0)) (e_idxN (RV.lenIs (n := hb.length) (h52.rd 3 rfl) (by simp)).2 b1 hb.length (RV.lenIs (n := hb.length) (h52.rd 3 rfl) (by simp)).1 (by omega) 85 (.tmp 148) (.tmp 149) (by kernel_rfl) .i64 (by kernel_rfl) (by kernel_rfl) 131 (by kernel_rfl) (by kernel_rfl) _) ?_
        refine wq_v (some 151) (eAt B (b1 * 3 + 2)) (e_fldN (RV.lenIs (n := hb.length) (h52.rd 3 rfl) (by simp)).2 b1 0 2 ([(Value.int .i64 zb), (Value.slice KA zk.length kc), (Value.slice XA zx.length xc)]) (by rw [List.getElem?_map, hzz]; rfl) (.tmp 150) (by kernel_rfl) (fun _ _ => by kernel_rfl) (fun _ => rfl) _) ?_
        refine wq_v (some 152) (Value.slice XA zx.length xc) (e_elemN (RV.lenIs (n := hb.length) (h52.rd 3 rfl) (by simp)).2 b1 2 ([(Value.int .i64 zb), (Value.slice KA zk.length kc), (Value.slice XA zx.length xc)]) (by rw [List.getElem?_map, hzz]; rfl) 84 (.tmp 151) (by kernel_rfl) (Value.slice XA zx.length xc) (by kernel_rfl) (by kernel_rfl) (by kernel_rfl)) ?_
        refine wq_p 1 [(153, (Value.int .i64 ((q : Int))))] ?_
        refine wq_v (some 154) (eAt XA (q * 1 + 0)) (e_idxN (RV.lenIs (n := zx.length) (h52.rd 0 rfl) (ivs_len _)).2 q zx.length (RV.lenIs (n := zx.length) (h52.rd 0 rfl) (ivs_len _)).1 (by omega) 84 (.tmp 152) (.tmp 153) (by kernel_rfl) .i64 (by kernel_rfl) (by kernel_rfl) 3 (by kernel_rfl) (by kernel_rfl) _) ?_
        refine wq_v (some 155) (Value.int .i64 y) (e_elemN (RV.lenIs (n := zx.length) (h52.rd 0 rfl) (ivs_len _)).2 q 0 ([(Value.int .i64 y)]) (ivs_get hy) 3 (.tmp 154) (by kernel_rfl) (Value.int .i64 y) (by kernel_rfl) (by kernel_rfl) (by kernel_rfl)) ?_
        refine wq_p 1 [(20, (Value.int .i64 y))] ?_
        refine wl_end rfl ?_
        refine seq_n hK57 ?_
        refine wp_seq_k ?_
        intro K58 hK58
        rcases (show (1 ≤ y ∧ y ≤ (hb.length : Int)) ∨ (¬ 1 ≤ y) ∨ (1 ≤ y ∧ ¬ y ≤ (hb.length : Int)) by omega) with ⟨g1, g2⟩ | g1 | ⟨g1, g2⟩
        ·
         refine reg_lit ?_
         refine wq_p 1 [(156, (Value.int .i64 y))] ?_
         refine wq_v (some 157) (.bool true) (eq_is (v := (Value.bool (decide (y ≥ 1)))) (by kernel_rfl) (congrArg Value.bool (decide_eq_true (by omega)))) ?_
         refine wq_p 4 [(161, (Value.int .i64 ((hb.length : Int)))), (160, (Value.slice A7 hb.length c7)), (159, (Value.int .i64 y)), (158, (Value.bool true))] ?_
         refine wq_v (some 162) (.bool true) (eq_is (v := (Value.bool (decide (y ≤ (hb.length : Int))))) (by kernel_rfl) (congrArg Value.bool (decide_eq_true (by omega)))) ?_
         refine wq_p 1 [(163, (Value.bool true))] ?_
         refine wl_end rfl ?_
         refine seq_n hK58 ?_
         refine wp_cond_true (by kernel_rfl) ?_
         refine reg_lit ?_
         refine wq_p 2 [(165, (Value.int .i64 y)), (164, (Value.slice A7 hb.length c7))] ?_
         refine wq_v (some 166) (Value.int .i64 (((y.toNat - 1 : Nat) : Int))) (exec_sub _ _ _ _ rfl y 1 (by kernel_rfl) (by kernel_rfl) ((y.toNat - 1 : Nat) : Int) (by omega) (by omega) (by omega) _) ?_
         refine wq_v (some 167) (eAt A7 ((((y.toNat - 1))) * 1 + 0)) (e_idxN (OV.rvn (h52.at_ 0 rfl)).2 (((y.toNat - 1))) hb.length (OV.rvn (h52.at_ 0 rfl)).1 (by omega) 98 (.tmp 164) (.tmp 166) (by kernel_rfl) .i64 (by kernel_rfl) (by kernel_rfl) 4 (by kernel_rfl) (by kernel_rfl) _) ?_
         refine wq_to none (x_setBool h52 0 rfl (((y.toNat - 1))) (by omega) 4 (.tmp 167) (.const (Value.bool true)) (by kernel_rfl) true (by kernel_rfl) (by kernel_rfl) (by kernel_rfl) (keysS hd2 (zx.take (q + 1))) (by rw [keysS_succ hy, ← ehd3]; exact keyS_yes g1 (by rw [hhd3l]; exact g2))) ?_
         rintro _ w60 h60
         refine wl_end rfl ?_
         refine blk_n ?_
         refine seq_n hK56 ?_
         refine reg_lit ?_
         refine wq_p 1 [(146, (Value.int .i64 ((q : Int))))] ?_
         refine wq_v (some 147) (Value.int .i64 ((q : Int) + 1)) (exec_add _ _ _ _ rfl ((q : Int)) 1 (by kernel_rfl) (by kernel_rfl) ((q : Int) + 1) rfl (by omega) (by omega) _) ?_
         refine wq_p 1 [(19, (Value.int .i64 ((q : Int) + 1)))] ?_
         refine wl_end rfl ?_
         refine ⟨zx.length - (q + 1), (by omega), (q + 1), ((keysS hd2 (zx.take (q + 1)))), (by omega), rfl, (by rw [keysS_len, hh2]), rfl, (patch_eq _ 171 _ (by kernel_rfl) (by kernel_rfl) (by kernel_rfl)), h60.sel [0, 1, 2] [0, 1, 2, 3, 4, 5, 6, 7] (by kernel_rfl) rfl rfl⟩
        ·
         refine reg_lit ?_
         refine wq_p 1 [(156, (Value.int .i64 y))] ?_
         refine wq_v (some 157) (.bool false) (eq_is (v := (Value.bool (decide (y ≥ 1)))) (by kernel_rfl) (congrArg Value.bool (decide_eq_false (by omega)))) ?_
         refine wq_p 4 [(161, undef), (160, undef), (159, undef), (158, (Value.bool false))] ?_
         refine wq_p 1 [(162, undef)] ?_
         refine wq_p 1 [(163, (Value.bool false))] ?_
         refine wl_end rfl ?_
         refine seq_n hK58 ?_
         refine wp_cond_false (by kernel_rfl) ?_
         refine wp_skip ?_
         refine blk_n ?_
         refine seq_n hK56 ?_
         refine reg_lit ?_
         refine wq_p 1 [(146, (Value.int .i64 ((q : Int))))] ?_
         refine wq_v (some 147) (Value.int .i64 ((q : Int) + 1)) (exec_add _ _ _ _ rfl ((q : Int)) 1 (by kernel_rfl) (by kernel_rfl) ((q : Int) + 1) rfl (by omega) (by omega) _) ?_
         refine wq_p 1 [(19, (Value.int .i64 ((q : Int) + 1)))] ?_
         refine wl_end rfl ?_
         refine ⟨zx.length - (q + 1), (by omega), (q + 1), hd3, (by omega), (by rw [keysS_succ hy, ← ehd3, keyS_no (by rw [hhd3l]; omega)]), hhd3l, rfl, (patch_eq _ 171 _ (by kernel_rfl) (by kernel_rfl) (by kernel_rfl)), h52.sel [0, 1, 2] [0, 1, 2, 3, 4, 5, 6, 7] (by kernel_rfl) rfl rfl⟩
        ·
         refine reg_lit ?_
         refine wq_p 1 [(156, (Value.int .i64 y))] ?_
         refine wq_v (some 157) (.bool true) (eq_is (v := (Value.bool (decide (y ≥ 1)))) (by kernel_rfl) (congrArg Value.bool (decide_eq_true (by omega)))) ?_
         refine wq_p 4 [(161, (Value.int .i64 ((hb.length : Int)))), (160, (Value.slice A7 hb.length c7)), (159, (Value.int .i64 y)), (158, (Value.bool true))] ?_
         refine wq_v (some 162) (.bool false) (eq_is (v := (Value.bool (decide (y ≤ (hb.length : Int))))) (by kernel_rfl) (congrArg Value.bool (decide_eq_false (by omega)))) ?_
         refine wq_p 1 [(163, (Value.bool false))] ?_
         refine wl_end rfl ?_
         refine seq_n hK58 ?_
         refine wp_cond_false (by kernel_rfl) ?_
         refine wp_skip ?_
         refine blk_n ?_
         refine seq_n hK56 ?_
         refine reg_lit ?_
         refine wq_p 1 [(146, (Value.int .i64 ((q : Int))))] ?_
         refine wq_v (some 147) (Value.int .i64 ((q : Int) + 1)) (exec_add _ _ _ _ rfl ((q : Int)) 1 (by kernel_rfl) (by kernel_rfl) ((q : Int) + 1) rfl (by omega) (by omega) _) ?_
         refine wq_p 1 [(19, (Value.int .i64 ((q : Int) + 1)))] ?_
         refine wl_end rfl ?_
         refine ⟨zx.length - (q + 1), (by omega), (q + 1), hd3, (by omega), (by rw [keysS_succ hy, ← ehd3, keyS_no (by rw [hhd3l]; omega)]), hhd3l, rfl, (patch_eq _ 171 _ (by kernel_rfl) (by kernel_rfl) (by kernel_rfl)), h52.sel [0, 1, 2] [0, 1, 2, 3, 4, 5, 6, 7] (by kernel_rfl) rfl rfl⟩
       ·
        refine wp_exit ?_
        refine seq_e ?_
        refine seq_e ?_
        refine blk_e ?_
        refine blk_n ?_
        refine seq_n hK32 ?_
        have hd3e : hd3 = keysS hd2 zx := by rw [ehd3]; exact keysS_all (by omega)
        refine reg_lit ?_
        refine wq_p 1 [(68, (Value.int .i64 ((b1 : Int))))] ?_
        refine wq_v (some 69) (Value.int .i64 ((b1 : Int) + 1)) (exec_add _ _ _ _ rfl ((b1 : Int)) 1 (by kernel_rfl) (by kernel_rfl) ((b1 : Int) + 1) rfl (by omega) (by omega) _) ?_
        refine wq_p 1 [(16, (Value.int .i64 ((b1 : Int) + 1)))] ?_
        refine wl_end rfl ?_
        refine ⟨hb.length - (b1 + 1), (by omega), (b1 + 1), kn3, hd3, ((op2.set b1 true)), (by omega), (by rw [boxRTo_succ, ← hXb, boxR1_yes htt hok]; simp only [triOf, hd3e, kn3e]), (by rw [hkn3l]), (by rw [hhd3l]), (by rw [List.length_set]; exact ho2), rfl, (patch_eq _ 171 _ (by kernel_rfl) (by kernel_rfl) (by kernel_rfl)), h52.sel [1, 0, 2] [2, 3, 4, 5, 6, 7] (by kernel_rfl) rfl rfl⟩
    ·
     refine wp_exit ?_
     refine seq_e ?_
     refine seq_e ?_
     refine blk_e ?_
     refine blk_n ?_
     refine seq_n hK16 ?_
     refine reg_lit ?_
     refine wq_p 1 [(38, (Value.int .i64 ((rn : Int))))] ?_
     refine wq_v (some 39) (Value.int .i64 ((rn : Int) + 1)) (exec_add _ _ _ _ rfl ((rn : Int)) 1 (by kernel_rfl) (by kernel_rfl) ((rn : Int) + 1) rfl (by omega) (by omega) _) ?_
     refine wq_p 1 [(14, (Value.int .i64 ((rn : Int) + 1)))] ?_
     refine wl_end rfl ?_
     refine ⟨k0.length + hb.length + 2 - (rn + 1), (by omega), (rn + 1), kn2, hd2, op2, (by omega), (by rw [hXb, show b1 = (hb.map triOf).length by rw [List.length_map]; omega]; show boxRTo _ _ _ = roundS of _ (closeS of _ _ rn); rw [← hX]; show boxRTo _ ⟨lateTo of kn kn.length, hd, op⟩ _ = boxRTo _ ⟨lateTo of kn kn.length, hd, op⟩ _; rfl), hl2, hh2, ho2, rfl, (patch_eq _ 171 _ (by kernel_rfl) (by kernel_rfl) (by kernel_rfl)), h28.sel [0, 1, 2] [0, 1, 2, 3, 4, 5] (by kernel_rfl) rfl rfl⟩
  ·
   refine wp_exit ?_
   refine seq_e ?_
   refine seq_e ?_
   refine blk_e ?_
   refine seq_n hK10 ?_
   refine wp_seq_k ?_
   intro K61 hK61
   refine reg_lit ?_
   refine wq_p 6 [(10, (Value.slice A9 hb.length hb.length)), (9, (Value.slice A7 hb.length c7)), (8, (Value.slice A4 k0.length c4)), (170, (Value.slice A9 hb.length hb.length)), (169, (Value.slice A7 hb.length c7)), (168, (Value.slice A4 k0.length c4))] ?_
   refine wl_end rfl ?_
   refine seq_n hK61 ?_
   refine wp_ret ?_
   refine post_3 rfl (by kernel_rfl) (rtmp (v := (Value.slice A4 k0.length c4)) (by kernel_rfl)) (rtmp (v := (Value.slice A7 hb.length c7)) (by kernel_rfl)) (rtmp (v := (Value.slice A9 hb.length hb.length)) (by kernel_rfl)) ?_
   have hrn9 : rn = k0.length + hb.length + 2 := by omega
   subst hrn9
   exact ⟨_, _, _, _, _, ⟨kn, hd, op⟩, rfl, hX, h12.sel [0, 1, 2] [] (by decide) rfl rfl⟩
end Go.Proofs.Ytjjcnijdjhhdoaa
end
/-! The rounds of compeerref08.Close come to the least closure. -/
section
namespace Go.Proofs.Ytjjcnijdjhhdoaa
open Go.RowKit Go.QT
def ble (l m : List Bool) : Prop := ∀ i, bt l i = true → bt m i = true
theorem bt_set {l : List Bool} {i j : Nat} : bt (l.set j true) i = true ↔ bt l i = true ∨ (i = j ∧ j < l.length) := by
  unfold bt
  rw [List.getD_eq_getElem?_getD, List.getD_eq_getElem?_getD, List.getElem?_set]
  by_cases h : j = i
  · subst h
    by_cases hl : j < l.length
    · simp [hl]
    · simp [hl]
  · simp only [if_neg h]
    constructor
    · exact .inl
    · rintro (h1 | ⟨h1, _⟩)
      · exact h1
      · exact absurd h1.symm h
theorem bt_lt {l : List Bool} {i : Nat} (h : bt l i = true) : i < l.length := by
  unfold bt at h
  rw [List.getD_eq_getElem?_getD] at h
  cases hc : l[i]? with
  | none => rw [hc] at h; cases h
  | some b => exact (List.getElem?_eq_some_iff.1 hc).1
theorem set_same {l : List Bool} {j : Nat} (h : bt l j = true) : l.set j true = l := by
  have hl := bt_lt h
  apply List.ext_getElem?
  intro i
  rw [List.getElem?_set]
  split
  · rename_i e
    subst e
    unfold bt at h
    rw [List.getD_eq_getElem?_getD, List.getElem?_eq_getElem hl] at h
    have h : l[j] = true := h
    rw [List.getElem?_eq_getElem hl, h]
  · rfl
theorem ble_rfl {l : List Bool} : ble l l := fun _ h => h
theorem ble.trans {l m k : List Bool} (h : ble l m) (h' : ble m k) : ble l k := fun i hi => h' i (h i hi)
theorem ble_set {l : List Bool} {j : Nat} : ble l (l.set j true) := fun _ h => bt_set.2 (.inl h)
def cnt (l : List Bool) : Nat := l.count true
theorem cnt_ble : ∀ (l m : List Bool), l.length = m.length → ble l m → cnt l ≤ cnt m ∧ (cnt l = cnt m → l = m)
  | [], [], _, _ => ⟨Nat.le_refl _, fun _ => rfl⟩
  | [], _ :: _, h, _ => by simp at h
  | _ :: _, [], h, _ => by simp at h
  | a :: l, b :: m, hl, h => by
    obtain ⟨h1, h2⟩ := cnt_ble l m (by simpa using hl) (fun i hi => h (i + 1) hi)
    have h0 : a = true → b = true := fun ha => h 0 ha
    unfold cnt at *
    cases a with
    | true =>
      have hb := h0 rfl
      subst hb
      rw [List.count_cons_self, List.count_cons_self]
      exact ⟨by omega, fun e => by rw [h2 (by omega)]⟩
    | false =>
      cases b with
      | true =>
        rw [List.count_cons_self, List.count_cons_of_ne (by decide)]
        exact ⟨by omega, fun e => by omega⟩
      | false =>
        rw [List.count_cons_of_ne (by decide), List.count_cons_of_ne (by decide)]
        exact ⟨h1, fun e => by rw [h2 e]⟩
section
variable {of : List Int} {kn : List Bool} {x : Int} {i j n b : Nat} {bx : List Tri} {X Y : KHO} {l : List Int} {t : Tri}
theorem keyS_ble : ble kn (keyS kn x) := by
  unfold keyS; split
  · exact ble_set
  · exact ble_rfl
theorem keysS_ble : ∀ (l : List Int) (kn : List Bool), ble kn (keysS kn l)
  | [], _ => ble_rfl
  | x :: l, kn => by
    have : keysS kn (x :: l) = keysS (keyS kn x) l := rfl
    rw [this]; exact keyS_ble.trans (keysS_ble l _)
theorem keysS_in : ∀ (l : List Int) (kn : List Bool), x ∈ l → 1 ≤ x → x ≤ (kn.length : Int) → bt (keysS kn l) (x.toNat - 1) = true
  | y :: l, kn, hx, h1, h2 => by
    have e : keysS kn (y :: l) = keysS (keyS kn y) l := rfl
    rw [e]
    rcases List.mem_cons.1 hx with rfl | hx
    · refine keysS_ble l _ _ ?_
      rw [keyS_yes h1 h2]
      exact bt_set.2 (.inr ⟨rfl, by omega⟩)
    · exact keysS_in l _ hx h1 (by rw [keyS_len]; exact h2)
theorem lateS_ble : ble kn (lateS of kn i) := by
  unfold lateS; split
  · exact ble_set
  · exact ble_rfl
theorem lateTo_ble (d : Nat) : ble (lateTo of kn i) (lateTo of kn (i + d)) := by
  induction d with
  | zero => exact ble_rfl
  | succ d ih => rw [← Nat.add_assoc, lateTo_succ]; exact ih.trans lateS_ble
theorem lateTo_to (h : i ≤ n) : ble (lateTo of kn i) (lateTo of kn n) := by
  obtain ⟨d, rfl⟩ := Nat.exists_eq_add_of_le h
  exact lateTo_ble d
structure XLe (X Y : KHO) : Prop where
  kn : ble X.kn Y.kn
  hd : ble X.hd Y.hd
  op : ble X.op Y.op
theorem XLe.rfl' : XLe X X := ⟨ble_rfl, ble_rfl, ble_rfl⟩
theorem XLe.trans {Z : KHO} (h : XLe X Y) (h' : XLe Y Z) : XLe X Z := ⟨h.kn.trans h'.kn, h.hd.trans h'.hd, h.op.trans h'.op⟩
theorem boxR1_le : XLe X (boxR1 bx X b) := by
  unfold boxR1
  split
  · split
    · exact ⟨keysS_ble _ _, keysS_ble _ _, ble_set⟩
    · exact .rfl'
  · exact .rfl'
theorem boxRTo_to (h : i ≤ n) : XLe (boxRTo bx X i) (boxRTo bx X n) := by
  obtain ⟨d, rfl⟩ := Nat.exists_eq_add_of_le h
  clear h
  induction d with
  | zero => exact .rfl'
  | succ d ih => rw [← Nat.add_assoc, boxRTo_succ]; exact ih.trans boxR1_le
theorem roundS_le : XLe X (roundS of bx X) := by
  have h1 : XLe X ⟨lateTo of X.kn X.kn.length, X.hd, X.op⟩ := ⟨lateTo_to (i := 0) (Nat.zero_le _), ble_rfl, ble_rfl⟩
  exact h1.trans (boxRTo_to (i := 0) (Nat.zero_le _))
theorem closeS_le : ∀ n, XLe X (closeS of bx X n)
  | 0 => .rfl'
  | n+1 => (closeS_le n).trans roundS_le
structure RClosed (of : List Int) (bx : List Tri) (X : KHO) : Prop where
  c1 : ∀ k, k < X.kn.length → 0 < of.getD k 0 → bt X.kn ((of.getD k 0).toNat - 1) = true → bt X.kn k = true
  c2 : ∀ b t, bx[b]? = some t → b < X.op.length → boxOk X b t → bt X.op b = true ∧ (∀ x ∈ t.2.1, 1 ≤ x → x ≤ (X.kn.length : Int) → bt X.kn (x.toNat - 1) = true) ∧ (∀ x ∈ t.2.2, 1 ≤ x → x ≤ (X.hd.length : Int) → bt X.hd (x.toNat - 1) = true)
/-- Nothing came: it is closed. -/
theorem round_closed (h1 : (roundS of bx X).kn = X.kn) (h2 : (roundS of bx X).hd = X.hd) : RClosed of bx (roundS of bx X) := by
  have hlen := roundS_len (of := of) (bx := bx) (X := X)
  refine ⟨fun k hk ho hb => ?_, fun b t ht hbl hok => ?_⟩
  · rw [h1] at hb
    have hk' : k < X.kn.length := by rw [← hlen.1]; exact hk
    have hz : bt (lateTo of X.kn k) ((of.getD k 0).toNat - 1) = true := lateTo_to (i := 0) (Nat.zero_le k) _ hb
    have hs : bt (lateTo of X.kn (k + 1)) k = true := by
      rw [lateTo_succ]
      unfold lateS
      rw [if_pos ⟨ho, hz⟩]
      exact bt_set.2 (.inr ⟨rfl, by rw [lateTo_len]; exact hk'⟩)
    exact (boxRTo_to (i := 0) (Nat.zero_le _)).kn k (lateTo_to (by omega) k hs)
  · obtain ⟨o1, o2, o3, o4⟩ := hok
    rw [h2] at o1
    rw [h1] at o3 o4
    have hbx : b < bx.length := (List.getElem?_eq_some_iff.1 ht).1
    let Z := boxRTo bx ⟨lateTo of X.kn X.kn.length, X.hd, X.op⟩ b
    have hzl := boxRTo_len (bx := bx) (X := ⟨lateTo of X.kn X.kn.length, X.hd, X.op⟩) b
    have hzk : Z.kn.length = X.kn.length := hzl.1.trans (lateTo_len _)
    have hzh : Z.hd.length = X.hd.length := hzl.2.1
    have hzo : Z.op.length = X.op.length := hzl.2.2
    have hz : XLe ⟨lateTo of X.kn X.kn.length, X.hd, X.op⟩ Z := boxRTo_to (i := 0) (Nat.zero_le b)
    have hokZ : boxOk Z b t := ⟨hz.hd b o1, o2, by rw [hzk]; exact o3, hz.kn _ (lateTo_to (i := 0) (Nat.zero_le _) _ o4)⟩
    have hle : XLe (boxR1 bx Z b) (roundS of bx X) := by
      have := boxRTo_to (bx := bx) (X := ⟨lateTo of X.kn X.kn.length, X.hd, X.op⟩) (show b + 1 ≤ bx.length by omega)
      rw [boxRTo_succ] at this
      exact this
    rw [show boxR1 bx Z b = ⟨keysS Z.kn t.2.1, keysS Z.hd t.2.2, Z.op.set b true⟩ from boxR1_yes ht hokZ] at hle
    refine ⟨hle.op b (bt_set.2 (.inr ⟨rfl, by rw [hzo, ← hlen.2.2]; exact hbl⟩)), fun x hx h1' h2' => hle.kn _ (keysS_in _ _ hx h1' (by rw [hzk, ← hlen.1]; exact h2')), fun x hx h1' h2' => hle.hd _ (keysS_in _ _ hx h1' (by rw [hzh, ← hlen.2.1]; exact h2'))⟩
theorem keysS_same : ∀ (l : List Int) (kn : List Bool), (∀ x ∈ l, 1 ≤ x → x ≤ (kn.length : Int) → bt kn (x.toNat - 1) = true) → keysS kn l = kn
  | [], _, _ => rfl
  | x :: l, kn, h => by
    have e : keysS kn (x :: l) = keysS (keyS kn x) l := rfl
    have e2 : keyS kn x = kn := by
      unfold keyS
      split
      · rename_i hc
        exact set_same (h x (by simp) hc.1 hc.2)
      · rfl
    rw [e, e2]
    exact keysS_same l kn fun y hy => h y (by simp [hy])
/-- What is closed stays. -/
theorem closed_stays (h : RClosed of bx X) (hbo : bx.length ≤ X.op.length) : roundS of bx X = X := by
  have h1 : ∀ i, i ≤ X.kn.length → lateTo of X.kn i = X.kn := by
    intro i
    induction i with
    | zero => intro _; rfl
    | succ i ih =>
      intro hi
      rw [lateTo_succ, ih (by omega)]
      unfold lateS
      split
      · rename_i hc
        exact set_same (h.c1 i (by omega) hc.1 hc.2)
      · rfl
  unfold roundS
  rw [h1 _ (Nat.le_refl _)]
  have h2 : ∀ i, boxRTo bx X i = X := by
    intro i
    induction i with
    | zero => rfl
    | succ i ih =>
      rw [boxRTo_succ, ih]
      unfold boxR1
      split
      · rename_i t ht
        split
        · rename_i hok
          have hi := (List.getElem?_eq_some_iff.1 ht).1
          obtain ⟨a, b, c⟩ := h.c2 i t ht (by omega) hok
          rw [keysS_same _ _ b, keysS_same _ _ c, set_same a]
        · rfl
      · rfl
  exact h2 _
theorem close_inv (hbo : bx.length ≤ X.op.length) : ∀ n, RClosed of bx (closeS of bx X n) ∨ n ≤ cnt (closeS of bx X n).kn + cnt (closeS of bx X n).hd
  | 0 => .inr (Nat.zero_le _)
  | n+1 => by
    have hl := closeS_len (of := of) (bx := bx) (X := X) n
    have hrl := roundS_len (of := of) (bx := bx) (X := closeS of bx X n)
    have hle := roundS_le (of := of) (bx := bx) (X := closeS of bx X n)
    rcases close_inv hbo n with h | h
    · left
      show RClosed of bx (roundS of bx (closeS of bx X n))
      rw [closed_stays h (by rw [hl.2.2]; exact hbo)]
      exact h
    · obtain ⟨k1, k2⟩ := cnt_ble _ _ hrl.1.symm hle.kn
      obtain ⟨d1, d2⟩ := cnt_ble _ _ hrl.2.1.symm hle.hd
      by_cases hc : (roundS of bx (closeS of bx X n)).kn = (closeS of bx X n).kn ∧ (roundS of bx (closeS of bx X n)).hd = (closeS of bx X n).hd
      · exact .inl (round_closed hc.1 hc.2)
      · right
        show n + 1 ≤ cnt (roundS of bx (closeS of bx X n)).kn + cnt (roundS of bx (closeS of bx X n)).hd
        by_cases e1 : cnt (closeS of bx X n).kn = cnt (roundS of bx (closeS of bx X n)).kn
        · by_cases e2 : cnt (closeS of bx X n).hd = cnt (roundS of bx (closeS of bx X n)).hd
          · exact absurd ⟨(k2 e1).symm, (d2 e2).symm⟩ hc
          · omega
        · omega
theorem close_closed (hbo : bx.length ≤ X.op.length) : RClosed of bx (closeS of bx X (X.kn.length + X.hd.length + 2)) := by
  rcases close_inv (of := of) hbo (X.kn.length + X.hd.length + 2) with h | h
  · exact h
  · exfalso
    have hl := closeS_len (of := of) (bx := bx) (X := X) (X.kn.length + X.hd.length + 2)
    have a : cnt (closeS of bx X (X.kn.length + X.hd.length + 2)).kn ≤ (closeS of bx X (X.kn.length + X.hd.length + 2)).kn.length := List.count_le_length (a := true)
    have b : cnt (closeS of bx X (X.kn.length + X.hd.length + 2)).hd ≤ (closeS of bx X (X.kn.length + X.hd.length + 2)).hd.length := List.count_le_length (a := true)
    rw [hl.1] at a
    rw [hl.2.1] at b
    omega
/-! ### It is the least -/
structure PCl (of : List Int) (bx : List Tri) (n m : Nat) (PK PB PO : Nat → Prop) : Prop where
  p1 : ∀ k, k < n → 0 < of.getD k 0 → PK ((of.getD k 0).toNat - 1) → PK k
  p2 : ∀ b t, bx[b]? = some t → PB b → 1 ≤ t.1 → t.1 ≤ (n : Int) → PK (t.1.toNat - 1) → PO b ∧ (∀ x ∈ t.2.1, 1 ≤ x → x ≤ (n : Int) → PK (x.toNat - 1)) ∧ (∀ x ∈ t.2.2, 1 ≤ x → x ≤ (m : Int) → PB (x.toNat - 1))
structure Sound (X : KHO) (PK PB PO : Nat → Prop) : Prop where
  k : ∀ i, bt X.kn i = true → PK i
  b : ∀ i, bt X.hd i = true → PB i
  o : ∀ i, bt X.op i = true → PO i
variable {PK PB PO : Nat → Prop} {m : Nat}
theorem keysS_sound : ∀ (l : List Int) (kn : List Bool) (P : Nat → Prop), (∀ i, bt kn i = true → P i) → (∀ x ∈ l, 1 ≤ x → x ≤ (kn.length : Int) → P (x.toNat - 1)) → ∀ i, bt (keysS kn l) i = true → P i
  | [], _, _, h, _ => h
  | x :: l, kn, P, h, hx => by
    have e : keysS kn (x :: l) = keysS (keyS kn x) l := rfl
    rw [e]
    refine keysS_sound l (keyS kn x) P (fun i hi => ?_) (fun y hy h1 h2 => hx y (by simp [hy]) h1 (by rw [keyS_len] at h2; exact h2))
    unfold keyS at hi
    split at hi
    · rename_i hc
      rcases bt_set.1 hi with hi | ⟨rfl, _⟩
      · exact h i hi
      · exact hx x (by simp) hc.1 hc.2
    · exact h i hi
theorem lateTo_sound (hp : PCl of bx n m PK PB PO) (hn : kn.length = n) (h : ∀ i, bt kn i = true → PK i) : ∀ j, j ≤ n → ∀ i, bt (lateTo of kn j) i = true → PK i
  | 0, _ => h
  | j+1, hj => by
    intro i hi
    have ih := lateTo_sound hp hn h j (by omega)
    rw [lateTo_succ] at hi
    unfold lateS at hi
    split at hi
    · rename_i hc
      rcases bt_set.1 hi with hi | ⟨rfl, _⟩
      · exact ih i hi
      · exact hp.p1 _ (by omega) hc.1 (ih _ hc.2)
    · exact ih i hi
theorem boxR1_sound (hp : PCl of bx n m PK PB PO) (hn : X.kn.length = n) (hm : X.hd.length = m) (h : Sound X PK PB PO) : Sound (boxR1 bx X b) PK PB PO := by
  unfold boxR1
  split
  · rename_i t ht
    split
    · rename_i hok
      obtain ⟨o1, o2, o3, o4⟩ := hok
      obtain ⟨a1, a2, a3⟩ := hp.p2 b t ht (h.b _ o1) o2 (by rw [← hn]; exact o3) (h.k _ o4)
      refine ⟨keysS_sound _ _ _ h.k (fun x hx h1 h2 => a2 x hx h1 (by rw [← hn]; exact h2)), keysS_sound _ _ _ h.b (fun x hx h1 h2 => a3 x hx h1 (by rw [← hm]; exact h2)), fun i hi => ?_⟩
      rcases bt_set.1 hi with hi | ⟨rfl, _⟩
      · exact h.o i hi
      · exact a1
    · exact h
  · exact h
theorem boxRTo_sound (hp : PCl of bx n m PK PB PO) (hn : X.kn.length = n) (hm : X.hd.length = m) (h : Sound X PK PB PO) : ∀ i, Sound (boxRTo bx X i) PK PB PO
  | 0 => h
  | i+1 => by
    have hl := boxRTo_len (bx := bx) (X := X) i
    rw [boxRTo_succ]
    exact boxR1_sound hp (hl.1.trans hn) (hl.2.1.trans hm) (boxRTo_sound hp hn hm h i)
theorem closeS_sound (hp : PCl of bx n m PK PB PO) (hn : X.kn.length = n) (hm : X.hd.length = m) (h : Sound X PK PB PO) : ∀ j, Sound (closeS of bx X j) PK PB PO
  | 0 => h
  | j+1 => by
    have hl := closeS_len (of := of) (bx := bx) (X := X) j
    have ih := closeS_sound hp hn hm h j
    show Sound (roundS of bx (closeS of bx X j)) PK PB PO
    unfold roundS
    have hk := hl.1.trans hn
    exact boxRTo_sound (X := ⟨lateTo of (closeS of bx X j).kn (closeS of bx X j).kn.length, (closeS of bx X j).hd, (closeS of bx X j).op⟩) hp ((lateTo_len _).trans hk) (hl.2.1.trans hm) ⟨lateTo_sound hp hk ih.k _ (by rw [hk]; exact Nat.le_refl _), ih.b, ih.o⟩ _
end
end Go.Proofs.Ytjjcnijdjhhdoaa
end
/-! Plain law of KnowsCloses: marks that stand one behind the other; what the document's rounds come to is what can be known. -/
section
namespace Go.Proofs.Ytjjcnijdjhhdoaa
open Go.RowKit Go.QT
/-! ### Marks one behind the other -/
theorem win_short {b : Bytes} {i : Nat} (h : b.length < i + 16) : (markOf ((b.take (i + 16)).drop i)).isSome = false := by
  cases hm : markOf ((b.take (i + 16)).drop i) with
  | none => rfl
  | some p =>
    have := (markOf_spec (k := p.1) (n := p.2) hm).1
    rw [List.length_drop, List.length_take] at this
    omega
theorem findTo_cons (x : UInt8) (b : Bytes) : ∀ i, findTo (x :: b) (i + 1) = (if (markOf ((x :: b).take 16)).isSome then [(x :: b).take 16] else []) ++ findTo b i
  | 0 => by
    rw [findTo_succ]
    have e : ((x :: b).take (0 + 16)).drop 0 = (x :: b).take 16 := rfl
    rw [e]
    split <;> simp [findTo]
  | i+1 => by
    rw [findTo_succ, findTo_cons x b i, findTo_succ b i]
    have e : ((x :: b).take (i + 1 + 16)).drop (i + 1) = (b.take (i + 16)).drop i := by
      rw [show i + 1 + 16 = (i + 16) + 1 by omega, List.take_succ_cons, List.drop_succ_cons]
    rw [e]
    split
    · rw [List.append_assoc]
    · rfl
theorem findB_cons (x : UInt8) (b : Bytes) : findB (x :: b) = (if (markOf ((x :: b).take 16)).isSome then [(x :: b).take 16] else []) ++ findB b := by
  unfold findB
  by_cases h : 15 ≤ b.length
  · rw [show (x :: b).length - 15 = (b.length - 15) + 1 by simp; omega, findTo_cons]
  · have h1 : (x :: b).length - 15 = 0 := by simp; omega
    have h2 : b.length - 15 = 0 := by omega
    rw [h1, h2]
    have := win_short (b := x :: b) (i := 0) (by simp; omega)
    rw [List.drop_zero, Nat.zero_add] at this
    rw [this]
    simp [findTo]
theorem mark_head {b : Bytes} (h : (markOf b).isSome = true) : b.head? = some 255 := by
  obtain ⟨p, hp⟩ := Option.isSome_iff_exists.1 h
  rw [(markOf_spec (k := p.1) (n := p.2) hp).2.2.2]; rfl
theorem findB_skip {x : UInt8} (hx : x ≠ 255) (b : Bytes) : findB (x :: b) = findB b := by
  rw [findB_cons, if_neg, List.nil_append]
  intro h
  have := mark_head h
  simp at this
  exact hx this
theorem findB_skips : ∀ (l : Bytes) (r : Bytes), (∀ x ∈ l, x ≠ 255) → findB (l ++ r) = findB r
  | [], _, _ => rfl
  | x :: l, r, h => by
    rw [List.cons_append, findB_skip (h x (by simp))]
    exact findB_skips l r fun y hy => h y (by simp [hy])
theorem put8_ne {n : Nat} (hn : n < 255) : ∀ x ∈ put8 n, x ≠ 255 := by
  intro x hx e
  unfold put8 at hx
  obtain ⟨i, _, rfl⟩ := List.mem_map.1 hx
  have h1 : n / 256 ^ (7 - i) ≤ n := Nat.div_le_self _ _
  have h2 := congrArg UInt8.toNat e
  rw [UInt8.toNat_ofNat'] at h2
  have h3 : (255 : UInt8).toNat = 255 := rfl
  rw [h3] at h2
  generalize n / 256 ^ (7 - i) = q at h1 h2
  omega
theorem findB_mark {k : UInt8} (hk : k = 107 ∨ k = 98 ∨ k = 100) {n : Nat} (hn : n < 255) (r : Bytes) : findB (mkB k n ++ r) = mkB k n :: findB r := by
  have h0 : mkB k n = 255 :: ([254, k, 0, 0, 0, 0, 0] ++ put8 n) := rfl
  have ht : (mkB k n ++ r).take 16 = mkB k n := by
    rw [List.take_append_of_le_length (by rw [mkB_len]; exact Nat.le_refl _), List.take_of_length_le (by rw [mkB_len]; exact Nat.le_refl _)]
  have hs : findB (mkB k n ++ r) = (if (markOf ((mkB k n ++ r).take 16)).isSome then [(mkB k n ++ r).take 16] else []) ++ findB (([254, k, 0, 0, 0, 0, 0] ++ put8 n) ++ r) := by
    conv => lhs; rw [h0, List.cons_append, findB_cons]
    rfl
  rw [hs, ht, markOf_mkB hk (by omega)]
  rw [findB_skips]
  · rfl
  · intro x hx
    rcases List.mem_append.1 hx with hx | hx
    · simp only [List.mem_cons, List.not_mem_nil, or_false] at hx
      rcases hx with rfl | rfl | rfl | rfl | rfl | rfl | rfl
      · decide
      · rcases hk with rfl | rfl | rfl <;> decide
      all_goals decide
    · exact put8_ne hn x hx
theorem findB_nil : findB [] = [] := rfl
theorem findB_kBody : ∀ (l : List Nat) (r : Bytes), (∀ m ∈ l, m < 255) → findB (kBody l ++ r) = l.map (mkB 107) ++ findB r
  | [], _, _ => rfl
  | m :: l, r, h => by
    have : kBody (m :: l) ++ r = mkB 107 m ++ (kBody l ++ r) := by simp [kBody]
    rw [this, findB_mark (.inl rfl) (h m (by simp)), findB_kBody l r fun y hy => h y (by simp [hy])]
    rfl
theorem findB_bBody : ∀ (l : List Int) (r : Bytes), (∀ x ∈ l, x.toNat < 255) → findB (bBody l ++ r) = (l.map fun x => mkB 98 x.toNat) ++ findB r
  | [], _, _ => rfl
  | m :: l, r, h => by
    have : bBody (m :: l) ++ r = mkB 98 m.toNat ++ (bBody l ++ r) := by simp [bBody]
    rw [this, findB_mark (.inr (.inl rfl)) (h m (by simp)), findB_bBody l r fun y hy => h y (by simp [hy])]
    rfl
theorem findB_body {n j : Nat} {z : KBox} (hn : 0 < n) (h12 : n ≤ 12) (hj : j ≤ 12) : findB (boxF n j z).body = (ksN n z.ks).map (mkB 107) ++ (bsN j z.bs).map fun x => mkB 98 x.toNat := by
  have h1 : ∀ m ∈ ksN n z.ks, m < 255 := fun m hm => by
    unfold ksN at hm
    obtain ⟨x, _, rfl⟩ := List.mem_map.1 hm
    have := kN_lt x hn
    omega
  have h2 : ∀ x ∈ bsN j z.bs, x.toNat < 255 := fun x hx => by
    unfold bsN at hx
    have := (List.mem_filter.1 hx).2
    simp at this
    omega
  show findB (kBody (ksN n z.ks) ++ bBody (bsN j z.bs)) = _
  rw [findB_kBody _ _ h1]
  have := findB_bBody (bsN j z.bs) [] h2
  rw [List.append_nil, findB_nil, List.append_nil] at this
  rw [this]
/-! ### The bridge -/
structure Seen (n m : Nat) (Lk Lb : List Bytes) (k0 s0 : List Bool) : Prop where
  kl : k0.length = n
  sl : s0.length = m
  k : ∀ i, bt k0 i = true ↔ (i < n ∧ mkB 107 (i + 1) ∈ Lk)
  b : ∀ i, bt s0 i = true ↔ (i < m ∧ mkB 98 (i + 1) ∈ Lb)
  ak : ∀ x ∈ Lk, ∃ i, i < n ∧ x = mkB 107 (i + 1)
  ab : ∀ x ∈ Lb, ∃ i, i < m ∧ x = mkB 98 (i + 1)
section
variable {s : STab} {z : KIn} {Lk Lb : List Bytes} {k0 s0 : List Bool}
theorem kbx_at {n i : Nat} {bx : List KBox} {sl : SSealed} (h : (kbxTo n bx bx.length)[i]? = some sl) : ∃ y, bx[i]? = some y ∧ sl = boxF n i y := by
  unfold kbxTo at h
  rw [List.take_of_length_le (Nat.le_refl _), List.getElem?_mapIdx, Option.map_eq_some_iff] at h
  obtain ⟨y, hy, e⟩ := h
  exact ⟨y, hy, e.symm⟩
theorem tri_at {n i : Nat} {bx : List KBox} {y : KBox} (h : bx[i]? = some y) : (triTo n bx bx.length)[i]? = some (triF n i y) := by
  unfold triTo
  rw [List.take_of_length_le (Nat.le_refl _), List.getElem?_mapIdx, h]; rfl
theorem tri_of {n i : Nat} {bx : List KBox} {t : Tri} (h : (triTo n bx bx.length)[i]? = some t) : ∃ y, bx[i]? = some y ∧ t = triF n i y := by
  unfold triTo at h
  rw [List.take_of_length_le (Nat.le_refl _), List.getElem?_mapIdx, Option.map_eq_some_iff] at h
  obtain ⟨y, hy, e⟩ := h
  exact ⟨y, hy, e.symm⟩
theorem tri_len {n : Nat} {bx : List KBox} : (triTo n bx bx.length).length = bx.length := by unfold triTo; simp
theorem ofTo_get {of : List Int} {n k : Nat} (h : k < n) : (ofTo of n).getD k 0 = ofV of k := by
  unfold ofTo
  rw [List.getD_eq_getElem?_getD, List.getElem?_map, List.getElem?_range h]; rfl
theorem knows_closes (hf : fewP z) (h1 : s.keys = keysTo' z.of z.of.length) (h2 : s.boxes = kbxTo z.of.length z.bx z.bx.length) (hs : Seen z.of.length z.bx.length Lk Lb k0 s0) {X : KHO}
    (hX : X = closeS (ofTo z.of z.of.length) (triTo z.of.length z.bx z.bx.length) ⟨k0, s0, List.replicate z.bx.length false⟩ (z.of.length + z.bx.length + 2)) :
    (∀ i, i < z.of.length → (Knl s Lk Lb 0 (mkB 107 (i + 1)) ↔ bt X.kn i = true)) ∧ (∀ i, i < z.bx.length → (Knl s Lk Lb 1 (mkB 98 (i + 1)) ↔ bt X.hd i = true)) ∧ (∀ i, i < z.bx.length → (Knl s Lk Lb 2 (mkB 98 (i + 1)) ↔ bt X.op i = true)) := by
  obtain ⟨f1, f2, f3, f4, f5, f6⟩ := hf
  have hcl : RClosed (ofTo z.of z.of.length) (triTo z.of.length z.bx z.bx.length) X := by
    have := close_closed (of := ofTo z.of z.of.length) (bx := triTo z.of.length z.bx z.bx.length) (X := ⟨k0, s0, List.replicate z.bx.length false⟩) (by rw [tri_len]; simp)
    simp only [hs.kl, hs.sl] at this
    rw [hX]; exact this
  have hlen := closeS_len (of := ofTo z.of z.of.length) (bx := triTo z.of.length z.bx z.bx.length) (X := ⟨k0, s0, List.replicate z.bx.length false⟩) (z.of.length + z.bx.length + 2)
  have hle := closeS_le (of := ofTo z.of z.of.length) (bx := triTo z.of.length z.bx z.bx.length) (X := ⟨k0, s0, List.replicate z.bx.length false⟩) (z.of.length + z.bx.length + 2)
  rw [← hX] at hlen hle
  have lk : X.kn.length = z.of.length := hlen.1.trans hs.kl
  have lh : X.hd.length = z.bx.length := hlen.2.1.trans hs.sl
  have lo : X.op.length = z.bx.length := hlen.2.2.trans (by simp)
  have inj107 : ∀ {i j : Nat}, i < 1000 → j < 1000 → mkB 107 i = mkB 107 j → i = j := fun hi hj e => mkB_inj (by omega) (by omega) e
  have inj98 : ∀ {i j : Nat}, i < 1000 → j < 1000 → mkB 98 i = mkB 98 j → i = j := fun hi hj e => mkB_inj (by omega) (by omega) e
  -- what can be known is in the rounds' end
  have into : ∀ c k, Knl s Lk Lb c k → (c = 0 → ∃ i, i < z.of.length ∧ k = mkB 107 (i + 1) ∧ bt X.kn i = true) ∧ (c = 1 → ∃ i, i < z.bx.length ∧ k = mkB 98 (i + 1) ∧ bt X.hd i = true) ∧
      (c = 2 → ∃ i y, z.bx[i]? = some y ∧ k = mkB 98 (i + 1) ∧ bt X.op i = true ∧ boxOk X i (triF z.of.length i y)) := by
    intro c k hk
    induction hk with
    | key k hk =>
      obtain ⟨i, hi, e⟩ := hs.ak k hk
      exact ⟨fun _ => ⟨i, hi, e, hle.kn i ((hs.k i).2 ⟨hi, e ▸ hk⟩)⟩, by simp, by simp⟩
    | box k hk =>
      obtain ⟨i, hi, e⟩ := hs.ab k hk
      exact ⟨by simp, fun _ => ⟨i, hi, e, hle.hd i ((hs.b i).2 ⟨hi, e ▸ hk⟩)⟩, by simp⟩
    | opens k sl _ hb _ ih1 ih2 =>
      refine ⟨by simp, by simp, fun _ => ?_⟩
      obtain ⟨i, hi, e1, hd⟩ := ih1.2.1 rfl
      obtain ⟨j, hj, e2, hkn⟩ := ih2.1 rfl
      obtain ⟨i', hi', hsl, e3⟩ := box_at_ hb
      have hil : i' < z.bx.length := by rw [h2, kbx_len] at hi'; exact hi'
      have ei : i = i' := by
        have := inj98 (by omega) (by omega) (e1.symm.trans e3)
        omega
      subst ei
      rw [h2] at hsl
      obtain ⟨y, hy, rfl⟩ := kbx_at hsl
      have hkl := kN_lt y.by_ (show 0 < z.of.length by omega)
      have ej : kN z.of.length y.by_ = j := by
        have := inj107 (i := kN z.of.length y.by_ + 1) (by omega) (by omega) e2
        omega
      have hok : boxOk X i (triF z.of.length i y) := by
        refine ⟨hd, ?_, ?_, ?_⟩
        · simp only [triF]; omega
        · simp only [triF]; omega
        · simp only [triF]
          rw [show (((kN z.of.length y.by_ + 1 : Nat) : Int)).toNat - 1 = j by omega]
          exact hkn
      exact ⟨i, y, hy, e1, (hcl.c2 i _ (tri_at hy) (by omega) hok).1, hok⟩
    | tkey k x sl _ hb hx hkd ih =>
      refine ⟨fun _ => ?_, by simp, by simp⟩
      obtain ⟨i, y, hy, e1, ho, hok⟩ := ih.2.2 rfl
      obtain ⟨i', hi', hsl, e3⟩ := box_at_ hb
      have hyl := (List.getElem?_eq_some_iff.1 hy).1
      have hil : i' < z.bx.length := by rw [h2, kbx_len] at hi'; exact hi'
      have ei : i = i' := by
        have := inj98 (by omega) (by omega) (e1.symm.trans e3)
        omega
      subst ei
      rw [h2] at hsl
      obtain ⟨y', hy', rfl⟩ := kbx_at hsl
      rw [hy] at hy'; injection hy' with hy'; subst hy'
      rw [findB_body (by omega) f2 (by omega)] at hx
      rcases List.mem_append.1 hx with hx | hx
      · obtain ⟨m, hm, rfl⟩ := List.mem_map.1 hx
        have hm' := hm
        unfold ksN at hm
        obtain ⟨v, _, rfl⟩ := List.mem_map.1 hm
        have hkl := kN_lt v (show 0 < z.of.length by omega)
        refine ⟨kN z.of.length v, hkl, rfl, ?_⟩
        have := (hcl.c2 i _ (tri_at hy) (by omega) hok).2.1 ((kN z.of.length v + 1 : Nat) : Int) (by simp only [triF]; unfold natI; exact List.mem_map.2 ⟨_, hm', rfl⟩) (by omega) (by omega)
        rw [show (((kN z.of.length v + 1 : Nat) : Int)).toNat - 1 = kN z.of.length v by omega] at this
        exact this
      · obtain ⟨m, hm, rfl⟩ := List.mem_map.1 hx
        unfold bsN at hm
        have hm2 := (List.mem_filter.1 hm).2
        simp at hm2
        have := (isKd_mk (c := 107) (d := 98) (.inr (.inl rfl)) (show m.toNat ≤ 1099511627776 by omega)).1 hkd
        cases this
    | tbox k x sl _ hb hx hkd ih =>
      refine ⟨by simp, fun _ => ?_, by simp⟩
      obtain ⟨i, y, hy, e1, ho, hok⟩ := ih.2.2 rfl
      obtain ⟨i', hi', hsl, e3⟩ := box_at_ hb
      have hyl := (List.getElem?_eq_some_iff.1 hy).1
      have hil : i' < z.bx.length := by rw [h2, kbx_len] at hi'; exact hi'
      have ei : i = i' := by
        have := inj98 (by omega) (by omega) (e1.symm.trans e3)
        omega
      subst ei
      rw [h2] at hsl
      obtain ⟨y', hy', rfl⟩ := kbx_at hsl
      rw [hy] at hy'; injection hy' with hy'; subst hy'
      rw [findB_body (by omega) f2 (by omega)] at hx
      rcases List.mem_append.1 hx with hx | hx
      · obtain ⟨m, hm, rfl⟩ := List.mem_map.1 hx
        unfold ksN at hm
        obtain ⟨v, _, rfl⟩ := List.mem_map.1 hm
        have hkl := kN_lt v (show 0 < z.of.length by omega)
        have := (isKd_mk (c := 98) (d := 107) (.inl rfl) (show kN z.of.length v + 1 ≤ 1099511627776 by omega)).1 hkd
        cases this
      · obtain ⟨m, hm, rfl⟩ := List.mem_map.1 hx
        have hm' := hm
        unfold bsN at hm
        have hm2 := (List.mem_filter.1 hm).2
        simp at hm2
        refine ⟨m.toNat - 1, by omega, by rw [show m.toNat - 1 + 1 = m.toNat by omega], ?_⟩
        exact (hcl.c2 i _ (tri_at hy) (by omega) hok).2.2 m (by simp only [triF]; exact hm') hm2.1 (by omega)
    | late j f hf hz _ ih =>
      refine ⟨fun _ => ?_, by simp, by simp⟩
      obtain ⟨i, hi, e, hkn⟩ := ih.1 rfl
      have hjl : j < z.of.length := by
        have := (List.getElem?_eq_some_iff.1 hf).1
        rw [h1, kksTo_len] at this; exact this
      rw [h1] at hf
      unfold keysTo' at hf
      rw [List.getElem?_map, List.getElem?_range hjl] at hf
      injection hf with hf
      subst hf
      by_cases h0 : ofV z.of j = 0
      · exfalso
        apply hz
        unfold keyF
        rw [if_pos h0]; rfl
      · have hle2 := ofV_le z.of j
        have e2 : (keyF z.of j).of = mkB 107 (ofV z.of j).toNat := by
          unfold keyF
          rw [if_neg h0]; rfl
        rw [e2] at e
        have := inj107 (by omega) (by omega) e
        refine ⟨j, hjl, rfl, hcl.c1 j (by omega) (by rw [ofTo_get hjl]; omega) ?_⟩
        rw [ofTo_get hjl, show (ofV z.of j).toNat - 1 = i by omega]
        exact hkn
  -- and what the rounds come to can be known
  have from_ : Sound X (fun i => i < z.of.length → Knl s Lk Lb 0 (mkB 107 (i + 1))) (fun i => i < z.bx.length → Knl s Lk Lb 1 (mkB 98 (i + 1))) (fun i => i < z.bx.length → Knl s Lk Lb 2 (mkB 98 (i + 1))) := by
    rw [hX]
    refine closeS_sound (n := z.of.length) (m := z.bx.length) ⟨fun k hk h0 hp _ => ?_, fun b t ht hb h1' h2' hp => ?_⟩ hs.kl hs.sl ⟨fun i hi _ => .key _ ((hs.k i).1 hi).2, fun i hi _ => .box _ ((hs.b i).1 hi).2, fun i hi => ?_⟩ _
    · rw [ofTo_get hk] at h0 hp
      have hle2 := ofV_le z.of k
      have hkn := hp (by omega)
      rw [show (ofV z.of k).toNat - 1 + 1 = (ofV z.of k).toNat by omega] at hkn
      have e2 : keyF z.of k = deriveF (mkB 107 (ofV z.of k).toNat) (labF k) := by
        unfold keyF
        rw [if_neg (by omega)]
      refine .late k (keyF z.of k) ?_ ?_ ?_
      · rw [h1]; unfold keysTo'; rw [List.getElem?_map, List.getElem?_range hk]; rfl
      · rw [e2]; exact zK_ne _
      · rw [e2]; exact hkn
    · obtain ⟨y, hy, rfl⟩ := tri_of ht
      have hyl := (List.getElem?_eq_some_iff.1 hy).1
      have hkl := kN_lt y.by_ (show 0 < z.of.length by omega)
      have hkn := hp (by simp only [triF]; omega)
      simp only [triF] at hkn
      rw [show (((kN z.of.length y.by_ + 1 : Nat) : Int)).toNat - 1 = kN z.of.length y.by_ by omega] at hkn
      have hbx : s.box (mkB 98 (b + 1)) = some (boxF z.of.length b y) := by
        refine box_at ?_ (by omega)
        rw [h2]; unfold kbxTo
        rw [List.take_of_length_le (Nat.le_refl _), List.getElem?_mapIdx, hy]; rfl
      have ho : Knl s Lk Lb 2 (mkB 98 (b + 1)) := .opens _ _ (hb hyl) hbx hkn
      refine ⟨fun _ => ho, fun x hx g1 g2 _ => ?_, fun x hx g1 g2 _ => ?_⟩
      · simp only [triF] at hx
        unfold natI at hx
        obtain ⟨m, hm, rfl⟩ := List.mem_map.1 hx
        have hm1 : 1 ≤ m := by omega
        rw [show ((m : Int)).toNat - 1 + 1 = m by omega]
        refine .tkey _ _ _ ho hbx ?_ ((isKd_mk (.inl rfl) (by omega)).2 rfl)
        rw [findB_body (by omega) f2 (by omega)]
        exact List.mem_append_left _ (List.mem_map.2 ⟨m, hm, rfl⟩)
      · simp only [triF] at hx
        have e : x.toNat - 1 + 1 = x.toNat := by omega
        rw [e]
        refine .tbox _ _ _ ho hbx ?_ ((isKd_mk (.inr (.inl rfl)) (by omega)).2 rfl)
        rw [findB_body (by omega) f2 (by omega)]
        exact List.mem_append_right _ (List.mem_map.2 ⟨x, hx, rfl⟩)
    · exfalso
      unfold bt at hi
      rw [List.getD_eq_getElem?_getD, List.getElem?_replicate] at hi
      split at hi <;> cases hi
  refine ⟨fun i hi => ⟨fun hk => ?_, fun hk => from_.k i hk hi⟩, fun i hi => ⟨fun hk => ?_, fun hk => from_.b i hk hi⟩, fun i hi => ⟨fun hk => ?_, fun hk => from_.o i hk hi⟩⟩
  · obtain ⟨j, hj, e, hb⟩ := (into 0 _ hk).1 rfl
    have := inj107 (by omega) (by omega) e
    rw [show i = j by omega]; exact hb
  · obtain ⟨j, hj, e, hb⟩ := (into 1 _ hk).2.1 rfl
    have := inj98 (by omega) (by omega) e
    rw [show i = j by omega]; exact hb
  · obtain ⟨j, y, hy, e, hb, _⟩ := (into 2 _ hk).2.2 rfl
    have hyl := (List.getElem?_eq_some_iff.1 hy).1
    have := inj98 (by omega) (by omega) e
    rw [show i = j by omega]; exact hb
end
end Go.Proofs.Ytjjcnijdjhhdoaa
end
