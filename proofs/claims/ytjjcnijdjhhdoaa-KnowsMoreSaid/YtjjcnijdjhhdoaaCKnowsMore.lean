/- The row of KnowsMore: for every input the law returns true and what came in reads as it did. (Texts laid one behind the other: KMore, KnowsMore.) -/
import Derived.ChangeMaps5
import Derived.Test.YtjjcnijdjhhdoaaCA12
/-! The walk of KnowsMore: true. -/
section
namespace Go.Proofs.Ytjjcnijdjhhdoaa
open Go.RowKit Go.QT
set_option maxRecDepth 100000 in
set_option maxHeartbeats 4000000 in
theorem knowsMore_any (A B C D : Option Addr) (a b c d : Nat) (z : KIn) (w : World) (hz : InAt w A B C D a b c d z) : Calls Try.prog 12 #[.agg #[.slice A z.of.length a, .slice B z.bx.length b, .slice C z.ls.length c, .slice D z.ss.length d]] w fun e w' => e = .returned (.bool true) ∧ Below w.heap.size w w' := by
  have h0 := addRB (addRB (addRB (addRB (addRB (addRB (Hp.nil (fun _ => False) w) (rRV 1 D d (ivs z.ss)) hz.ss) (rRV 1 C c (ivs z.ls)) hz.ls) (rISs (z.bx.map (·.bv)) (z.bx.map (·.bs))) hz.x) (rISs (z.bx.map (·.kv)) (z.bx.map (·.ks))) hz.k) (rRV 3 B b (z.bx.map kbCells)) hz.bx) (rRV 1 A a (ivs z.of)) hz.of
  refine enter 205 Try.func12 rfl rfl ?_
  refine wp_reset 206 [(0, (Value.agg ([(Value.slice A z.of.length a), (Value.slice B z.bx.length b), (Value.slice C z.ls.length c), (Value.slice D z.ss.length d)]).toArray))] (fun x0 => ?_)
  refine wp_seq_k ?_
  intro K1 hK1
  refine reg_lit ?_
  refine wq_to (some 1) (x_new h0 87 ([(Value.slice A z.of.length a), (Value.slice B z.bx.length b), (Value.slice C z.ls.length c), (Value.slice D z.ss.length d)]) (fun r => pt r 0) (by kernel_rfl)) ?_
  rintro _ w2 ⟨g2, rfl, h2⟩
  refine wq_p 1 [(2, (Value.bool false))] ?_
  refine wl_end rfl ?_
  refine seq_n hK1 ?_
  refine wp_seq_k ?_
  intro K3 hK3
  refine wp_seq_k ?_
  intro K4 hK4
  refine reg_lit ?_
  refine wq_to (some 19) (OpTo.enter 46 [] (by kernel_rfl) (kalive_any _) (R := fun u w' => u = Value.bool true ∧ Below w2.heap.size w2 w') (fun e w' hq => ⟨_, hq.1, rfl, hq.2⟩)) ?_
  rintro _ w5 ⟨rfl, hb5⟩
  have h5 := h2.below hb5
  refine wq_p 1 [(20, (Value.bool false))] ?_
  refine wl_end rfl ?_
  refine seq_n hK4 ?_
  refine wp_cond_false (by kernel_rfl) ?_
  refine wp_skip ?_
  refine seq_n hK3 ?_
  refine wp_seq_k ?_
  intro K6 hK6
  refine wp_seq_k ?_
  intro K7 hK7
  refine reg_lit ?_
  refine wq_v (some 21) (Value.agg ([(Value.slice A z.of.length a), (Value.slice B z.bx.length b), (Value.slice C z.ls.length c), (Value.slice D z.ss.length d)]).toArray) (e_loads (h5.at_ 0 rfl) 87 (.tmp 1) (by kernel_rfl) 0 ([(Value.slice A z.of.length a), (Value.slice B z.bx.length b), (Value.slice C z.ls.length c), (Value.slice D z.ss.length d)]) (by kernel_rfl) (by kernel_rfl) (by kernel_rfl)) ?_
  refine wq_to (some 22) (x_few h5 (by kernel_rfl) ⟨h5.rd 0 rfl, h5.rd 1 rfl, h5.rd 2 rfl, h5.rd 3 rfl, h5.rd 4 rfl, h5.rd 5 rfl⟩) ?_
  rintro _ w8 ⟨t, rfl, ht, h8⟩
  refine wq_p 1 [(23, (Value.bool (!t)))] ?_
  refine wl_end rfl ?_
  refine seq_n hK7 ?_
  refine wp_cond_split (t := !t) (by kernel_rfl) (fun b9 => ?_) (fun b9 => ?_)
  ·
   refine wp_seq_k ?_
   intro K10 hK10
   refine reg_lit ?_
   refine wq_p 1 [(2, (Value.bool true))] ?_
   refine wl_end rfl ?_
   refine seq_n hK10 ?_
   refine wp_ret ?_
   refine seq_r ?_
   refine post_1 rfl (by kernel_rfl) (rtmp (v := (Value.bool true)) (by kernel_rfl)) ?_
   exact ⟨rfl, h8.below0⟩
  ·
   have hf : fewP z := ht (by simpa using b9)
   refine wp_skip ?_
   refine seq_n hK6 ?_
   refine wp_seq_k ?_
   intro K11 hK11
   refine reg_lit ?_
   refine wq_v (some 25) (Value.agg ([(Value.slice A z.of.length a), (Value.slice B z.bx.length b), (Value.slice C z.ls.length c), (Value.slice D z.ss.length d)]).toArray) (e_loads (h8.at_ 0 rfl) 87 (.tmp 1) (by kernel_rfl) 0 ([(Value.slice A z.of.length a), (Value.slice B z.bx.length b), (Value.slice C z.ls.length c), (Value.slice D z.ss.length d)]) (by kernel_rfl) (by kernel_rfl) (by kernel_rfl)) ?_
   refine wq_to (some 26) (x_kmade h8 (by kernel_rfl) ⟨h8.rd 0 rfl, h8.rd 1 rfl, h8.rd 2 rfl, h8.rd 3 rfl, h8.rd 4 rfl, h8.rd 5 rfl⟩ hf) ?_
   rintro _ w12 ⟨tb, F0, s, A1, c1, A2, c2, A3, c3, mv, hb, rfl, hk2, hb2, hmv, hht, h12⟩
   have hsm : Sm s := made_sm hf hk2 hb2
   obtain ⟨f1, f2, f3, f4, f5, f6⟩ := id hf
   have hkl : s.keys.length = z.of.length := by rw [hk2, kksTo_len]
   refine wq_p 9 [(6, (Value.slice A3 z.bx.length c3)), (5, (Value.slice A2 z.of.length c2)), (4, (Value.slice A1 z.bx.length c1)), (3, (pt tb 0)), (30, (Value.slice A3 z.bx.length c3)), (29, (Value.slice A2 z.of.length c2)), (28, (Value.slice A1 z.bx.length c1)), (27, (pt tb 0)), (24, (Value.tuple #[(pt tb 0), (Value.slice A1 z.bx.length c1), (Value.slice A2 z.of.length c2), (Value.slice A3 z.bx.length c3)]))] ?_
   refine wl_end rfl ?_
   refine seq_n hK11 ?_
   refine wp_seq_k ?_
   intro K13 hK13
   refine reg_lit ?_
   refine wq_p 1 [(31, (pt tb 0))] ?_
   refine wq_to (some 32) (x_knew (tb := tb) h12 (by kernel_rfl)) ?_
   rintro _ w14 ⟨m14, p14, F14, rfl, hp14, h14⟩
   refine wq_p 1 [(33, (pt tb 0))] ?_
   refine wq_to (some 34) (x_knew (tb := tb) h14 (by kernel_rfl)) ?_
   rintro _ w15 ⟨m15, p15, F15, rfl, hp15, h15⟩
   refine wq_p 1 [(35, (pt tb 0))] ?_
   refine wq_to (some 36) (x_knew (tb := tb) h15 (by kernel_rfl)) ?_
   rintro _ w16 ⟨m16, p16, F16, rfl, hp16, h16⟩
   refine wq_p 3 [(9, (pt m16 0)), (8, (pt m15 0)), (7, (pt m14 0))] ?_
   refine wl_end rfl ?_
   refine seq_n hK13 ?_
   refine wp_seq_k ?_
   intro K17 hK17
   refine wp_seq_k ?_
   intro K18 hK18
   refine wp_reset 206 [(0, (Value.agg ([(Value.slice A z.of.length a), (Value.slice B z.bx.length b), (Value.slice C z.ls.length c), (Value.slice D z.ss.length d)]).toArray)), (1, (pt g2 0)), (2, (Value.bool false)), (3, (pt tb 0)), (4, (Value.slice A1 z.bx.length c1)), (5, (Value.slice A2 z.of.length c2)), (7, (pt m14 0)), (8, (pt m15 0)), (9, (pt m16 0)), (20, (Value.bool false)), (23, (Value.bool (!t)))] (fun x19 => ?_)
   
   refine reg_lit ?_
   refine wq_p 1 [(37, (pt g2 2))] ?_
   refine wq_v (some 38) (Value.slice C z.ls.length c) (e_load (h16.at_ 10 rfl) 84 (.tmp 37) (by kernel_rfl) 2 (Value.slice C z.ls.length c) (by kernel_rfl) (by kernel_rfl) (by kernel_rfl)) ?_
   refine wq_p 2 [(40, (Value.int .i64 0)), (39, (Value.int .i64 ((z.ls.length : Int))))] ?_
   refine wl_end rfl ?_
   refine seq_n hK18 ?_
   refine wp_block ?_
   have hE0a := (WS.lists (s := s) WS.emptyl (Lk' := (lkTo z.of.length z.ls (0))) (Lb' := []) rfl rfl)
   have hE0b := (WS.lists (s := s) WS.emptyl (Lk' := (lkTo z.of.length z.ls (0))) (Lb' := []) rfl rfl)
   have hE0c := (WS.emptyl (s := s))
   refine wp_loopm (fun mM xX aA wL => ∃ (i : Nat) (Fa : Nat → Prop) (Sa : KM) (Fb : Nat → Prop) (Sb : KM) (Fc : Nat → Prop) (Sc : KM), (i ≤ z.ls.length) ∧ (WSl s (lkTo z.of.length z.ls (i)) [] (0) Sa) ∧ (WSl s (lkTo z.of.length z.ls (i)) [] (0) Sb) ∧ (WSl s [] [] (0) Sc) ∧ mM = z.ls.length - (i) ∧ aA = patch xX 206 [(0, (Value.agg ([(Value.slice A z.of.length a), (Value.slice B z.bx.length b), (Value.slice C z.ls.length c), (Value.slice D z.ss.length d)]).toArray)), (1, (pt g2 0)), (2, (Value.bool false)), (3, (pt tb 0)), (4, (Value.slice A1 z.bx.length c1)), (5, (Value.slice A2 z.of.length c2)), (7, (pt m14 0)), (8, (pt m15 0)), (9, (pt m16 0)), (20, (Value.bool false)), (23, (Value.bool (!t))), (38, (Value.slice C z.ls.length c)), (39, (Value.int .i64 ((z.ls.length : Int)))), (40, (Value.int .i64 ((i : Int))))] ∧ Hp (fun _ => False) w wL [rRV 1 A a (ivs z.of), rRV 3 B b (z.bx.map kbCells), rISs (z.bx.map (·.kv)) (z.bx.map (·.ks)), rISs (z.bx.map (·.bv)) (z.bx.map (·.bs)), rRV 1 C c (ivs z.ls), rRV 1 D d (ivs z.ss)] [rMind Fa none m14 p14 Sa, rMind Fb none m15 p15 Sb, rMind Fc none m16 p16 Sc, rTab F0 tb s, rOV 28 1 ((Value.slice A1 z.bx.length c1)) (mv.map fun v => [v]), rSBs mv (mkTo z.bx.length), rOV 3 1 ((Value.slice A2 z.of.length c2)) (ivs (ofTo z.of z.of.length)), rOV 131 3 ((Value.slice A3 z.bx.length c3)) (hb.map kbCells), rISs (hb.map (·.kv)) (hb.map (·.ks)), rISs (hb.map (·.bv)) (hb.map (·.bs)), rBlk g2 87 ([(Value.slice A z.of.length a), (Value.slice B z.bx.length b), (Value.slice C z.ls.length c), (Value.slice D z.ss.length d)])]) ⟨_, 0, F14, (⟨[], [], [], []⟩), F15, (⟨[], [], [], []⟩), F16, (⟨[], [], [], []⟩), (by omega), hE0a, hE0b, hE0c, rfl, (patch_eq _ 206 _ (by kernel_rfl) (by kernel_rfl) (by kernel_rfl)), h16.sel [2, 1, 0, 3, 4, 5, 6, 7, 8, 9, 10] [0, 1, 2, 3, 4, 5] (by kernel_rfl) rfl rfl⟩ ?_
   rintro _ x20 _ w20 ⟨i, Fa, Sa, Fb, Sb, Fc, Sc, hi, hWa, hWb, hWc, rfl, rfl, h20⟩
   refine wp_seq_k ?_
   intro K21 hK21
   refine reg_lit ?_
   refine wq_p 1 [(41, (Value.bool (decide ((i : Int) < (z.ls.length : Int)))))] ?_
   refine wl_end rfl ?_
   refine seq_n hK21 ?_
   refine wp_seq_k ?_
   intro K22 hK22
   refine wp_if ((i : Int) < (z.ls.length : Int)) (by kernel_rfl) (fun b23 => ?_) (fun b23 => ?_)
   ·
    refine wp_skip ?_
    refine seq_n hK22 ?_
    refine wp_seq_k ?_
    intro K24 hK24
    refine wp_block ?_
    refine wp_seq_k ?_
    intro K25 hK25
    obtain ⟨x, hx⟩ : ∃ x, z.ls[i]? = some x := ⟨_, List.getElem?_eq_getElem (by omega)⟩
    refine reg_lit ?_
    refine wq_v (some 42) (eAt C (i * 1 + 0)) (e_idxN (RV.lenIs (n := z.ls.length) (h20.rd 4 rfl) (ivs_len _)).2 i z.ls.length (RV.lenIs (n := z.ls.length) (h20.rd 4 rfl) (ivs_len _)).1 (by omega) 84 (.tmp 38) (.tmp 40) (by kernel_rfl) .i64 (by kernel_rfl) (by kernel_rfl) 3 (by kernel_rfl) (by kernel_rfl) _) ?_
    refine wq_v (some 43) (Value.int .i64 x) (e_elemN (RV.lenIs (n := z.ls.length) (h20.rd 4 rfl) (ivs_len _)).2 i 0 ([(Value.int .i64 x)]) (ivs_get hx) 3 (.tmp 42) (by kernel_rfl) (Value.int .i64 x) (by kernel_rfl) (by kernel_rfl) (by kernel_rfl)) ?_
    refine wq_p 1 [(11, (Value.int .i64 x))] ?_
    refine wl_end rfl ?_
    refine seq_n hK25 ?_
    refine wp_seq_k ?_
    intro K26 hK26
    refine reg_lit ?_
    refine wq_p 2 [(45, (Value.int .i64 x)), (44, (pt tb 0))] ?_
    refine wq_v (some 46) (Value.int .i64 ((m31 x : Int))) (eq_is (v := Value.int .i64 (bits .and .i64 x 31)) (by kernel_rfl) (congrArg (Value.int .i64) (m31_eq x).1)) ?_
    refine wq_p 2 [(48, (Value.int .i64 ((z.of.length : Int)))), (47, (Value.slice A2 z.of.length c2))] ?_
    refine wq_v (some 49) (Value.int .i64 ((kN z.of.length x : Int))) (e_rem (.tmp 46) (.tmp 48) 3 3 (by kernel_rfl) (m31 x) (z.of.length) (by kernel_rfl) (by kernel_rfl) (by omega) _) ?_
    refine wq_v (some 50) (Value.int .i64 (((kN z.of.length x + 1 : Nat) : Int))) ((by have hkn := kN_lt (n := z.of.length) x (by omega); exact exec_add _ _ _ _ rfl 1 (kN z.of.length x : Nat) (by kernel_rfl) (by kernel_rfl) ((kN z.of.length x + 1 : Nat) : Int) (by omega) (by omega) (by omega) _)) ?_
    refine wq_to (some 51) (x_nth (tb := tb) h20 ((kN z.of.length x + 1 : Nat)) (by kernel_rfl) (by have := kN_lt (n := z.of.length) x (by omega); omega)) ?_
    rintro _ w27 ⟨K27, rfl, hK27, h27⟩
    refine wq_to (some 12) (x_new h27 42 (vb (List.replicate 16 0)) (fun r => pt r 0) (by kernel_rfl)) ?_
    rintro _ w28 ⟨g28, rfl, h28⟩
    refine wq_to none (x_stores h28 0 rfl 42 (.tmp 12) (.tmp 51) (by kernel_rfl) 0 (vb (kl K27)) (vb (kl K27)) (by kernel_rfl) (by kernel_rfl) (by kernel_rfl) (by kernel_rfl) (by kernel_rfl) (by kernel_rfl)) ?_
    rintro _ w29 h29
    refine wl_end rfl ?_
    refine seq_n hK26 ?_
    refine wp_seq_k ?_
    intro K30 hK30
    have hKx := hK27
    refine reg_lit ?_
    refine wq_p 1 [(52, (pt m14 0))] ?_
    refine wq_v (some 53) (Value.agg (vb (kl K27)).toArray) (e_loads (h29.at_ 0 rfl) 42 (.tmp 12) (by kernel_rfl) 0 (vb (kl K27)) (by kernel_rfl) (by kernel_rfl) (by kernel_rfl)) ?_
    refine wq_to (some 54) (x_learn h29 1 4 rfl rfl (by kernel_rfl) hp14 K27 (by kernel_rfl) hWa (by omega) hsm) ?_
    rintro _ w31 ⟨F31, S31, rfl, hM31, h31⟩
    refine wl_end rfl ?_
    refine seq_n hK30 ?_
    refine reg_lit ?_
    refine wq_p 1 [(55, (pt m15 0))] ?_
    refine wq_v (some 56) (Value.agg (vb (kl K27)).toArray) (e_loads (h31.at_ 0 rfl) 42 (.tmp 12) (by kernel_rfl) 0 (vb (kl K27)) (by kernel_rfl) (by kernel_rfl) (by kernel_rfl)) ?_
    refine wq_to (some 57) (x_learn h31 2 4 rfl rfl (by kernel_rfl) hp15 K27 (by kernel_rfl) hWb (by omega) hsm) ?_
    rintro _ w32 ⟨F32, S32, rfl, hM32, h32⟩
    refine wl_end rfl ?_
    refine blk_n ?_
    refine seq_n hK24 ?_
    refine reg_lit ?_
    refine wq_v (some 58) (Value.int .i64 ((i : Int) + 1)) (exec_add _ _ _ _ rfl ((i : Int)) 1 (by kernel_rfl) (by kernel_rfl) ((i : Int) + 1) rfl (by omega) (by omega) _) ?_
    refine wq_p 1 [(40, (Value.int .i64 ((i : Int) + 1)))] ?_
    refine wl_end rfl ?_
    refine ⟨z.ls.length - (i + 1), (by omega), (i + 1), F31, S31, F32, S32, Fc, Sc, (by omega), (WS.lists hM31.toWS (by rw [lkTo_succ hx, hKx]) rfl), (WS.lists hM32.toWS (by rw [lkTo_succ hx, hKx]) rfl), hWc, rfl, (patch_eq _ 206 _ (by kernel_rfl) (by kernel_rfl) (by kernel_rfl)), h32.sel [1, 2, 3, 4, 5, 6, 7, 8, 9, 10, 11] [0, 1, 2, 3, 4, 5] (by kernel_rfl) rfl rfl⟩
   ·
    refine wp_exit ?_
    refine seq_e ?_
    refine seq_e ?_
    refine blk_e ?_
    refine seq_n hK17 ?_
    refine wp_seq_k ?_
    intro K33 hK33
    refine wp_seq_k ?_
    intro K34 hK34
    refine reg_lit ?_
    refine wq_p 1 [(59, (pt g2 3))] ?_
    refine wq_v (some 60) (Value.slice D z.ss.length d) (e_load (h20.at_ 10 rfl) 84 (.tmp 59) (by kernel_rfl) 3 (Value.slice D z.ss.length d) (by kernel_rfl) (by kernel_rfl) (by kernel_rfl)) ?_
    refine wq_p 2 [(62, (Value.int .i64 0)), (61, (Value.int .i64 ((z.ss.length : Int))))] ?_
    refine wl_end rfl ?_
    refine seq_n hK34 ?_
    refine wp_block ?_
    have hE0a := (WS.lists hWa (by rw [show i = z.ls.length by omega]) (Lb' := (lbTo z.bx.length z.ss (0))) (by simp [lbTo]))
    have hE0b := (WS.lists hWb (by rw [show i = z.ls.length by omega]) rfl)
    have hE0c := (WS.lists hWc (Lk' := []) (Lb' := (lbTo z.bx.length z.ss.reverse (0))) rfl (by simp [lbTo]))
    refine wp_loopm (fun mM xX aA wL => ∃ (i : Nat) (Fa : Nat → Prop) (Sa : KM) (Fb : Nat → Prop) (Sb : KM) (Fc : Nat → Prop) (Sc : KM), (i ≤ z.ss.length) ∧ (WSl s (lkTo z.of.length z.ls z.ls.length) (lbTo z.bx.length z.ss (i)) (i) Sa) ∧ (WSl s (lkTo z.of.length z.ls z.ls.length) [] (0) Sb) ∧ (WSl s [] (lbTo z.bx.length z.ss.reverse (i)) (i) Sc) ∧ mM = z.ss.length - (i) ∧ aA = patch xX 206 [(0, (Value.agg ([(Value.slice A z.of.length a), (Value.slice B z.bx.length b), (Value.slice C z.ls.length c), (Value.slice D z.ss.length d)]).toArray)), (1, (pt g2 0)), (2, (Value.bool false)), (3, (pt tb 0)), (4, (Value.slice A1 z.bx.length c1)), (5, (Value.slice A2 z.of.length c2)), (7, (pt m14 0)), (8, (pt m15 0)), (9, (pt m16 0)), (20, (Value.bool false)), (23, (Value.bool (!t))), (38, (Value.slice C z.ls.length c)), (39, (Value.int .i64 ((z.ls.length : Int)))), (61, (Value.int .i64 ((z.ss.length : Int)))), (62, (Value.int .i64 ((i : Int))))] ∧ Hp (fun _ => False) w wL [rRV 1 A a (ivs z.of), rRV 3 B b (z.bx.map kbCells), rISs (z.bx.map (·.kv)) (z.bx.map (·.ks)), rISs (z.bx.map (·.bv)) (z.bx.map (·.bs)), rRV 1 C c (ivs z.ls), rRV 1 D d (ivs z.ss)] [rMind Fa none m14 p14 Sa, rMind Fb none m15 p15 Sb, rMind Fc none m16 p16 Sc, rTab F0 tb s, rOV 28 1 ((Value.slice A1 z.bx.length c1)) (mv.map fun v => [v]), rSBs mv (mkTo z.bx.length), rOV 3 1 ((Value.slice A2 z.of.length c2)) (ivs (ofTo z.of z.of.length)), rOV 131 3 ((Value.slice A3 z.bx.length c3)) (hb.map kbCells), rISs (hb.map (·.kv)) (hb.map (·.ks)), rISs (hb.map (·.bv)) (hb.map (·.bs)), rBlk g2 87 ([(Value.slice A z.of.length a), (Value.slice B z.bx.length b), (Value.slice C z.ls.length c), (Value.slice D z.ss.length d)])]) ⟨_, 0, Fa, Sa, Fb, Sb, Fc, Sc, (by omega), hE0a, hE0b, hE0c, rfl, (patch_eq _ 206 _ (by kernel_rfl) (by kernel_rfl) (by kernel_rfl)), h20.sel [0, 1, 2, 3, 4, 5, 6, 7, 8, 9, 10] [0, 1, 2, 3, 4, 5] (by kernel_rfl) rfl rfl⟩ ?_
    rintro _ x35 _ w35 ⟨i, Fa, Sa, Fb, Sb, Fc, Sc, hi, hWa, hWb, hWc, rfl, rfl, h35⟩
    refine wp_seq_k ?_
    intro K36 hK36
    refine reg_lit ?_
    refine wq_p 1 [(63, (Value.bool (decide ((i : Int) < (z.ss.length : Int)))))] ?_
    refine wl_end rfl ?_
    refine seq_n hK36 ?_
    refine wp_seq_k ?_
    intro K37 hK37
    refine wp_if ((i : Int) < (z.ss.length : Int)) (by kernel_rfl) (fun b38 => ?_) (fun b38 => ?_)
    ·
     refine wp_skip ?_
     refine seq_n hK37 ?_
     refine wp_seq_k ?_
     intro K39 hK39
     refine wp_block ?_
     refine wp_seq_k ?_
     intro K40 hK40
     refine reg_lit ?_
     refine wq_p 2 [(13, (Value.int .i64 ((i : Int)))), (64, (Value.int .i64 ((i : Int))))] ?_
     refine wl_end rfl ?_
     refine seq_n hK40 ?_
     refine wp_seq_k ?_
     intro K41 hK41
     rcases (show 0 < z.bx.length ∨ z.bx.length = 0 by omega) with hpos | hno
     ·
      refine reg_lit ?_
      refine wq_p 2 [(66, (Value.int .i64 ((z.bx.length : Int)))), (65, (Value.slice A1 z.bx.length c1))] ?_
      refine wq_v (some 67) (.bool true) (eq_is (v := (Value.bool (decide ((z.bx.length : Int) > 0)))) (by kernel_rfl) (congrArg Value.bool (decide_eq_true (by omega)))) ?_
      refine wl_end rfl ?_
      refine seq_n hK41 ?_
      refine wp_cond_true (by kernel_rfl) ?_
      refine wp_seq_k ?_
      intro K43 hK43
      obtain ⟨x, hx⟩ : ∃ x, z.ss[i]? = some x := ⟨_, List.getElem?_eq_getElem (by omega)⟩
      obtain ⟨MAA, mcA, myA, hvA, hlA⟩ := sbsget (h35.at_ 5 rfl) (by rw [mkTo_len]; exact hmv) (kN z.bx.length x) (by rw [mkTo_len]; have := kN_lt (n := z.bx.length) x (by omega); omega)
      have hmA : myA = mkB 98 (kN z.bx.length x + 1) := by
        rw [mkTo_at (by have := kN_lt (n := z.bx.length) x (by omega); omega)] at hlA
        injection hlA with hlA
        exact hlA.symm
      have hmy : myA = mkB 98 (kN z.bx.length x + 1) := hmA
      
      refine reg_lit ?_
      refine wq_p 3 [(70, (pt g2 3)), (69, (Value.slice A1 z.bx.length c1)), (68, (pt m14 0))] ?_
      refine wq_v (some 71) (Value.slice D z.ss.length d) (e_load (h35.at_ 10 rfl) 84 (.tmp 70) (by kernel_rfl) 3 (Value.slice D z.ss.length d) (by kernel_rfl) (by kernel_rfl) (by kernel_rfl)) ?_
      refine wq_p 1 [(72, (Value.int .i64 ((i : Int))))] ?_
      refine wq_v (some 73) (eAt D (i * 1 + 0)) (e_idxN (RV.lenIs (n := z.ss.length) (h35.rd 5 rfl) (ivs_len _)).2 i z.ss.length (RV.lenIs (n := z.ss.length) (h35.rd 5 rfl) (ivs_len _)).1 (by omega) 84 (.tmp 71) (.tmp 72) (by kernel_rfl) .i64 (by kernel_rfl) (by kernel_rfl) 3 (by kernel_rfl) (by kernel_rfl) _) ?_
      refine wq_v (some 74) (Value.int .i64 x) (e_elemN (RV.lenIs (n := z.ss.length) (h35.rd 5 rfl) (ivs_len _)).2 i 0 ([(Value.int .i64 x)]) (ivs_get hx) 3 (.tmp 73) (by kernel_rfl) (Value.int .i64 x) (by kernel_rfl) (by kernel_rfl) (by kernel_rfl)) ?_
      refine wq_v (some 75) (Value.int .i64 ((m31 x : Int))) (eq_is (v := Value.int .i64 (bits .and .i64 x 31)) (by kernel_rfl) (congrArg (Value.int .i64) (m31_eq x).1)) ?_
      refine wq_p 2 [(77, (Value.int .i64 ((z.bx.length : Int)))), (76, (Value.slice A1 z.bx.length c1))] ?_
      refine wq_v (some 78) (Value.int .i64 ((kN z.bx.length x : Int))) (e_rem (.tmp 75) (.tmp 77) 3 3 (by kernel_rfl) (m31 x) (z.bx.length) (by kernel_rfl) (by kernel_rfl) (by omega) _) ?_
      refine wq_v (some 79) (eAt A1 (((kN z.bx.length x)) * 1 + 0)) (e_idxN (OV.rvn (h35.at_ 4 rfl)).2 ((kN z.bx.length x)) z.bx.length (OV.rvn (h35.at_ 4 rfl)).1 (by have := kN_lt (n := z.bx.length) x (by omega); omega) 63 (.tmp 69) (.tmp 78) (by kernel_rfl) .i64 (by kernel_rfl) (by kernel_rfl) 28 (by kernel_rfl) (by kernel_rfl) _) ?_
      refine wq_v (some 80) (Value.slice MAA myA.length mcA) (e_elemN (OV.rvn (h35.at_ 4 rfl)).2 ((kN z.bx.length x)) 0 ([(Value.slice MAA myA.length mcA)]) (by rw [List.getElem?_map, hvA]; rfl) 28 (.tmp 79) (by kernel_rfl) (Value.slice MAA myA.length mcA) (by kernel_rfl) (by kernel_rfl) (by kernel_rfl)) ?_
      refine wq_to (some 81) (x_see h35 0 3 rfl rfl (by kernel_rfl) hp14 (by kernel_rfl) (h35.apartL 0 3 5 rfl rfl rfl (by kernel_rfl) (by kernel_rfl) hvA hlA) hWa (by omega) hsm (by rw [hmy]; show 16 ≤ 1000000; decide)) ?_
      rintro _ w44 ⟨F44, S44, rfl, hM44, h44⟩
      refine wl_end rfl ?_
      refine seq_n hK43 ?_
      obtain ⟨x2, hx2⟩ : ∃ x2, z.ss[z.ss.length - 1 - i]? = some x2 := ⟨_, List.getElem?_eq_getElem (by omega)⟩
      have hxr : z.ss.reverse[i]? = some x2 := by rw [rev_get (by omega)]; exact hx2
      obtain ⟨MAC, mcC, myC, hvC, hlC⟩ := sbsget (h44.at_ 5 rfl) (by rw [mkTo_len]; exact hmv) (kN z.bx.length x2) (by rw [mkTo_len]; have := kN_lt (n := z.bx.length) x2 (by omega); omega)
      have hmC : myC = mkB 98 (kN z.bx.length x2 + 1) := by
        rw [mkTo_at (by have := kN_lt (n := z.bx.length) x2 (by omega); omega)] at hlC
        injection hlC with hlC
        exact hlC.symm
      have hmy : myC = mkB 98 (kN z.bx.length x2 + 1) := hmC
      
      refine reg_lit ?_
      refine wq_p 3 [(84, (pt g2 3)), (83, (Value.slice A1 z.bx.length c1)), (82, (pt m16 0))] ?_
      refine wq_v (some 85) (Value.slice D z.ss.length d) (e_load (h44.at_ 10 rfl) 84 (.tmp 84) (by kernel_rfl) 3 (Value.slice D z.ss.length d) (by kernel_rfl) (by kernel_rfl) (by kernel_rfl)) ?_
      refine wq_p 1 [(86, (pt g2 3))] ?_
      refine wq_v (some 87) (Value.slice D z.ss.length d) (e_load (h44.at_ 10 rfl) 84 (.tmp 86) (by kernel_rfl) 3 (Value.slice D z.ss.length d) (by kernel_rfl) (by kernel_rfl) (by kernel_rfl)) ?_
      refine wq_p 1 [(88, (Value.int .i64 ((z.ss.length : Int))))] ?_
      refine wq_v (some 89) (Value.int .i64 (((z.ss.length - 1 : Nat) : Int))) (exec_sub _ _ _ _ rfl ((z.ss.length : Int)) 1 (by kernel_rfl) (by kernel_rfl) ((z.ss.length - 1 : Nat) : Int) (by omega) (by omega) (by omega) _) ?_
      refine wq_p 1 [(90, (Value.int .i64 ((i : Int))))] ?_
      refine wq_v (some 91) (Value.int .i64 (((z.ss.length - 1 - i : Nat) : Int))) (exec_sub _ _ _ _ rfl (((z.ss.length - 1 : Nat) : Int)) ((i : Int)) (by kernel_rfl) (by kernel_rfl) ((z.ss.length - 1 - i : Nat) : Int) (by omega) (by omega) (by omega) _) ?_
      refine wq_v (some 92) (eAt D ((((z.ss.length - 1 - i))) * 1 + 0)) (e_idxN (RV.lenIs (n := z.ss.length) (h44.rd 5 rfl) (ivs_len _)).2 (((z.ss.length - 1 - i))) z.ss.length (RV.lenIs (n := z.ss.length) (h44.rd 5 rfl) (ivs_len _)).1 (by omega) 84 (.tmp 85) (.tmp 91) (by kernel_rfl) .i64 (by kernel_rfl) (by kernel_rfl) 3 (by kernel_rfl) (by kernel_rfl) _) ?_
      refine wq_v (some 93) (Value.int .i64 x2) (e_elemN (RV.lenIs (n := z.ss.length) (h44.rd 5 rfl) (ivs_len _)).2 (((z.ss.length - 1 - i))) 0 ([(Value.int .i64 x2)]) (ivs_get hx2) 3 (.tmp 92) (by kernel_rfl) (Value.int .i64 x2) (by kernel_rfl) (by kernel_rfl) (by kernel_rfl)) ?_
      refine wq_v (some 94) (Value.int .i64 ((m31 x2 : Int))) (eq_is (v := Value.int .i64 (bits .and .i64 x2 31)) (by kernel_rfl) (congrArg (Value.int .i64) (m31_eq x2).1)) ?_
      refine wq_p 2 [(96, (Value.int .i64 ((z.bx.length : Int)))), (95, (Value.slice A1 z.bx.length c1))] ?_
      refine wq_v (some 97) (Value.int .i64 ((kN z.bx.length x2 : Int))) (e_rem (.tmp 94) (.tmp 96) 3 3 (by kernel_rfl) (m31 x2) (z.bx.length) (by kernel_rfl) (by kernel_rfl) (by omega) _) ?_
      refine wq_v (some 98) (eAt A1 (((kN z.bx.length x2)) * 1 + 0)) (e_idxN (OV.rvn (h44.at_ 4 rfl)).2 ((kN z.bx.length x2)) z.bx.length (OV.rvn (h44.at_ 4 rfl)).1 (by have := kN_lt (n := z.bx.length) x2 (by omega); omega) 63 (.tmp 83) (.tmp 97) (by kernel_rfl) .i64 (by kernel_rfl) (by kernel_rfl) 28 (by kernel_rfl) (by kernel_rfl) _) ?_
      refine wq_v (some 99) (Value.slice MAC myC.length mcC) (e_elemN (OV.rvn (h44.at_ 4 rfl)).2 ((kN z.bx.length x2)) 0 ([(Value.slice MAC myC.length mcC)]) (by rw [List.getElem?_map, hvC]; rfl) 28 (.tmp 98) (by kernel_rfl) (Value.slice MAC myC.length mcC) (by kernel_rfl) (by kernel_rfl) (by kernel_rfl)) ?_
      refine wq_to (some 100) (x_see h44 2 3 rfl rfl (by kernel_rfl) hp16 (by kernel_rfl) (h44.apartL 2 3 5 rfl rfl rfl (by kernel_rfl) (by kernel_rfl) hvC hlC) hWc (by omega) hsm (by rw [hmy]; show 16 ≤ 1000000; decide)) ?_
      rintro _ w45 ⟨F45, S45, rfl, hM45, h45⟩
      refine wl_end rfl ?_
      refine blk_n ?_
      refine seq_n hK39 ?_
      refine wp_reset 206 [(0, (Value.agg ([(Value.slice A z.of.length a), (Value.slice B z.bx.length b), (Value.slice C z.ls.length c), (Value.slice D z.ss.length d)]).toArray)), (1, (pt g2 0)), (2, (Value.bool false)), (3, (pt tb 0)), (4, (Value.slice A1 z.bx.length c1)), (5, (Value.slice A2 z.of.length c2)), (7, (pt m14 0)), (8, (pt m15 0)), (9, (pt m16 0)), (13, (Value.int .i64 ((i : Int)))), (20, (Value.bool false)), (23, (Value.bool (!t))), (38, (Value.slice C z.ls.length c)), (39, (Value.int .i64 ((z.ls.length : Int)))), (61, (Value.int .i64 ((z.ss.length : Int)))), (62, (Value.int .i64 ((i : Int)))), (63, (Value.bool (decide ((i : Int) < (z.ss.length : Int))))), (67, (Value.bool true))] (fun x46 => ?_)
      refine reg_lit ?_
      refine wq_v (some 101) (Value.int .i64 ((i : Int) + 1)) (exec_add _ _ _ _ rfl ((i : Int)) 1 (by kernel_rfl) (by kernel_rfl) ((i : Int) + 1) rfl (by omega) (by omega) _) ?_
      refine wq_p 1 [(62, (Value.int .i64 ((i : Int) + 1)))] ?_
      refine wl_end rfl ?_
      refine ⟨z.ss.length - (i + 1), (by omega), (i + 1), F44, S44, Fb, Sb, F45, S45, (by omega), (WS.lists (WS.sawMark hM44.toWS hmA (by have := kN_lt (n := z.bx.length) x (by omega); omega)) rfl (by rw [lbTo_succ hpos hx, hmA])), hWb, (WS.lists (WS.sawMark hM45.toWS hmC (by have := kN_lt (n := z.bx.length) x2 (by omega); omega)) rfl (by rw [lbTo_succ hpos hxr, hmC])), rfl, (patch_eq _ 206 _ (by kernel_rfl) (by kernel_rfl) (by kernel_rfl)), h45.sel [0, 1, 2, 3, 4, 5, 6, 7, 8, 9, 10] [0, 1, 2, 3, 4, 5] (by kernel_rfl) rfl rfl⟩
     ·
      refine reg_lit ?_
      refine wq_p 2 [(66, (Value.int .i64 ((z.bx.length : Int)))), (65, (Value.slice A1 z.bx.length c1))] ?_
      refine wq_v (some 67) (.bool false) (eq_is (v := (Value.bool (decide ((z.bx.length : Int) > 0)))) (by kernel_rfl) (congrArg Value.bool (decide_eq_false (by omega)))) ?_
      refine wl_end rfl ?_
      refine seq_n hK41 ?_
      refine wp_cond_false (by kernel_rfl) ?_
      refine wp_skip ?_
      refine blk_n ?_
      refine seq_n hK39 ?_
      refine reg_lit ?_
      refine wq_v (some 101) (Value.int .i64 ((i : Int) + 1)) (exec_add _ _ _ _ rfl ((i : Int)) 1 (by kernel_rfl) (by kernel_rfl) ((i : Int) + 1) rfl (by omega) (by omega) _) ?_
      refine wq_p 1 [(62, (Value.int .i64 ((i : Int) + 1)))] ?_
      refine wl_end rfl ?_
      refine ⟨z.ss.length - (i + 1), (by omega), (i + 1), Fa, Sa, Fb, Sb, Fc, Sc, (by omega), (WS.lists (hWa.moreN (Nat.le_succ _)) rfl (by rw [lbTo_none hno, lbTo_none hno])), hWb, (WS.lists (hWc.moreN (Nat.le_succ _)) rfl (by rw [lbTo_none hno, lbTo_none hno])), rfl, (patch_eq _ 206 _ (by kernel_rfl) (by kernel_rfl) (by kernel_rfl)), h35.sel [0, 1, 2, 3, 4, 5, 6, 7, 8, 9, 10] [0, 1, 2, 3, 4, 5] (by kernel_rfl) rfl rfl⟩
    ·
     refine wp_exit ?_
     refine seq_e ?_
     refine seq_e ?_
     refine blk_e ?_
     refine seq_n hK33 ?_
     refine wp_seq_k ?_
     intro K47 hK47
     refine wp_seq_k ?_
     intro K48 hK48
     refine reg_lit ?_
     refine wq_p 1 [(102, (pt g2 2))] ?_
     refine wq_v (some 103) (Value.slice C z.ls.length c) (e_load (h35.at_ 10 rfl) 84 (.tmp 102) (by kernel_rfl) 2 (Value.slice C z.ls.length c) (by kernel_rfl) (by kernel_rfl) (by kernel_rfl)) ?_
     refine wq_p 2 [(105, (Value.int .i64 0)), (104, (Value.int .i64 ((z.ls.length : Int))))] ?_
     refine wl_end rfl ?_
     refine seq_n hK48 ?_
     refine wp_block ?_
     have hE0a := (WS.lists (hWa.moreN (show i ≤ z.ss.length by omega)) rfl (by rw [show i = z.ss.length by omega]))
     have hE0b := hWb
     have hE0c := (WS.lists (hWc.moreN (show i ≤ z.ss.length by omega)) (Lk' := (lkTo z.of.length z.ls.reverse (0))) rfl (by rw [show i = z.ss.length by omega]))
     refine wp_loopm (fun mM xX aA wL => ∃ (i : Nat) (Fa : Nat → Prop) (Sa : KM) (Fb : Nat → Prop) (Sb : KM) (Fc : Nat → Prop) (Sc : KM), (i ≤ z.ls.length) ∧ (WSl s (lkTo z.of.length z.ls z.ls.length) (lbTo z.bx.length z.ss z.ss.length) (z.ss.length) Sa) ∧ (WSl s (lkTo z.of.length z.ls z.ls.length) [] (0) Sb) ∧ (WSl s (lkTo z.of.length z.ls.reverse (i)) (lbTo z.bx.length z.ss.reverse z.ss.length) (z.ss.length) Sc) ∧ mM = z.ls.length - (i) ∧ aA = patch xX 206 [(0, (Value.agg ([(Value.slice A z.of.length a), (Value.slice B z.bx.length b), (Value.slice C z.ls.length c), (Value.slice D z.ss.length d)]).toArray)), (1, (pt g2 0)), (2, (Value.bool false)), (3, (pt tb 0)), (4, (Value.slice A1 z.bx.length c1)), (5, (Value.slice A2 z.of.length c2)), (7, (pt m14 0)), (8, (pt m15 0)), (9, (pt m16 0)), (20, (Value.bool false)), (23, (Value.bool (!t))), (38, (Value.slice C z.ls.length c)), (39, (Value.int .i64 ((z.ls.length : Int)))), (61, (Value.int .i64 ((z.ss.length : Int)))), (104, (Value.int .i64 ((z.ls.length : Int)))), (105, (Value.int .i64 ((i : Int))))] ∧ Hp (fun _ => False) w wL [rRV 1 A a (ivs z.of), rRV 3 B b (z.bx.map kbCells), rISs (z.bx.map (·.kv)) (z.bx.map (·.ks)), rISs (z.bx.map (·.bv)) (z.bx.map (·.bs)), rRV 1 C c (ivs z.ls), rRV 1 D d (ivs z.ss)] [rMind Fa none m14 p14 Sa, rMind Fb none m15 p15 Sb, rMind Fc none m16 p16 Sc, rTab F0 tb s, rOV 28 1 ((Value.slice A1 z.bx.length c1)) (mv.map fun v => [v]), rSBs mv (mkTo z.bx.length), rOV 3 1 ((Value.slice A2 z.of.length c2)) (ivs (ofTo z.of z.of.length)), rOV 131 3 ((Value.slice A3 z.bx.length c3)) (hb.map kbCells), rISs (hb.map (·.kv)) (hb.map (·.ks)), rISs (hb.map (·.bv)) (hb.map (·.bs)), rBlk g2 87 ([(Value.slice A z.of.length a), (Value.slice B z.bx.length b), (Value.slice C z.ls.length c), (Value.slice D z.ss.length d)])]) ⟨_, 0, Fa, Sa, Fb, Sb, Fc, Sc, (by omega), hE0a, hE0b, hE0c, rfl, (patch_eq _ 206 _ (by kernel_rfl) (by kernel_rfl) (by kernel_rfl)), h35.sel [0, 1, 2, 3, 4, 5, 6, 7, 8, 9, 10] [0, 1, 2, 3, 4, 5] (by kernel_rfl) rfl rfl⟩ ?_
     rintro _ x49 _ w49 ⟨i, Fa, Sa, Fb, Sb, Fc, Sc, hi, hWa, hWb, hWc, rfl, rfl, h49⟩
     refine wp_seq_k ?_
     intro K50 hK50
     refine reg_lit ?_
     refine wq_p 1 [(106, (Value.bool (decide ((i : Int) < (z.ls.length : Int)))))] ?_
     refine wl_end rfl ?_
     refine seq_n hK50 ?_
     refine wp_seq_k ?_
     intro K51 hK51
     refine wp_if ((i : Int) < (z.ls.length : Int)) (by kernel_rfl) (fun b52 => ?_) (fun b52 => ?_)
     ·
      refine wp_skip ?_
      refine seq_n hK51 ?_
      refine wp_seq_k ?_
      intro K53 hK53
      refine wp_block ?_
      refine wp_seq_k ?_
      intro K54 hK54
      refine reg_lit ?_
      refine wq_p 2 [(14, (Value.int .i64 ((i : Int)))), (107, (Value.int .i64 ((i : Int))))] ?_
      refine wl_end rfl ?_
      refine seq_n hK54 ?_
      obtain ⟨x2, hx2⟩ : ∃ x2, z.ls[z.ls.length - 1 - i]? = some x2 := ⟨_, List.getElem?_eq_getElem (by omega)⟩
      have hxr : z.ls.reverse[i]? = some x2 := by rw [rev_get (by omega)]; exact hx2
      refine reg_lit ?_
      refine wq_p 3 [(110, (pt g2 2)), (109, (pt tb 0)), (108, (pt m16 0))] ?_
      refine wq_v (some 111) (Value.slice C z.ls.length c) (e_load (h49.at_ 10 rfl) 84 (.tmp 110) (by kernel_rfl) 2 (Value.slice C z.ls.length c) (by kernel_rfl) (by kernel_rfl) (by kernel_rfl)) ?_
      refine wq_p 1 [(112, (pt g2 2))] ?_
      refine wq_v (some 113) (Value.slice C z.ls.length c) (e_load (h49.at_ 10 rfl) 84 (.tmp 112) (by kernel_rfl) 2 (Value.slice C z.ls.length c) (by kernel_rfl) (by kernel_rfl) (by kernel_rfl)) ?_
      refine wq_p 1 [(114, (Value.int .i64 ((z.ls.length : Int))))] ?_
      refine wq_v (some 115) (Value.int .i64 (((z.ls.length - 1 : Nat) : Int))) (exec_sub _ _ _ _ rfl ((z.ls.length : Int)) 1 (by kernel_rfl) (by kernel_rfl) ((z.ls.length - 1 : Nat) : Int) (by omega) (by omega) (by omega) _) ?_
      refine wq_p 1 [(116, (Value.int .i64 ((i : Int))))] ?_
      refine wq_v (some 117) (Value.int .i64 (((z.ls.length - 1 - i : Nat) : Int))) (exec_sub _ _ _ _ rfl (((z.ls.length - 1 : Nat) : Int)) ((i : Int)) (by kernel_rfl) (by kernel_rfl) ((z.ls.length - 1 - i : Nat) : Int) (by omega) (by omega) (by omega) _) ?_
      refine wq_v (some 118) (eAt C ((((z.ls.length - 1 - i))) * 1 + 0)) (e_idxN (RV.lenIs (n := z.ls.length) (h49.rd 4 rfl) (ivs_len _)).2 (((z.ls.length - 1 - i))) z.ls.length (RV.lenIs (n := z.ls.length) (h49.rd 4 rfl) (ivs_len _)).1 (by omega) 84 (.tmp 111) (.tmp 117) (by kernel_rfl) .i64 (by kernel_rfl) (by kernel_rfl) 3 (by kernel_rfl) (by kernel_rfl) _) ?_
      refine wq_v (some 119) (Value.int .i64 x2) (e_elemN (RV.lenIs (n := z.ls.length) (h49.rd 4 rfl) (ivs_len _)).2 (((z.ls.length - 1 - i))) 0 ([(Value.int .i64 x2)]) (ivs_get hx2) 3 (.tmp 118) (by kernel_rfl) (Value.int .i64 x2) (by kernel_rfl) (by kernel_rfl) (by kernel_rfl)) ?_
      refine wq_v (some 120) (Value.int .i64 ((m31 x2 : Int))) (eq_is (v := Value.int .i64 (bits .and .i64 x2 31)) (by kernel_rfl) (congrArg (Value.int .i64) (m31_eq x2).1)) ?_
      refine wq_p 2 [(122, (Value.int .i64 ((z.of.length : Int)))), (121, (Value.slice A2 z.of.length c2))] ?_
      refine wq_v (some 123) (Value.int .i64 ((kN z.of.length x2 : Int))) (e_rem (.tmp 120) (.tmp 122) 3 3 (by kernel_rfl) (m31 x2) (z.of.length) (by kernel_rfl) (by kernel_rfl) (by omega) _) ?_
      refine wq_v (some 124) (Value.int .i64 (((kN z.of.length x2 + 1 : Nat) : Int))) ((by have hkn := kN_lt (n := z.of.length) x2 (by omega); exact exec_add _ _ _ _ rfl 1 (kN z.of.length x2 : Nat) (by kernel_rfl) (by kernel_rfl) ((kN z.of.length x2 + 1 : Nat) : Int) (by omega) (by omega) (by omega) _)) ?_
      refine wq_to (some 125) (x_nth (tb := tb) h49 ((kN z.of.length x2 + 1 : Nat)) (by kernel_rfl) (by have := kN_lt (n := z.of.length) x2 (by omega); omega)) ?_
      rintro _ w55 ⟨K55, rfl, hK55, h55⟩
      have hKx := hK55
      refine wq_to (some 126) (x_learn h55 2 3 rfl rfl (by kernel_rfl) hp16 K55 (by kernel_rfl) hWc (by omega) hsm) ?_
      rintro _ w56 ⟨F56, S56, rfl, hM56, h56⟩
      refine wl_end rfl ?_
      refine blk_n ?_
      refine seq_n hK53 ?_
      refine reg_lit ?_
      refine wq_v (some 127) (Value.int .i64 ((i : Int) + 1)) (exec_add _ _ _ _ rfl ((i : Int)) 1 (by kernel_rfl) (by kernel_rfl) ((i : Int) + 1) rfl (by omega) (by omega) _) ?_
      refine wq_p 1 [(105, (Value.int .i64 ((i : Int) + 1)))] ?_
      refine wl_end rfl ?_
      refine ⟨z.ls.length - (i + 1), (by omega), (i + 1), Fa, Sa, Fb, Sb, F56, S56, (by omega), hWa, hWb, (WS.lists hM56.toWS (by rw [lkTo_succ hxr, hKx]) rfl), rfl, (patch_eq _ 206 _ (by kernel_rfl) (by kernel_rfl) (by kernel_rfl)), h56.sel [0, 1, 2, 3, 4, 5, 6, 7, 8, 9, 10] [0, 1, 2, 3, 4, 5] (by kernel_rfl) rfl rfl⟩
     ·
      refine wp_exit ?_
      refine seq_e ?_
      refine seq_e ?_
      refine blk_e ?_
      refine seq_n hK47 ?_
      refine wp_seq_k ?_
      intro K57 hK57
      refine wp_seq_k ?_
      intro K58 hK58
      refine reg_lit ?_
      refine wq_p 3 [(130, (Value.int .i64 0)), (129, (Value.int .i64 ((z.of.length : Int)))), (128, (Value.slice A2 z.of.length c2))] ?_
      refine wl_end rfl ?_
      refine seq_n hK58 ?_
      refine wp_block ?_
      have hE0a := hWa
      have hE0b := hWb
      have hE0c := (WS.lists hWc (by rw [show i = z.ls.length by omega]) rfl)
      refine wp_loopm (fun mM xX aA wL => ∃ (i : Nat) (Fa : Nat → Prop) (Sa : KM) (Fb : Nat → Prop) (Sb : KM) (Fc : Nat → Prop) (Sc : KM), (i ≤ z.of.length) ∧ (WSl s (lkTo z.of.length z.ls z.ls.length) (lbTo z.bx.length z.ss z.ss.length) (z.ss.length) Sa) ∧ (WSl s (lkTo z.of.length z.ls z.ls.length) [] (0) Sb) ∧ (WSl s (lkTo z.of.length z.ls.reverse z.ls.length) (lbTo z.bx.length z.ss.reverse z.ss.length) (z.ss.length) Sc) ∧ mM = z.of.length - (i) ∧ aA = patch xX 206 [(0, (Value.agg ([(Value.slice A z.of.length a), (Value.slice B z.bx.length b), (Value.slice C z.ls.length c), (Value.slice D z.ss.length d)]).toArray)), (1, (pt g2 0)), (3, (pt tb 0)), (4, (Value.slice A1 z.bx.length c1)), (5, (Value.slice A2 z.of.length c2)), (7, (pt m14 0)), (8, (pt m15 0)), (9, (pt m16 0)), (20, (Value.bool false)), (23, (Value.bool (!t))), (38, (Value.slice C z.ls.length c)), (39, (Value.int .i64 ((z.ls.length : Int)))), (61, (Value.int .i64 ((z.ss.length : Int)))), (104, (Value.int .i64 ((z.ls.length : Int)))), (129, (Value.int .i64 ((z.of.length : Int)))), (130, (Value.int .i64 ((i : Int))))] ∧ Hp (fun _ => False) w wL [rRV 1 A a (ivs z.of), rRV 3 B b (z.bx.map kbCells), rISs (z.bx.map (·.kv)) (z.bx.map (·.ks)), rISs (z.bx.map (·.bv)) (z.bx.map (·.bs)), rRV 1 C c (ivs z.ls), rRV 1 D d (ivs z.ss)] [rMind Fa none m14 p14 Sa, rMind Fb none m15 p15 Sb, rMind Fc none m16 p16 Sc, rTab F0 tb s, rOV 28 1 ((Value.slice A1 z.bx.length c1)) (mv.map fun v => [v]), rSBs mv (mkTo z.bx.length), rOV 3 1 ((Value.slice A2 z.of.length c2)) (ivs (ofTo z.of z.of.length)), rOV 131 3 ((Value.slice A3 z.bx.length c3)) (hb.map kbCells), rISs (hb.map (·.kv)) (hb.map (·.ks)), rISs (hb.map (·.bv)) (hb.map (·.bs)), rBlk g2 87 ([(Value.slice A z.of.length a), (Value.slice B z.bx.length b), (Value.slice C z.ls.length c), (Value.slice D z.ss.length d)])]) ⟨_, 0, Fa, Sa, Fb, Sb, Fc, Sc, (by omega), hE0a, hE0b, hE0c, rfl, (patch_eq _ 206 _ (by kernel_rfl) (by kernel_rfl) (by kernel_rfl)), h49.sel [0, 1, 2, 3, 4, 5, 6, 7, 8, 9, 10] [0, 1, 2, 3, 4, 5] (by kernel_rfl) rfl rfl⟩ ?_
      rintro _ x59 _ w59 ⟨i, Fa, Sa, Fb, Sb, Fc, Sc, hi, hWa, hWb, hWc, rfl, rfl, h59⟩
      refine wp_seq_k ?_
      intro K60 hK60
      refine reg_lit ?_
      refine wq_p 1 [(131, (Value.bool (decide ((i : Int) < (z.of.length : Int)))))] ?_
      refine wl_end rfl ?_
      refine seq_n hK60 ?_
      refine wp_seq_k ?_
      intro K61 hK61
      refine wp_if ((i : Int) < (z.of.length : Int)) (by kernel_rfl) (fun b62 => ?_) (fun b62 => ?_)
      ·
       refine wp_skip ?_
       refine seq_n hK61 ?_
       refine wp_seq_k ?_
       intro K63 hK63
       refine wp_block ?_
       refine wp_seq_k ?_
       intro K64 hK64
       refine reg_lit ?_
       refine wq_p 2 [(15, (Value.int .i64 ((i : Int)))), (132, (Value.int .i64 ((i : Int))))] ?_
       refine wl_end rfl ?_
       refine seq_n hK64 ?_
       refine wp_seq_k ?_
       intro K65 hK65
       refine reg_lit ?_
       refine wq_p 2 [(134, (Value.int .i64 ((i : Int)))), (133, (pt tb 0))] ?_
       refine wq_v (some 135) (Value.int .i64 ((i : Int) + 1)) (exec_add _ _ _ _ rfl ((i : Int)) 1 (by kernel_rfl) (by kernel_rfl) ((i : Int) + 1) rfl (by omega) (by omega) _) ?_
       refine wq_to (some 136) (x_nth (tb := tb) h59 ((i) + 1) (by kernel_rfl) (by omega)) ?_
       rintro _ w66 ⟨K66, rfl, hK66, h66⟩
       refine wq_to (some 16) (x_new h66 42 (vb (List.replicate 16 0)) (fun r => pt r 0) (by kernel_rfl)) ?_
       rintro _ w67 ⟨g67, rfl, h67⟩
       refine wq_to none (x_stores h67 0 rfl 42 (.tmp 16) (.tmp 136) (by kernel_rfl) 0 (vb (kl K66)) (vb (kl K66)) (by kernel_rfl) (by kernel_rfl) (by kernel_rfl) (by kernel_rfl) (by kernel_rfl) (by kernel_rfl)) ?_
       rintro _ w68 h68
       refine wl_end rfl ?_
       refine seq_n hK65 ?_
       refine wp_seq_k ?_
       intro K69 hK69
       rcases more_key z.ls z.ss s z.of.length z.bx.length (kl K66) with ⟨pa, pb, pc⟩ | ⟨pa, pb, pc⟩ | ⟨pa, pb, pc⟩
       ·
        refine pR_go h68 18 (fun W => (rBlk g67 42 (vb (kl K66))).Φ W ∧ True) [(138, [8], 0), (139, [16], 0), (140, [137, 138], 3), (141, [139], 4), (142, [7, 140], 8), (143, [16, 140], 8), (144, [141, 142, 140], 56), (145, [143, 140], 72), (146, [140, 144], 136), (147, [145], 320), (148, [7, 146], 512), (149, [16, 146], 512), (150, [147, 148, 146], 3584), (151, [9, 146], 512), (152, [16, 146], 512), (153, [150, 151, 146], 29184), (154, [149, 152, 146], 37376), (155, [146, 153], 66048)] rfl (fun _ d _ _ _ h => by cases d <;> exact h) ?_
        intro hs71 w71 h71
        refine pR_p 17 [0] [(137, (pt m15 0))] 1 hs71 ⟨h71.at_ 0 rfl, trivial⟩ ?_
        refine pR_v 1 (some 138) (Value.agg (vb (kl K66)).toArray) 3 rfl hs71 ⟨h71.at_ 0 rfl, trivial⟩ (fun W hW => e_loads hW.1 42 (.tmp 16) (by kernel_rfl) 0 (vb (kl K66)) (by kernel_rfl) (by kernel_rfl) (by kernel_rfl)) ?_
        refine pR_to 2 (some 139) 7 rfl hs71 (mdec false (decK false (false_iff_ pb)) (x_kkey h71 2 4 rfl rfl (by kernel_rfl) hp15 K66 (by kernel_rfl) hWb (by omega) hsm)) ?_
        rintro _ w72 ⟨F72, S72, rfl, hM72, h72⟩
        refine ⟨fun _ => ⟨h72.at_ 0 rfl, trivial⟩, ?_⟩
        refine pR_p 6 [3, 4, 5, 6, 7, 8, 9, 10, 13] [(150, (pt m16 0)), (147, (pt m14 0)), (146, (Value.bool false)), (145, (Value.bool false)), (144, undef), (143, undef), (142, undef), (141, undef), (140, (Value.bool false))] 10239 hs71 ⟨h72.at_ 0 rfl, trivial⟩ ?_
        refine pR_v 11 (some 148) (Value.agg (vb (kl K66)).toArray) 12287 rfl hs71 ⟨h72.at_ 0 rfl, trivial⟩ (fun W hW => e_loads hW.1 42 (.tmp 16) (by kernel_rfl) 0 (vb (kl K66)) (by kernel_rfl) (by kernel_rfl) (by kernel_rfl)) ?_
        refine pR_v 14 (some 151) (Value.agg (vb (kl K66)).toArray) 28671 rfl hs71 ⟨h72.at_ 0 rfl, trivial⟩ (fun W hW => e_loads hW.1 42 (.tmp 16) (by kernel_rfl) 0 (vb (kl K66)) (by kernel_rfl) (by kernel_rfl) (by kernel_rfl)) ?_
        refine pR_to 12 (some 149) 32767 rfl hs71 (mdec false (decK false (false_iff_ pa)) (x_kkey h72 1 4 rfl rfl (by kernel_rfl) hp14 K66 (by kernel_rfl) hWa (by omega) hsm)) ?_
        rintro _ w73 ⟨F73, S73, rfl, hM73, h73⟩
        refine ⟨fun _ => ⟨h73.at_ 0 rfl, trivial⟩, ?_⟩
        refine pR_to 15 (some 152) 65535 rfl hs71 (mdec false (decK false (false_iff_ pc)) (x_kkey h73 3 4 rfl rfl (by kernel_rfl) hp16 K66 (by kernel_rfl) hWc (by omega) hsm)) ?_
        rintro _ w74 ⟨F74, S74, rfl, hM74, h74⟩
        refine ⟨fun _ => ⟨h74.at_ 0 rfl, trivial⟩, ?_⟩
        refine pR_p 0 [16, 17] [(154, (Value.bool false)), (153, (Value.bool false))] 262143 hs71 ⟨h74.at_ 0 rfl, trivial⟩ ?_
        refine pR_done hs71 ?_ _
        refine seq_n hK69 ?_
        refine wp_cond_false (by kernel_rfl) ?_
        refine wp_skip ?_
        refine blk_n ?_
        refine seq_n hK63 ?_
        refine wp_reset 206 [(0, (Value.agg ([(Value.slice A z.of.length a), (Value.slice B z.bx.length b), (Value.slice C z.ls.length c), (Value.slice D z.ss.length d)]).toArray)), (1, (pt g2 0)), (3, (pt tb 0)), (4, (Value.slice A1 z.bx.length c1)), (5, (Value.slice A2 z.of.length c2)), (7, (pt m14 0)), (8, (pt m15 0)), (9, (pt m16 0)), (15, (Value.int .i64 ((i : Int)))), (16, (pt g67 0)), (20, (Value.bool false)), (23, (Value.bool (!t))), (38, (Value.slice C z.ls.length c)), (39, (Value.int .i64 ((z.ls.length : Int)))), (61, (Value.int .i64 ((z.ss.length : Int)))), (104, (Value.int .i64 ((z.ls.length : Int)))), (129, (Value.int .i64 ((z.of.length : Int)))), (130, (Value.int .i64 ((i : Int)))), (131, (Value.bool (decide ((i : Int) < (z.of.length : Int))))), (154, (Value.bool false))] (fun x75 => ?_)
        refine reg_lit ?_
        refine wq_v (some 155) (Value.int .i64 ((i : Int) + 1)) (exec_add _ _ _ _ rfl ((i : Int)) 1 (by kernel_rfl) (by kernel_rfl) ((i : Int) + 1) rfl (by omega) (by omega) _) ?_
        refine wq_p 1 [(130, (Value.int .i64 ((i : Int) + 1)))] ?_
        refine wl_end rfl ?_
        refine ⟨z.of.length - (i + 1), (by omega), (i + 1), F73, S73, F72, S72, F74, S74, (by omega), hM73.toWS, hM72.toWS, hM74.toWS, rfl, (patch_eq _ 206 _ (by kernel_rfl) (by kernel_rfl) (by kernel_rfl)), h74.sel [1, 2, 3, 4, 5, 6, 7, 8, 9, 10, 11] [0, 1, 2, 3, 4, 5] (by kernel_rfl) rfl rfl⟩
       ·
        refine pR_go h68 18 (fun W => (rBlk g67 42 (vb (kl K66))).Φ W ∧ True) [(138, [8], 0), (139, [16], 0), (140, [137, 138], 3), (141, [139], 4), (142, [7, 140], 8), (143, [16, 140], 8), (144, [141, 142, 140], 56), (145, [143, 140], 72), (146, [140, 144], 136), (147, [145], 320), (148, [7, 146], 512), (149, [16, 146], 512), (150, [147, 148, 146], 3584), (151, [9, 146], 512), (152, [16, 146], 512), (153, [150, 151, 146], 29184), (154, [149, 152, 146], 37376), (155, [146, 153], 66048)] rfl (fun _ d _ _ _ h => by cases d <;> exact h) ?_
        intro hs76 w76 h76
        refine pR_p 17 [0] [(137, (pt m15 0))] 1 hs76 ⟨h76.at_ 0 rfl, trivial⟩ ?_
        refine pR_v 1 (some 138) (Value.agg (vb (kl K66)).toArray) 3 rfl hs76 ⟨h76.at_ 0 rfl, trivial⟩ (fun W hW => e_loads hW.1 42 (.tmp 16) (by kernel_rfl) 0 (vb (kl K66)) (by kernel_rfl) (by kernel_rfl) (by kernel_rfl)) ?_
        refine pR_to 2 (some 139) 7 rfl hs76 (mdec false (decK false (false_iff_ pb)) (x_kkey h76 2 4 rfl rfl (by kernel_rfl) hp15 K66 (by kernel_rfl) hWb (by omega) hsm)) ?_
        rintro _ w77 ⟨F77, S77, rfl, hM77, h77⟩
        refine ⟨fun _ => ⟨h77.at_ 0 rfl, trivial⟩, ?_⟩
        refine pR_p 6 [3, 4, 5, 6, 7, 8, 9, 10, 13] [(150, (pt m16 0)), (147, (pt m14 0)), (146, (Value.bool false)), (145, (Value.bool false)), (144, undef), (143, undef), (142, undef), (141, undef), (140, (Value.bool false))] 10239 hs76 ⟨h77.at_ 0 rfl, trivial⟩ ?_
        refine pR_v 11 (some 148) (Value.agg (vb (kl K66)).toArray) 12287 rfl hs76 ⟨h77.at_ 0 rfl, trivial⟩ (fun W hW => e_loads hW.1 42 (.tmp 16) (by kernel_rfl) 0 (vb (kl K66)) (by kernel_rfl) (by kernel_rfl) (by kernel_rfl)) ?_
        refine pR_v 14 (some 151) (Value.agg (vb (kl K66)).toArray) 28671 rfl hs76 ⟨h77.at_ 0 rfl, trivial⟩ (fun W hW => e_loads hW.1 42 (.tmp 16) (by kernel_rfl) 0 (vb (kl K66)) (by kernel_rfl) (by kernel_rfl) (by kernel_rfl)) ?_
        refine pR_to 12 (some 149) 32767 rfl hs76 (mdec true (decK true (true_iff_ pa)) (x_kkey h77 1 4 rfl rfl (by kernel_rfl) hp14 K66 (by kernel_rfl) hWa (by omega) hsm)) ?_
        rintro _ w78 ⟨F78, S78, rfl, hM78, h78⟩
        refine ⟨fun _ => ⟨h78.at_ 0 rfl, trivial⟩, ?_⟩
        refine pR_to 15 (some 152) 65535 rfl hs76 (mdec true (decK true (true_iff_ pc)) (x_kkey h78 3 4 rfl rfl (by kernel_rfl) hp16 K66 (by kernel_rfl) hWc (by omega) hsm)) ?_
        rintro _ w79 ⟨F79, S79, rfl, hM79, h79⟩
        refine ⟨fun _ => ⟨h79.at_ 0 rfl, trivial⟩, ?_⟩
        refine pR_p 0 [16, 17] [(154, (Value.bool false)), (153, (Value.bool false))] 262143 hs76 ⟨h79.at_ 0 rfl, trivial⟩ ?_
        refine pR_done hs76 ?_ _
        refine seq_n hK69 ?_
        refine wp_cond_false (by kernel_rfl) ?_
        refine wp_skip ?_
        refine blk_n ?_
        refine seq_n hK63 ?_
        refine wp_reset 206 [(0, (Value.agg ([(Value.slice A z.of.length a), (Value.slice B z.bx.length b), (Value.slice C z.ls.length c), (Value.slice D z.ss.length d)]).toArray)), (1, (pt g2 0)), (3, (pt tb 0)), (4, (Value.slice A1 z.bx.length c1)), (5, (Value.slice A2 z.of.length c2)), (7, (pt m14 0)), (8, (pt m15 0)), (9, (pt m16 0)), (15, (Value.int .i64 ((i : Int)))), (16, (pt g67 0)), (20, (Value.bool false)), (23, (Value.bool (!t))), (38, (Value.slice C z.ls.length c)), (39, (Value.int .i64 ((z.ls.length : Int)))), (61, (Value.int .i64 ((z.ss.length : Int)))), (104, (Value.int .i64 ((z.ls.length : Int)))), (129, (Value.int .i64 ((z.of.length : Int)))), (130, (Value.int .i64 ((i : Int)))), (131, (Value.bool (decide ((i : Int) < (z.of.length : Int))))), (154, (Value.bool false))] (fun x80 => ?_)
        refine reg_lit ?_
        refine wq_v (some 155) (Value.int .i64 ((i : Int) + 1)) (exec_add _ _ _ _ rfl ((i : Int)) 1 (by kernel_rfl) (by kernel_rfl) ((i : Int) + 1) rfl (by omega) (by omega) _) ?_
        refine wq_p 1 [(130, (Value.int .i64 ((i : Int) + 1)))] ?_
        refine wl_end rfl ?_
        refine ⟨z.of.length - (i + 1), (by omega), (i + 1), F78, S78, F77, S77, F79, S79, (by omega), hM78.toWS, hM77.toWS, hM79.toWS, rfl, (patch_eq _ 206 _ (by kernel_rfl) (by kernel_rfl) (by kernel_rfl)), h79.sel [1, 2, 3, 4, 5, 6, 7, 8, 9, 10, 11] [0, 1, 2, 3, 4, 5] (by kernel_rfl) rfl rfl⟩
       ·
        refine pR_go h68 18 (fun W => (rBlk g67 42 (vb (kl K66))).Φ W ∧ True) [(138, [8], 0), (139, [16], 0), (140, [137, 138], 3), (141, [139], 4), (142, [7, 140], 8), (143, [16, 140], 8), (144, [141, 142, 140], 56), (145, [143, 140], 72), (146, [140, 144], 136), (147, [145], 320), (148, [7, 146], 512), (149, [16, 146], 512), (150, [147, 148, 146], 3584), (151, [9, 146], 512), (152, [16, 146], 512), (153, [150, 151, 146], 29184), (154, [149, 152, 146], 37376), (155, [146, 153], 66048)] rfl (fun _ d _ _ _ h => by cases d <;> exact h) ?_
        intro hs81 w81 h81
        refine pR_p 17 [0] [(137, (pt m15 0))] 1 hs81 ⟨h81.at_ 0 rfl, trivial⟩ ?_
        refine pR_v 1 (some 138) (Value.agg (vb (kl K66)).toArray) 3 rfl hs81 ⟨h81.at_ 0 rfl, trivial⟩ (fun W hW => e_loads hW.1 42 (.tmp 16) (by kernel_rfl) 0 (vb (kl K66)) (by kernel_rfl) (by kernel_rfl) (by kernel_rfl)) ?_
        refine pR_to 2 (some 139) 7 rfl hs81 (mdec true (decK true (true_iff_ pb)) (x_kkey h81 2 4 rfl rfl (by kernel_rfl) hp15 K66 (by kernel_rfl) hWb (by omega) hsm)) ?_
        rintro _ w82 ⟨F82, S82, rfl, hM82, h82⟩
        refine ⟨fun _ => ⟨h82.at_ 0 rfl, trivial⟩, ?_⟩
        refine pR_p 13 [3, 4] [(141, (pt m14 0)), (140, (Value.bool true))] 31 hs81 ⟨h82.at_ 0 rfl, trivial⟩ ?_
        refine pR_v 5 (some 142) (Value.agg (vb (kl K66)).toArray) 63 rfl hs81 ⟨h82.at_ 0 rfl, trivial⟩ (fun W hW => e_loads hW.1 42 (.tmp 16) (by kernel_rfl) 0 (vb (kl K66)) (by kernel_rfl) (by kernel_rfl) (by kernel_rfl)) ?_
        refine pR_to 6 (some 143) 127 rfl hs81 (mdec true (decK true (true_iff_ pa)) (x_kkey h82 1 4 rfl rfl (by kernel_rfl) hp14 K66 (by kernel_rfl) hWa (by omega) hsm)) ?_
        rintro _ w83 ⟨F83, S83, rfl, hM83, h83⟩
        refine ⟨fun _ => ⟨h83.at_ 0 rfl, trivial⟩, ?_⟩
        refine pR_p 6 [7, 8, 9, 10, 13] [(150, (pt m16 0)), (147, (pt m14 0)), (146, (Value.bool false)), (145, (Value.bool false)), (144, (Value.bool false))] 10239 hs81 ⟨h83.at_ 0 rfl, trivial⟩ ?_
        refine pR_v 11 (some 148) (Value.agg (vb (kl K66)).toArray) 12287 rfl hs81 ⟨h83.at_ 0 rfl, trivial⟩ (fun W hW => e_loads hW.1 42 (.tmp 16) (by kernel_rfl) 0 (vb (kl K66)) (by kernel_rfl) (by kernel_rfl) (by kernel_rfl)) ?_
        refine pR_v 14 (some 151) (Value.agg (vb (kl K66)).toArray) 28671 rfl hs81 ⟨h83.at_ 0 rfl, trivial⟩ (fun W hW => e_loads hW.1 42 (.tmp 16) (by kernel_rfl) 0 (vb (kl K66)) (by kernel_rfl) (by kernel_rfl) (by kernel_rfl)) ?_
        refine pR_to 12 (some 149) 32767 rfl hs81 (mdec true (decK true (true_iff_ pa)) (x_kkey h83 1 4 rfl rfl (by kernel_rfl) hp14 K66 (by kernel_rfl) hM83.toWS (by omega) hsm)) ?_
        rintro _ w84 ⟨F84, S84, rfl, hM84, h84⟩
        refine ⟨fun _ => ⟨h84.at_ 0 rfl, trivial⟩, ?_⟩
        refine pR_to 15 (some 152) 65535 rfl hs81 (mdec true (decK true (true_iff_ pc)) (x_kkey h84 3 4 rfl rfl (by kernel_rfl) hp16 K66 (by kernel_rfl) hWc (by omega) hsm)) ?_
        rintro _ w85 ⟨F85, S85, rfl, hM85, h85⟩
        refine ⟨fun _ => ⟨h85.at_ 0 rfl, trivial⟩, ?_⟩
        refine pR_p 0 [16, 17] [(154, (Value.bool false)), (153, (Value.bool false))] 262143 hs81 ⟨h85.at_ 0 rfl, trivial⟩ ?_
        refine pR_done hs81 ?_ _
        refine seq_n hK69 ?_
        refine wp_cond_false (by kernel_rfl) ?_
        refine wp_skip ?_
        refine blk_n ?_
        refine seq_n hK63 ?_
        refine wp_reset 206 [(0, (Value.agg ([(Value.slice A z.of.length a), (Value.slice B z.bx.length b), (Value.slice C z.ls.length c), (Value.slice D z.ss.length d)]).toArray)), (1, (pt g2 0)), (3, (pt tb 0)), (4, (Value.slice A1 z.bx.length c1)), (5, (Value.slice A2 z.of.length c2)), (7, (pt m14 0)), (8, (pt m15 0)), (9, (pt m16 0)), (15, (Value.int .i64 ((i : Int)))), (16, (pt g67 0)), (20, (Value.bool false)), (23, (Value.bool (!t))), (38, (Value.slice C z.ls.length c)), (39, (Value.int .i64 ((z.ls.length : Int)))), (61, (Value.int .i64 ((z.ss.length : Int)))), (104, (Value.int .i64 ((z.ls.length : Int)))), (129, (Value.int .i64 ((z.of.length : Int)))), (130, (Value.int .i64 ((i : Int)))), (131, (Value.bool (decide ((i : Int) < (z.of.length : Int))))), (154, (Value.bool false))] (fun x86 => ?_)
        refine reg_lit ?_
        refine wq_v (some 155) (Value.int .i64 ((i : Int) + 1)) (exec_add _ _ _ _ rfl ((i : Int)) 1 (by kernel_rfl) (by kernel_rfl) ((i : Int) + 1) rfl (by omega) (by omega) _) ?_
        refine wq_p 1 [(130, (Value.int .i64 ((i : Int) + 1)))] ?_
        refine wl_end rfl ?_
        refine ⟨z.of.length - (i + 1), (by omega), (i + 1), F84, S84, F82, S82, F85, S85, (by omega), hM84.toWS, hM82.toWS, hM85.toWS, rfl, (patch_eq _ 206 _ (by kernel_rfl) (by kernel_rfl) (by kernel_rfl)), h85.sel [1, 2, 3, 4, 5, 6, 7, 8, 9, 10, 11] [0, 1, 2, 3, 4, 5] (by kernel_rfl) rfl rfl⟩
      ·
       refine wp_exit ?_
       refine seq_e ?_
       refine seq_e ?_
       refine blk_e ?_
       refine seq_n hK57 ?_
       refine wp_seq_k ?_
       intro K87 hK87
       refine wp_seq_k ?_
       intro K88 hK88
       refine reg_lit ?_
       refine wq_p 3 [(158, (Value.int .i64 0)), (157, (Value.int .i64 ((z.bx.length : Int)))), (156, (Value.slice A1 z.bx.length c1))] ?_
       refine wl_end rfl ?_
       refine seq_n hK88 ?_
       refine wp_block ?_
       have hE0a := hWa
       have hE0b := hWb
       have hE0c := hWc
       refine wp_loopm (fun mM xX aA wL => ∃ (i : Nat) (Fa : Nat → Prop) (Sa : KM) (Fb : Nat → Prop) (Sb : KM) (Fc : Nat → Prop) (Sc : KM), (i ≤ z.bx.length) ∧ (WSl s (lkTo z.of.length z.ls z.ls.length) (lbTo z.bx.length z.ss z.ss.length) (z.ss.length) Sa) ∧ (WSl s (lkTo z.of.length z.ls z.ls.length) [] (0) Sb) ∧ (WSl s (lkTo z.of.length z.ls.reverse z.ls.length) (lbTo z.bx.length z.ss.reverse z.ss.length) (z.ss.length) Sc) ∧ mM = z.bx.length - (i) ∧ aA = patch xX 206 [(0, (Value.agg ([(Value.slice A z.of.length a), (Value.slice B z.bx.length b), (Value.slice C z.ls.length c), (Value.slice D z.ss.length d)]).toArray)), (1, (pt g2 0)), (3, (pt tb 0)), (4, (Value.slice A1 z.bx.length c1)), (5, (Value.slice A2 z.of.length c2)), (7, (pt m14 0)), (8, (pt m15 0)), (9, (pt m16 0)), (20, (Value.bool false)), (23, (Value.bool (!t))), (38, (Value.slice C z.ls.length c)), (39, (Value.int .i64 ((z.ls.length : Int)))), (61, (Value.int .i64 ((z.ss.length : Int)))), (104, (Value.int .i64 ((z.ls.length : Int)))), (129, (Value.int .i64 ((z.of.length : Int)))), (156, (Value.slice A1 z.bx.length c1)), (157, (Value.int .i64 ((z.bx.length : Int)))), (158, (Value.int .i64 ((i : Int))))] ∧ Hp (fun _ => False) w wL [rRV 1 A a (ivs z.of), rRV 3 B b (z.bx.map kbCells), rISs (z.bx.map (·.kv)) (z.bx.map (·.ks)), rISs (z.bx.map (·.bv)) (z.bx.map (·.bs)), rRV 1 C c (ivs z.ls), rRV 1 D d (ivs z.ss)] [rMind Fa none m14 p14 Sa, rMind Fb none m15 p15 Sb, rMind Fc none m16 p16 Sc, rTab F0 tb s, rOV 28 1 ((Value.slice A1 z.bx.length c1)) (mv.map fun v => [v]), rSBs mv (mkTo z.bx.length), rOV 3 1 ((Value.slice A2 z.of.length c2)) (ivs (ofTo z.of z.of.length)), rOV 131 3 ((Value.slice A3 z.bx.length c3)) (hb.map kbCells), rISs (hb.map (·.kv)) (hb.map (·.ks)), rISs (hb.map (·.bv)) (hb.map (·.bs)), rBlk g2 87 ([(Value.slice A z.of.length a), (Value.slice B z.bx.length b), (Value.slice C z.ls.length c), (Value.slice D z.ss.length d)])]) ⟨_, 0, Fa, Sa, Fb, Sb, Fc, Sc, (by omega), hE0a, hE0b, hE0c, rfl, (patch_eq _ 206 _ (by kernel_rfl) (by kernel_rfl) (by kernel_rfl)), h59.sel [0, 1, 2, 3, 4, 5, 6, 7, 8, 9, 10] [0, 1, 2, 3, 4, 5] (by kernel_rfl) rfl rfl⟩ ?_
       rintro _ x89 _ w89 ⟨i, Fa, Sa, Fb, Sb, Fc, Sc, hi, hWa, hWb, hWc, rfl, rfl, h89⟩
       refine wp_seq_k ?_
       intro K90 hK90
       refine reg_lit ?_
       refine wq_p 1 [(159, (Value.bool (decide ((i : Int) < (z.bx.length : Int)))))] ?_
       refine wl_end rfl ?_
       refine seq_n hK90 ?_
       refine wp_seq_k ?_
       intro K91 hK91
       refine wp_if ((i : Int) < (z.bx.length : Int)) (by kernel_rfl) (fun b92 => ?_) (fun b92 => ?_)
       ·
        refine wp_skip ?_
        refine seq_n hK91 ?_
        refine wp_seq_k ?_
        intro K93 hK93
        refine wp_block ?_
        refine wp_seq_k ?_
        intro K94 hK94
        obtain ⟨MAE, mcE, myE, hvE, hlE⟩ := sbsget (h89.at_ 5 rfl) (by rw [mkTo_len]; exact hmv) (i) (by rw [mkTo_len]; omega)
        have hmE : myE = mkB 98 (i + 1) := by
          rw [mkTo_at (by omega)] at hlE
          injection hlE with hlE
          exact hlE.symm
        have hmy : myE = mkB 98 (i + 1) := hmE
        
        refine reg_lit ?_
        refine wq_v (some 160) (eAt A1 (i * 1 + 0)) (e_idxN (OV.rvn (h89.at_ 4 rfl)).2 i z.bx.length (OV.rvn (h89.at_ 4 rfl)).1 (by omega) 63 (.tmp 156) (.tmp 158) (by kernel_rfl) .i64 (by kernel_rfl) (by kernel_rfl) 28 (by kernel_rfl) (by kernel_rfl) _) ?_
        refine wq_v (some 161) (Value.slice MAE myE.length mcE) (e_elemN (OV.rvn (h89.at_ 4 rfl)).2 i 0 ([(Value.slice MAE myE.length mcE)]) (by rw [List.getElem?_map, hvE]; rfl) 28 (.tmp 160) (by kernel_rfl) (Value.slice MAE myE.length mcE) (by kernel_rfl) (by kernel_rfl) (by kernel_rfl)) ?_
        refine wq_p 1 [(18, (Value.slice MAE myE.length mcE))] ?_
        refine wl_end rfl ?_
        refine seq_n hK94 ?_
        refine wp_seq_k ?_
        intro K95 hK95
        rcases more_box z.ls z.ss s z.of.length z.bx.length myE with ⟨pa1, pa2, pc1, pc2⟩ | ⟨pa1, pa2, pc1, pc2⟩ | ⟨pa1, pa2, pc1, pc2⟩
        ·
         refine reg_lit ?_
         refine wq_p 2 [(163, (Value.slice MAE myE.length mcE)), (162, (pt m14 0))] ?_
         refine wq_to (some 164) (mdec false (decX false (false_iff_ pa1)) (x_kbox h89 0 3 rfl rfl (by kernel_rfl) hp14 (by kernel_rfl) (h89.apartL 0 3 5 rfl rfl rfl (by kernel_rfl) (by kernel_rfl) hvE hlE) hWa (by omega) hsm (by rw [hmy]; rfl))) ?_
         rintro _ w97 ⟨F97, S97, rfl, hM97, h97⟩
         refine wq_p 2 [(166, (Value.slice MAE myE.length mcE)), (165, (pt m16 0))] ?_
         refine wq_to (some 167) (mdec false (decX false (false_iff_ pc1)) (x_kbox h97 2 3 rfl rfl (by kernel_rfl) hp16 (by kernel_rfl) (h97.apartL 2 3 5 rfl rfl rfl (by kernel_rfl) (by kernel_rfl) hvE hlE) hWc (by omega) hsm (by rw [hmy]; rfl))) ?_
         rintro _ w98 ⟨F98, S98, rfl, hM98, h98⟩
         refine wq_p 4 [(171, (Value.slice MAE myE.length mcE)), (170, (pt m14 0)), (169, (Value.bool false)), (168, (Value.bool false))] ?_
         refine wq_to (some 172) (mdec false (decO false (false_iff_ pa2)) (x_kopens h98 0 3 rfl rfl (by kernel_rfl) hp14 (by kernel_rfl) (h98.apartL 0 3 5 rfl rfl rfl (by kernel_rfl) (by kernel_rfl) hvE hlE) hM97.toWS (by omega) hsm (by rw [hmy]; rfl))) ?_
         rintro _ w99 ⟨F99, S99, rfl, hM99, h99⟩
         refine wq_p 2 [(174, (Value.slice MAE myE.length mcE)), (173, (pt m16 0))] ?_
         refine wq_to (some 175) (mdec false (decO false (false_iff_ pc2)) (x_kopens h99 2 3 rfl rfl (by kernel_rfl) hp16 (by kernel_rfl) (h99.apartL 2 3 5 rfl rfl rfl (by kernel_rfl) (by kernel_rfl) hvE hlE) hM98.toWS (by omega) hsm (by rw [hmy]; rfl))) ?_
         rintro _ w100 ⟨F100, S100, rfl, hM100, h100⟩
         refine wq_p 5 [(180, (Value.slice MAE myE.length mcE)), (179, (pt m14 0)), (178, (Value.bool false)), (177, (Value.bool false)), (176, (Value.bool false))] ?_
         refine wq_to (some 181) (mdec false (decO false (false_iff_ pa2)) (x_kopens h100 0 3 rfl rfl (by kernel_rfl) hp14 (by kernel_rfl) (h100.apartL 0 3 5 rfl rfl rfl (by kernel_rfl) (by kernel_rfl) hvE hlE) hM99.toWS (by omega) hsm (by rw [hmy]; rfl))) ?_
         rintro _ w101 ⟨F101, S101, rfl, hM101, h101⟩
         refine wq_p 7 [(188, (Value.bool false)), (187, (Value.bool false)), (186, undef), (185, undef), (184, undef), (183, undef), (182, (Value.bool false))] ?_
         refine wl_end rfl ?_
         refine seq_n hK95 ?_
         refine wp_cond_false (by kernel_rfl) ?_
         refine wp_skip ?_
         refine blk_n ?_
         refine seq_n hK93 ?_
         refine reg_lit ?_
         refine wq_v (some 189) (Value.int .i64 ((i : Int) + 1)) (exec_add _ _ _ _ rfl ((i : Int)) 1 (by kernel_rfl) (by kernel_rfl) ((i : Int) + 1) rfl (by omega) (by omega) _) ?_
         refine wq_p 1 [(158, (Value.int .i64 ((i : Int) + 1)))] ?_
         refine wl_end rfl ?_
         refine ⟨z.bx.length - (i + 1), (by omega), (i + 1), F101, S101, Fb, Sb, F100, S100, (by omega), hM101.toWS, hWb, hM100.toWS, rfl, (patch_eq _ 206 _ (by kernel_rfl) (by kernel_rfl) (by kernel_rfl)), h101.sel [0, 1, 2, 3, 4, 5, 6, 7, 8, 9, 10] [0, 1, 2, 3, 4, 5] (by kernel_rfl) rfl rfl⟩
        ·
         refine reg_lit ?_
         refine wq_p 2 [(163, (Value.slice MAE myE.length mcE)), (162, (pt m14 0))] ?_
         refine wq_to (some 164) (mdec true (decX true (true_iff_ pa1)) (x_kbox h89 0 3 rfl rfl (by kernel_rfl) hp14 (by kernel_rfl) (h89.apartL 0 3 5 rfl rfl rfl (by kernel_rfl) (by kernel_rfl) hvE hlE) hWa (by omega) hsm (by rw [hmy]; rfl))) ?_
         rintro _ w102 ⟨F102, S102, rfl, hM102, h102⟩
         refine wq_p 2 [(166, (Value.slice MAE myE.length mcE)), (165, (pt m16 0))] ?_
         refine wq_to (some 167) (mdec true (decX true (true_iff_ pc1)) (x_kbox h102 2 3 rfl rfl (by kernel_rfl) hp16 (by kernel_rfl) (h102.apartL 2 3 5 rfl rfl rfl (by kernel_rfl) (by kernel_rfl) hvE hlE) hWc (by omega) hsm (by rw [hmy]; rfl))) ?_
         rintro _ w103 ⟨F103, S103, rfl, hM103, h103⟩
         refine wq_p 4 [(171, (Value.slice MAE myE.length mcE)), (170, (pt m14 0)), (169, (Value.bool false)), (168, (Value.bool false))] ?_
         refine wq_to (some 172) (mdec false (decO false (false_iff_ pa2)) (x_kopens h103 0 3 rfl rfl (by kernel_rfl) hp14 (by kernel_rfl) (h103.apartL 0 3 5 rfl rfl rfl (by kernel_rfl) (by kernel_rfl) hvE hlE) hM102.toWS (by omega) hsm (by rw [hmy]; rfl))) ?_
         rintro _ w104 ⟨F104, S104, rfl, hM104, h104⟩
         refine wq_p 2 [(174, (Value.slice MAE myE.length mcE)), (173, (pt m16 0))] ?_
         refine wq_to (some 175) (mdec false (decO false (false_iff_ pc2)) (x_kopens h104 2 3 rfl rfl (by kernel_rfl) hp16 (by kernel_rfl) (h104.apartL 2 3 5 rfl rfl rfl (by kernel_rfl) (by kernel_rfl) hvE hlE) hM103.toWS (by omega) hsm (by rw [hmy]; rfl))) ?_
         rintro _ w105 ⟨F105, S105, rfl, hM105, h105⟩
         refine wq_p 5 [(180, (Value.slice MAE myE.length mcE)), (179, (pt m14 0)), (178, (Value.bool false)), (177, (Value.bool false)), (176, (Value.bool false))] ?_
         refine wq_to (some 181) (mdec false (decO false (false_iff_ pa2)) (x_kopens h105 0 3 rfl rfl (by kernel_rfl) hp14 (by kernel_rfl) (h105.apartL 0 3 5 rfl rfl rfl (by kernel_rfl) (by kernel_rfl) hvE hlE) hM104.toWS (by omega) hsm (by rw [hmy]; rfl))) ?_
         rintro _ w106 ⟨F106, S106, rfl, hM106, h106⟩
         refine wq_p 7 [(188, (Value.bool false)), (187, (Value.bool false)), (186, undef), (185, undef), (184, undef), (183, undef), (182, (Value.bool false))] ?_
         refine wl_end rfl ?_
         refine seq_n hK95 ?_
         refine wp_cond_false (by kernel_rfl) ?_
         refine wp_skip ?_
         refine blk_n ?_
         refine seq_n hK93 ?_
         refine reg_lit ?_
         refine wq_v (some 189) (Value.int .i64 ((i : Int) + 1)) (exec_add _ _ _ _ rfl ((i : Int)) 1 (by kernel_rfl) (by kernel_rfl) ((i : Int) + 1) rfl (by omega) (by omega) _) ?_
         refine wq_p 1 [(158, (Value.int .i64 ((i : Int) + 1)))] ?_
         refine wl_end rfl ?_
         refine ⟨z.bx.length - (i + 1), (by omega), (i + 1), F106, S106, Fb, Sb, F105, S105, (by omega), hM106.toWS, hWb, hM105.toWS, rfl, (patch_eq _ 206 _ (by kernel_rfl) (by kernel_rfl) (by kernel_rfl)), h106.sel [0, 1, 2, 3, 4, 5, 6, 7, 8, 9, 10] [0, 1, 2, 3, 4, 5] (by kernel_rfl) rfl rfl⟩
        ·
         refine reg_lit ?_
         refine wq_p 2 [(163, (Value.slice MAE myE.length mcE)), (162, (pt m14 0))] ?_
         refine wq_to (some 164) (mdec true (decX true (true_iff_ pa1)) (x_kbox h89 0 3 rfl rfl (by kernel_rfl) hp14 (by kernel_rfl) (h89.apartL 0 3 5 rfl rfl rfl (by kernel_rfl) (by kernel_rfl) hvE hlE) hWa (by omega) hsm (by rw [hmy]; rfl))) ?_
         rintro _ w107 ⟨F107, S107, rfl, hM107, h107⟩
         refine wq_p 2 [(166, (Value.slice MAE myE.length mcE)), (165, (pt m16 0))] ?_
         refine wq_to (some 167) (mdec true (decX true (true_iff_ pc1)) (x_kbox h107 2 3 rfl rfl (by kernel_rfl) hp16 (by kernel_rfl) (h107.apartL 2 3 5 rfl rfl rfl (by kernel_rfl) (by kernel_rfl) hvE hlE) hWc (by omega) hsm (by rw [hmy]; rfl))) ?_
         rintro _ w108 ⟨F108, S108, rfl, hM108, h108⟩
         refine wq_p 4 [(171, (Value.slice MAE myE.length mcE)), (170, (pt m14 0)), (169, (Value.bool false)), (168, (Value.bool false))] ?_
         refine wq_to (some 172) (mdec true (decO true (true_iff_ pa2)) (x_kopens h108 0 3 rfl rfl (by kernel_rfl) hp14 (by kernel_rfl) (h108.apartL 0 3 5 rfl rfl rfl (by kernel_rfl) (by kernel_rfl) hvE hlE) hM107.toWS (by omega) hsm (by rw [hmy]; rfl))) ?_
         rintro _ w109 ⟨F109, S109, rfl, hM109, h109⟩
         refine wq_p 2 [(174, (Value.slice MAE myE.length mcE)), (173, (pt m16 0))] ?_
         refine wq_to (some 175) (mdec true (decO true (true_iff_ pc2)) (x_kopens h109 2 3 rfl rfl (by kernel_rfl) hp16 (by kernel_rfl) (h109.apartL 2 3 5 rfl rfl rfl (by kernel_rfl) (by kernel_rfl) hvE hlE) hM108.toWS (by omega) hsm (by rw [hmy]; rfl))) ?_
         rintro _ w110 ⟨F110, S110, rfl, hM110, h110⟩
         refine wq_p 5 [(180, (Value.slice MAE myE.length mcE)), (179, (pt m14 0)), (178, (Value.bool false)), (177, (Value.bool false)), (176, (Value.bool false))] ?_
         refine wq_to (some 181) (mdec true (decO true (true_iff_ pa2)) (x_kopens h110 0 3 rfl rfl (by kernel_rfl) hp14 (by kernel_rfl) (h110.apartL 0 3 5 rfl rfl rfl (by kernel_rfl) (by kernel_rfl) hvE hlE) hM109.toWS (by omega) hsm (by rw [hmy]; rfl))) ?_
         rintro _ w111 ⟨F111, S111, rfl, hM111, h111⟩
         refine wq_p 3 [(184, (Value.slice MAE myE.length mcE)), (183, (pt m14 0)), (182, (Value.bool true))] ?_
         refine wq_to (some 185) (mdec true (decX true (true_iff_ pa1)) (x_kbox h111 0 3 rfl rfl (by kernel_rfl) hp14 (by kernel_rfl) (h111.apartL 0 3 5 rfl rfl rfl (by kernel_rfl) (by kernel_rfl) hvE hlE) hM111.toWS (by omega) hsm (by rw [hmy]; rfl))) ?_
         rintro _ w112 ⟨F112, S112, rfl, hM112, h112⟩
         refine wq_p 3 [(188, (Value.bool false)), (187, (Value.bool false)), (186, (Value.bool false))] ?_
         refine wl_end rfl ?_
         refine seq_n hK95 ?_
         refine wp_cond_false (by kernel_rfl) ?_
         refine wp_skip ?_
         refine blk_n ?_
         refine seq_n hK93 ?_
         refine reg_lit ?_
         refine wq_v (some 189) (Value.int .i64 ((i : Int) + 1)) (exec_add _ _ _ _ rfl ((i : Int)) 1 (by kernel_rfl) (by kernel_rfl) ((i : Int) + 1) rfl (by omega) (by omega) _) ?_
         refine wq_p 1 [(158, (Value.int .i64 ((i : Int) + 1)))] ?_
         refine wl_end rfl ?_
         refine ⟨z.bx.length - (i + 1), (by omega), (i + 1), F112, S112, Fb, Sb, F110, S110, (by omega), hM112.toWS, hWb, hM110.toWS, rfl, (patch_eq _ 206 _ (by kernel_rfl) (by kernel_rfl) (by kernel_rfl)), h112.sel [0, 1, 2, 3, 4, 5, 6, 7, 8, 9, 10] [0, 1, 2, 3, 4, 5] (by kernel_rfl) rfl rfl⟩
       ·
        refine wp_exit ?_
        refine seq_e ?_
        refine seq_e ?_
        refine blk_e ?_
        refine seq_n hK87 ?_
        refine wp_seq_k ?_
        intro K113 hK113
        refine reg_lit ?_
        refine wq_p 1 [(190, (pt m14 0))] ?_
        refine wq_to (some 191) (x_kkeys h89 0 3 rfl rfl (by kernel_rfl) hp14 (by kernel_rfl) hWa (by omega) hsm) ?_
        rintro _ w114 ⟨F114, S114, A114, c114, rfl, hM114, h114⟩
        refine wq_p 2 [(193, (pt m16 0)), (192, (Value.int .i64 (((knownN S114 s.keys.length) : Int))))] ?_
        refine wq_to (some 194) (x_kkeys h114 2 3 rfl rfl (by kernel_rfl) hp16 (by kernel_rfl) hWc (by omega) hsm) ?_
        rintro _ w115 ⟨F115, S115, A115, c115, rfl, hM115, h115⟩
        refine wq_p 1 [(195, (Value.int .i64 (((knownN S115 s.keys.length) : Int))))] ?_
        refine wq_v (some 196) (Value.bool true) (eq_is (v := (Value.bool ((((knownN S114 s.keys.length) : Int)) == (((knownN S115 s.keys.length) : Int))))) (by kernel_rfl) (congrArg Value.bool (by rw [knownN_ac hM114 hM115]; simp))) ?_
        refine wq_p 2 [(198, (pt m15 0)), (197, (Value.bool true))] ?_
        refine wq_to (some 199) (x_kkeys h115 1 3 rfl rfl (by kernel_rfl) hp15 (by kernel_rfl) hWb (by omega) hsm) ?_
        rintro _ w116 ⟨F116, S116, A116, c116, rfl, hM116, h116⟩
        refine wq_p 2 [(201, (pt m14 0)), (200, (Value.int .i64 (((knownN S116 s.keys.length) : Int))))] ?_
        refine wq_to (some 202) (x_kkeys h116 0 3 rfl rfl (by kernel_rfl) hp14 (by kernel_rfl) hM114.toWS (by omega) hsm) ?_
        rintro _ w117 ⟨F117, S117, A117, c117, rfl, hM117, h117⟩
        refine wq_p 1 [(203, (Value.int .i64 (((knownN S117 s.keys.length) : Int))))] ?_
        refine wq_v (some 204) (Value.bool true) (eq_is (v := (Value.bool (decide (((knownN S116 s.keys.length) : Int) ≤ ((knownN S117 s.keys.length) : Int))))) (by kernel_rfl) (congrArg Value.bool (decide_eq_true (by have := knownN_ba hM116 hM117 s.keys.length; omega)))) ?_
        refine wq_p 2 [(2, (Value.bool true)), (205, (Value.bool true))] ?_
        refine wl_end rfl ?_
        refine seq_n hK113 ?_
        refine wp_ret ?_
        refine post_1 rfl (by kernel_rfl) (rtmp (v := (Value.bool true)) (by kernel_rfl)) ?_
        exact ⟨rfl, h117.below0⟩
end Go.Proofs.Ytjjcnijdjhhdoaa
end
/-! The row of KnowsMore: for every input the law returns true and what came in reads as it did. -/
section
namespace Go.Proofs.Ytjjcnijdjhhdoaa
open Go.ChangeShapes Go.WideShapes Go.ChangeAt Go.RowKit
set_option maxRecDepth 100000 in
theorem knowsMore_lifted (os : Os) (started : os.Started) (H : Type) (enc : TypeId × Value → H) :
    ReturnsInHanded {} Try.checked os 12 .any (Rows.knowsMoreSpec.pre6 enc Try.prog Try.f12 Rows.knowsMoreRow.domain false) (Rows.knowsMoreSpec.post enc Try.prog Try.f12 false true false false) := by
  refine returnsInHanded_of_change (C := Try.checked) Try.own started (by kernel_rfl) Try.func12
    (ChangeSpec.witness6 (enc := enc) (C := Try.checked) false ⟨#[], #[.agg #[.slice none 0 0, .slice none 0 0, .slice none 0 0, .slice none 0 0]], []⟩ 8 (by kernel_rfl) (by kernel_rfl) (by kernel_rfl) (by kernel_rfl)) ?_
  intro W base args ds gs before hval0 hW hcnd _
  have hval : ∀ (j : Nat) t v, Try.f12.params[j]? = some t → args[j]? = some v → Value.okWide Try.prog W .any base t v := hval0
  have hpost : ∀ W', Below W.heap.size W W' → Rows.knowsMoreSpec.post enc Try.prog Try.f12 false true false false W args (.bool true) W' := fun W' hb =>
    law_post Try.laidOut (by kernel_rfl) Try.underlying4 rfl rfl (fun ds hds => by
      have hn : ds.length = 1 := hds
      match ds, hn with
      | [_], _ => rfl) hW hb
  obtain ⟨p, q, hA0, hV, rfl, hfz, hnd⟩ := hW
  have hA : DataW.TrodAll enc Try.prog W 0 (fun _ => true) true Try.f12.params.toList args.toList ds p := hA0
  rw [Try.params12] at hA hval
  clear hA0 hval0
  obtain ⟨v0, d0, rfl, rfl, h0⟩ := trodAll_one hA
  obtain ⟨A0, B0, C0, D0, a0, b0, c0, d0, z0, rfl, hz0⟩ := open_in (hval 0 87 v0 rfl rfl) h0
  refine (knowsMore_any A0 B0 C0 D0 a0 b0 c0 d0 z0 W hz0).mono fun e W' ⟨he, hw⟩ => ?_
  subst he
  exact ⟨_, rfl, hpost W' hw⟩
theorem knowsMore_holds : Rows.KnowsMoreSaid :=
  OpenClaim.holds_of_wide 12 Try.f12 rfl rfl rfl rfl rfl rfl rfl ⟨rfl, rfl, rfl, rfl, rfl⟩ rfl rfl rfl rfl rfl (by kernel_rfl) Try.func12 (by kernel_rfl)
    (of_decide_eq_true (by kernel_rfl)) (by unfold Func.isWrapper; first | (rw [if_pos (by decide +kernel)]; kernel_rfl) | (rw [if_neg (by decide +kernel)]; exact ⟨rfl, rfl⟩))
    (fun os started H enc _ => knowsMore_lifted os started H enc)
end Go.Proofs.Ytjjcnijdjhhdoaa
end
