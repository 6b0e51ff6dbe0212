/- What KnowsMore and KnowsCloses are asked, as it comes in: opened. (Texts laid one behind the other: KFit, KFits, SayL, Says, KnX, KPl, KAl, KAlive, OpenIn.) -/
import Derived.Test.YtjjcnijdjhhdoaaCA9
/-! Plain facts of Keys and Fits; New's mind. -/
section
namespace Go.Proofs.Ytjjcnijdjhhdoaa
open Go.RowKit Go.QT
def fitB (S : KM) (x : Bytes) : Bool := (!isKdB 107 x || decide (x ∈ S.kk)) && (!isKdB 98 x || decide (x ∈ S.bx))
def fitsB (S : KM) (b : Bytes) : Bool := (findB b).all (fitB S)
def Fit (S : KM) (b : Bytes) (i : Nat) : Prop := ∀ j k, j < i → (findB b)[j]? = some k → fitB S k = true
section
variable {S : KM} {b k : Bytes} {i n : Nat} {kd : UInt8} {K : Fin 16 → UInt8}
theorem kd_of107 (h : ub kd = 107) : kd = 107 := by
  apply UInt8.toNat_inj.1
  have e : (107 : UInt8).toNat = 107 := rfl
  unfold ub at h
  omega
theorem kd_of98 (h : ub kd = 98) : kd = 98 := by
  apply UInt8.toNat_inj.1
  have e : (98 : UInt8).toNat = 98 := rfl
  unfold ub at h
  omega
theorem Fit.zero : Fit S b 0 := fun j k h => by omega
theorem fit_no (hK : (findB b)[i]? = some k) (h : fitB S k = false) : fitsB S b = false := by
  unfold fitsB
  rw [List.all_eq_false]
  exact ⟨k, List.mem_of_getElem? hK, by rw [h]; simp⟩
theorem Fit.all (h : Fit S b i) (hi : ¬ i < (findB b).length) : fitsB S b = true := by
  unfold fitsB
  rw [List.all_eq_true]
  intro x hx
  obtain ⟨j, hj, rfl⟩ := List.getElem_of_mem hx
  exact h j _ (by omega) (List.getElem?_eq_getElem hj)
theorem Fit.next (h : Fit S b i) (hK : (findB b)[i]? = some k) (hf : fitB S k = true) : Fit S b (i + 1) := fun j x hj hx => by
  by_cases hji : j < i
  · exact h j x hji hx
  · have : j = i := by omega
    subst this
    rw [hK] at hx; injection hx with hx; subst hx; exact hf
theorem fitB_k (hm : markOf k = some (kd, n)) (h : ub kd = 107) : fitB S k = decide (k ∈ S.kk) := by
  rw [kd_of107 h] at hm
  have h1 : isKdB 107 k = true := isKdB_iff.2 ⟨n, hm⟩
  have h2 : isKdB 98 k = false := by unfold isKdB; rw [hm]; rfl
  unfold fitB
  rw [h1, h2]
  simp
theorem fitB_b (hm : markOf k = some (kd, n)) (h : ub kd = 98) : fitB S k = decide (k ∈ S.bx) := by
  rw [kd_of98 h] at hm
  have h1 : isKdB 98 k = true := isKdB_iff.2 ⟨n, hm⟩
  have h2 : isKdB 107 k = false := by unfold isKdB; rw [hm]; rfl
  unfold fitB
  rw [h1, h2]
  simp
theorem fitB_n (hm : markOf k = some (kd, n)) (h : ¬ ub kd = 107) (h' : ¬ ub kd = 98) : fitB S k = true := by
  have h1 : isKdB 98 k = false := by
    unfold isKdB; rw [hm]
    simp only [Option.map_some, Option.some.injEq, decide_eq_false_iff_not]
    rintro rfl; exact h' (by simp [ub])
  have h2 : isKdB 107 k = false := by
    unfold isKdB; rw [hm]
    simp only [Option.map_some, Option.some.injEq, decide_eq_false_iff_not]
    rintro rfl; exact h (by simp [ub])
  unfold fitB
  rw [h1, h2]
  simp
/-- How many keys of the first n are known. -/
def knownN (S : KM) (n : Nat) : Nat := ((List.range n).filter fun i => decide (mkB 107 (i + 1) ∈ S.kk)).length
theorem knownN_le : knownN S n ≤ n := by
  unfold knownN
  exact Nat.le_trans (List.length_filter_le _ _) (by simp)
theorem knownN_yes (hK : kl K = mkB 107 (n + 1)) (h : kl K ∈ S.kk) : knownN S (n + 1) = knownN S n + 1 := by
  unfold knownN
  rw [List.range_succ, List.filter_append]
  simp [← hK, h]
theorem knownN_no (hK : kl K = mkB 107 (n + 1)) (h : ¬ kl K ∈ S.kk) : knownN S (n + 1) = knownN S n := by
  unfold knownN
  rw [List.range_succ, List.filter_append]
  simp [← hK, h]
end
section
variable {F0 : Nat → Prop} {w0 w : World} {ro rs rest : List Res} {tb mb k1 k2 k3 : Nat}
theorem mind_new (h : Hp F0 w0 w ro (rBlk mb 134 [pt tb 0, .map (some k1), .map (some k2), .map (some k3), .slice none 0 0] :: rKM k1 [] :: rKM k2 [] :: rKM k3 [] :: rest)) :
    ∃ F' p, (p : Mp).tb = tb ∧ Hp F0 w0 w ro (rMind F' none mb p ⟨[], [], [], []⟩ :: rest) := by
  have h1 := h.ovNil 28 1
  have h2 := h1.newS (Below.refl _ _) (rRows (fun _ => False) [] []) ⟨fun _ hq => hq.elim, rfl, by simp⟩ (fun _ hq => hq.elim)
  have hperm : Hp F0 w0 w ro (mParts none mb tb k1 k2 k3 ⟨[], [], [], []⟩ (.slice none 0 0) [] (fun _ => False) ++ rest) := by
    have key : ∀ (x y a b c d : Res) (l : List Res), Hp F0 w0 w ro (x :: y :: a :: b :: c :: d :: l) → Hp F0 w0 w ro (a :: b :: c :: d :: y :: x :: l) := by
      intro x y a b c d l hh
      have pm : ∀ (i : Nat) (r : Res), (a :: b :: c :: d :: y :: x :: l)[i]? = some r → ∃ j, (x :: y :: a :: b :: c :: d :: l)[j]? = some r ∧ j = (if i < 4 then i + 2 else if i = 4 then 1 else if i = 5 then 0 else i) := by
        intro i r hi
        match i, hi with
        | 0, hi => exact ⟨2, hi, rfl⟩
        | 1, hi => exact ⟨3, hi, rfl⟩
        | 2, hi => exact ⟨4, hi, rfl⟩
        | 3, hi => exact ⟨5, hi, rfl⟩
        | 4, hi => exact ⟨1, hi, rfl⟩
        | 5, hi => exact ⟨0, hi, rfl⟩
        | i+6, hi => exact ⟨i + 6, hi, by rw [if_neg (by omega), if_neg (by omega), if_neg (by omega)]⟩
      refine ⟨hh.fr, fun i r hi => ?_, fun i r hi => ?_, fun i j r s hi hj hne => ?_, hh.red, fun i j r s hi hj => ?_⟩
      · obtain ⟨j, hj, _⟩ := pm i r hi; exact hh.own j r hj
      · obtain ⟨j, hj, _⟩ := pm i r hi; exact hh.mine j r hj
      · obtain ⟨i', hi', e1⟩ := pm i r hi
        obtain ⟨j', hj', e2⟩ := pm j s hj
        refine hh.dis i' j' r s hi' hj' ?_
        rw [e1, e2]
        repeat' split
        all_goals omega
      · obtain ⟨j', hj', _⟩ := pm j s hj; exact hh.rdis i j' r s hi hj'
    exact key _ _ _ _ _ _ _ h2
  obtain ⟨F', h3⟩ := mind_join (p := ⟨tb, k1, k2, k3⟩) hperm
  exact ⟨F', ⟨tb, k1, k2, k3⟩, rfl, h3⟩
end
end Go.Proofs.Ytjjcnijdjhhdoaa
end
/-! The walks of New, Keys and Fits. -/
section
namespace Go.Proofs.Ytjjcnijdjhhdoaa
open Go.RowKit Go.QT
set_option maxRecDepth 100000 in
set_option maxHeartbeats 1000000 in
theorem knew_any (tb : Nat) (w : World) : Calls Try.prog 49 #[pt tb 0] w fun e w' => ∃ m p F, e = .returned (pt m 0) ∧ (p : Mp).tb = tb ∧ Hp (fun _ => False) w w' [] [rMind F none m p ⟨[], [], [], []⟩] := by
  have h0 := Hp.nil (fun _ => False) w
  refine enter 8 Try.func49 rfl rfl ?_
  refine wp_reset 9 [(0, (pt tb 0))] (fun x0 => ?_)
  refine wp_seq_k ?_
  intro K1 hK1
  refine reg_lit ?_
  refine wq_p 1 [(2, (Value.pointer none))] ?_
  refine wl_end rfl ?_
  refine seq_n hK1 ?_
  refine wp_seq_k ?_
  intro K2 hK2
  refine reg_lit ?_
  refine wq_p 1 [(3, (pt tb 0))] ?_
  refine wq_to (some 4) (x_makeK h0 (by kernel_rfl)) ?_
  rintro _ w3 ⟨k3, rfl, h3⟩
  refine wq_to (some 5) (x_makeK h3 (by kernel_rfl)) ?_
  rintro _ w4 ⟨k4, rfl, h4⟩
  refine wq_to (some 6) (x_makeK h4 (by kernel_rfl)) ?_
  rintro _ w5 ⟨k5, rfl, h5⟩
  refine wq_p 1 [(7, (Value.agg ([(pt tb 0), (Value.map (some k3)), (Value.map (some k4)), (Value.map (some k5)), (Value.slice none 0 0)]).toArray))] ?_
  refine wq_to (some 8) (x_new h5 134 ([(pt tb 0), (Value.map (some k3)), (Value.map (some k4)), (Value.map (some k5)), (Value.slice none 0 0)]) (fun r => pt r 0) (by kernel_rfl)) ?_
  rintro _ w6 ⟨g6, rfl, h6⟩
  refine wq_p 1 [(2, (pt g6 0))] ?_
  refine wl_end rfl ?_
  refine seq_n hK2 ?_
  refine wp_ret ?_
  obtain ⟨F9, p, hp, h9⟩ := mind_new (rest := []) (h6.selS [0, 3, 2, 1] [rBlk g6 134 ([(pt tb 0), (Value.map (some k3)), (Value.map (some k4)), (Value.map (some k5)), (Value.slice none 0 0)]), rKM k3 [], rKM k4 [], rKM k5 []] (by kernel_rfl) rfl)
  refine post_1 rfl (by kernel_rfl) (rtmp (v := (pt g6 0)) (by kernel_rfl)) ?_
  exact ⟨_, p, F9, rfl, hp, h9⟩
set_option maxRecDepth 100000 in
set_option maxHeartbeats 1000000 in
theorem fits_any (m : Nat) (p : Mp) (S : KM) (F FT : Nat → Prop) (s : STab) (Lk Lb : List Bytes) (N : Nat) (v : Value) (b : Bytes) (w : World) (h : Hp (fun q => F q ∨ FT q) w w [rSB v b] [rMind F none m p S, rTab FT p.tb s]) (hS : WSl s Lk Lb N S) (hN : N ≤ 1000000) (hs : Sm s) (hl : b.length ≤ 1000000) : Calls Try.prog 56 #[pt m 0, v] w (CloseP F FT w m p s Lk Lb N fun S => .bool (fitsB S b)) := by
  obtain ⟨A, c, rfl, hc1, hc2⟩ := sb_form (h.rd 0 rfl)
  have hfl := find_len b
  have h0 := h
  refine enter 43 Try.func56 rfl rfl ?_
  refine wp_reset 45 [(0, (pt m 0)), (1, (Value.slice A b.length c))] (fun x0 => ?_)
  refine wp_seq_k ?_
  intro K1 hK1
  refine reg_lit ?_
  refine wq_p 1 [(4, (Value.bool false))] ?_
  refine wl_end rfl ?_
  refine seq_n hK1 ?_
  refine wp_seq_k ?_
  intro K2 hK2
  refine reg_lit ?_
  refine wq_p 1 [(10, (pt m 0))] ?_
  refine wq_to (some 11) (x_close h0 0 1 rfl rfl (by kernel_rfl) (by kernel_rfl) hS hN hs) ?_
  rintro _ w3 ⟨F3, S3, rfl, hM3, h3⟩
  refine wl_end rfl ?_
  refine seq_n hK2 ?_
  refine wp_seq_k ?_
  intro K4 hK4
  refine wp_seq_k ?_
  intro K5 hK5
  refine reg_lit ?_
  refine wq_p 1 [(12, (Value.slice A b.length c))] ?_
  refine wq_to (some 13) (x_find h3 b (Value.slice A b.length c) (by kernel_rfl) (h3.rd 0 rfl) hl) ?_
  rintro _ w6 ⟨A6, c6, rfl, h6⟩
  refine wq_p 2 [(15, (Value.int .i64 0)), (14, (Value.int .i64 (((findB b).length : Int))))] ?_
  refine wl_end rfl ?_
  refine seq_n hK5 ?_
  refine wp_block ?_
  refine wp_loopm (fun mM xX aA wL => ∃ (i : Nat), (i ≤ (findB b).length) ∧ (Fit S3 b (i)) ∧ mM = (findB b).length - (i) ∧ aA = patch xX 45 [(0, (pt m 0)), (1, (Value.slice A b.length c)), (13, (Value.slice A6 ((findB b).length) c6)), (14, (Value.int .i64 (((findB b).length : Int)))), (15, (Value.int .i64 ((i : Int))))] ∧ Hp (fun q => F q ∨ FT q) w wL [rSB ((Value.slice A b.length c)) b] [rOV 42 16 ((Value.slice A6 ((findB b).length) c6)) ((findB b).map vb), rMind F3 none m p S3, rTab FT p.tb s]) ⟨_, 0, (by omega), Fit.zero, rfl, (patch_eq _ 45 _ (by kernel_rfl) (by kernel_rfl) (by kernel_rfl)), h6.sel [0, 1, 2] [0] (by kernel_rfl) rfl rfl⟩ ?_
  rintro _ x7 _ w7 ⟨i, hi, hF, rfl, rfl, h7⟩
  refine wp_seq_k ?_
  intro K8 hK8
  refine reg_lit ?_
  refine wq_p 1 [(16, (Value.bool (decide ((i : Int) < ((findB b).length : Int)))))] ?_
  refine wl_end rfl ?_
  refine seq_n hK8 ?_
  refine wp_seq_k ?_
  intro K9 hK9
  refine wp_if ((i : Int) < ((findB b).length : Int)) (by kernel_rfl) (fun b10 => ?_) (fun b10 => ?_)
  ·
   refine wp_skip ?_
   refine seq_n hK9 ?_
   refine wp_seq_k ?_
   intro K11 hK11
   refine wp_block ?_
   refine wp_seq_k ?_
   intro K12 hK12
   obtain ⟨hKi, K, kd, n, hK, hm⟩ : ∃ (_ : i < (findB b).length) (K : Fin 16 → UInt8) (kd : UInt8) (n : Nat), (findB b)[i]? = some (kl K) ∧ markOf (kl K) = some (kd, n) := by
     have hx : i < (findB b).length := by omega
     obtain ⟨K, kd, n, e, hm⟩ := find_mark (List.getElem_mem hx)
     exact ⟨hx, K, kd, n, by rw [List.getElem?_eq_getElem hx, e], hm⟩
   refine reg_lit ?_
   refine wq_v (some 17) (eAt A6 (i * 16 + 0)) (e_idxN (OV.rvn (h7.at_ 0 rfl)).2 i ((findB b).length) (OV.rvn (h7.at_ 0 rfl)).1 (by omega) 40 (.tmp 13) (.tmp 15) (by kernel_rfl) .i64 (by kernel_rfl) (by kernel_rfl) 42 (by kernel_rfl) (by kernel_rfl) _) ?_
   refine wq_v (some 18) (Value.agg (vb (kl K)).toArray) (e_elemsN (OV.rvn (h7.at_ 0 rfl)).2 i 0 (vb (kl K)) (map_vb_get hK) 42 (.tmp 17) (by kernel_rfl) (vb (kl K)) (by kernel_rfl) (by kernel_rfl) (by kernel_rfl)) ?_
   refine wq_to (some 6) (x_new h7 42 (vb (List.replicate 16 0)) (fun r => pt r 0) (by kernel_rfl)) ?_
   rintro _ w13 ⟨g13, rfl, h13⟩
   refine wq_to none (x_stores h13 0 rfl 42 (.tmp 6) (.tmp 18) (by kernel_rfl) 0 (vb (kl K)) (vb (kl K)) (by kernel_rfl) (by kernel_rfl) (by kernel_rfl) (by kernel_rfl) (by kernel_rfl) (by kernel_rfl)) ?_
   rintro _ w14 h14
   refine wl_end rfl ?_
   refine seq_n hK12 ?_
   refine wp_seq_k ?_
   intro K15 hK15
   refine reg_lit ?_
   refine wq_p 1 [(20, (Value.slice (some ⟨g13, 0, none⟩) 16 16))] ?_
   refine wq_to (some 21) (x_Mark h14 (kl K) (Value.slice (some ⟨g13, 0, none⟩) 16 16) (by kernel_rfl) (SB.blk16 (K := K) (h14.at_ 0 rfl)) (Value.tuple #[(Value.int .u8 (ub kd)), (Value.int .i64 ((n : Int))), (Value.bool true)]) (by rw [hm]; rfl)) ?_
   rintro _ w16 ⟨rfl, h16⟩
   refine wq_p 7 [(9, (Value.bool true)), (8, (Value.int .i64 ((n : Int)))), (7, (Value.int .u8 (ub kd))), (24, (Value.bool true)), (23, (Value.int .i64 ((n : Int)))), (22, (Value.int .u8 (ub kd))), (19, (Value.tuple #[(Value.int .u8 (ub kd)), (Value.int .i64 ((n : Int))), (Value.bool true)]))] ?_
   refine wl_end rfl ?_
   refine seq_n hK15 ?_
   refine wp_seq_k ?_
   intro K17 hK17
   refine reg_lit ?_
   refine wq_p 1 [(25, (Value.int .u8 (ub kd)))] ?_
   refine wl_end rfl ?_
   refine seq_n hK17 ?_
   refine wp_block ?_
   refine wp_seq_k ?_
   intro K18 hK18
   refine reg_lit ?_
   refine wq_p 2 [(26, (Value.bool ((ub kd) == 107))), (27, (Value.bool ((ub kd) == 107)))] ?_
   refine wl_end rfl ?_
   refine seq_n hK18 ?_
   refine wp_ifeq (ub kd) 107 (by kernel_rfl) (fun b19 => ?_) (fun b19 => ?_)
   ·
    refine wp_seq_k ?_
    intro K20 hK20
    refine pR_go h16 7 (fun W => (rMind F3 none m p S3).Φ W ∧ (rBlk g13 42 (vb (kl K))).Φ W ∧ True) [(29, [0], 0), (30, [28], 1), (31, [29], 2), (32, [30], 4), (33, [6], 0), (34, [31, 32], 24), (35, [33], 32)] rfl (fun _ d _ _ _ h => by cases d <;> exact h) ?_
    intro hs21 w21 h21
    refine pR_p 4 [0, 1, 2] [(30, (pt m 1)), (29, (pt m 0)), (28, (pt m 0))] 7 hs21 ⟨h21.at_ 2 rfl, h21.at_ 0 rfl, trivial⟩ ?_
    refine pR_v 3 (some 31) (Value.map (some p.kb)) 15 rfl hs21 ⟨h21.at_ 2 rfl, h21.at_ 0 rfl, trivial⟩ (fun W hW => e_mload hW.1 132 (.tmp 30) (by kernel_rfl) 1 (Value.map (some p.kb)) (by kernel_rfl) (by kernel_rfl) (by kernel_rfl)) ?_
    refine pR_v 4 (some 32) (Value.agg (vb (kl K)).toArray) 31 rfl hs21 ⟨h21.at_ 2 rfl, h21.at_ 0 rfl, trivial⟩ (fun W hW => e_loads hW.2.1 42 (.tmp 6) (by kernel_rfl) 0 (vb (kl K)) (by kernel_rfl) (by kernel_rfl) (by kernel_rfl)) ?_
    refine pR_v 5 (some 33) (Value.bool (decide (kl K ∈ S3.kk))) 63 rfl hs21 ⟨h21.at_ 2 rfl, h21.at_ 0 rfl, trivial⟩ (fun W hW => e_mkk hW.1 (kl K) (kl_len _) (.tmp 31) (.tmp 32) (by kernel_rfl) (by kernel_rfl) (by kernel_rfl) (decide (kl K ∈ S3.kk)) rfl) ?_
    refine pR_p 0 [6] [(34, (Value.bool (!(decide (kl K ∈ S3.kk)))))] 127 hs21 ⟨h21.at_ 2 rfl, h21.at_ 0 rfl, trivial⟩ ?_
    refine pR_done hs21 ?_ _
    refine seq_n hK20 ?_
    refine wp_cond_split (t := !(decide (kl K ∈ S3.kk))) (by kernel_rfl) (fun b22 => ?_) (fun b22 => ?_)
    ·
     refine wp_seq_k ?_
     intro K23 hK23
     refine wp_reset 45 [(0, (pt m 0)), (1, (Value.slice A b.length c)), (6, (pt g13 0)), (7, (Value.int .u8 (ub kd))), (13, (Value.slice A6 ((findB b).length) c6)), (14, (Value.int .i64 (((findB b).length : Int)))), (15, (Value.int .i64 ((i : Int)))), (16, (Value.bool (decide ((i : Int) < ((findB b).length : Int))))), (25, (Value.int .u8 (ub kd))), (26, (Value.bool ((ub kd) == 107))), (34, (Value.bool (!(decide (kl K ∈ S3.kk)))))] (fun x24 => ?_)
     refine reg_lit ?_
     refine wq_p 1 [(4, (Value.bool false))] ?_
     refine wl_end rfl ?_
     refine seq_n hK23 ?_
     refine wp_ret ?_
     refine blk_r ?_
     refine blk_r ?_
     refine seq_r ?_
     refine seq_r ?_
     refine blk_r ?_
     refine seq_r ?_
     refine post_1 rfl (by kernel_rfl) (rtmp (v := (Value.bool false)) (by kernel_rfl)) ?_
     exact ⟨_, _, by show _ = Ending.returned (.bool (fitsB _ b)); rw [(fit_no hK (by rw [fitB_k hm b19]; simpa using b22))], hM3, h21.sel [2, 3] [] (by decide) rfl rfl⟩
    ·
     refine wp_skip ?_
     refine blk_n ?_
     refine blk_n ?_
     refine seq_n hK11 ?_
     refine wp_reset 45 [(0, (pt m 0)), (1, (Value.slice A b.length c)), (6, (pt g13 0)), (7, (Value.int .u8 (ub kd))), (13, (Value.slice A6 ((findB b).length) c6)), (14, (Value.int .i64 (((findB b).length : Int)))), (15, (Value.int .i64 ((i : Int)))), (16, (Value.bool (decide ((i : Int) < ((findB b).length : Int))))), (25, (Value.int .u8 (ub kd))), (26, (Value.bool ((ub kd) == 107))), (34, (Value.bool (!(decide (kl K ∈ S3.kk)))))] (fun x25 => ?_)
     refine reg_lit ?_
     refine wq_v (some 44) (Value.int .i64 ((i : Int) + 1)) (exec_add _ _ _ _ rfl ((i : Int)) 1 (by kernel_rfl) (by kernel_rfl) ((i : Int) + 1) rfl (by omega) (by omega) _) ?_
     refine wq_p 1 [(15, (Value.int .i64 ((i : Int) + 1)))] ?_
     refine wl_end rfl ?_
     refine ⟨(findB b).length - (i + 1), (by omega), (i + 1), (by omega), (hF.next hK (by rw [fitB_k hm b19]; simpa using b22)), rfl, (patch_eq _ 45 _ (by kernel_rfl) (by kernel_rfl) (by kernel_rfl)), h21.sel [1, 2, 3] [0] (by kernel_rfl) rfl rfl⟩
   ·
    refine wp_seq_k ?_
    intro K26 hK26
    refine reg_lit ?_
    refine wq_p 2 [(35, (Value.bool ((ub kd) == 98))), (36, (Value.bool ((ub kd) == 98)))] ?_
    refine wl_end rfl ?_
    refine seq_n hK26 ?_
    refine wp_ifeq (ub kd) 98 (by kernel_rfl) (fun b27 => ?_) (fun b27 => ?_)
    ·
     refine wp_seq_k ?_
     intro K28 hK28
     refine wp_reset 45 [(0, (pt m 0)), (1, (Value.slice A b.length c)), (6, (pt g13 0)), (7, (Value.int .u8 (ub kd))), (13, (Value.slice A6 ((findB b).length) c6)), (14, (Value.int .i64 (((findB b).length : Int)))), (15, (Value.int .i64 ((i : Int)))), (16, (Value.bool (decide ((i : Int) < ((findB b).length : Int))))), (25, (Value.int .u8 (ub kd))), (26, (Value.bool ((ub kd) == 107))), (35, (Value.bool ((ub kd) == 98)))] (fun x29 => ?_)
     refine pR_go h16 7 (fun W => (rMind F3 none m p S3).Φ W ∧ (rBlk g13 42 (vb (kl K))).Φ W ∧ True) [(38, [0], 0), (39, [37], 1), (40, [38], 2), (41, [39], 4), (42, [6], 0), (43, [40, 41], 24), (44, [42], 32)] rfl (fun _ d _ _ _ h => by cases d <;> exact h) ?_
     intro hs30 w30 h30
     refine pR_p 4 [0, 1, 2] [(39, (pt m 2)), (38, (pt m 0)), (37, (pt m 0))] 7 hs30 ⟨h30.at_ 2 rfl, h30.at_ 0 rfl, trivial⟩ ?_
     refine pR_v 3 (some 40) (Value.map (some p.bb)) 15 rfl hs30 ⟨h30.at_ 2 rfl, h30.at_ 0 rfl, trivial⟩ (fun W hW => e_mload hW.1 132 (.tmp 39) (by kernel_rfl) 2 (Value.map (some p.bb)) (by kernel_rfl) (by kernel_rfl) (by kernel_rfl)) ?_
     refine pR_v 4 (some 41) (Value.agg (vb (kl K)).toArray) 31 rfl hs30 ⟨h30.at_ 2 rfl, h30.at_ 0 rfl, trivial⟩ (fun W hW => e_loads hW.2.1 42 (.tmp 6) (by kernel_rfl) 0 (vb (kl K)) (by kernel_rfl) (by kernel_rfl) (by kernel_rfl)) ?_
     refine pR_v 5 (some 42) (Value.bool (decide (kl K ∈ S3.bx))) 63 rfl hs30 ⟨h30.at_ 2 rfl, h30.at_ 0 rfl, trivial⟩ (fun W hW => e_mbx hW.1 (kl K) (kl_len _) (.tmp 40) (.tmp 41) (by kernel_rfl) (by kernel_rfl) (by kernel_rfl) (decide (kl K ∈ S3.bx)) rfl) ?_
     refine pR_p 0 [6] [(43, (Value.bool (!(decide (kl K ∈ S3.bx)))))] 127 hs30 ⟨h30.at_ 2 rfl, h30.at_ 0 rfl, trivial⟩ ?_
     refine pR_done hs30 ?_ _
     refine seq_n hK28 ?_
     refine wp_cond_split (t := !(decide (kl K ∈ S3.bx))) (by kernel_rfl) (fun b31 => ?_) (fun b31 => ?_)
     ·
      refine wp_seq_k ?_
      intro K32 hK32
      refine reg_lit ?_
      refine wq_p 1 [(4, (Value.bool false))] ?_
      refine wl_end rfl ?_
      refine seq_n hK32 ?_
      refine wp_ret ?_
      refine blk_r ?_
      refine blk_r ?_
      refine seq_r ?_
      refine seq_r ?_
      refine blk_r ?_
      refine seq_r ?_
      refine post_1 rfl (by kernel_rfl) (rtmp (v := (Value.bool false)) (by kernel_rfl)) ?_
      exact ⟨_, _, by show _ = Ending.returned (.bool (fitsB _ b)); rw [(fit_no hK (by rw [fitB_b hm b27]; simpa using b31))], hM3, h30.sel [2, 3] [] (by decide) rfl rfl⟩
     ·
      refine wp_skip ?_
      refine blk_n ?_
      refine blk_n ?_
      refine seq_n hK11 ?_
      refine reg_lit ?_
      refine wq_v (some 44) (Value.int .i64 ((i : Int) + 1)) (exec_add _ _ _ _ rfl ((i : Int)) 1 (by kernel_rfl) (by kernel_rfl) ((i : Int) + 1) rfl (by omega) (by omega) _) ?_
      refine wq_p 1 [(15, (Value.int .i64 ((i : Int) + 1)))] ?_
      refine wl_end rfl ?_
      refine ⟨(findB b).length - (i + 1), (by omega), (i + 1), (by omega), (hF.next hK (by rw [fitB_b hm b27]; simpa using b31)), rfl, (patch_eq _ 45 _ (by kernel_rfl) (by kernel_rfl) (by kernel_rfl)), h30.sel [1, 2, 3] [0] (by kernel_rfl) rfl rfl⟩
    ·
     refine wp_skip ?_
     refine blk_n ?_
     refine blk_n ?_
     refine seq_n hK11 ?_
     refine wp_reset 45 [(0, (pt m 0)), (1, (Value.slice A b.length c)), (6, (pt g13 0)), (7, (Value.int .u8 (ub kd))), (13, (Value.slice A6 ((findB b).length) c6)), (14, (Value.int .i64 (((findB b).length : Int)))), (15, (Value.int .i64 ((i : Int)))), (16, (Value.bool (decide ((i : Int) < ((findB b).length : Int))))), (25, (Value.int .u8 (ub kd))), (26, (Value.bool ((ub kd) == 107))), (35, (Value.bool ((ub kd) == 98)))] (fun x33 => ?_)
     refine reg_lit ?_
     refine wq_v (some 44) (Value.int .i64 ((i : Int) + 1)) (exec_add _ _ _ _ rfl ((i : Int)) 1 (by kernel_rfl) (by kernel_rfl) ((i : Int) + 1) rfl (by omega) (by omega) _) ?_
     refine wq_p 1 [(15, (Value.int .i64 ((i : Int) + 1)))] ?_
     refine wl_end rfl ?_
     refine ⟨(findB b).length - (i + 1), (by omega), (i + 1), (by omega), (hF.next hK (fitB_n hm b19 b27)), rfl, (patch_eq _ 45 _ (by kernel_rfl) (by kernel_rfl) (by kernel_rfl)), h16.sel [1, 2, 3] [0] (by kernel_rfl) rfl rfl⟩
  ·
   refine wp_exit ?_
   refine seq_e ?_
   refine seq_e ?_
   refine blk_e ?_
   refine seq_n hK4 ?_
   refine wp_seq_k ?_
   intro K34 hK34
   refine reg_lit ?_
   refine wq_p 1 [(4, (Value.bool true))] ?_
   refine wl_end rfl ?_
   refine seq_n hK34 ?_
   refine wp_ret ?_
   refine post_1 rfl (by kernel_rfl) (rtmp (v := (Value.bool true)) (by kernel_rfl)) ?_
   exact ⟨_, _, by show _ = Ending.returned (.bool (fitsB _ b)); rw [hF.all (by omega)], hM3, h7.sel [1, 2] [] (by decide) rfl rfl⟩
set_option maxRecDepth 100000 in
set_option maxHeartbeats 1000000 in
theorem kkeys_any (m : Nat) (p : Mp) (S : KM) (F FT : Nat → Prop) (s : STab) (Lk Lb : List Bytes) (N : Nat) (w : World) (h : Hp (fun q => F q ∨ FT q) w w [] [rMind F none m p S, rTab FT p.tb s]) (hS : WSl s Lk Lb N S) (hN : N ≤ 1000000) (hs : Sm s) : Calls Try.prog 55 #[pt m 0] w fun e w' => ∃ F' S' A c, e = .returned (.slice A (knownN S' s.keys.length) c) ∧ MSl s Lk Lb N S' ∧ Hp (fun q => F q ∨ FT q) w w' [] [rMind F' none m p S', rTab FT p.tb s] := by
  have hkn := hs.kn
  have h0 := h
  refine enter 33 Try.func55 rfl rfl ?_
  refine wp_reset 34 [(0, (pt m 0))] (fun x0 => ?_)
  refine wp_seq_k ?_
  intro K1 hK1
  refine reg_lit ?_
  refine wq_p 1 [(2, (Value.slice none 0 0))] ?_
  refine wl_end rfl ?_
  refine seq_n hK1 ?_
  refine wp_seq_k ?_
  intro K2 hK2
  refine reg_lit ?_
  refine wq_p 1 [(6, (pt m 0))] ?_
  refine wq_to (some 7) (x_close h0 0 1 rfl rfl (by kernel_rfl) (by kernel_rfl) hS hN hs) ?_
  rintro _ w3 ⟨F3, S3, rfl, hM3, h3⟩
  refine wl_end rfl ?_
  refine seq_n hK2 ?_
  refine wp_seq_k ?_
  intro K4 hK4
  refine reg_lit ?_
  refine wq_p 1 [(3, (Value.slice none 0 0))] ?_
  refine wl_end rfl ?_
  refine seq_n hK4 ?_
  refine wp_seq_k ?_
  intro K5 hK5
  refine wp_seq_k ?_
  intro K6 hK6
  have h7 := h3.ovNil 42 16
  
  refine reg_lit ?_
  refine wq_p 1 [(4, (Value.int .i64 1))] ?_
  refine wl_end rfl ?_
  refine seq_n hK6 ?_
  refine wp_block ?_
  refine wp_loopm (fun mM xX aA wL => ∃ (n : Nat) (ys : List (List Value)) (A : Option Addr) (d : Nat) (l : Nat), ((ys : List (List Value)).length = l) ∧ (l = knownN S3 (n)) ∧ (n ≤ s.keys.length) ∧ mM = s.keys.length - (n) ∧ aA = patch xX 34 [(0, (pt m 0)), (2, (Value.slice none 0 0)), (3, (Value.slice A l d)), (4, (Value.int .i64 ((n + 1 : Int))))] ∧ Hp (fun q => F q ∨ FT q) w wL [] [rOV 42 16 ((Value.slice A l d)) ys, rMind F3 none m p S3, rTab FT p.tb s]) ⟨_, 0, ([]), none, 0, 0, rfl, rfl, (by omega), rfl, (patch_eq _ 34 _ (by kernel_rfl) (by kernel_rfl) (by kernel_rfl)), h7.sel [0, 1, 2] [] (by kernel_rfl) rfl rfl⟩ ?_
  rintro _ x8 _ w8 ⟨n, ys, A, d, l, hy, hl, hn, rfl, rfl, h8⟩
  refine wp_seq_k ?_
  intro K9 hK9
  refine wp_seq_k ?_
  intro K10 hK10
  refine reg_lit ?_
  refine wq_p 4 [(11, (pt m 0)), (10, (pt m 0)), (9, (pt m 0)), (8, (Value.int .i64 ((n + 1 : Int))))] ?_
  refine wq_v (some 12) (pt p.tb 0) (e_mload (h8.at_ 1 rfl) 46 (.tmp 11) (by kernel_rfl) 0 (pt p.tb 0) (by kernel_rfl) (by kernel_rfl) (by kernel_rfl)) ?_
  refine wq_to (some 13) (x_nkeys h8 2 rfl (by kernel_rfl)) ?_
  rintro _ w11 ⟨rfl, h11⟩
  refine wq_p 1 [(14, (Value.bool (decide ((n + 1 : Int) ≤ (s.keys.length : Int)))))] ?_
  refine wl_end rfl ?_
  refine seq_n hK10 ?_
  refine wp_if ((n + 1 : Int) ≤ (s.keys.length : Int)) (by kernel_rfl) (fun b12 => ?_) (fun b12 => ?_)
  ·
   refine wp_skip ?_
   refine seq_n hK9 ?_
   refine wp_seq_k ?_
   intro K13 hK13
   refine wp_block ?_
   refine wp_seq_k ?_
   intro K14 hK14
   refine reg_lit ?_
   refine wq_p 3 [(19, (pt m 0)), (18, (pt m 0)), (17, (pt m 0))] ?_
   refine wq_v (some 20) (pt p.tb 0) (e_mload (h11.at_ 1 rfl) 46 (.tmp 19) (by kernel_rfl) 0 (pt p.tb 0) (by kernel_rfl) (by kernel_rfl) (by kernel_rfl)) ?_
   refine wq_p 1 [(21, (Value.int .i64 ((n + 1 : Int))))] ?_
   refine wq_to (some 22) (x_nth (tb := p.tb) h11 (n + 1) (by kernel_rfl) (by omega)) ?_
   rintro _ w15 ⟨K15, rfl, hK15, h15⟩
   refine wq_to (some 5) (x_new h15 42 (vb (List.replicate 16 0)) (fun r => pt r 0) (by kernel_rfl)) ?_
   rintro _ w16 ⟨g16, rfl, h16⟩
   refine wq_to none (x_stores h16 0 rfl 42 (.tmp 5) (.tmp 22) (by kernel_rfl) 0 (vb (kl K15)) (vb (kl K15)) (by kernel_rfl) (by kernel_rfl) (by kernel_rfl) (by kernel_rfl) (by kernel_rfl) (by kernel_rfl)) ?_
   rintro _ w17 h17
   refine wl_end rfl ?_
   refine seq_n hK14 ?_
   refine wp_seq_k ?_
   intro K18 hK18
   have hKn := hK15
   rcases (show kl K15 ∈ S3.kk ∨ kl K15 ∉ S3.kk from Classical.em _) with hin | hin
   ·
    refine pR_go h17 6 (fun W => (rMind F3 none m p S3).Φ W ∧ (rBlk g16 42 (vb (kl K15))).Φ W ∧ True) [(24, [0], 0), (25, [23], 1), (26, [24], 2), (27, [25], 4), (28, [5], 0), (29, [26, 27], 24)] rfl (fun _ d _ _ _ h => by cases d <;> exact h) ?_
    intro hs20 w20 h20
    refine pR_p 3 [0, 1, 2] [(25, (pt m 1)), (24, (pt m 0)), (23, (pt m 0))] 7 hs20 ⟨h20.at_ 2 rfl, h20.at_ 0 rfl, trivial⟩ ?_
    refine pR_v 3 (some 26) (Value.map (some p.kb)) 15 rfl hs20 ⟨h20.at_ 2 rfl, h20.at_ 0 rfl, trivial⟩ (fun W hW => e_mload hW.1 132 (.tmp 25) (by kernel_rfl) 1 (Value.map (some p.kb)) (by kernel_rfl) (by kernel_rfl) (by kernel_rfl)) ?_
    refine pR_v 4 (some 27) (Value.agg (vb (kl K15)).toArray) 31 rfl hs20 ⟨h20.at_ 2 rfl, h20.at_ 0 rfl, trivial⟩ (fun W hW => e_loads hW.2.1 42 (.tmp 5) (by kernel_rfl) 0 (vb (kl K15)) (by kernel_rfl) (by kernel_rfl) (by kernel_rfl)) ?_
    refine pR_v 5 (some 28) (Value.bool true) 63 rfl hs20 ⟨h20.at_ 2 rfl, h20.at_ 0 rfl, trivial⟩ (fun W hW => e_mkk hW.1 (kl K15) (kl_len _) (.tmp 26) (.tmp 27) (by kernel_rfl) (by kernel_rfl) (by kernel_rfl) true (decide_eq_true hin)) ?_
    refine pR_done hs20 ?_ _
    refine seq_n hK18 ?_
    refine wp_cond_true (by kernel_rfl) ?_
    refine reg_lit ?_
    refine wq_p 1 [(29, (Value.slice A l d))] ?_
    refine wq_v (some 30) (Value.agg (vb (kl K15)).toArray) (e_loads (h20.at_ 0 rfl) 42 (.tmp 5) (by kernel_rfl) 0 (vb (kl K15)) (by kernel_rfl) (by kernel_rfl) (by kernel_rfl)) ?_
    refine wq_to (some 31) (x_bs h20 42 (vb (kl K15)) 1 (by kernel_rfl)) ?_
    rintro _ w21 ⟨g21, rfl, h21⟩
    refine wq_to (some 32) (x_pushG h21 2 0 rfl rfl (by kernel_rfl) (.tmp 29) (.tmp 31) 40 (by kernel_rfl) 16 (Value.agg (vb (List.replicate 16 0)).toArray) (by kernel_rfl) (by kernel_rfl) (by kernel_rfl) (by kernel_rfl) (by kernel_rfl) 1 (by kernel_rfl) (by kernel_rfl) (by kernel_rfl) (by rw [hy, hl]; have := knownN_le (S := S3) (n := n); omega) (by rw [hy, hl]; have := knownN_le (S := S3) (n := n); unfold maxLen; omega) (ys ++ [vb (kl K15)]) ((l + 1)) rfl (by simp [hy])) ?_
    rintro _ w22 ⟨A22, c22, rfl, h22⟩
    refine wq_p 1 [(3, (Value.slice A22 ((l + 1)) c22))] ?_
    refine wl_end rfl ?_
    refine blk_n ?_
    refine seq_n hK13 ?_
    refine reg_lit ?_
    refine wq_p 1 [(15, (Value.int .i64 ((n + 1 : Int))))] ?_
    refine wq_v (some 16) (Value.int .i64 ((n + 1 : Int) + 1)) (exec_add _ _ _ _ rfl ((n + 1 : Int)) 1 (by kernel_rfl) (by kernel_rfl) ((n + 1 : Int) + 1) rfl (by omega) (by omega) _) ?_
    refine wq_p 1 [(4, (Value.int .i64 ((n + 1 : Int) + 1)))] ?_
    refine wl_end rfl ?_
    refine ⟨s.keys.length - (n + 1), (by omega), (n + 1), (ys ++ [vb (kl K15)]), A22, c22, ((l + 1)), (by simp [hy]), (by rw [knownN_yes hKn hin, hl]), (by omega), rfl, (patch_eq _ 34 _ (by kernel_rfl) (by kernel_rfl) (by kernel_rfl)), h22.sel [2, 3, 4] [] (by kernel_rfl) rfl rfl⟩
   ·
    refine pR_go h17 6 (fun W => (rMind F3 none m p S3).Φ W ∧ (rBlk g16 42 (vb (kl K15))).Φ W ∧ True) [(24, [0], 0), (25, [23], 1), (26, [24], 2), (27, [25], 4), (28, [5], 0), (29, [26, 27], 24)] rfl (fun _ d _ _ _ h => by cases d <;> exact h) ?_
    intro hs23 w23 h23
    refine pR_p 3 [0, 1, 2] [(25, (pt m 1)), (24, (pt m 0)), (23, (pt m 0))] 7 hs23 ⟨h23.at_ 2 rfl, h23.at_ 0 rfl, trivial⟩ ?_
    refine pR_v 3 (some 26) (Value.map (some p.kb)) 15 rfl hs23 ⟨h23.at_ 2 rfl, h23.at_ 0 rfl, trivial⟩ (fun W hW => e_mload hW.1 132 (.tmp 25) (by kernel_rfl) 1 (Value.map (some p.kb)) (by kernel_rfl) (by kernel_rfl) (by kernel_rfl)) ?_
    refine pR_v 4 (some 27) (Value.agg (vb (kl K15)).toArray) 31 rfl hs23 ⟨h23.at_ 2 rfl, h23.at_ 0 rfl, trivial⟩ (fun W hW => e_loads hW.2.1 42 (.tmp 5) (by kernel_rfl) 0 (vb (kl K15)) (by kernel_rfl) (by kernel_rfl) (by kernel_rfl)) ?_
    refine pR_v 5 (some 28) (Value.bool false) 63 rfl hs23 ⟨h23.at_ 2 rfl, h23.at_ 0 rfl, trivial⟩ (fun W hW => e_mkk hW.1 (kl K15) (kl_len _) (.tmp 26) (.tmp 27) (by kernel_rfl) (by kernel_rfl) (by kernel_rfl) false (decide_eq_false hin)) ?_
    refine pR_done hs23 ?_ _
    refine seq_n hK18 ?_
    refine wp_cond_false (by kernel_rfl) ?_
    refine wp_skip ?_
    refine blk_n ?_
    refine seq_n hK13 ?_
    refine reg_lit ?_
    refine wq_p 1 [(15, (Value.int .i64 ((n + 1 : Int))))] ?_
    refine wq_v (some 16) (Value.int .i64 ((n + 1 : Int) + 1)) (exec_add _ _ _ _ rfl ((n + 1 : Int)) 1 (by kernel_rfl) (by kernel_rfl) ((n + 1 : Int) + 1) rfl (by omega) (by omega) _) ?_
    refine wq_p 1 [(4, (Value.int .i64 ((n + 1 : Int) + 1)))] ?_
    refine wl_end rfl ?_
    refine ⟨s.keys.length - (n + 1), (by omega), (n + 1), ys, A, d, l, hy, (by rw [knownN_no hKn hin, hl]), (by omega), rfl, (patch_eq _ 34 _ (by kernel_rfl) (by kernel_rfl) (by kernel_rfl)), h23.sel [1, 2, 3] [] (by kernel_rfl) rfl rfl⟩
  ·
   refine wp_exit ?_
   refine seq_e ?_
   refine seq_e ?_
   refine blk_e ?_
   refine seq_n hK5 ?_
   refine wp_seq_k ?_
   intro K24 hK24
   refine reg_lit ?_
   refine wq_p 2 [(2, (Value.slice A l d)), (33, (Value.slice A l d))] ?_
   refine wl_end rfl ?_
   refine seq_n hK24 ?_
   refine wp_ret ?_
   refine post_1 rfl (by kernel_rfl) (rtmp (v := (Value.slice A l d)) (by kernel_rfl)) ?_
   have hn2 : n = s.keys.length := by omega
   subst hn2
   exact ⟨_, _, _, _, by rw [hl], hM3, h11.sel [1, 2] [] (by decide) rfl rfl⟩
end Go.Proofs.Ytjjcnijdjhhdoaa
end
/-! Bytes that stand in others. -/
section
namespace Go.Proofs.Ytjjcnijdjhhdoaa
open Go.RowKit Go.QT
def standsB (x b : Bytes) : Bool := (List.range (x.length + 1 - b.length)).any fun j => decide ((x.take (j + b.length)).drop j = b)
/-- A call that leaves nothing but its answer. -/
def AnsPost (w : World) (v : Value) (e : Ending) (w' : World) : Prop := e = .returned v ∧ Below w.heap.size w w'
theorem stands_yes {x b : Bytes} {i : Nat} (hi : i + b.length ≤ x.length) (h : (x.take (i + b.length)).drop i = b) : standsB x b = true := by
  unfold standsB
  rw [List.any_eq_true]
  exact ⟨i, List.mem_range.2 (by omega), by simpa using h⟩
theorem stands_no {x b : Bytes} {i : Nat} (hi : ¬ i + b.length ≤ x.length) (h : ∀ j, j < i → (x.take (j + b.length)).drop j ≠ b) : standsB x b = false := by
  unfold standsB
  rw [List.any_eq_false]
  intro j hj
  have := List.mem_range.1 hj
  simpa using h j (by omega)
theorem lt_snoc {p : Nat → Prop} {i : Nat} (h : ∀ j, j < i → p j) (hi : p i) : ∀ j, j < i + 1 → p j := fun j hj => by
  by_cases e : j = i
  · rw [e]; exact hi
  · exact h j (by omega)
theorem eq_of_gb {l m : Bytes} (h : l.length = m.length) (hg : ∀ j, j < l.length → gb l j = gb m j) : l = m := by
  apply List.ext_getElem h
  intro i h1 h2
  have := hg i h1
  simpa [gb, h1, h2] using this
section
variable {F0 : Nat → Prop} {w0 w : World} {ro rs : List Res} {o : Oper} {a : Act} {P : Program}
theorem x_anspost (h : Hp F0 w0 w ro rs) {v : Value} (fn : FuncId) (al : List Value) (hp : pureVal P (execOp a.eval o) = some (.enter fn al.toArray)) (hc : Calls P fn al.toArray w (AnsPost w v)) :
    OpTo P o a w (fun u w' => u = v ∧ Hp F0 w0 w' ro rs) :=
  OpTo.enter fn al hp hc fun _e _w' hq => ⟨_, hq.1, rfl, h.below hq.2⟩
theorem sbsget {vs : List Value} {ls : List Bytes} (h : (rSBs vs ls).Φ w) (hn : vs.length = ls.length) (i : Nat) (hi : i < ls.length) : ∃ A c y, vs[i]? = some (Value.slice A y.length c) ∧ ls[i]? = some y := by
  have h1 : vs[i]? = some vs[i] := List.getElem?_eq_getElem (by omega)
  have h2 : ls[i]? = some ls[i] := List.getElem?_eq_getElem hi
  obtain ⟨A, c, e, _⟩ := h i _ _ h1 h2
  exact ⟨A, c, ls[i], by rw [h1, e], h2⟩
theorem addRB (h : Hp F0 w0 w ro []) (r : Res) (hr : r.Φ w) : Hp F0 w0 w (r :: ro) [] := h.addR r hr (by simp)
end
end Go.Proofs.Ytjjcnijdjhhdoaa
end
/-! The walks of slices.Equal, stands, Says. -/
section
namespace Go.Proofs.Ytjjcnijdjhhdoaa
open Go.RowKit Go.QT
set_option maxRecDepth 100000 in
set_option maxHeartbeats 1000000 in
theorem sequal_any (u v : Value) (l m : Bytes) (w : World) (hu : SB w u l) (hv : SB w v m) : Calls Try.prog 88 #[u, v] w (AnsPost w (.bool (decide (l = m)))) := by
  obtain ⟨A, c, rfl, hc1, hc2⟩ := sb_form hu
  obtain ⟨B, d, rfl, hd1, hd2⟩ := sb_form hv
  have h0 := addRB (addRB (Hp.nil (fun _ => False) w) (rSB _ m) hv) (rSB _ l) hu
  refine enter 24 Try.func88 rfl rfl ?_
  refine wp_reset 26 [(0, (Value.slice A l.length c)), (1, (Value.slice B m.length d))] (fun x0 => ?_)
  refine wp_seq_k ?_
  intro K1 hK1
  refine reg_lit ?_
  refine wq_p 1 [(4, (Value.bool false))] ?_
  refine wl_end rfl ?_
  refine seq_n hK1 ?_
  refine wp_seq_k ?_
  intro K2 hK2
  refine wp_seq_k ?_
  intro K3 hK3
  refine reg_lit ?_
  refine wq_p 5 [(10, (Value.bool (((l.length : Int)) != ((m.length : Int))))), (9, (Value.int .i64 ((m.length : Int)))), (8, (Value.slice B m.length d)), (7, (Value.int .i64 ((l.length : Int)))), (6, (Value.slice A l.length c))] ?_
  refine wl_end rfl ?_
  refine seq_n hK3 ?_
  refine wp_ifne ((l.length : Int)) ((m.length : Int)) (by kernel_rfl) (fun b4 => ?_) (fun b4 => ?_)
  ·
   have hne : ¬ l.length = m.length := by have := b4; omega
   refine wp_seq_k ?_
   intro K5 hK5
   refine reg_lit ?_
   refine wq_p 1 [(4, (Value.bool false))] ?_
   refine wl_end rfl ?_
   refine seq_n hK5 ?_
   refine wp_ret ?_
   refine seq_r ?_
   refine post_1 rfl (by kernel_rfl) (rtmp (v := (Value.bool false)) (by kernel_rfl)) ?_
   exact ⟨by rw [decide_eq_false (fun e => hne (by rw [e]))], h0.below0⟩
  ·
   have hlm : l.length = m.length := by have := b4; omega
   refine wp_skip ?_
   refine seq_n hK2 ?_
   refine wp_seq_k ?_
   intro K6 hK6
   refine wp_seq_k ?_
   intro K7 hK7
   refine reg_lit ?_
   refine wq_p 3 [(13, (Value.int .i64 0)), (12, (Value.int .i64 ((l.length : Int)))), (11, (Value.slice A l.length c))] ?_
   refine wl_end rfl ?_
   refine seq_n hK7 ?_
   refine wp_block ?_
   refine wp_loopm (fun mM xX aA wL => ∃ (i : Nat), (i ≤ l.length) ∧ (∀ j, j < i → gb l j = gb m j) ∧ mM = l.length - (i) ∧ aA = patch xX 26 [(0, (Value.slice A l.length c)), (1, (Value.slice B m.length d)), (10, (Value.bool (((l.length : Int)) != ((m.length : Int))))), (12, (Value.int .i64 ((l.length : Int)))), (13, (Value.int .i64 ((i : Int))))] ∧ Hp (fun _ => False) w wL [rSB ((Value.slice A l.length c)) l, rSB ((Value.slice B m.length d)) m] []) ⟨_, 0, (by omega), (fun j hj => absurd hj (by omega)), rfl, (patch_eq _ 26 _ (by kernel_rfl) (by kernel_rfl) (by kernel_rfl)), h0.sel [] [0, 1] (by kernel_rfl) rfl rfl⟩ ?_
   rintro _ x8 _ w8 ⟨i, hi, hF, rfl, rfl, h8⟩
   refine wp_seq_k ?_
   intro K9 hK9
   refine reg_lit ?_
   refine wq_p 1 [(14, (Value.bool (decide ((i : Int) < (l.length : Int)))))] ?_
   refine wl_end rfl ?_
   refine seq_n hK9 ?_
   refine wp_seq_k ?_
   intro K10 hK10
   refine wp_if ((i : Int) < (l.length : Int)) (by kernel_rfl) (fun b11 => ?_) (fun b11 => ?_)
   ·
    refine wp_skip ?_
    refine seq_n hK10 ?_
    refine wp_seq_k ?_
    intro K12 hK12
    refine wp_block ?_
    refine wp_seq_k ?_
    intro K13 hK13
    refine reg_lit ?_
    refine wq_p 2 [(5, (Value.int .i64 ((i : Int)))), (15, (Value.int .i64 ((i : Int))))] ?_
    refine wl_end rfl ?_
    refine seq_n hK13 ?_
    refine wp_seq_k ?_
    intro K14 hK14
    refine pR_go h8 9 (fun W => (rSB ((Value.slice A l.length c)) l).Φ W ∧ (rSB ((Value.slice B m.length d)) m).Φ W ∧ True) [(17, [0], 0), (18, [5], 0), (19, [16, 17], 3), (20, [18], 4), (21, [1], 0), (22, [5], 0), (23, [20, 21], 48), (24, [22], 64), (25, [19, 23], 136)] rfl (fun _ d _ _ _ h => by cases d <;> exact h) ?_
    intro hs15 w15 h15
    refine pR_p 5 [0, 1, 4, 5] [(21, (Value.int .i64 ((i : Int)))), (20, (Value.slice B m.length d)), (17, (Value.int .i64 ((i : Int)))), (16, (Value.slice A l.length c))] 51 hs15 ⟨h15.rd 0 rfl, h15.rd 1 rfl, trivial⟩ ?_
    refine pR_v 2 (some 18) (eAt A (i * 1 + 0)) 55 rfl hs15 ⟨h15.rd 0 rfl, h15.rd 1 rfl, trivial⟩ (fun W hW => e_idxN (SB.rvn (h15.rd 0 rfl)).2 i l.length (SB.rvn (h15.rd 0 rfl)).1 (by omega) 28 (.tmp 16) (.tmp 17) (by kernel_rfl) .i64 (by kernel_rfl) (by kernel_rfl) 5 (by kernel_rfl) (by kernel_rfl) _) ?_
    refine pR_v 6 (some 22) (eAt B (i * 1 + 0)) 119 rfl hs15 ⟨h15.rd 0 rfl, h15.rd 1 rfl, trivial⟩ (fun W hW => e_idxN (SB.rvn (h15.rd 1 rfl)).2 i m.length (SB.rvn (h15.rd 1 rfl)).1 (by omega) 28 (.tmp 20) (.tmp 21) (by kernel_rfl) .i64 (by kernel_rfl) (by kernel_rfl) 5 (by kernel_rfl) (by kernel_rfl) _) ?_
    refine pR_v 3 (some 19) (Value.int .u8 (ub (gb (l) (i)))) 127 rfl hs15 ⟨h15.rd 0 rfl, h15.rd 1 rfl, trivial⟩ (fun W hW => e_elemN (SB.rvn hW.1).2 i 0 ([(Value.int .u8 (ub (gb (l) (i))))]) (bx_get _ _ (by omega)) 5 (.tmp 18) (by kernel_rfl) (Value.int .u8 (ub (gb (l) (i)))) (by kernel_rfl) (by kernel_rfl) (by kernel_rfl)) ?_
    refine pR_v 7 (some 23) (Value.int .u8 (ub (gb (m) (i)))) 255 rfl hs15 ⟨h15.rd 0 rfl, h15.rd 1 rfl, trivial⟩ (fun W hW => e_elemN (SB.rvn hW.2.1).2 i 0 ([(Value.int .u8 (ub (gb (m) (i))))]) (bx_get _ _ (by omega)) 5 (.tmp 22) (by kernel_rfl) (Value.int .u8 (ub (gb (m) (i)))) (by kernel_rfl) (by kernel_rfl) (by kernel_rfl)) ?_
    refine pR_p 0 [8] [(24, (Value.bool ((ub (gb (l) (i))) != (ub (gb (m) (i))))))] 511 hs15 ⟨h15.rd 0 rfl, h15.rd 1 rfl, trivial⟩ ?_
    refine pR_done hs15 ?_ _
    refine seq_n hK14 ?_
    refine wp_ifne (ub (gb (l) (i))) (ub (gb (m) (i))) (by kernel_rfl) (fun b16 => ?_) (fun b16 => ?_)
    ·
     have hne : ¬ ub (gb l i) = ub (gb m i) := b16
     refine wp_seq_k ?_
     intro K17 hK17
     refine reg_lit ?_
     refine wq_p 1 [(4, (Value.bool false))] ?_
     refine wl_end rfl ?_
     refine seq_n hK17 ?_
     refine wp_ret ?_
     refine blk_r ?_
     refine seq_r ?_
     refine seq_r ?_
     refine blk_r ?_
     refine seq_r ?_
     refine post_1 rfl (by kernel_rfl) (rtmp (v := (Value.bool false)) (by kernel_rfl)) ?_
     exact ⟨by rw [decide_eq_false (fun e => hne (by rw [e]))], h15.below0⟩
    ·
     have heq : ub (gb l i) = ub (gb m i) := b16
     refine wp_skip ?_
     refine blk_n ?_
     refine seq_n hK12 ?_
     refine reg_lit ?_
     refine wq_v (some 25) (Value.int .i64 ((i : Int) + 1)) (exec_add _ _ _ _ rfl ((i : Int)) 1 (by kernel_rfl) (by kernel_rfl) ((i : Int) + 1) rfl (by omega) (by omega) _) ?_
     refine wq_p 1 [(13, (Value.int .i64 ((i : Int) + 1)))] ?_
     refine wl_end rfl ?_
     refine ⟨l.length - (i + 1), (by omega), (i + 1), (by omega), (lt_snoc hF (ub_inj.1 heq)), rfl, (patch_eq _ 26 _ (by kernel_rfl) (by kernel_rfl) (by kernel_rfl)), h15.sel [] [0, 1] (by kernel_rfl) rfl rfl⟩
   ·
    refine wp_exit ?_
    refine seq_e ?_
    refine seq_e ?_
    refine blk_e ?_
    refine seq_n hK6 ?_
    refine wp_seq_k ?_
    intro K18 hK18
    refine reg_lit ?_
    refine wq_p 1 [(4, (Value.bool true))] ?_
    refine wl_end rfl ?_
    refine seq_n hK18 ?_
    refine wp_ret ?_
    refine post_1 rfl (by kernel_rfl) (rtmp (v := (Value.bool true)) (by kernel_rfl)) ?_
    exact ⟨by rw [decide_eq_true (eq_of_gb hlm fun j hj => hF j (by omega))], h8.below0⟩
set_option maxRecDepth 100000 in
set_option maxHeartbeats 1000000 in
theorem stands_any (u v : Value) (x b : Bytes) (w : World) (hu : SB w u x) (hv : SB w v b) (hx7 : x.length ≤ 1000000) (hb7 : b.length ≤ 1000000) : Calls Try.prog 87 #[u, v] w (AnsPost w (.bool (standsB x b))) := by
  obtain ⟨A, c, rfl, hc1, hc2⟩ := sb_form hu
  obtain ⟨B, d, rfl, hd1, hd2⟩ := sb_form hv
  have h0 := addRB (addRB (Hp.nil (fun _ => False) w) (rSB _ b) hv) (rSB _ x) hu
  refine enter 22 Try.func87 rfl rfl ?_
  refine wp_reset 24 [(0, (Value.slice A x.length c)), (1, (Value.slice B b.length d))] (fun x0 => ?_)
  refine wp_seq_k ?_
  intro K1 hK1
  refine reg_lit ?_
  refine wq_p 1 [(4, (Value.bool false))] ?_
  refine wl_end rfl ?_
  refine seq_n hK1 ?_
  refine wp_seq_k ?_
  intro K2 hK2
  refine wp_seq_k ?_
  intro K3 hK3
  refine reg_lit ?_
  refine wq_p 1 [(5, (Value.int .i64 0))] ?_
  refine wl_end rfl ?_
  refine seq_n hK3 ?_
  refine wp_block ?_
  refine wp_loopm (fun mM xX aA wL => ∃ (i : Nat), (i ≤ x.length + 1) ∧ (∀ j, j < i → (x.take (j + b.length)).drop j ≠ b) ∧ mM = x.length + 1 - (i) ∧ aA = patch xX 24 [(0, (Value.slice A x.length c)), (1, (Value.slice B b.length d)), (5, (Value.int .i64 ((i : Int))))] ∧ Hp (fun _ => False) w wL [rSB ((Value.slice A x.length c)) x, rSB ((Value.slice B b.length d)) b] []) ⟨_, 0, (by omega), (fun j hj => absurd hj (by omega)), rfl, (patch_eq _ 24 _ (by kernel_rfl) (by kernel_rfl) (by kernel_rfl)), h0.sel [] [0, 1] (by kernel_rfl) rfl rfl⟩ ?_
  rintro _ x4 _ w4 ⟨i, hi, hF, rfl, rfl, h4⟩
  refine wp_seq_k ?_
  intro K5 hK5
  refine wp_seq_k ?_
  intro K6 hK6
  refine reg_lit ?_
  refine wq_p 3 [(8, (Value.int .i64 ((b.length : Int)))), (7, (Value.slice B b.length d)), (6, (Value.int .i64 ((i : Int))))] ?_
  refine wq_v (some 9) (Value.int .i64 ((i : Int) + (b.length : Int))) (exec_add _ _ _ _ rfl ((i : Int)) ((b.length : Int)) (by kernel_rfl) (by kernel_rfl) ((i : Int) + (b.length : Int)) rfl (by omega) (by omega) _) ?_
  refine wq_p 3 [(12, (Value.bool (decide ((i : Int) + (b.length : Int) ≤ (x.length : Int))))), (11, (Value.int .i64 ((x.length : Int)))), (10, (Value.slice A x.length c))] ?_
  refine wl_end rfl ?_
  refine seq_n hK6 ?_
  refine wp_if ((i : Int) + (b.length : Int) ≤ (x.length : Int)) (by kernel_rfl) (fun b7 => ?_) (fun b7 => ?_)
  ·
   refine wp_skip ?_
   refine seq_n hK5 ?_
   refine wp_seq_k ?_
   intro K8 hK8
   refine wp_block ?_
   refine wp_seq_k ?_
   intro K9 hK9
   refine reg_lit ?_
   refine wq_p 5 [(19, (Value.int .i64 ((b.length : Int)))), (18, (Value.slice B b.length d)), (17, (Value.int .i64 ((i : Int)))), (16, (Value.int .i64 ((i : Int)))), (15, (Value.slice A x.length c))] ?_
   refine wq_v (some 20) (Value.int .i64 ((i : Int) + (b.length : Int))) (exec_add _ _ _ _ rfl ((i : Int)) ((b.length : Int)) (by kernel_rfl) (by kernel_rfl) ((i : Int) + (b.length : Int)) rfl (by omega) (by omega) _) ?_
   refine wq_v (some 21) (cutS (Value.slice A x.length c) i ((i) + (b.length))) (e_cut_lh (h4.rd 0 rfl) (.tmp 15) (.tmp 16) (.tmp 20) (by kernel_rfl) (by kernel_rfl) .i64 .i64 i ((i) + (b.length)) (by kernel_rfl) (by kernel_rfl) (by omega) (by omega) _) ?_
   refine wq_p 1 [(22, (Value.slice B b.length d))] ?_
   refine wq_to (some 23) (x_anspost h4 88 [(cutS (Value.slice A x.length c) i ((i) + (b.length))), (Value.slice B b.length d)] (by kernel_rfl) (sequal_any _ _ (((x).take ((i) + (b.length))).drop i) b _ (SB.cut (h4.rd 0 rfl) i ((i) + (b.length)) (by omega)) (h4.rd 1 rfl))) ?_
   rintro _ w10 ⟨rfl, h10⟩
   refine wl_end rfl ?_
   refine seq_n hK9 ?_
   refine wp_cond_split (t := decide (((x).take ((i) + (b.length))).drop i = b)) (by kernel_rfl) (fun b11 => ?_) (fun b11 => ?_)
   ·
    refine wp_seq_k ?_
    intro K12 hK12
    refine reg_lit ?_
    refine wq_p 1 [(4, (Value.bool true))] ?_
    refine wl_end rfl ?_
    refine seq_n hK12 ?_
    refine wp_ret ?_
    refine blk_r ?_
    refine seq_r ?_
    refine seq_r ?_
    refine blk_r ?_
    refine seq_r ?_
    refine post_1 rfl (by kernel_rfl) (rtmp (v := (Value.bool true)) (by kernel_rfl)) ?_
    exact ⟨by rw [stands_yes (by omega) (of_decide_eq_true b11)], h10.below0⟩
   ·
    refine wp_skip ?_
    refine blk_n ?_
    refine seq_n hK8 ?_
    refine reg_lit ?_
    refine wq_p 1 [(13, (Value.int .i64 ((i : Int))))] ?_
    refine wq_v (some 14) (Value.int .i64 ((i : Int) + 1)) (exec_add _ _ _ _ rfl ((i : Int)) 1 (by kernel_rfl) (by kernel_rfl) ((i : Int) + 1) rfl (by omega) (by omega) _) ?_
    refine wq_p 1 [(5, (Value.int .i64 ((i : Int) + 1)))] ?_
    refine wl_end rfl ?_
    refine ⟨x.length + 1 - (i + 1), (by omega), (i + 1), (by omega), (lt_snoc hF (of_decide_eq_false b11)), rfl, (patch_eq _ 24 _ (by kernel_rfl) (by kernel_rfl) (by kernel_rfl)), h10.sel [] [0, 1] (by kernel_rfl) rfl rfl⟩
  ·
   refine wp_exit ?_
   refine seq_e ?_
   refine seq_e ?_
   refine blk_e ?_
   refine seq_n hK2 ?_
   refine wp_seq_k ?_
   intro K13 hK13
   refine reg_lit ?_
   refine wq_p 1 [(4, (Value.bool false))] ?_
   refine wl_end rfl ?_
   refine seq_n hK13 ?_
   refine wp_ret ?_
   refine post_1 rfl (by kernel_rfl) (rtmp (v := (Value.bool false)) (by kernel_rfl)) ?_
   exact ⟨by rw [stands_no (by omega) hF], h4.below0⟩
set_option maxRecDepth 100000 in
set_option maxHeartbeats 1000000 in
theorem says1_any (u bv : Value) (x b : Bytes) (cb : Nat) (w : World) (hu : SB w u x) (hc : Blk w cb 28 [bv]) (hv : SB w bv b) (hx7 : x.length ≤ 1000000) (hb7 : b.length ≤ 1000000) : Calls Try.prog 86 #[u, pt cb 0] w (AnsPost w (.bool (standsB x b))) := by
  obtain ⟨A, c, rfl, hc1, hc2⟩ := sb_form hu
  obtain ⟨B, d, rfl, hd1, hd2⟩ := sb_form hv
  have h0 := addRB (addRB (addRB (Hp.nil (fun _ => False) w) (rBlk cb 28 [_]) hc) (rSB _ b) hv) (rSB _ x) hu
  refine enter 5 Try.func86 rfl rfl ?_
  refine wp_reset 7 [(0, (Value.slice A x.length c)), (1, (pt cb 0))] (fun x0 => ?_)
  refine wp_seq_k ?_
  intro K1 hK1
  refine reg_lit ?_
  refine wq_p 1 [(3, (Value.bool false))] ?_
  refine wl_end rfl ?_
  refine seq_n hK1 ?_
  refine wp_seq_k ?_
  intro K2 hK2
  refine reg_lit ?_
  refine wq_p 1 [(4, (Value.slice A x.length c))] ?_
  refine wq_v (some 5) (Value.slice B b.length d) (e_load (h0.rd 2 rfl) 28 (.tmp 1) (by kernel_rfl) 0 (Value.slice B b.length d) (by kernel_rfl) (by kernel_rfl) (by kernel_rfl)) ?_
  refine wq_to (some 6) (x_anspost h0 87 [(Value.slice A x.length c), (Value.slice B b.length d)] (by kernel_rfl) (stands_any _ _ x b _ (h0.rd 0 rfl) (h0.rd 1 rfl) hx7 hb7)) ?_
  rintro _ w3 ⟨rfl, h3⟩
  refine wq_p 1 [(3, (Value.bool (standsB x b)))] ?_
  refine wl_end rfl ?_
  refine seq_n hK2 ?_
  refine wp_ret ?_
  refine post_1 rfl (by kernel_rfl) (rtmp (v := (Value.bool (standsB x b))) (by kernel_rfl)) ?_
  exact ⟨rfl, h3.below0⟩
set_option maxRecDepth 100000 in
set_option maxHeartbeats 1000000 in
theorem indexf_any (A : Option Addr) (c : Nat) (vs : List Value) (ls : List Bytes) (cb : Nat) (bv : Value) (b : Bytes) (w : World) (hr : RV w 1 A c (vs.map fun v => [v])) (hs : (rSBs vs ls).Φ w) (hn : vs.length = ls.length) (hc : Blk w cb 28 [bv]) (hv : SB w bv b) (hl : ls.length ≤ 100000000) (hls : ∀ y ∈ ls, y.length ≤ 1000000) (hb7 : b.length ≤ 1000000) :
    Calls Try.prog 74 #[.slice A ls.length c, .func (.func 86) #[] #[pt cb 0]] w fun e w' => ∃ r : Int, e = .returned (.int .i64 r) ∧ (0 ≤ r ↔ (ls.any fun x => standsB x b) = true) ∧ Below w.heap.size w w' := by
  obtain ⟨B, d, rfl, hd1, hd2⟩ := sb_form hv
  have h0 := addRB (addRB (addRB (addRB (Hp.nil (fun _ => False) w) (rSB _ b) hv) (rBlk cb 28 [_]) hc) (rSBs vs ls) hs) (rRV 1 A c (vs.map fun v => [v])) hr
  refine enter 17 Try.func74 rfl rfl ?_
  refine wp_reset 19 [(0, (Value.slice A ls.length c)), (1, (Value.func (.func 86) #[] #[(pt cb 0)]))] (fun x0 => ?_)
  refine wp_seq_k ?_
  intro K1 hK1
  refine reg_lit ?_
  refine wq_p 1 [(4, (Value.int .i64 0))] ?_
  refine wl_end rfl ?_
  refine seq_n hK1 ?_
  refine wp_seq_k ?_
  intro K2 hK2
  refine wp_seq_k ?_
  intro K3 hK3
  refine reg_lit ?_
  refine wq_p 3 [(8, (Value.int .i64 0)), (7, (Value.int .i64 ((ls.length : Int)))), (6, (Value.slice A ls.length c))] ?_
  refine wl_end rfl ?_
  refine seq_n hK3 ?_
  refine wp_block ?_
  refine wp_loopm (fun mM xX aA wL => ∃ (i : Nat), (i ≤ ls.length) ∧ (∀ j, j < i → ∀ y, ls[j]? = some y → standsB y b = false) ∧ mM = ls.length - (i) ∧ aA = patch xX 19 [(0, (Value.slice A ls.length c)), (1, (Value.func (.func 86) #[] #[(pt cb 0)])), (7, (Value.int .i64 ((ls.length : Int)))), (8, (Value.int .i64 ((i : Int))))] ∧ Hp (fun _ => False) w wL [rRV 1 A c (vs.map fun v => [v]), rSBs vs ls, rBlk cb 28 ([(Value.slice B b.length d)]), rSB ((Value.slice B b.length d)) b] []) ⟨_, 0, (by omega), (fun j hj => absurd hj (by omega)), rfl, (patch_eq _ 19 _ (by kernel_rfl) (by kernel_rfl) (by kernel_rfl)), h0.sel [] [0, 1, 2, 3] (by kernel_rfl) rfl rfl⟩ ?_
  rintro _ x4 _ w4 ⟨i, hi, hF, rfl, rfl, h4⟩
  refine wp_seq_k ?_
  intro K5 hK5
  refine reg_lit ?_
  refine wq_p 1 [(9, (Value.bool (decide ((i : Int) < (ls.length : Int)))))] ?_
  refine wl_end rfl ?_
  refine seq_n hK5 ?_
  refine wp_seq_k ?_
  intro K6 hK6
  refine wp_if ((i : Int) < (ls.length : Int)) (by kernel_rfl) (fun b7 => ?_) (fun b7 => ?_)
  ·
   refine wp_skip ?_
   refine seq_n hK6 ?_
   refine wp_seq_k ?_
   intro K8 hK8
   refine wp_block ?_
   refine wp_seq_k ?_
   intro K9 hK9
   refine reg_lit ?_
   refine wq_p 2 [(5, (Value.int .i64 ((i : Int)))), (10, (Value.int .i64 ((i : Int))))] ?_
   refine wl_end rfl ?_
   refine seq_n hK9 ?_
   refine wp_seq_k ?_
   intro K10 hK10
   obtain ⟨Aj, cj, y, hvj, hy⟩ := sbsget (h4.rd 1 rfl) hn i (by omega)
   have h11 := h4.subSBs (v := Value.slice Aj y.length cj) (l := y) 1 rfl i hvj hy
   
   refine reg_lit ?_
   refine wq_p 3 [(13, (Value.int .i64 ((i : Int)))), (12, (Value.slice A ls.length c)), (11, (Value.func (.func 86) #[] #[(pt cb 0)]))] ?_
   refine wq_v (some 14) (eAt A (i * 1 + 0)) (e_idxN (RV.lenIs (n := ls.length) (h11.rd 1 rfl) (by simp [hn])).2 i ls.length (RV.lenIs (n := ls.length) (h11.rd 1 rfl) (by simp [hn])).1 (by omega) 63 (.tmp 12) (.tmp 13) (by kernel_rfl) .i64 (by kernel_rfl) (by kernel_rfl) 28 (by kernel_rfl) (by kernel_rfl) _) ?_
   refine wq_v (some 15) (Value.slice Aj y.length cj) (e_elemN (RV.lenIs (n := ls.length) (h11.rd 1 rfl) (by simp [hn])).2 i 0 ([(Value.slice Aj y.length cj)]) (by rw [List.getElem?_map, hvj]; rfl) 28 (.tmp 14) (by kernel_rfl) (Value.slice Aj y.length cj) (by kernel_rfl) (by kernel_rfl) (by kernel_rfl)) ?_
   refine wq_to (some 16) (x_anspost h11 86 [(Value.slice Aj y.length cj), pt cb 0] (by kernel_rfl) (says1_any _ _ y b cb _ (h11.rd 0 rfl) (h11.rd 3 rfl) (h11.rd 4 rfl) (hls y (List.mem_of_getElem? hy)) hb7)) ?_
   rintro _ w12 ⟨rfl, h12⟩
   refine wl_end rfl ?_
   refine seq_n hK10 ?_
   refine wp_cond_split (t := standsB y b) (by kernel_rfl) (fun b13 => ?_) (fun b13 => ?_)
   ·
    refine wp_seq_k ?_
    intro K14 hK14
    refine reg_lit ?_
    refine wq_p 2 [(4, (Value.int .i64 ((i : Int)))), (17, (Value.int .i64 ((i : Int))))] ?_
    refine wl_end rfl ?_
    refine seq_n hK14 ?_
    refine wp_ret ?_
    refine blk_r ?_
    refine seq_r ?_
    refine seq_r ?_
    refine blk_r ?_
    refine seq_r ?_
    refine post_1 rfl (by kernel_rfl) (rtmp (v := (Value.int .i64 ((i : Int)))) (by kernel_rfl)) ?_
    exact ⟨_, rfl, ⟨fun _ => List.any_eq_true.2 ⟨y, List.mem_of_getElem? hy, b13⟩, fun _ => by omega⟩, h12.below0⟩
   ·
    refine wp_skip ?_
    refine blk_n ?_
    refine seq_n hK8 ?_
    refine reg_lit ?_
    refine wq_v (some 18) (Value.int .i64 ((i : Int) + 1)) (exec_add _ _ _ _ rfl ((i : Int)) 1 (by kernel_rfl) (by kernel_rfl) ((i : Int) + 1) rfl (by omega) (by omega) _) ?_
    refine wq_p 1 [(8, (Value.int .i64 ((i : Int) + 1)))] ?_
    refine wl_end rfl ?_
    refine ⟨ls.length - (i + 1), (by omega), (i + 1), (by omega), (lt_snoc hF (fun z hz => by rw [hy] at hz; injection hz with hz; subst hz; exact b13)), rfl, (patch_eq _ 19 _ (by kernel_rfl) (by kernel_rfl) (by kernel_rfl)), h12.sel [] [1, 2, 3, 4] (by kernel_rfl) rfl rfl⟩
  ·
   refine wp_exit ?_
   refine seq_e ?_
   refine seq_e ?_
   refine blk_e ?_
   refine seq_n hK2 ?_
   refine wp_seq_k ?_
   intro K15 hK15
   refine reg_lit ?_
   refine wq_p 1 [(4, (Value.int .i64 (-1)))] ?_
   refine wl_end rfl ?_
   refine seq_n hK15 ?_
   refine wp_ret ?_
   refine post_1 rfl (by kernel_rfl) (rtmp (v := (Value.int .i64 (-1))) (by kernel_rfl)) ?_
   exact ⟨_, rfl, ⟨fun h => absurd h (by decide), fun h => by obtain ⟨y, hy, hst⟩ := List.any_eq_true.1 h; obtain ⟨j, hj, rfl⟩ := List.getElem_of_mem hy; rw [hF j (by omega) _ (List.getElem?_eq_getElem hj)] at hst; cases hst⟩, h4.below0⟩
theorem x_indexf {F0 : Nat → Prop} {w0 w : World} {ro rs : List Res} {o : Oper} {a : Act} (h : Hp F0 w0 w ro rs) (A : Option Addr) (c : Nat) (vs : List Value) (ls : List Bytes) (cb : Nat) (bv : Value) (b : Bytes) (hp : pureVal Try.prog (execOp a.eval o) = some (.enter 74 #[.slice A ls.length c, .func (.func 86) #[] #[pt cb 0]])) (hr : RV w 1 A c (vs.map fun v => [v])) (hs : (rSBs vs ls).Φ w) (hn : vs.length = ls.length) (hc : Blk w cb 28 [bv]) (hv : SB w bv b) (hl : ls.length ≤ 100000000) (hls : ∀ y ∈ ls, y.length ≤ 1000000) (hb7 : b.length ≤ 1000000) :
    OpTo Try.prog o a w (fun u w' => ∃ r : Int, u = .int .i64 r ∧ (0 ≤ r ↔ (ls.any fun x => standsB x b) = true) ∧ Hp F0 w0 w' ro rs) :=
  OpTo.enter 74 [.slice A ls.length c, .func (.func 86) #[] #[pt cb 0]] hp (indexf_any A c vs ls cb bv b w hr hs hn hc hv hl hls hb7) fun _e _w' hq => by
    obtain ⟨r, he, h1, hb⟩ := hq
    exact ⟨_, he, r, rfl, h1, h.below hb⟩
set_option maxRecDepth 100000 in
set_option maxHeartbeats 1000000 in
theorem containsf_any (A : Option Addr) (c : Nat) (vs : List Value) (ls : List Bytes) (cb : Nat) (bv : Value) (b : Bytes) (w : World) (hr : RV w 1 A c (vs.map fun v => [v])) (hs : (rSBs vs ls).Φ w) (hn : vs.length = ls.length) (hc : Blk w cb 28 [bv]) (hv : SB w bv b) (hl : ls.length ≤ 100000000) (hls : ∀ y ∈ ls, y.length ≤ 1000000) (hb7 : b.length ≤ 1000000) :
    Calls Try.prog 85 #[.slice A ls.length c, .func (.func 86) #[] #[pt cb 0]] w (AnsPost w (.bool (ls.any fun x => standsB x b))) := by
  obtain ⟨B, d, rfl, hd1, hd2⟩ := sb_form hv
  have h0 := addRB (addRB (addRB (addRB (Hp.nil (fun _ => False) w) (rSB _ b) hv) (rBlk cb 28 [_]) hc) (rSBs vs ls) hs) (rRV 1 A c (vs.map fun v => [v])) hr
  refine enter 7 Try.func85 rfl rfl ?_
  refine wp_reset 9 [(0, (Value.slice A ls.length c)), (1, (Value.func (.func 86) #[] #[(pt cb 0)]))] (fun x0 => ?_)
  refine wp_seq_k ?_
  intro K1 hK1
  refine reg_lit ?_
  refine wq_p 1 [(4, (Value.bool false))] ?_
  refine wl_end rfl ?_
  refine seq_n hK1 ?_
  refine wp_seq_k ?_
  intro K2 hK2
  refine reg_lit ?_
  refine wq_p 2 [(6, (Value.func (.func 86) #[] #[(pt cb 0)])), (5, (Value.slice A ls.length c))] ?_
  refine wq_to (some 7) (x_indexf h0 A c vs ls cb _ b (by kernel_rfl) (h0.rd 0 rfl) (h0.rd 1 rfl) hn (h0.rd 2 rfl) (h0.rd 3 rfl) hl hls hb7) ?_
  rintro _ w3 ⟨r, rfl, hr9, h3⟩
  refine wq_p 2 [(4, (Value.bool (decide (r ≥ 0)))), (8, (Value.bool (decide (r ≥ 0))))] ?_
  refine wl_end rfl ?_
  refine seq_n hK2 ?_
  refine wp_ret ?_
  refine post_1 rfl (by kernel_rfl) (rtmp (v := (Value.bool (decide (r ≥ 0)))) (by kernel_rfl)) ?_
  exact ⟨by rw [show decide (r ≥ 0) = (ls.any fun x => standsB x b) from Bool.eq_iff_iff.2 (by rw [decide_eq_true_iff]; exact hr9)], h3.below0⟩
set_option maxRecDepth 100000 in
set_option maxHeartbeats 1000000 in
theorem says_any (m : Nat) (p : Mp) (S : KM) (F FT : Nat → Prop) (s : STab) (Lk Lb : List Bytes) (N : Nat) (v : Value) (b : Bytes) (w : World) (h : Hp (fun q => F q ∨ FT q) w w [rSB v b] [rMind F none m p S, rTab FT p.tb s]) (hS : WSl s Lk Lb N S) (hN : N ≤ 1000000) (hs : Sm s) (hb7 : b.length ≤ 1000000) : Calls Try.prog 79 #[pt m 0, v] w (CloseP F FT w m p s Lk Lb N fun S => .bool (S.al.any fun x => standsB x b)) := by
  obtain ⟨A, c, rfl, hc1, hc2⟩ := sb_form (h.rd 0 rfl)
  have h0 := h
  refine enter 11 Try.func79 rfl rfl ?_
  refine wp_reset 13 [(0, (pt m 0)), (1, (Value.slice A b.length c))] (fun x0 => ?_)
  refine wp_seq_k ?_
  intro K1 hK1
  refine reg_lit ?_
  refine wq_to (some 3) (x_new h0 28 ([(Value.slice A b.length c)]) (fun r => pt r 0) (by kernel_rfl)) ?_
  rintro _ w2 ⟨g2, rfl, h2⟩
  refine wq_p 1 [(4, (Value.bool false))] ?_
  refine wl_end rfl ?_
  refine seq_n hK1 ?_
  refine wp_seq_k ?_
  intro K3 hK3
  refine reg_lit ?_
  refine wq_p 1 [(5, (pt m 0))] ?_
  refine wq_to (some 6) (x_close h2 1 2 rfl rfl (by kernel_rfl) (by kernel_rfl) hS hN hs) ?_
  rintro _ w4 ⟨F4, S4, rfl, hM4, h4⟩
  refine wl_end rfl ?_
  refine seq_n hK3 ?_
  refine wp_seq_k ?_
  intro K5 hK5
  obtain ⟨A0, vs, G, h6⟩ := mind_split h4 1 rfl
  obtain ⟨A1, c1, rfl⟩ := ov_form (h6.own 4 _ rfl)
  obtain ⟨_, hn, hrw⟩ := h6.own 5 _ rfl
  
  refine reg_lit ?_
  refine wq_p 3 [(9, (pt m 4)), (8, (pt m 0)), (7, (pt m 0))] ?_
  refine wq_v (some 10) (Value.slice A1 vs.length c1) (e_load (h6.at_ 0 rfl) 63 (.tmp 9) (by kernel_rfl) 4 (Value.slice A1 vs.length c1) (by kernel_rfl) (by kernel_rfl) (by kernel_rfl)) ?_
  refine wq_p 1 [(11, (Value.func (.func 86) #[] #[(pt g2 0)]))] ?_
  refine wq_to (some 12) (x_anspost h6 85 [.slice A1 vs.length c1, .func (.func 86) #[] #[pt g2 0]] (by kernel_rfl) (by rw [show vs.length = S4.al.length from hn]; exact containsf_any A1 c1 vs S4.al g2 _ b _ (OV.rvn (h6.own 4 _ rfl)).2 (fun i v l h1 h2 => (((h6.own 5 _ rfl).2.2 i v l h1 h2).1)) hn (h6.at_ 6 rfl) (h6.rd 0 rfl) (Nat.le_trans (hM4.toWS.alb hN hs.bn) (by decide)) (fun y hy => by obtain ⟨i, hi, rfl⟩ := List.getElem_of_mem hy; exact (hrw i _ _ (List.getElem?_eq_getElem (show i < vs.length by omega)) (List.getElem?_eq_getElem hi)).2.2.2) hb7)) ?_
  rintro _ w7 ⟨rfl, h7⟩
  refine wq_p 1 [(4, (Value.bool ((S4.al.any fun x => standsB x b))))] ?_
  refine wl_end rfl ?_
  refine seq_n hK5 ?_
  refine wp_ret ?_
  obtain ⟨F8, h8⟩ := mind_join (p := p) (it := none) (S := S4) (rest := [rTab FT p.tb s]) (h7.selS [0, 1, 2, 3, 4, 5, 7] [rBlk m 134 ([(pt p.tb 0), (Value.map (some p.kb)), (Value.map (some p.bb)), (Value.map (some p.ob)), (Value.slice A1 vs.length c1)]), rKM p.kb S4.kk, rBX p.bb none S4.bx, rKM p.ob S4.op, rOV 28 1 ((Value.slice A1 vs.length c1)) (vs.map fun v => [v]), rRows G vs S4.al, rTab FT p.tb s] (by kernel_rfl) rfl)
  refine post_1 rfl (by kernel_rfl) (rtmp (v := (Value.bool ((S4.al.any fun x => standsB x b)))) (by kernel_rfl)) ?_
  exact ⟨_, _, rfl, hM4, h8.sel [0, 1] [] (by decide) rfl rfl⟩
end Go.Proofs.Ytjjcnijdjhhdoaa
end
/-! Calls of minds' methods. -/
section
namespace Go.Proofs.Ytjjcnijdjhhdoaa
open Go.RowKit Go.QT
section
variable {F F0 FT : Nat → Prop} {w0 w : World} {ro rs : List Res} {m tb : Nat} {o : Oper} {a : Act} {S : KM} {p : Mp} {s : STab} {Lk Lb : List Bytes} {N : Nat} {v : Value} {b : Bytes}
theorem x_knew (h : Hp F0 w0 w ro rs) (hp : pureVal Try.prog (execOp a.eval o) = some (.enter 49 #[pt tb 0])) :
    OpTo Try.prog o a w (fun u w' => ∃ m p F, u = pt m 0 ∧ (p : Mp).tb = tb ∧ Hp F0 w0 w' ro (rMind F none m p ⟨[], [], [], []⟩ :: rs)) :=
  OpTo.enter 49 [pt tb 0] hp (knew_any tb w) fun e w' hq => by
    obtain ⟨m, p, F, he, hp, hh⟩ := hq
    exact ⟨_, he, m, p, F, rfl, hp, h.call0 hh⟩
theorem x_mcallT (h : Hp F0 w0 w ro rs) (i j : Nat) (hi : rs[i]? = some (rMind F none m p S)) (hj : rs[j]? = some (rTab FT tb s)) (hij : decide (i ≠ j) = true) (htb : p.tb = tb) (fn : FuncId) (al : List Value) (v : KM → Value) (hp : pureVal Try.prog (execOp a.eval o) = some (.enter fn al.toArray))
    (hc : Hp (fun q => F q ∨ FT q) w w [] [rMind F none m p S, rTab FT p.tb s] → Calls Try.prog fn al.toArray w (CloseP F FT w m p s Lk Lb N v)) :
    OpTo Try.prog o a w (fun u w' => ∃ F' S', u = v S' ∧ MSl s Lk Lb N S' ∧ Hp F0 w0 w' ro (rs.set i (rMind F' none m p S'))) := by
  subst htb
  exact x_mcall h i j hi hj hij fn al v hp hc
theorem x_learn (h : Hp F0 w0 w ro rs) (i j : Nat) (hi : rs[i]? = some (rMind F none m p S)) (hj : rs[j]? = some (rTab FT tb s)) (hij : decide (i ≠ j) = true) (htb : p.tb = tb) (K : Fin 16 → UInt8) (hp : pureVal Try.prog (execOp a.eval o) = some (.enter 50 #[pt m 0, .agg (vb (kl K)).toArray])) (hS : WSl s Lk Lb N S) (hN : N ≤ 1000000) (hs : Sm s) :
    OpTo Try.prog o a w (fun u w' => ∃ F' S', u = .tuple #[] ∧ MSl s (Lk ++ [kl K]) Lb N S' ∧ Hp F0 w0 w' ro (rs.set i (rMind F' none m p S'))) :=
  x_mcallT h i j hi hj hij htb 50 [pt m 0, .agg (vb (kl K)).toArray] (fun _ => .tuple #[]) hp fun hh => learn_any m p S F FT s Lk Lb N w hh hS hN hs K
theorem x_kkey (h : Hp F0 w0 w ro rs) (i j : Nat) (hi : rs[i]? = some (rMind F none m p S)) (hj : rs[j]? = some (rTab FT tb s)) (hij : decide (i ≠ j) = true) (htb : p.tb = tb) (K : Fin 16 → UInt8) (hp : pureVal Try.prog (execOp a.eval o) = some (.enter 52 #[pt m 0, .agg (vb (kl K)).toArray])) (hS : WSl s Lk Lb N S) (hN : N ≤ 1000000) (hs : Sm s) :
    OpTo Try.prog o a w (fun u w' => ∃ F' S', u = .bool (decide (kl K ∈ S'.kk)) ∧ MSl s Lk Lb N S' ∧ Hp F0 w0 w' ro (rs.set i (rMind F' none m p S'))) :=
  x_mcallT h i j hi hj hij htb 52 [pt m 0, .agg (vb (kl K)).toArray] (fun S => .bool (decide (kl K ∈ S.kk))) hp fun hh => key_any m p S F FT s Lk Lb N w hh hS hN hs K
theorem hpB (hh : Hp (fun q => F q ∨ FT q) w w [] [rMind F none m p S, rTab FT p.tb s]) (hb : SB w v b) (h1 : (rSB v b).dj (rMind F none m p S)) (h2 : (rSB v b).dj (rTab FT p.tb s)) : Hp (fun q => F q ∨ FT q) w w [rSB v b] [rMind F none m p S, rTab FT p.tb s] :=
  hh.addR (rSB v b) hb fun k u hk => by
    match k, hk with
    | 0, hk => injection hk with hk; subst hk; exact h1
    | 1, hk => injection hk with hk; subst hk; exact h2
    | k+2, hk => simp at hk
/-- Bytes that lie apart from two things. -/
structure Apart (w : World) (v : Value) (b : Bytes) (r t : Res) : Prop where
  sb : SB w v b
  d1 : (rSB v b).dj r
  d2 : (rSB v b).dj t
theorem Hp.apartR (h : Hp F0 w0 w ro rs) (i j k : Nat) {r t : Res} (hi : rs[i]? = some r) (hj : rs[j]? = some t) (hk : ro[k]? = some (rSB v b)) : Apart w v b r t :=
  ⟨h.red k _ hk, h.rdis k i _ r hk hi, h.rdis k j _ t hk hj⟩
theorem Hp.apartS (h : Hp F0 w0 w ro rs) (i j k : Nat) {r t u : Res} (hi : rs[i]? = some r) (hj : rs[j]? = some t) (hk : rs[k]? = some u) (h1 : decide (k ≠ i) = true) (h2 : decide (k ≠ j) = true) (hb : SB w v b) (hF : ∀ q, (rSB v b).F q → u.F q) : Apart w v b r t :=
  ⟨hb, fun q hq => h.dis k i u r hk hi (of_decide_eq_true h1) q (hF q hq), fun q hq => h.dis k j u t hk hj (of_decide_eq_true h2) q (hF q hq)⟩
theorem Hp.apartO (h : Hp F0 w0 w ro rs) (i j k : Nat) {r t : Res} (hi : rs[i]? = some r) (hj : rs[j]? = some t) (hk : rs[k]? = some (rOB v b)) (h1 : decide (k ≠ i) = true) (h2 : decide (k ≠ j) = true) : Apart w v b r t :=
  h.apartS i j k hi hj hk h1 h2 (OB.sb (h.own k _ hk)) (fun _ hq => hq.2)
theorem Hp.apartB (h : Hp F0 w0 w ro rs) (i j k : Nat) {r t : Res} {g : Nat} {K : Fin 16 → UInt8} (hi : rs[i]? = some r) (hj : rs[j]? = some t) (hk : rs[k]? = some (rBlk g 42 (vb (kl K)))) (h1 : decide (k ≠ i) = true) (h2 : decide (k ≠ j) = true) : Apart w (.slice (some ⟨g, 0, none⟩) 16 16) (kl K) r t :=
  h.apartS i j k hi hj hk h1 h2 (SB.blk16 (h.own k _ hk)) (fun q hq => by
    have : g = q := by simpa [rSB, Value.ownBlock] using hq.2
    exact this.symm)
theorem x_see (h : Hp F0 w0 w ro rs) (i j : Nat) (hi : rs[i]? = some (rMind F none m p S)) (hj : rs[j]? = some (rTab FT tb s)) (hij : decide (i ≠ j) = true) (htb : p.tb = tb) (hp : pureVal Try.prog (execOp a.eval o) = some (.enter 51 #[pt m 0, v])) (ha : Apart w v b (rMind F none m p S) (rTab FT tb s)) (hS : WSl s Lk Lb N S) (hN : N ≤ 999999) (hs : Sm s) (hl : b.length ≤ 1000000) :
    OpTo Try.prog o a w (fun u w' => ∃ F' S', u = .tuple #[] ∧ MSl s (Lk ++ marksIn 107 b) (Lb ++ marksIn 98 b) (N + 1) S' ∧ Hp F0 w0 w' ro (rs.set i (rMind F' none m p S'))) :=
  x_mcallT h i j hi hj hij htb 51 [pt m 0, v] (fun _ => .tuple #[]) hp fun hh => see_any m p S F FT s Lk Lb N v b w (hpB hh ha.sb ha.d1 (htb ▸ ha.d2)) hS hN hs hl
theorem x_kbox (h : Hp F0 w0 w ro rs) (i j : Nat) (hi : rs[i]? = some (rMind F none m p S)) (hj : rs[j]? = some (rTab FT tb s)) (hij : decide (i ≠ j) = true) (htb : p.tb = tb) (hp : pureVal Try.prog (execOp a.eval o) = some (.enter 53 #[pt m 0, v])) (ha : Apart w v b (rMind F none m p S) (rTab FT tb s)) (hS : WSl s Lk Lb N S) (hN : N ≤ 1000000) (hs : Sm s) (hl : b.length = 16) :
    OpTo Try.prog o a w (fun u w' => ∃ F' S', u = .bool (decide (b ∈ S'.bx)) ∧ MSl s Lk Lb N S' ∧ Hp F0 w0 w' ro (rs.set i (rMind F' none m p S'))) :=
  x_mcallT h i j hi hj hij htb 53 [pt m 0, v] (fun S => .bool (decide (b ∈ S.bx))) hp fun hh => kbox_any m p S F FT s Lk Lb N v b w (hpB hh ha.sb ha.d1 (htb ▸ ha.d2)) hS hN hs hl
theorem x_kopens (h : Hp F0 w0 w ro rs) (i j : Nat) (hi : rs[i]? = some (rMind F none m p S)) (hj : rs[j]? = some (rTab FT tb s)) (hij : decide (i ≠ j) = true) (htb : p.tb = tb) (hp : pureVal Try.prog (execOp a.eval o) = some (.enter 54 #[pt m 0, v])) (ha : Apart w v b (rMind F none m p S) (rTab FT tb s)) (hS : WSl s Lk Lb N S) (hN : N ≤ 1000000) (hs : Sm s) (hl : b.length = 16) :
    OpTo Try.prog o a w (fun u w' => ∃ F' S', u = .bool (decide (b ∈ S'.op)) ∧ MSl s Lk Lb N S' ∧ Hp F0 w0 w' ro (rs.set i (rMind F' none m p S'))) :=
  x_mcallT h i j hi hj hij htb 54 [pt m 0, v] (fun S => .bool (decide (b ∈ S.op))) hp fun hh => kopens_any m p S F FT s Lk Lb N v b w (hpB hh ha.sb ha.d1 (htb ▸ ha.d2)) hS hN hs hl
theorem x_fits (h : Hp F0 w0 w ro rs) (i j : Nat) (hi : rs[i]? = some (rMind F none m p S)) (hj : rs[j]? = some (rTab FT tb s)) (hij : decide (i ≠ j) = true) (htb : p.tb = tb) (hp : pureVal Try.prog (execOp a.eval o) = some (.enter 56 #[pt m 0, v])) (ha : Apart w v b (rMind F none m p S) (rTab FT tb s)) (hS : WSl s Lk Lb N S) (hN : N ≤ 1000000) (hs : Sm s) (hl : b.length ≤ 1000000) :
    OpTo Try.prog o a w (fun u w' => ∃ F' S', u = .bool (fitsB S' b) ∧ MSl s Lk Lb N S' ∧ Hp F0 w0 w' ro (rs.set i (rMind F' none m p S'))) :=
  x_mcallT h i j hi hj hij htb 56 [pt m 0, v] (fun S => .bool (fitsB S b)) hp fun hh => fits_any m p S F FT s Lk Lb N v b w (hpB hh ha.sb ha.d1 (htb ▸ ha.d2)) hS hN hs hl
theorem x_says (h : Hp F0 w0 w ro rs) (i j : Nat) (hi : rs[i]? = some (rMind F none m p S)) (hj : rs[j]? = some (rTab FT tb s)) (hij : decide (i ≠ j) = true) (htb : p.tb = tb) (hp : pureVal Try.prog (execOp a.eval o) = some (.enter 79 #[pt m 0, v])) (ha : Apart w v b (rMind F none m p S) (rTab FT tb s)) (hS : WSl s Lk Lb N S) (hN : N ≤ 1000000) (hs : Sm s) (hl : b.length ≤ 1000000) :
    OpTo Try.prog o a w (fun u w' => ∃ F' S', u = .bool (S'.al.any fun x => standsB x b) ∧ MSl s Lk Lb N S' ∧ Hp F0 w0 w' ro (rs.set i (rMind F' none m p S'))) :=
  x_mcallT h i j hi hj hij htb 79 [pt m 0, v] (fun S => .bool (S.al.any fun x => standsB x b)) hp fun hh => says_any m p S F FT s Lk Lb N v b w (hpB hh ha.sb ha.d1 (htb ▸ ha.d2)) hS hN hs hl
theorem x_kkeys (h : Hp F0 w0 w ro rs) (i j : Nat) (hi : rs[i]? = some (rMind F none m p S)) (hj : rs[j]? = some (rTab FT tb s)) (hij : decide (i ≠ j) = true) (htb : p.tb = tb) (hp : pureVal Try.prog (execOp a.eval o) = some (.enter 55 #[pt m 0])) (hS : WSl s Lk Lb N S) (hN : N ≤ 1000000) (hs : Sm s) :
    OpTo Try.prog o a w (fun u w' => ∃ F' S' A c, u = .slice A (knownN S' s.keys.length) c ∧ MSl s Lk Lb N S' ∧ Hp F0 w0 w' ro (rs.set i (rMind F' none m p S'))) := by
  subst htb
  exact OpTo.enter 55 [pt m 0] hp (kkeys_any m p S F FT s Lk Lb N w (h.pair i j hi hj hij) hS hN hs) fun e w' hq => by
    obtain ⟨F', S', A, c, he, hM, hh⟩ := hq
    exact ⟨_, he, F', S', A, c, rfl, hM, h.upd2' i j hi hj hij hh⟩
end
end Go.Proofs.Ytjjcnijdjhhdoaa
end
/-! Plain laws of minds: tables that grow, single marks, truths. -/
section
namespace Go.Proofs.Ytjjcnijdjhhdoaa
open Go.RowKit Go.QT
section
variable {s s' : STab} {K0 B0 : Bytes → Prop} {N n : Nat} {S : KM} {f : SFrom} {k : Bytes}
theorem box_more {xs : List SSealed} (h : s'.boxes = s.boxes ++ xs) : ∀ k sl, s.box k = some sl → s'.box k = some sl := by
  intro k sl hs
  unfold STab.box at hs ⊢
  split
  · rename_i kd n hm
    rw [hm] at hs
    simp only at hs ⊢
    split
    · rename_i hc
      rw [if_pos hc] at hs
      rw [h, List.getElem?_append_left (List.getElem?_eq_some_iff.1 hs).1]
      exact hs
    · rename_i hc
      rw [if_neg hc] at hs; cases hs
  · rename_i hm
    rw [hm] at hs; cases hs
theorem WS.more (h : WS s K0 B0 N S) {xs : List SSealed} {ys : List SFrom} (hb : s'.boxes = s.boxes ++ xs) (hk : s'.keys = s.keys ++ ys) : WS s' K0 B0 N S :=
  h.grow (box_more hb) (fun n f hf => by rw [hk, List.getElem?_append_left (List.getElem?_eq_some_iff.1 hf).1]; exact hf)
theorem WS.gadd (h : WS s K0 B0 N S) (hs : s' = s.add f) : WS s' K0 B0 N S := by
  subst hs
  exact h.more (xs := []) (ys := [f]) (by simp [STab.add]) rfl
theorem made_more (f : SFrom) : ∃ ys, (s.made f).boxes = s.boxes ++ [] ∧ (s.made f).keys = s.keys ++ ys := by
  unfold STab.made
  split
  · exact ⟨[], by simp, by simp⟩
  · exact ⟨[f], by simp, rfl⟩
theorem WS.gmade (h : WS s K0 B0 N S) (hs : s' = s.made f) : WS s' K0 B0 N S := by
  subst hs
  obtain ⟨ys, h1, h2⟩ := made_more (s := s) f
  exact h.more h1 h2
theorem WS.gseal {u : Int} {b : Bytes} (h : WS s K0 B0 N S) (hs : s' = s.seal k u b) : WS s' K0 B0 N S := by
  subst hs
  exact h.more (ys := []) rfl (by simp [STab.seal])
theorem findB_one (hk : k.length = 16) : findB k = if (markOf k).isSome then [k] else [] := by
  unfold findB
  rw [hk]
  show findTo k (0 + 1) = _
  rw [findTo_succ]
  have : (k.take (0 + 16)).drop 0 = k := by rw [List.drop_zero, List.take_of_length_le (by omega)]
  rw [this]
  simp [findTo]
theorem isKd_mk {c d : UInt8} (hd : d = 107 ∨ d = 98 ∨ d = 100) (hn : n ≤ 1099511627776) : isKd c (mkB d n) ↔ c = d := by
  unfold isKd
  rw [markOf_mkB hd hn]
  constructor
  · rintro ⟨m, h⟩; injection h with h; injection h with h1 h2; exact h1.symm
  · rintro rfl; exact ⟨n, rfl⟩
theorem findB_mk {d : UInt8} (hd : d = 107 ∨ d = 98 ∨ d = 100) (hn : n ≤ 1099511627776) : findB (mkB d n) = [mkB d n] := by
  rw [findB_one rfl, markOf_mkB hd hn]; rfl
theorem marksIn_same {c : UInt8} (hd : c = 107 ∨ c = 98 ∨ c = 100) (hn : n ≤ 1099511627776) : marksIn c (mkB c n) = [mkB c n] := by
  unfold marksIn
  rw [findB_mk hd hn, List.filter_cons, if_pos (isKdB_iff.2 ((isKd_mk hd hn).2 rfl))]; rfl
theorem marksIn_other {c d : UInt8} (hd : d = 107 ∨ d = 98 ∨ d = 100) (hn : n ≤ 1099511627776) (hne : c ≠ d) : marksIn c (mkB d n) = [] := by
  unfold marksIn
  rw [findB_mk hd hn, List.filter_cons, if_neg (fun h => hne ((isKd_mk hd hn).1 (isKdB_iff.1 h)))]; rfl
theorem fits_key (hn : n ≤ 1099511627776) : fitsB S (mkB 107 n) = decide (mkB 107 n ∈ S.kk) := by
  unfold fitsB
  rw [findB_mk (.inl rfl) hn]
  simp [fitB, isKdB, markOf_mkB (k := 107) (.inl rfl) hn]
theorem fits_box (hn : n ≤ 1099511627776) : fitsB S (mkB 98 n) = decide (mkB 98 n ∈ S.bx) := by
  unfold fitsB
  rw [findB_mk (.inr (.inl rfl)) hn]
  simp [fitB, isKdB, markOf_mkB (k := 98) (.inr (.inl rfl)) hn]
variable {Lk Lb : List Bytes}
theorem decK (b : Bool) (h : Kn s (fun k => k ∈ Lk) (fun k => k ∈ Lb) 0 k ↔ b = true) : ∀ S', MSl s Lk Lb N S' → decide (k ∈ S'.kk) = b := fun S' hM => by
  rw [Bool.eq_iff_iff, decide_eq_true_iff, ← h]; exact hM.iff.1 k
theorem decX (b : Bool) (h : Kn s (fun k => k ∈ Lk) (fun k => k ∈ Lb) 1 k ↔ b = true) : ∀ S', MSl s Lk Lb N S' → decide (k ∈ S'.bx) = b := fun S' hM => by
  rw [Bool.eq_iff_iff, decide_eq_true_iff, ← h]; exact hM.iff.2.1 k
theorem decO (b : Bool) (h : Kn s (fun k => k ∈ Lk) (fun k => k ∈ Lb) 2 k ↔ b = true) : ∀ S', MSl s Lk Lb N S' → decide (k ∈ S'.op) = b := fun S' hM => by
  rw [Bool.eq_iff_iff, decide_eq_true_iff, ← h]; exact hM.iff.2.2 k
theorem decFk (b : Bool) (hn : n ≤ 1099511627776) (hk : k = mkB 107 n) (h : Kn s (fun k => k ∈ Lk) (fun k => k ∈ Lb) 0 k ↔ b = true) : ∀ S', MSl s Lk Lb N S' → fitsB S' k = b := fun S' hM => by
  subst hk
  rw [fits_key hn]; exact decK b h S' hM
end
section
variable {F F0 FT : Nat → Prop} {w0 w : World} {ro rs : List Res} {m i : Nat} {o : Oper} {a : Act} {p : Mp} {s : STab} {Lk Lb : List Bytes} {N : Nat} {f : KM → Bool}
theorem mdec (bv : Bool) (hb : ∀ S', MSl s Lk Lb N S' → f S' = bv) (h : OpTo Try.prog o a w (fun u w' => ∃ F' S', u = .bool (f S') ∧ MSl s Lk Lb N S' ∧ Hp F0 w0 w' ro (rs.set i (rMind F' none m p S')))) :
    OpTo Try.prog o a w (fun u w' => ∃ F' S', u = .bool bv ∧ MSl s Lk Lb N S' ∧ Hp F0 w0 w' ro (rs.set i (rMind F' none m p S'))) :=
  h.mono fun u w' hq => by
    obtain ⟨F', S', e, hM, hh⟩ := hq
    exact ⟨F', S', by rw [e, hb S' hM], hM, hh⟩
end
end Go.Proofs.Ytjjcnijdjhhdoaa
end
/-! Plain facts of the example. -/
section
namespace Go.Proofs.Ytjjcnijdjhhdoaa
open Go.RowKit Go.QT
section
variable {s : STab} {K0 B0 : Bytes → Prop} {N n : Nat} {S : KM} {Lk Lb : List Bytes}
theorem sm0 (h : s.boxes = []) (hk : s.keys.length < 1000000) : Sm s := ⟨by rw [h]; simp, by rw [h]; decide, hk⟩
theorem sm1 {x : SSealed} (h : s.boxes = [x]) (hb : x.body.length ≤ 1000000) (hk : s.keys.length < 1000000) : Sm s :=
  ⟨by rw [h]; intro b hx; have : b = x := by simpa using hx
      rw [this]; exact hb, by rw [h]; simp, hk⟩
/-- Who knows no key knows none ever. -/
theorem kn_none (h : ∀ k, ¬ K0 k) : ∀ i k, Kn s K0 B0 i k → i = 1 := by
  intro i k hk
  induction hk with
  | key k hk => exact absurd hk (h k)
  | box k hk => rfl
  | opens k sl _ _ _ _ ih => cases ih
  | tkey k x sl _ _ _ _ ih => cases ih
  | tbox k x sl _ _ _ _ ih => cases ih
  | late n f _ _ _ ih => cases ih
theorem knownN_all (h : ∀ i, i < n → mkB 107 (i + 1) ∈ S.kk) : knownN S n = n := by
  unfold knownN
  rw [List.filter_eq_self.2 (fun i hi => decide_eq_true (h i (List.mem_range.1 hi)))]
  simp
theorem al_o {x : SSealed} (hb : s.box (mkB 98 1) = some x) (h1 : x.by_ ∈ Lk) (h2 : mkB 98 1 ∈ Lb) : Kn s (fun k => k ∈ Lk) (fun k => k ∈ Lb) 2 (mkB 98 1) :=
  .opens _ x (.box _ h2) hb (.key _ h1)
theorem al_l {x : SSealed} (hx : x.body = mkB 107 n) (hn : n ≤ 1099511627776) (hb : s.box (mkB 98 1) = some x) (h1 : x.by_ ∈ Lk) (h2 : mkB 98 1 ∈ Lb) : Kn s (fun k => k ∈ Lk) (fun k => k ∈ Lb) 0 (mkB 107 n) :=
  .tkey _ _ x (al_o hb h1 h2) hb (by rw [hx, findB_mk (.inl rfl) hn]; simp) ((isKd_mk (.inl rfl) hn).2 rfl)
theorem stands_self (b : Bytes) : standsB b b = true := stands_yes (i := 0) (by omega) (by simp)
theorem al_says {x : SSealed} (hb : s.box (mkB 98 1) = some x) (h1 : x.by_ ∈ Lk) (h2 : mkB 98 1 ∈ Lb) : ∀ S', MSl s Lk Lb N S' → (S'.al.any fun y => standsB y x.body) = true := fun _ hM =>
  List.any_eq_true.2 ⟨x.body, (hM.tk _ ((hM.iff.2.2 _).2 (al_o hb h1 h2)) x hb).1, stands_self _⟩
theorem true_iff_ {p : Prop} (h : p) : p ↔ true = true := ⟨fun _ => rfl, fun _ => h⟩
theorem false_iff_ {p : Prop} (h : ¬ p) : p ↔ false = true := ⟨fun hp => absurd hp h, fun h => by cases h⟩
end
end Go.Proofs.Ytjjcnijdjhhdoaa
end
/-! The walk of compeerlaw08.alive: true. -/
section
namespace Go.Proofs.Ytjjcnijdjhhdoaa
open Go.RowKit Go.QT
set_option maxRecDepth 100000 in
set_option maxHeartbeats 1000000 in
theorem kalive_any (w : World) : Calls Try.prog 46 #[] w fun e w' => e = .returned (.bool true) ∧ Below w.heap.size w w' := by
  have h0 := Hp.nil (fun _ => False) w
  refine enter 69 Try.func46 rfl rfl ?_
  refine wp_reset 69 [] (fun x0 => ?_)
  refine wp_seq_k ?_
  intro K1 hK1
  refine reg_lit ?_
  refine wq_p 1 [(0, (Value.bool false))] ?_
  refine wl_end rfl ?_
  refine seq_n hK1 ?_
  refine wp_seq_k ?_
  intro K2 hK2
  refine reg_lit ?_
  refine wq_to (some 7) (x_snew h0 (by kernel_rfl)) ?_
  rintro _ w3 ⟨tb3, F3, rfl, h3⟩
  refine wq_p 1 [(1, (pt tb3 0))] ?_
  refine wl_end rfl ?_
  refine seq_n hK2 ?_
  refine wp_seq_k ?_
  intro K4 hK4
  refine reg_lit ?_
  refine wq_p 1 [(8, (pt tb3 0))] ?_
  refine wq_to (some 9) (x_fresh h3 0 rfl  (by kernel_rfl) (by decide)) ?_
  rintro _ w5 ⟨K5, F5, s5, rfl, hK5, hs5, h5⟩
  have e5 : s5 = (⟨[SFrom.fresh], [], [], []⟩ : STab) := (by rw [hs5]; kernel_rfl)
  have f5 : kl K5 = mkB 107 1 := (by rw [hK5]; kernel_rfl)
  refine wq_p 1 [(10, (pt tb3 0))] ?_
  refine wq_to (some 11) (x_fresh h5 0 rfl  (by kernel_rfl) (by rw [e5]; simp)) ?_
  rintro _ w6 ⟨K6, F6, s6, rfl, hK6, hs6, h6⟩
  have e6 : s6 = (⟨[SFrom.fresh, SFrom.fresh], [], [], []⟩ : STab) := (by rw [hs6, e5]; kernel_rfl)
  have f6 : kl K6 = mkB 107 2 := (by rw [hK6, e5]; kernel_rfl)
  refine wq_to (some 2) (x_new h6 42 (vb (List.replicate 16 0)) (fun r => pt r 0) (by kernel_rfl)) ?_
  rintro _ w7 ⟨g7, rfl, h7⟩
  refine wq_to (some 3) (x_new h7 42 (vb (List.replicate 16 0)) (fun r => pt r 0) (by kernel_rfl)) ?_
  rintro _ w8 ⟨g8, rfl, h8⟩
  refine wq_to none (x_stores h8 1 rfl 42 (.tmp 2) (.tmp 9) (by kernel_rfl) 0 (vb (kl K5)) (vb (kl K5)) (by kernel_rfl) (by kernel_rfl) (by kernel_rfl) (by kernel_rfl) (by kernel_rfl) (by kernel_rfl)) ?_
  rintro _ w9 h9
  refine wq_to none (x_stores h9 0 rfl 42 (.tmp 3) (.tmp 11) (by kernel_rfl) 0 (vb (kl K6)) (vb (kl K6)) (by kernel_rfl) (by kernel_rfl) (by kernel_rfl) (by kernel_rfl) (by kernel_rfl) (by kernel_rfl)) ?_
  rintro _ w10 h10
  refine wl_end rfl ?_
  refine seq_n hK4 ?_
  refine wp_seq_k ?_
  intro K11 hK11
  refine pR_go h10 3 (fun W => (rBlk g7 42 (vb (kl K5))).Φ W ∧ True) [(13, [1], 0), (14, [2], 0), (15, [3], 0), (16, [12, 13, 14], 7), (5, [15], 15)] rfl (fun _ d _ _ _ h => by cases d <;> exact h) ?_
  intro hs12 w12 h12
  refine pR_p 3 [0, 2] [(14, (Value.slice (some ⟨g8, 0, none⟩) 16 16)), (12, (pt tb3 0))] 5 hs12 ⟨h12.at_ 1 rfl, trivial⟩ ?_
  refine pR_v 1 (some 13) (Value.agg (vb (kl K5)).toArray) 7 rfl hs12 ⟨h12.at_ 1 rfl, trivial⟩ (fun W hW => e_loads hW.1 42 (.tmp 2) (by kernel_rfl) 0 (vb (kl K5)) (by kernel_rfl) (by kernel_rfl) (by kernel_rfl)) ?_
  refine pR_to 3 (some 15) 15 rfl hs12 (x_seal h12 2 rfl K5 1 (kl K6) (Value.slice (some ⟨g8, 0, none⟩) 16 16) (by kernel_rfl) (SB.blk16 (K := K6) (h12.at_ 0 rfl)) (by rw [kl_len]; decide) (by rw [e6]; simp)) ?_
  rintro _ w13 ⟨A13, c13, F13, s13, rfl, hs13, h13⟩
  refine ⟨fun h => absurd h (by decide), ?_⟩
  have e13 : s13 = (⟨[SFrom.fresh, SFrom.fresh], [⟨mkB 107 1, 1, kl K6⟩], [], []⟩ : STab) := (by rw [hs13, e6, f5]; kernel_rfl)
  have hbx : s13.box (mkB 98 1) = some ⟨mkB 107 1, 1, mkB 107 2⟩ := by rw [e13, f6]; kernel_rfl
  have hsm : Sm s13 := sm1 (by rw [e13]) (by rw [kl_len]; decide) (by rw [e13]; simp)
  have hb1 : mkB 98 (s6.boxes.length + 1) = mkB 98 1 := by rw [e6]; rfl
  refine pR_to 4 (some 4) 31 rfl hs12 (OpTo.run (Value.slice A13 16 c13) (pureOp_run (by kernel_rfl) _) (R := fun v w => v = (Value.slice A13 16 c13) ∧ w13 = w) ⟨rfl, rfl⟩) ?_
  rintro _ _ ⟨rfl, rfl⟩
  refine ⟨fun h => absurd h (by decide), ?_⟩
  refine pR_done hs12 ?_ _
  refine seq_n hK11 ?_
  refine wp_seq_k ?_
  intro K14 hK14
  refine reg_lit ?_
  refine wq_p 1 [(16, (pt tb3 0))] ?_
  refine wq_to (some 17) (x_knew (tb := tb3) h13 (by kernel_rfl)) ?_
  rintro _ w15 ⟨m15, p15, F15, rfl, hp15, h15⟩
  refine wq_p 1 [(5, (pt m15 0))] ?_
  refine wl_end rfl ?_
  refine seq_n hK14 ?_
  refine wp_seq_k ?_
  intro K16 hK16
  refine wp_seq_k ?_
  intro K17 hK17
  refine wp_reset 69 [(0, (Value.bool false)), (1, (pt tb3 0)), (2, (pt g7 0)), (3, (pt g8 0)), (4, (Value.slice A13 16 c13)), (5, (pt m15 0))] (fun x18 => ?_)
  refine reg_lit ?_
  refine wq_p 2 [(19, (Value.bool false)), (18, (pt m15 0))] ?_
  refine wl_end rfl ?_
  refine seq_n hK17 ?_
  refine wp_cond_false (by kernel_rfl) ?_
  refine wp_skip ?_
  refine seq_n hK16 ?_
  refine wp_seq_k ?_
  intro K19 hK19
  refine reg_lit ?_
  refine wq_p 2 [(21, (Value.slice A13 16 c13)), (20, (pt m15 0))] ?_
  refine wq_to (some 22) (x_see h15 0 3 rfl rfl (by kernel_rfl) hp15 (by kernel_rfl) (h15.apartR 0 3 0 rfl rfl rfl) WS.emptyl (by decide) hsm (show 16 ≤ 1000000 by decide)) ?_
  rintro _ w20 ⟨F20, S20, rfl, hM20, h20⟩
  refine wl_end rfl ?_
  refine seq_n hK19 ?_
  refine wp_seq_k ?_
  intro K21 hK21
  refine reg_lit ?_
  refine wq_p 1 [(23, (pt m15 0))] ?_
  refine wq_v (some 24) (Value.agg (vb (kl K6)).toArray) (e_loads (h20.at_ 1 rfl) 42 (.tmp 3) (by kernel_rfl) 0 (vb (kl K6)) (by kernel_rfl) (by kernel_rfl) (by kernel_rfl)) ?_
  refine wq_to (some 25) (mdec false (decK false (false_iff_ (fun h => by have := kn_none (by rw [hb1, marksIn_other (.inr (.inl rfl)) (by decide) (by decide)]; simp) _ _ h; cases this))) (x_kkey h20 0 3 rfl rfl (by kernel_rfl) hp15 K6 (by kernel_rfl) hM20.toWS (by decide) hsm)) ?_
  rintro _ w22 ⟨F22, S22, rfl, hM22, h22⟩
  refine wq_p 1 [(6, (Value.bool false))] ?_
  refine wl_end rfl ?_
  refine seq_n hK21 ?_
  refine wp_seq_k ?_
  intro K23 hK23
  refine reg_lit ?_
  refine wq_p 1 [(26, (pt m15 0))] ?_
  refine wq_v (some 27) (Value.agg (vb (kl K5)).toArray) (e_loads (h22.at_ 2 rfl) 42 (.tmp 2) (by kernel_rfl) 0 (vb (kl K5)) (by kernel_rfl) (by kernel_rfl) (by kernel_rfl)) ?_
  refine wq_to (some 28) (x_learn h22 0 3 rfl rfl (by kernel_rfl) hp15 K5 (by kernel_rfl) hM22.toWS (by decide) hsm) ?_
  rintro _ w24 ⟨F24, S24, rfl, hM24, h24⟩
  refine wl_end rfl ?_
  refine seq_n hK23 ?_
  refine wp_seq_k ?_
  intro K25 hK25
  refine reg_lit ?_
  refine wq_p 4 [(32, (pt m15 0)), (31, (Value.bool true)), (30, (Value.bool true)), (29, (Value.bool false))] ?_
  refine wq_v (some 33) (Value.agg (vb (kl K6)).toArray) (e_loads (h24.at_ 1 rfl) 42 (.tmp 3) (by kernel_rfl) 0 (vb (kl K6)) (by kernel_rfl) (by kernel_rfl) (by kernel_rfl)) ?_
  refine wq_to (some 34) (mdec true (by rw [f6]; exact decK true (true_iff_ (al_l (x := ⟨mkB 107 1, 1, mkB 107 2⟩) rfl (by decide) hbx (by rw [f5]; simp) (by rw [hb1, marksIn_same (.inr (.inl rfl)) (by decide)]; simp)))) (x_kkey h24 0 3 rfl rfl (by kernel_rfl) hp15 K6 (by kernel_rfl) hM24.toWS (by decide) hsm)) ?_
  rintro _ w26 ⟨F26, S26, rfl, hM26, h26⟩
  refine wq_p 4 [(38, (Value.slice A13 16 c13)), (37, (pt m15 0)), (36, (Value.bool true)), (35, (Value.bool true))] ?_
  refine wq_to (some 39) (mdec true (decO true (true_iff_ (by rw [hb1]; exact al_o hbx (by rw [f5]; simp) (by rw [marksIn_same (.inr (.inl rfl)) (by decide)]; simp)))) (x_kopens h26 0 3 rfl rfl (by kernel_rfl) hp15 (by kernel_rfl) (h26.apartR 0 3 0 rfl rfl rfl) hM26.toWS (by decide) hsm rfl)) ?_
  rintro _ w27 ⟨F27, S27, rfl, hM27, h27⟩
  refine wq_p 4 [(43, (Value.slice A13 16 c13)), (42, (pt m15 0)), (41, (Value.bool true)), (40, (Value.bool true))] ?_
  refine wq_to (some 44) (mdec true (decX true (true_iff_ (.box _ (by rw [hb1, marksIn_same (.inr (.inl rfl)) (by decide)]; simp)))) (x_kbox h27 0 3 rfl rfl (by kernel_rfl) hp15 (by kernel_rfl) (h27.apartR 0 3 0 rfl rfl rfl) hM27.toWS (by decide) hsm rfl)) ?_
  rintro _ w28 ⟨F28, S28, rfl, hM28, h28⟩
  refine wq_p 4 [(48, (Value.slice (some ⟨g8, 0, none⟩) 16 16)), (47, (pt m15 0)), (46, (Value.bool true)), (45, (Value.bool true))] ?_
  refine wq_to (some 49) (mdec true (decFk true (n := 2) (by decide) f6 (true_iff_ (by rw [f6]; exact al_l (x := ⟨mkB 107 1, 1, mkB 107 2⟩) rfl (by decide) hbx (by rw [f5]; simp) (by rw [hb1, marksIn_same (.inr (.inl rfl)) (by decide)]; simp)))) (x_fits h28 0 3 rfl rfl (by kernel_rfl) hp15 (by kernel_rfl) (h28.apartB 0 3 1 rfl rfl rfl (by kernel_rfl) (by kernel_rfl)) hM28.toWS (by decide) hsm (by rw [kl_len]; decide))) ?_
  rintro _ w29 ⟨F29, S29, rfl, hM29, h29⟩
  refine wq_p 4 [(53, (Value.slice (some ⟨g8, 0, none⟩) 16 16)), (52, (pt m15 0)), (51, (Value.bool true)), (50, (Value.bool true))] ?_
  refine wq_to (some 54) (mdec true (by rw [f6]; exact al_says (x := ⟨mkB 107 1, 1, mkB 107 2⟩) hbx (by rw [f5]; simp) (by rw [hb1, marksIn_same (.inr (.inl rfl)) (by decide)]; simp)) (x_says h29 0 3 rfl rfl (by kernel_rfl) hp15 (by kernel_rfl) (h29.apartB 0 3 1 rfl rfl rfl (by kernel_rfl) (by kernel_rfl)) hM29.toWS (by decide) hsm (by rw [kl_len]; decide))) ?_
  rintro _ w30 ⟨F30, S30, rfl, hM30, h30⟩
  refine wq_p 3 [(57, (pt m15 0)), (56, (Value.bool true)), (55, (Value.bool true))] ?_
  refine wq_to (some 58) (x_kkeys h30 0 3 rfl rfl (by kernel_rfl) hp15 (by kernel_rfl) hM30.toWS (by decide) hsm) ?_
  rintro _ w31 ⟨F31, S31, A31, c31, rfl, hM31, h31⟩
  refine wq_p 1 [(59, (Value.int .i64 (((knownN S31 s13.keys.length) : Int))))] ?_
  refine wq_v (some 60) (Value.bool true) (eq_is (v := (Value.bool ((((knownN S31 s13.keys.length) : Int)) == 2))) (by kernel_rfl) (congrArg Value.bool (by rw [show s13.keys.length = 2 by rw [e13]; rfl, knownN_all (fun i hi => (hM31.iff.1 _).2 (by match i, hi with | 0, _ => exact .key _ (by rw [f5]; simp) | 1, _ => exact al_l (x := ⟨mkB 107 1, 1, mkB 107 2⟩) rfl (by decide) hbx (by rw [f5]; simp) (by rw [hb1, marksIn_same (.inr (.inl rfl)) (by decide)]; simp)))]; rfl))) ?_
  refine wq_p 4 [(64, (pt tb3 0)), (63, (pt m15 0)), (62, (Value.bool true)), (61, (Value.bool true))] ?_
  refine wq_v (some 65) (Value.agg (vb (kl K6)).toArray) (e_loads (h31.at_ 1 rfl) 42 (.tmp 3) (by kernel_rfl) 0 (vb (kl K6)) (by kernel_rfl) (by kernel_rfl) (by kernel_rfl)) ?_
  refine wq_to (some 66) (x_derive h31 3 rfl K6 (⟨#[120]⟩) (by kernel_rfl) (by rw [e13]; simp)) ?_
  rintro _ w32 ⟨K32, F32, s32, rfl, hK32, hs32, h32⟩
  have e32 : s32 = (⟨[SFrom.fresh, SFrom.fresh, deriveF (mkB 107 2) ⟨#[120]⟩], [⟨mkB 107 1, 1, kl K6⟩], [], [(deriveF (mkB 107 2) ⟨#[120]⟩, 3)]⟩ : STab) := (by rw [hs32, e13, f6]; kernel_rfl)
  have f32 : kl K32 = mkB 107 3 := (by rw [hK32, e13, f6]; kernel_rfl)
  have hW32_m15 := WS.gmade (K0 := fun k => k ∈ ([] ++ marksIn 107 (mkB 98 (s6.boxes.length + 1)) ++ [kl K5] : List Bytes)) (B0 := fun k => k ∈ ([] ++ marksIn 98 (mkB 98 (s6.boxes.length + 1)) : List Bytes)) (hM31.toWS) hs32
  have hsm2 : Sm s32 := sm1 (by rw [e32]) (by rw [kl_len]; decide) (by rw [e32]; simp)
  have hbx2 : s32.box (mkB 98 1) = some ⟨mkB 107 1, 1, mkB 107 2⟩ := by rw [e32, f6]; kernel_rfl
  have hk2 : s32.keys[2]? = some (deriveF (mkB 107 2) ⟨#[120]⟩) := by rw [e32]; rfl
  refine wq_to (some 67) (mdec true (by rw [f32]; exact decK true (true_iff_ (Kn.late 2 _ hk2 (by show mkB 107 2 ≠ zKey; decide) (al_l (x := ⟨mkB 107 1, 1, mkB 107 2⟩) rfl (by decide) hbx2 (by rw [f5]; simp) (by rw [hb1, marksIn_same (.inr (.inl rfl)) (by decide)]; simp))))) (x_kkey h32 0 3 rfl rfl (by kernel_rfl) hp15 K32 (by kernel_rfl) hW32_m15 (by decide) hsm2)) ?_
  rintro _ w33 ⟨F33, S33, rfl, hM33, h33⟩
  refine wq_p 2 [(0, (Value.bool true)), (68, (Value.bool true))] ?_
  refine wl_end rfl ?_
  refine seq_n hK25 ?_
  refine wp_ret ?_
  refine post_1 rfl (by kernel_rfl) (rtmp (v := (Value.bool true)) (by kernel_rfl)) ?_
  exact ⟨rfl, h33.below0⟩
end Go.Proofs.Ytjjcnijdjhhdoaa
end
/-! What KnowsMore and KnowsCloses are asked, as it comes in: opened. -/
section
namespace Go.Proofs.Ytjjcnijdjhhdoaa
open Go.ChangeShapes Go.WideShapes Go.ChangeAt Go.RowKit Go.QT
set_option maxRecDepth 100000
/-- The cells of a row of numbers. -/
def ivs (l : List Int) : List (List Value) := l.map fun x => [.int .i64 x]
theorem ivs_len (l : List Int) : (ivs l).length = l.length := by simp [ivs]
theorem ivs_get {l : List Int} {i : Nat} {x : Int} (h : l[i]? = some x) : (ivs l)[i]? = some [.int .i64 x] := by
  unfold ivs; rw [List.getElem?_map, h]; rfl
/-- A slice reads as numbers. -/
def IS (w : World) (v : Value) (l : List Int) : Prop := ∃ A c, v = .slice A l.length c ∧ RV w 1 A c (ivs l)
structure KBox where
  by_ : Int
  kv : Value
  ks : List Int
  bv : Value
  bs : List Int
def kbCells (z : KBox) : List Value := [.int .i64 z.by_, z.kv, z.bv]
/-- Rows of numbers that are read. -/
def rISs (vs : List Value) (ls : List (List Int)) : Res where
  F := fun q => ∃ (i : Nat) (v : Value) (l : List Int), vs[i]? = some v ∧ ls[i]? = some l ∧ l ≠ [] ∧ v.ownBlock = some q
  Φ := fun w => ∀ (i : Nat) (v : Value) (l : List Int), vs[i]? = some v → ls[i]? = some l → IS w v l
  lt := fun h q hq => by
    obtain ⟨i, v, l, h1, h2, h3, h4⟩ := hq
    obtain ⟨A, c, rfl, hr⟩ := h i v l h1 h2
    refine (rRV 1 A c (ivs l)).lt hr q ⟨fun e => h3 (by simpa [ivs] using e), ?_⟩
    cases A with
    | none => simp [Value.ownBlock] at h4
    | some a => simpa [Value.ownBlock, ownA] using h4
  keep := fun h hs hk i v l h1 h2 => by
    obtain ⟨A, c, rfl, hr⟩ := h i v l h1 h2
    refine ⟨A, c, rfl, (rRV 1 A c (ivs l)).keep hr hs fun q hq => hk q ⟨i, _, l, h1, h2, fun e => hq.1 (by rw [e]; rfl), ?_⟩⟩
    cases A with
    | none => exact absurd hq.2 (by simp [ownA])
    | some a => simpa [Value.ownBlock, ownA] using hq.2
structure KIn where
  of : List Int
  bx : List KBox
  ls : List Int
  ss : List Int
section
variable {H : Type} {enc : TypeId × Value → H} {w : World} {base : Nat}
theorem uInts : Try.prog.underlying 84 = some (.slice 3) := by kernel_rfl
theorem uKbs : Try.prog.underlying 85 = some (.slice 131) := by kernel_rfl
theorem is_of_trod {fuel : Nat} {c : Value} {x : DataW H × List MemPlace} {sp : Nat → Bool} (hf : DataW.trod enc Try.prog w base sp true fuel 84 [c] = some x) : ∃ l : List Int, IS w c l := by
  rcases open_ints uInts uInt cInt hf with ⟨hcs, hx⟩ | ⟨a, len, cap, zs, hcs, _, hl, hm, hz, hx, hcell, hwz⟩
  · have : c = .slice none 0 0 := by simpa using hcs
    subst this
    exact ⟨[], none, 0, rfl, by simp [ivs], Nat.zero_le _, by simp [ivs], by simp [ivs]⟩
  · have : c = .slice (some a) len cap := by simpa using hcs
    subst this
    have hzl : len ≤ zs.length := by rw [hz]; split <;> omega
    have hlen : (zs.take len).length = len := by simp; omega
    refine ⟨zs.take len, some a, cap, by rw [hlen], by rw [ivs_len, hlen]; exact hl, hm, ?_, ?_⟩
    · intro y hy
      unfold ivs at hy
      rw [List.mem_map] at hy
      obtain ⟨z, _, rfl⟩ := hy
      rfl
    · intro hne
      have hpos : 0 < len := by
        rcases Nat.eq_zero_or_pos len with h0 | h0
        · exact absurd (by rw [h0]; rfl) hne
        · exact h0
      obtain ⟨ab, ao, spot⟩ := a
      have h0 := hcell 0 (by omega)
      have hspot : spot = none := by simpa [Addr.add] using World.cell?_spot h0
      subst hspot
      refine ⟨ab, ao, rfl, ?_, fun i y hy j u hu => ?_⟩
      · rcases Nat.lt_or_ge ab w.heap.size with h' | h'
        · exact h'
        · rw [Addr.add_lit] at h0
          simp [World.cell?, Array.getElem?_eq_none h'] at h0
      · unfold ivs at hy
        rw [List.getElem?_map, Option.map_eq_some_iff] at hy
        obtain ⟨z, hz1, rfl⟩ := hy
        have hj : j = 0 := by have := (List.getElem?_eq_some_iff.1 hu).1; simpa using this
        subst hj
        injection hu with hu; subst hu
        have hil : i < len := by have := (List.getElem?_eq_some_iff.1 hz1).1; omega
        have hc := hcell i (by omega)
        rw [Addr.add_lit] at hc
        have e : zs.getD i 0 = z := by
          rw [List.getElem?_take] at hz1
          rw [if_pos hil] at hz1
          rw [List.getD_eq_getElem?_getD, hz1]; rfl
        rw [Nat.mul_one, Nat.add_zero, hc, e]
theorem kbFields : (Try.prog.fieldsOf 131).toList.map (fun f => (f.type, f.offset)) = [(3, 0), (84, 1), (84, 2)] := by kernel_rfl
theorem kbUnd : Try.prog.underlying 131 = some (.struct (Try.prog.fieldsOf 131)) := by kernel_rfl
theorem kbCellsOf : Try.prog.cellsOf 131 = 3 := by kernel_rfl
theorem cInts : Try.prog.cellsOf 84 = 1 := by kernel_rfl
theorem cKbs : Try.prog.cellsOf 85 = 1 := by kernel_rfl
theorem kinFields : (Try.prog.fieldsOf 87).toList.map (fun f => (f.type, f.offset)) = [(84, 0), (85, 1), (84, 2), (84, 3)] := by kernel_rfl
theorem kinUnd : Try.prog.underlying 87 = some (.struct (Try.prog.fieldsOf 87)) := by kernel_rfl
theorem kinCellsOf : Try.prog.cellsOf 87 = 4 := by kernel_rfl
theorem fld_of {S : TypeId} {k : Nat} {l : List (Nat × Nat)} {n : Nat} {cs : List Value} {xs : List (DataW H × List MemPlace)} {sp : Nat → Bool} (hF : (Try.prog.fieldsOf S).toList.map (fun f => (f.type, f.offset)) = l) (hk : l.length = k) (hxl : xs.length = (Try.prog.fieldsOf S).size)
    (hx : ∀ (i : Nat) (f : Field), (Try.prog.fieldsOf S)[i]? = some f → xs[i]? = DataW.trod enc Try.prog w base sp true n f.type ((cs.drop f.offset).take (Try.prog.cellsOf f.type))) : ∀ (i : Nat) (t o : Nat), l[i]? = some (t, o) → ∃ y, DataW.trod enc Try.prog w base sp true n t ((cs.drop o).take (Try.prog.cellsOf t)) = some y := by
  intro i t o h
  have hi : i < k := by rw [← hk]; exact (List.getElem?_eq_some_iff.1 h).1
  have hs : (Try.prog.fieldsOf S).size = k := by
    have := congrArg List.length hF
    rw [← hk, ← this]; simp
  rw [← hF, List.getElem?_map, Option.map_eq_some_iff] at h
  obtain ⟨f, hf1, hf2⟩ := h
  injection hf2 with h1 h2
  have := hx i f (by rw [← Array.getElem?_toList]; exact hf1)
  rw [h1, h2, List.getElem?_eq_getElem (by omega)] at this
  exact ⟨_, this.symm⟩
theorem kb_of {fuel : Nat} {cs : List Value} {x : DataW H × List MemPlace} {sp : Nat → Bool} (hf : DataW.trod enc Try.prog w base sp true fuel 131 cs = some x) : ∃ z : KBox, cs = kbCells z ∧ IS w z.kv z.ks ∧ IS w z.bv z.bs := by
  obtain ⟨xs, n, rfl, _, hl, hxl, hx⟩ := DataW.trod_struct kbUnd hf
  rw [kbCellsOf] at hl
  have fld := fld_of kbFields rfl (by omega) (fun i f h => (hx i f h).symm)
  match cs, hl with
  | [c0, c1, c2], _ =>
    obtain ⟨y0, h0⟩ := fld 0 3 0 rfl
    obtain ⟨y1, h1⟩ := fld 1 84 1 rfl
    obtain ⟨y2, h2⟩ := fld 2 84 2 rfl
    rw [cInt] at h0
    rw [cInts] at h1 h2
    obtain ⟨k, e0, _, _⟩ := DataW.trod_int uInt h0
    simp at e0
    subst e0
    obtain ⟨l1, s1⟩ := is_of_trod (c := c1) (by simpa using h1)
    obtain ⟨l2, s2⟩ := is_of_trod (c := c2) (by simpa using h2)
    exact ⟨⟨k, c1, l1, c2, l2⟩, rfl, s1, s2⟩
theorem list_of {α : Type} (n : Nat) (p : Nat → α → Prop) (h : ∀ i, i < n → ∃ z, p i z) : ∃ st : List α, st.length = n ∧ ∀ i z, st[i]? = some z → p i z := by
  induction n with
  | zero => exact ⟨[], rfl, by simp⟩
  | succ n ih =>
    obtain ⟨st, hl, hst⟩ := ih fun i hi => h i (by omega)
    obtain ⟨z, hz⟩ := h n (by omega)
    refine ⟨st ++ [z], by simp [hl], fun i y hy => ?_⟩
    rcases get_snoc_iff.1 hy with h1 | ⟨h1, h2⟩
    · exact hst i y h1
    · subst h2; rw [h1, hl]; exact hz
theorem kbs_of_trod {fuel : Nat} {c : Value} {x : DataW H × List MemPlace} {sp : Nat → Bool} (hf : DataW.trod enc Try.prog w base sp true fuel 85 [c] = some x) :
    ∃ A d st, c = .slice A (List.length st) d ∧ RV w 3 A d (st.map kbCells) ∧ (rISs (st.map (·.kv)) (st.map (·.ks))).Φ w ∧ (rISs (st.map (·.bv)) (st.map (·.bs))).Φ w := by
  rcases Go.Deep.open_slice uKbs hf with ⟨hcs, _⟩ | ⟨a, len, cap, m, n, D, Pl, hcs, _, hl, hm, hmm, _, hx⟩
  · have : c = .slice none 0 0 := by simpa using hcs
    subst this
    exact ⟨none, 0, [], rfl, ⟨by simp, Nat.zero_le _, by simp, by simp⟩, by intro i v l h1; simp at h1, by intro i v l h1; simp at h1⟩
  · have : c = .slice (some a) len cap := by simpa using hcs
    subst this
    have hml : len ≤ m := by rw [hmm]; split <;> omega
    obtain ⟨st, hlen, hst⟩ := list_of len (fun i (z : KBox) => w.cells? base (a.add (i * 3)) 3 = some (kbCells z) ∧ IS w z.kv z.ks ∧ IS w z.bv z.bs) fun i hi => by
      obtain ⟨cs', h1, h2⟩ := hx i (by omega)
      obtain ⟨z, rfl, hs⟩ := kb_of h2
      rw [kbCellsOf] at h1
      exact ⟨z, h1, hs⟩
    subst hlen
    refine ⟨some a, cap, st, rfl, ⟨by simpa using hl, hm, ?_, ?_⟩, ?_, ?_⟩
    · intro y hy
      rw [List.mem_map] at hy
      obtain ⟨z, _, rfl⟩ := hy
      rfl
    · intro hne
      have hpos : 0 < st.length := by
        rcases Nat.eq_zero_or_pos st.length with h0 | h0
        · exact absurd (by rw [List.eq_nil_of_length_eq_zero h0]; rfl) hne
        · exact h0
      have hz0 := (hst 0 _ (List.getElem?_eq_getElem hpos)).1
      obtain ⟨_, _, hc0⟩ := World.cells?_some hz0
      obtain ⟨ab, ao, spot⟩ := a
      have h00 := hc0 0 (by omega)
      have h01 : w.cell? (((⟨ab, ao, spot⟩ : Addr).add (0 * 3)).add 0) = some (.int .i64 st[0].by_) := h00
      have hspot : spot = none := by simpa [Addr.add] using World.cell?_spot h01
      subst hspot
      refine ⟨ab, ao, rfl, ?_, fun i y hy j u hu => ?_⟩
      · rcases Nat.lt_or_ge ab w.heap.size with h' | h'
        · exact h'
        · rw [Addr.add_lit, Addr.add_lit] at h01
          simp [World.cell?, Array.getElem?_eq_none h'] at h01
      · rw [List.getElem?_map, Option.map_eq_some_iff] at hy
        obtain ⟨z, hz, rfl⟩ := hy
        obtain ⟨_, _, hc⟩ := World.cells?_some (hst i z hz).1
        have hj : j < 3 := by have := (List.getElem?_eq_some_iff.1 hu).1; simpa [kbCells] using this
        have := hc j hj
        rw [Addr.add_lit, Addr.add_lit] at this
        rw [this]; exact hu
    · intro i v l h1 h2
      rw [List.getElem?_map, Option.map_eq_some_iff] at h1 h2
      obtain ⟨z, hz, rfl⟩ := h1
      obtain ⟨z', hz', rfl⟩ := h2
      rw [hz] at hz'; injection hz' with hz'; subst hz'
      exact (hst i z hz).2.1
    · intro i v l h1 h2
      rw [List.getElem?_map, Option.map_eq_some_iff] at h1 h2
      obtain ⟨z, hz, rfl⟩ := h1
      obtain ⟨z', hz', rfl⟩ := h2
      rw [hz] at hz'; injection hz' with hz'; subst hz'
      exact (hst i z hz).2.2
/-- All that comes in. -/
structure InAt (w : World) (A B C D : Option Addr) (a b c d : Nat) (z : KIn) : Prop where
  of : RV w 1 A a (ivs z.of)
  bx : RV w 3 B b (z.bx.map kbCells)
  k : (rISs (z.bx.map (·.kv)) (z.bx.map (·.ks))).Φ w
  x : (rISs (z.bx.map (·.bv)) (z.bx.map (·.bs))).Φ w
  ls : RV w 1 C c (ivs z.ls)
  ss : RV w 1 D d (ivs z.ss)
theorem open_in {b0 : Nat} {v : Value} {dd : DataW H} {p : List MemPlace} {sp : Nat → Bool} (hv : Value.okWide Try.prog w .any b0 87 v) (h : DataW.Trod enc Try.prog w base sp true 87 v dd p) :
    ∃ A B C D a b c d z, v = .agg #[.slice A (KIn.of z).length a, .slice B z.bx.length b, .slice C z.ls.length c, .slice D z.ss.length d] ∧ InAt w A B C D a b c d z := by
  obtain ⟨cs, rfl, hcl⟩ := okWide_struct kinUnd hv
  obtain ⟨fuel, hf⟩ := h
  have hc : (Value.agg cs).cells = cs := rfl
  rw [hc] at hf
  obtain ⟨xs, n, rfl, _, hl, hxl, hx⟩ := DataW.trod_struct kinUnd hf
  rw [kinCellsOf] at hl
  have fld := fld_of kinFields rfl (by omega) (fun i f h => (hx i f h).symm)
  obtain ⟨l⟩ := cs
  simp only at hl fld
  match l, hl with
  | [c0, c1, c2, c3], _ =>
    obtain ⟨y0, h0⟩ := fld 0 84 0 rfl
    obtain ⟨y1, h1⟩ := fld 1 85 1 rfl
    obtain ⟨y2, h2⟩ := fld 2 84 2 rfl
    obtain ⟨y3, h3⟩ := fld 3 84 3 rfl
    rw [cInts] at h0 h2 h3
    rw [cKbs] at h1
    obtain ⟨l0, A, a, e0, s0⟩ := is_of_trod (c := c0) (by simpa using h0)
    obtain ⟨B, b, bx, e1, s1, s2, s3⟩ := kbs_of_trod (c := c1) (by simpa using h1)
    obtain ⟨l2, C, c, e2, s4⟩ := is_of_trod (c := c2) (by simpa using h2)
    obtain ⟨l3, D, d, e3, s5⟩ := is_of_trod (c := c3) (by simpa using h3)
    subst e0; subst e1; subst e2; subst e3
    exact ⟨A, B, C, D, a, b, c, d, ⟨l0, bx, l2, l3⟩, rfl, s0, s1, s2, s3, s4, s5⟩
end
end Go.Proofs.Ytjjcnijdjhhdoaa
end
