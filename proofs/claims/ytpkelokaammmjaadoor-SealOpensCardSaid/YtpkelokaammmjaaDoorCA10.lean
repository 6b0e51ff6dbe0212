/- The walk of compeerref05.Stream. (Texts laid one behind the other: RShKs, RShK2, RShP, RPut, RefFn, RefP, RefX, RefB, RefK, RefL, RefS.) -/
import Derived.Test.YtpkelokaammmjaaDoorCA9
/-! The constants, one by one. -/
section
namespace Go.Proofs.YtpkelokaammmjaaDoor
def kTo (k : Nat) : List UInt32 := (primes64.take k).map fun p => UInt32.ofNat (cubeTo p 36 % 4294967296)
theorem kTo_all : kTo 64 = shaK := by
  have h : (shaK.map UInt32.toNat).map UInt32.ofNat = shaK := by
    rw [List.map_map]
    have : (UInt32.ofNat ∘ UInt32.toNat) = id := by funext x; simp
    rw [this, List.map_id]
  rw [← h, ← cubes_all, List.map_map]
  rfl
theorem kTo_len (k : Nat) (h : k ≤ 64) : (kTo k).length = k := by
  rw [kTo, List.length_map, List.length_take]
  have : primes64.length = 64 := rfl
  omega
theorem kTo_next (k : Nat) (h : k < 64) : kTo (k + 1) = kTo k ++ [UInt32.ofNat (cubeTo (gn primes64 k) 36 % 4294967296)] := by
  have hl : primes64.length = 64 := rfl
  rw [kTo, List.take_add_one, List.map_append, ← kTo]
  have : primes64[k]? = some (gn primes64 k) := by rw [gn, List.getD_eq_getElem?_getD, List.getElem?_eq_getElem (by omega)]; rfl
  rw [this]; rfl
theorem prTo_mono (q d : Nat) : (prTo q).length ≤ (prTo (q + d)).length := by
  induction d with
  | zero => exact Nat.le_refl _
  | succ d ih =>
    refine Nat.le_trans ih ?_
    rw [← Nat.add_assoc, prTo]
    split
    · rw [List.length_append]; omega
    · exact Nat.le_refl _
theorem prTo_309 : (prTo 309).length < 64 := by decide +kernel
theorem prTo_end {L : List Nat} {q : Nat} (hq : q ≤ 310) (hL : L = prTo q) (h : 64 ≤ L.length) : L = primes64 := by
  rcases Nat.lt_or_ge q 310 with h1 | h1
  · exfalso
    have := prTo_mono q (309 - q)
    rw [show q + (309 - q) = 309 by omega] at this
    have := prTo_309
    rw [hL] at h
    omega
  · rw [hL, show q = 310 by omega, prTo_all]
theorem prTo_more {L : List Nat} {q : Nat} (hq : q ≤ 310) (hL : L = prTo q) (h : L.length < 64) : q < 310 := by
  rcases Nat.lt_or_ge q 310 with h1 | h1
  · exact h1
  · exfalso
    have e : L = primes64 := by rw [hL, show q = 310 by omega, prTo_all]
    rw [e] at h
    exact absurd h (by decide)
theorem prTo_len (q : Nat) : (prTo q).length ≤ q := by
  induction q with
  | zero => exact Nat.le_refl _
  | succ q ih =>
    rw [prTo]
    split
    · rw [List.length_append]; simp; omega
    · omega
theorem prTo_yes {L : List Nat} {q i : Nat} {pr : Bool} (hL : L = prTo q) (hp : pr = primeTo L (q + 2) i) (hi : i = L.length) (b : pr = true) : L ++ [q + 2] = prTo (q + 1) := by
  subst hi; rw [prTo, if_pos (by rw [← hL, ← hp]; exact b), hL]
theorem prTo_no {L : List Nat} {q i : Nat} {pr : Bool} (hL : L = prTo q) (hp : pr = primeTo L (q + 2) i) (hi : i = L.length) (b : pr = false) : L = prTo (q + 1) := by
  subst hi; rw [prTo, if_neg (by rw [← hL, ← hp, b]; decide), hL]
theorem prTo_nz {L : List Nat} {q i : Nat} (hL : L = prTo q) (h : i < L.length) : gn L i ≠ 0 := by
  subst hL
  have hm : ∀ q, ∀ x ∈ prTo q, x ≠ 0 := by
    intro q
    induction q with
    | zero => intro x hx; cases hx
    | succ q ih =>
      intro x hx
      rw [prTo] at hx
      split at hx
      · rcases List.mem_append.1 hx with hx | hx
        · exact ih x hx
        · have : x = q + 2 := by simpa using hx
          omega
      · exact ih x hx
  unfold gn
  rw [List.getD_eq_getElem?_getD, List.getElem?_eq_getElem h]
  exact hm q _ (List.getElem_mem h)
end Go.Proofs.YtpkelokaammmjaaDoor
end
/-! The walks of compeerref03: above, cube, primes, Ks. -/
section
namespace Go.Proofs.YtpkelokaammmjaaDoor
open Go.RowKit Go.QT
attribute [local irreducible] timesN
set_option maxRecDepth 100000 in
set_option maxHeartbeats 4000000 in
theorem above_any (y n : Nat) (hy : y < 18446744073709551616) (w : World) :
    Calls Tryd.prog 53 #[.int .u64 (y : Int), .int .u64 (n : Int)] w (NPost w (.bool (abvN y n))) := by
  have h0 := Hp.nil (fun _ => False) w
  refine enter 44 Tryd.func53 rfl rfl ?_
  refine wp_reset 46 [(0, (Value.int .u64 ((y : Int)))), (1, (Value.int .u64 ((n : Int))))] (fun x0 => ?_)
  refine wp_seq_k ?_
  intro K1 hK1
  refine reg_lit ?_
  refine wq_p 1 [(4, (Value.bool false))] ?_
  refine wl_end rfl ?_
  refine seq_n hK1 ?_
  refine wp_seq_k ?_
  intro K2 hK2
  refine reg_lit ?_
  refine wq_p 1 [(12, (Value.int .u64 ((y : Int))))] ?_
  refine wq_v (some 13) (Value.int .u64 (((y % 262144 : Nat) : Int))) (e_rem64 (.tmp 12) (.const (Value.int .u64 262144)) 34 34 (by kernel_rfl) y 262144 (by kernel_rfl) (by kernel_rfl) (by decide) _) ?_
  refine wq_p 1 [(14, (Value.int .u64 ((y : Int))))] ?_
  refine wq_v (some 15) (Value.int .u64 (((y / 262144 : Nat) : Int))) (e_quo64 (.tmp 14) (.const (Value.int .u64 262144)) 34 34 (by kernel_rfl) y 262144 (by kernel_rfl) (by kernel_rfl) (by decide) hy _) ?_
  refine wq_to (some 16) (x_bs h0 34 ([(Value.int .u64 (((y % 262144 : Nat) : Int))), (Value.int .u64 (((y / 262144 : Nat) : Int)))]) 2 (by kernel_rfl)) ?_
  rintro _ w3 ⟨g3, rfl, h3⟩
  refine wq_p 1 [(5, (Value.slice (some ⟨g3, 0, none⟩) 2 2))] ?_
  refine wl_end rfl ?_
  refine seq_n hK2 ?_
  refine wp_seq_k ?_
  intro K4 hK4
  refine reg_lit ?_
  refine wq_p 2 [(18, (Value.slice (some ⟨g3, 0, none⟩) 2 2)), (17, (Value.slice (some ⟨g3, 0, none⟩) 2 2))] ?_
  refine wq_to (some 19) (x_ovE h3 59 [(Value.slice (some ⟨g3, 0, none⟩) 2 2), (Value.slice (some ⟨g3, 0, none⟩) 2 2)] (by kernel_rfl) (times_any (some ⟨g3, 0, none⟩) (some ⟨g3, 0, none⟩) 2 2 (limbs y) (limbs y) 2 2 _ (nxL (RV.blk1 (h3.at_ 0 rfl) (by kernel_rfl) 2 (by kernel_rfl) (by kernel_rfl) (nx (limbs y)) rfl)) (nxL (RV.blk1 (h3.at_ 0 rfl) (by kernel_rfl) 2 (by kernel_rfl) (by kernel_rfl) (nx (limbs y)) rfl)) (by decide) (by decide) (by decide)) (nx (timesN (limbs y) (limbs y))) (4) rfl (by simp only [nx_len, timesN_len]; rfl)) ?_
  rintro _ w5 ⟨A5, c5, rfl, h5⟩
  refine wq_p 1 [(6, (Value.slice A5 4 c5))] ?_
  refine wl_end rfl ?_
  refine seq_n hK4 ?_
  refine wp_seq_k ?_
  intro K6 hK6
  refine reg_lit ?_
  refine wq_p 2 [(21, (Value.slice (some ⟨g3, 0, none⟩) 2 2)), (20, (Value.slice A5 4 c5))] ?_
  refine wq_to (some 22) (x_ovE h5 59 [(Value.slice A5 4 c5), (Value.slice (some ⟨g3, 0, none⟩) 2 2)] (by kernel_rfl) (times_any A5 (some ⟨g3, 0, none⟩) c5 2 ((timesN (limbs y) (limbs y))) (limbs y) 4 2 _ (nxL (OV.rvn (h5.at_ 0 rfl))) (nxL (RV.blk1 (h5.at_ 1 rfl) (by kernel_rfl) 2 (by kernel_rfl) (by kernel_rfl) (nx (limbs y)) rfl)) (by decide) (by decide) (by decide)) (nx (timesN ((timesN (limbs y) (limbs y))) (limbs y))) (6) rfl (by simp only [nx_len, timesN_len]; rfl)) ?_
  rintro _ w7 ⟨A7, c7, rfl, h7⟩
  refine wq_p 1 [(7, (Value.slice A7 6 c7))] ?_
  refine wl_end rfl ?_
  refine seq_n hK6 ?_
  refine wp_seq_k ?_
  intro K8 hK8
  refine reg_lit ?_
  refine wq_p 1 [(23, (Value.int .u64 ((n : Int))))] ?_
  refine wq_v (some 24) (Value.int .u64 (((n * 64 % 18446744073709551616 : Nat) : Int))) (e_mul64w 34 34 (.tmp 23) (.const (Value.int .u64 64)) (by kernel_rfl) n 64 (by kernel_rfl) (by kernel_rfl) _) ?_
  refine wq_v (some 25) (Value.int .u64 ((((((n * 64 % 18446744073709551616))) % 262144 : Nat) : Int))) (e_rem64 (.tmp 24) (.const (Value.int .u64 262144)) 34 34 (by kernel_rfl) (((n * 64 % 18446744073709551616))) 262144 (by kernel_rfl) (by kernel_rfl) (by decide) _) ?_
  refine wq_p 1 [(26, (Value.int .u64 ((n : Int))))] ?_
  refine wq_v (some 27) (Value.int .u64 (((n * 64 % 18446744073709551616 : Nat) : Int))) (e_mul64w 34 34 (.tmp 26) (.const (Value.int .u64 64)) (by kernel_rfl) n 64 (by kernel_rfl) (by kernel_rfl) _) ?_
  refine wq_v (some 28) (Value.int .u64 ((((((n * 64 % 18446744073709551616))) / 262144 : Nat) : Int))) (e_quo64 (.tmp 27) (.const (Value.int .u64 262144)) 34 34 (by kernel_rfl) (((n * 64 % 18446744073709551616))) 262144 (by kernel_rfl) (by kernel_rfl) (by decide) (Nat.mod_lt _ (by decide)) _) ?_
  refine wq_to (some 29) (x_bs h7 34 ([(Value.int .u64 0), (Value.int .u64 0), (Value.int .u64 0), (Value.int .u64 0), (Value.int .u64 0), (Value.int .u64 ((((((n * 64 % 18446744073709551616))) % 262144 : Nat) : Int))), (Value.int .u64 ((((((n * 64 % 18446744073709551616))) / 262144 : Nat) : Int)))]) 7 (by kernel_rfl)) ?_
  rintro _ w9 ⟨g9, rfl, h9⟩
  refine wq_p 1 [(8, (Value.slice (some ⟨g9, 0, none⟩) 7 7))] ?_
  refine wl_end rfl ?_
  refine seq_n hK8 ?_
  refine wp_seq_k ?_
  intro K10 hK10
  refine wp_seq_k ?_
  intro K11 hK11
  refine reg_lit ?_
  refine wq_p 1 [(9, (Value.int .i64 8))] ?_
  refine wl_end rfl ?_
  refine seq_n hK11 ?_
  refine wp_block ?_
  refine wp_loopm (fun mM xX aA wL => ∃ (i : Int) (k : Nat), (i = (k : Int) - 1) ∧ (k ≤ 9) ∧ (abvGo ((timesN ((timesN (limbs y) (limbs y))) (limbs y))) (wantN n) k = abvN y n) ∧ mM = k + 1 ∧ aA = patch xX 46 [(0, (Value.int .u64 ((y : Int)))), (1, (Value.int .u64 ((n : Int)))), (5, (Value.slice (some ⟨g3, 0, none⟩) 2 2)), (6, (Value.slice A5 4 c5)), (7, (Value.slice A7 6 c7)), (8, (Value.slice (some ⟨g9, 0, none⟩) 7 7)), (9, (Value.int .i64 i))] ∧ Hp (fun _ => False) w wL [] [rBlk g9 34 ([(Value.int .u64 0), (Value.int .u64 0), (Value.int .u64 0), (Value.int .u64 0), (Value.int .u64 0), (Value.int .u64 ((((((n * 64 % 18446744073709551616))) % 262144 : Nat) : Int))), (Value.int .u64 ((((((n * 64 % 18446744073709551616))) / 262144 : Nat) : Int)))]), rOV 34 1 ((Value.slice A7 6 c7)) (nx (timesN ((timesN (limbs y) (limbs y))) (limbs y))), rOV 34 1 ((Value.slice A5 4 c5)) (nx (timesN (limbs y) (limbs y))), rBlk g3 34 ([(Value.int .u64 (((y % 262144 : Nat) : Int))), (Value.int .u64 (((y / 262144 : Nat) : Int)))])]) ⟨_, 8, 9, (by decide), (by omega), rfl, rfl, (patch_eq _ 46 _ (by kernel_rfl) (by kernel_rfl) (by kernel_rfl)), h9.sel [0, 1, 2, 3] [] (by kernel_rfl) rfl rfl⟩ ?_
  rintro _ x12 _ w12 ⟨i, k, hi, hk, hA, rfl, rfl, h12⟩
  refine wp_seq_k ?_
  intro K13 hK13
  refine wp_seq_k ?_
  intro K14 hK14
  refine reg_lit ?_
  refine wq_p 2 [(31, (Value.bool (decide (i ≥ 0)))), (30, (Value.int .i64 i))] ?_
  refine wl_end rfl ?_
  refine seq_n hK14 ?_
  refine wp_if (i ≥ 0) (by kernel_rfl) (fun b15 => ?_) (fun b15 => ?_)
  ·
   refine wp_skip ?_
   refine seq_n hK13 ?_
   refine wp_seq_k ?_
   intro K16 hK16
   refine wp_block ?_
   refine wp_seq_k ?_
   intro K17 hK17
   obtain ⟨j, rfl⟩ : ∃ j : Nat, i = j := ⟨i.toNat, by omega⟩
   have hkj : k = j + 1 := by omega
   
   refine reg_lit ?_
   refine wq_p 2 [(35, (Value.int .i64 ((j : Int)))), (34, (Value.slice A7 6 c7))] ?_
   refine wq_to (some 36) (x_np h12 60 [(Value.slice A7 6 c7), (Value.int .i64 ((j : Int)))] (by kernel_rfl) (lat_any A7 c7 ((timesN ((timesN (limbs y) (limbs y))) (limbs y))) 6 j _ (nxL (OV.rvn (h12.at_ 1 rfl))) (by decide) (by omega))) ?_
   rintro _ w18 ⟨rfl, h18⟩
   refine wq_p 1 [(10, (Value.int .u64 (((gn ((timesN ((timesN (limbs y) (limbs y))) (limbs y))) j : Nat) : Int))))] ?_
   refine wl_end rfl ?_
   refine seq_n hK17 ?_
   refine wp_seq_k ?_
   intro K19 hK19
   refine reg_lit ?_
   refine wq_p 2 [(38, (Value.int .i64 ((j : Int)))), (37, (Value.slice (some ⟨g9, 0, none⟩) 7 7))] ?_
   refine wq_to (some 39) (x_np h18 60 [(Value.slice (some ⟨g9, 0, none⟩) 7 7), (Value.int .i64 ((j : Int)))] (by kernel_rfl) (lat_any (some ⟨g9, 0, none⟩) 7 (wantN n) 7 j _ (nxL (RV.blk1 (h18.at_ 0 rfl) (by kernel_rfl) 7 (by kernel_rfl) (by kernel_rfl) (nx (wantN n)) rfl)) (by decide) (by omega))) ?_
   rintro _ w20 ⟨rfl, h20⟩
   refine wq_p 1 [(11, (Value.int .u64 (((gn (wantN n) j : Nat) : Int))))] ?_
   refine wl_end rfl ?_
   refine seq_n hK19 ?_
   refine wp_seq_k ?_
   intro K21 hK21
   refine reg_lit ?_
   refine wq_p 3 [(42, (Value.bool ((((gn ((timesN ((timesN (limbs y) (limbs y))) (limbs y))) j : Nat) : Int)) != (((gn (wantN n) j : Nat) : Int))))), (41, (Value.int .u64 (((gn (wantN n) j : Nat) : Int)))), (40, (Value.int .u64 (((gn ((timesN ((timesN (limbs y) (limbs y))) (limbs y))) j : Nat) : Int))))] ?_
   refine wl_end rfl ?_
   refine seq_n hK21 ?_
   refine wp_ifne (((gn ((timesN ((timesN (limbs y) (limbs y))) (limbs y))) j : Nat) : Int)) (((gn (wantN n) j : Nat) : Int)) (by kernel_rfl) (fun b22 => ?_) (fun b22 => ?_)
   ·
    have hE : gn ((timesN ((timesN (limbs y) (limbs y))) (limbs y))) j ≠ gn (wantN n) j := by omega
    refine wp_seq_k ?_
    intro K23 hK23
    refine reg_lit ?_
    refine wq_p 4 [(4, (Value.bool (decide (((gn ((timesN ((timesN (limbs y) (limbs y))) (limbs y))) j : Nat) : Int) > ((gn (wantN n) j : Nat) : Int))))), (45, (Value.bool (decide (((gn ((timesN ((timesN (limbs y) (limbs y))) (limbs y))) j : Nat) : Int) > ((gn (wantN n) j : Nat) : Int))))), (44, (Value.int .u64 (((gn (wantN n) j : Nat) : Int)))), (43, (Value.int .u64 (((gn ((timesN ((timesN (limbs y) (limbs y))) (limbs y))) j : Nat) : Int))))] ?_
    refine wl_end rfl ?_
    refine seq_n hK23 ?_
    refine wp_ret ?_
    refine blk_r ?_
    refine seq_r ?_
    refine seq_r ?_
    refine blk_r ?_
    refine seq_r ?_
    refine post_1 rfl (by kernel_rfl) (rtmp (v := (Value.bool (decide (((gn ((timesN ((timesN (limbs y) (limbs y))) (limbs y))) j : Nat) : Int) > ((gn (wantN n) j : Nat) : Int))))) (by kernel_rfl)) ?_
    exact ⟨by rw [← hA, hkj, abvGo, if_neg hE]; simp, h20.below0⟩
   ·
    have hE : gn ((timesN ((timesN (limbs y) (limbs y))) (limbs y))) j = gn (wantN n) j := by omega
    refine wp_skip ?_
    refine blk_n ?_
    refine seq_n hK16 ?_
    refine reg_lit ?_
    refine wq_p 1 [(32, (Value.int .i64 ((j : Int))))] ?_
    refine wq_v (some 33) (Value.int .i64 ((j : Int) - 1)) (exec_sub _ _ _ _ rfl ((j : Int)) 1 (by kernel_rfl) (by kernel_rfl) ((j : Int) - 1) rfl (by omega) (by omega) _) ?_
    refine wq_p 1 [(9, (Value.int .i64 ((j : Int) - 1)))] ?_
    refine wl_end rfl ?_
    refine ⟨j + 1, (by omega), ((j : Int) - 1), j, rfl, (by omega), (by rw [← hA, hkj, abvGo, if_pos hE]), rfl, (patch_eq _ 46 _ (by kernel_rfl) (by kernel_rfl) (by kernel_rfl)), h20.sel [0, 1, 2, 3] [] (by kernel_rfl) rfl rfl⟩
  ·
   refine wp_exit ?_
   refine seq_e ?_
   refine seq_e ?_
   refine blk_e ?_
   refine seq_n hK10 ?_
   refine wp_seq_k ?_
   intro K24 hK24
   refine reg_lit ?_
   refine wq_p 1 [(4, (Value.bool false))] ?_
   refine wl_end rfl ?_
   refine seq_n hK24 ?_
   refine wp_ret ?_
   refine post_1 rfl (by kernel_rfl) (rtmp (v := (Value.bool false)) (by kernel_rfl)) ?_
   obtain rfl : k = 0 := by omega
   exact ⟨by rw [← hA]; rfl, h12.below0⟩
set_option maxRecDepth 100000 in
set_option maxHeartbeats 4000000 in
theorem cube_any (n : Nat) (w : World) :
    Calls Tryd.prog 38 #[.int .u64 (n : Int)] w (NPost w (.int .u32 (uw (UInt32.ofNat (cubeTo n 36 % 4294967296))))) := by
  have h0 := Hp.nil (fun _ => False) w
  refine enter 22 Tryd.func38 rfl rfl ?_
  refine wp_reset 23 [(0, (Value.int .u64 ((n : Int))))] (fun x0 => ?_)
  refine wp_seq_k ?_
  intro K1 hK1
  refine reg_lit ?_
  refine wq_p 1 [(2, (Value.int .u32 0))] ?_
  refine wl_end rfl ?_
  refine seq_n hK1 ?_
  refine wp_seq_k ?_
  intro K2 hK2
  refine reg_lit ?_
  refine wq_p 1 [(3, (Value.int .u64 0))] ?_
  refine wl_end rfl ?_
  refine seq_n hK2 ?_
  refine wp_seq_k ?_
  intro K3 hK3
  refine wp_seq_k ?_
  intro K4 hK4
  refine reg_lit ?_
  refine wq_p 1 [(4, (Value.int .i64 35))] ?_
  refine wl_end rfl ?_
  refine seq_n hK4 ?_
  refine wp_block ?_
  refine wp_loopm (fun mM xX aA wL => ∃ (i : Int) (k : Nat) (x : Nat), (i = 35 - (k : Int)) ∧ (k ≤ 36) ∧ (x = cubeTo n k) ∧ mM = 36 - k ∧ aA = patch xX 23 [(0, (Value.int .u64 ((n : Int)))), (2, (Value.int .u32 0)), (3, (Value.int .u64 (((x : Nat) : Int)))), (4, (Value.int .i64 i))] ∧ Hp (fun _ => False) w wL [] []) ⟨_, 35, 0, 0, (by decide), (by omega), rfl, rfl, (patch_eq _ 23 _ (by kernel_rfl) (by kernel_rfl) (by kernel_rfl)), h0.sel [] [] (by kernel_rfl) rfl rfl⟩ ?_
  rintro _ x5 _ w5 ⟨i, k, x, hi, hk, hx, rfl, rfl, h5⟩
  refine wp_seq_k ?_
  intro K6 hK6
  refine wp_seq_k ?_
  intro K7 hK7
  refine reg_lit ?_
  refine wq_p 2 [(7, (Value.bool (decide (i ≥ 0)))), (6, (Value.int .i64 i))] ?_
  refine wl_end rfl ?_
  refine seq_n hK7 ?_
  refine wp_if (i ≥ 0) (by kernel_rfl) (fun b8 => ?_) (fun b8 => ?_)
  ·
   refine wp_skip ?_
   refine seq_n hK6 ?_
   refine wp_seq_k ?_
   intro K9 hK9
   refine wp_block ?_
   refine wp_seq_k ?_
   intro K10 hK10
   obtain ⟨j, rfl⟩ : ∃ j : Nat, i = j := ⟨i.toNat, by omega⟩
   have hkj : j = 35 - k := by omega
   
   refine reg_lit ?_
   refine wq_p 2 [(11, (Value.int .i64 ((j : Int)))), (10, (Value.int .u64 (((x : Nat) : Int))))] ?_
   refine wq_v (some 12) (Value.int .u64 ((j : Int))) (eq_is (v := Value.int .u64 (IntKind.u64.wrap ((j : Int)))) (by kernel_rfl) (wrap_u64_is (by omega) (by omega))) ?_
   refine wq_v (some 13) (Value.int .u64 (((2 ^ j : Nat) : Int))) (e_shl1 34 63 (.const (Value.int .u64 1)) (.tmp 12) (by kernel_rfl) .u64 j (by omega) (by kernel_rfl) (by kernel_rfl) _) ?_
   refine wq_v (some 14) (Value.int .u64 (((((((x))) + (((2 ^ j)))) % 18446744073709551616 : Nat) : Int))) (e_add64w 34 34 (.tmp 10) (.tmp 13) (by kernel_rfl) (((x))) (((2 ^ j))) (by kernel_rfl) (by kernel_rfl) _) ?_
   refine wq_p 1 [(5, (Value.int .u64 (((((((x))) + (((2 ^ j)))) % 18446744073709551616 : Nat) : Int))))] ?_
   refine wl_end rfl ?_
   refine seq_n hK10 ?_
   refine wp_seq_k ?_
   intro K11 hK11
   refine reg_lit ?_
   refine wq_p 2 [(16, (Value.int .u64 ((n : Int)))), (15, (Value.int .u64 (((((((x))) + (((2 ^ j)))) % 18446744073709551616 : Nat) : Int))))] ?_
   refine wq_to (some 17) (x_np h5 53 [(Value.int .u64 (((((((x))) + (((2 ^ j)))) % 18446744073709551616 : Nat) : Int))), (Value.int .u64 ((n : Int)))] (by kernel_rfl) (above_any (((((((x))) + (((2 ^ j)))) % 18446744073709551616))) n (Nat.mod_lt _ (by decide)) _)) ?_
   rintro _ w12 ⟨rfl, h12⟩
   refine wq_p 1 [(18, (Value.bool (!(abvN (((((((x))) + (((2 ^ j)))) % 18446744073709551616))) n))))] ?_
   refine wl_end rfl ?_
   refine seq_n hK11 ?_
   refine wp_cond_split (t := !(abvN (((((((x))) + (((2 ^ j)))) % 18446744073709551616))) n)) (by kernel_rfl) (fun b13 => ?_) (fun b13 => ?_)
   ·
    refine reg_lit ?_
    refine wq_p 2 [(3, (Value.int .u64 (((((((x))) + (((2 ^ j)))) % 18446744073709551616 : Nat) : Int)))), (19, (Value.int .u64 (((((((x))) + (((2 ^ j)))) % 18446744073709551616 : Nat) : Int))))] ?_
    refine wl_end rfl ?_
    refine blk_n ?_
    refine seq_n hK9 ?_
    refine reg_lit ?_
    refine wq_p 1 [(8, (Value.int .i64 ((j : Int))))] ?_
    refine wq_v (some 9) (Value.int .i64 ((j : Int) - 1)) (exec_sub _ _ _ _ rfl ((j : Int)) 1 (by kernel_rfl) (by kernel_rfl) ((j : Int) - 1) rfl (by omega) (by omega) _) ?_
    refine wq_p 1 [(4, (Value.int .i64 ((j : Int) - 1)))] ?_
    refine wl_end rfl ?_
    refine ⟨36 - (k + 1), (by omega), ((j : Int) - 1), (k + 1), (((((((x))) + (((2 ^ j)))) % 18446744073709551616))), (by omega), (by omega), (by have hb := b13; rw [hx, hkj] at hb; rw [hx, hkj, cubeTo, if_neg (by simpa using hb)]), rfl, (patch_eq _ 23 _ (by kernel_rfl) (by kernel_rfl) (by kernel_rfl)), h12.sel [] [] (by kernel_rfl) rfl rfl⟩
   ·
    refine wp_skip ?_
    refine blk_n ?_
    refine seq_n hK9 ?_
    refine reg_lit ?_
    refine wq_p 1 [(8, (Value.int .i64 ((j : Int))))] ?_
    refine wq_v (some 9) (Value.int .i64 ((j : Int) - 1)) (exec_sub _ _ _ _ rfl ((j : Int)) 1 (by kernel_rfl) (by kernel_rfl) ((j : Int) - 1) rfl (by omega) (by omega) _) ?_
    refine wq_p 1 [(4, (Value.int .i64 ((j : Int) - 1)))] ?_
    refine wl_end rfl ?_
    refine ⟨36 - (k + 1), (by omega), ((j : Int) - 1), (k + 1), (((x))), (by omega), (by omega), (by have hb := b13; rw [hx, hkj] at hb; rw [hx, cubeTo, if_pos (by simpa using hb)]), rfl, (patch_eq _ 23 _ (by kernel_rfl) (by kernel_rfl) (by kernel_rfl)), h12.sel [] [] (by kernel_rfl) rfl rfl⟩
  ·
   refine wp_exit ?_
   refine seq_e ?_
   refine seq_e ?_
   refine blk_e ?_
   refine seq_n hK3 ?_
   refine wp_seq_k ?_
   intro K14 hK14
   refine reg_lit ?_
   refine wq_p 1 [(20, (Value.int .u64 (((x : Nat) : Int))))] ?_
   refine wq_v (some 21) (Value.int .u64 ((((((x))) % 4294967296 : Nat) : Int))) (e_rem64 (.tmp 20) (.const (Value.int .u64 4294967296)) 34 34 (by kernel_rfl) (((x))) 4294967296 (by kernel_rfl) (by kernel_rfl) (by decide) _) ?_
   refine wq_v (some 22) (Value.int .u32 (uw (UInt32.ofNat ((((((x))) % 4294967296)))))) (eq_is (v := Value.int .u32 (IntKind.u32.wrap ((((((x))) % 4294967296 : Nat) : Int)))) (by kernel_rfl) (w_of64 ((((((x))) % 4294967296))))) ?_
   refine wq_p 1 [(2, (Value.int .u32 (uw (UInt32.ofNat ((((((x))) % 4294967296)))))))] ?_
   refine wl_end rfl ?_
   refine seq_n hK14 ?_
   refine wp_ret ?_
   refine post_1 rfl (by kernel_rfl) (rtmp (v := (Value.int .u32 (uw (UInt32.ofNat ((((((x))) % 4294967296))))))) (by kernel_rfl)) ?_
   obtain rfl : k = 36 := by omega
   exact ⟨by rw [hx], h5.below0⟩
end Go.Proofs.YtpkelokaammmjaaDoor
end
/-! The walks of compeerref03: primes, Ks. -/
section
namespace Go.Proofs.YtpkelokaammmjaaDoor
open Go.RowKit Go.QT
set_option maxRecDepth 100000 in
set_option maxHeartbeats 4000000 in
theorem primes_any (w : World) :
    Calls Tryd.prog 37 #[.int .i64 64] w (VOPost w 34 1 (nx primes64)) := by
  have h0 := Hp.nil (fun _ => False) w
  refine enter 32 Tryd.func37 rfl rfl ?_
  refine wp_reset 33 [(0, (Value.int .i64 64))] (fun x0 => ?_)
  refine wp_seq_k ?_
  intro K1 hK1
  refine reg_lit ?_
  refine wq_p 1 [(2, (Value.slice none 0 0))] ?_
  refine wl_end rfl ?_
  refine seq_n hK1 ?_
  refine wp_seq_k ?_
  intro K2 hK2
  refine reg_lit ?_
  refine wq_to (some 7) (x_bs0 h0 34 1 (by kernel_rfl)) ?_
  rintro _ w3 ⟨A3, rfl, h3⟩
  refine wq_p 1 [(3, (Value.slice A3 0 0))] ?_
  refine wl_end rfl ?_
  refine seq_n hK2 ?_
  refine wp_seq_k ?_
  intro K4 hK4
  refine wp_seq_k ?_
  intro K5 hK5
  refine reg_lit ?_
  refine wq_p 1 [(4, (Value.int .u64 2))] ?_
  refine wl_end rfl ?_
  refine seq_n hK5 ?_
  refine wp_block ?_
  refine wp_loopm (fun mM xX aA wL => ∃ (q : Nat) (L : List Nat) (Av : Option Addr) (cv : Nat), (q ≤ 310) ∧ (L = prTo q) ∧ mM = 310 - q ∧ aA = patch xX 33 [(0, (Value.int .i64 64)), (2, (Value.slice none 0 0)), (3, (Value.slice Av L.length cv)), (4, (Value.int .u64 (((q + 2 : Nat) : Int))))] ∧ Hp (fun _ => False) w wL [] [rOV 34 1 ((Value.slice Av L.length cv)) (nx L)]) ⟨_, 0, ([]), A3, 0, (by omega), rfl, rfl, (patch_eq _ 33 _ (by kernel_rfl) (by kernel_rfl) (by kernel_rfl)), h3.sel [0] [] (by kernel_rfl) rfl rfl⟩ ?_
  rintro _ x6 _ w6 ⟨q, L, Av, cv, hq, hL, rfl, rfl, h6⟩
  refine wp_seq_k ?_
  intro K7 hK7
  refine wp_seq_k ?_
  intro K8 hK8
  refine reg_lit ?_
  refine wq_p 4 [(11, (Value.bool (decide ((L.length : Int) < 64)))), (10, (Value.int .i64 64)), (9, (Value.int .i64 ((L.length : Int)))), (8, (Value.slice Av L.length cv))] ?_
  refine wl_end rfl ?_
  refine seq_n hK8 ?_
  refine wp_if ((L.length : Int) < 64) (by kernel_rfl) (fun b9 => ?_) (fun b9 => ?_)
  ·
   refine wp_skip ?_
   refine seq_n hK7 ?_
   refine wp_seq_k ?_
   intro K10 hK10
   refine wp_block ?_
   refine wp_seq_k ?_
   intro K11 hK11
   have hq9 := prTo_more hq hL (by omega)
   have hLl := prTo_len q
   rw [← hL] at hLl
   
   refine reg_lit ?_
   refine wq_p 1 [(5, (Value.bool true))] ?_
   refine wl_end rfl ?_
   refine seq_n hK11 ?_
   refine wp_seq_k ?_
   intro K12 hK12
   refine wp_seq_k ?_
   intro K13 hK13
   refine reg_lit ?_
   refine wq_p 1 [(6, (Value.int .i64 0))] ?_
   refine wl_end rfl ?_
   refine seq_n hK13 ?_
   refine wp_block ?_
   refine wp_loopm (fun mM xX aA wL => ∃ (i : Nat) (pr : Bool), (i ≤ L.length) ∧ (pr = primeTo L (q + 2) i) ∧ mM = L.length - i ∧ aA = patch xX 33 [(0, (Value.int .i64 64)), (2, (Value.slice none 0 0)), (3, (Value.slice Av L.length cv)), (4, (Value.int .u64 (((q + 2 : Nat) : Int)))), (5, (Value.bool pr)), (6, (Value.int .i64 ((i : Int)))), (11, (Value.bool (decide ((L.length : Int) < 64))))] ∧ Hp (fun _ => False) w wL [] [rOV 34 1 ((Value.slice Av L.length cv)) (nx L)]) ⟨_, 0, true, (by omega), rfl, rfl, (patch_eq _ 33 _ (by kernel_rfl) (by kernel_rfl) (by kernel_rfl)), h6.sel [0] [] (by kernel_rfl) rfl rfl⟩ ?_
   rintro _ x14 _ w14 ⟨i, pr, hi, hp, rfl, rfl, h14⟩
   refine wp_seq_k ?_
   intro K15 hK15
   refine wp_seq_k ?_
   intro K16 hK16
   refine reg_lit ?_
   refine wq_p 4 [(17, (Value.bool (decide ((i : Int) < (L.length : Int))))), (16, (Value.int .i64 ((L.length : Int)))), (15, (Value.slice Av L.length cv)), (14, (Value.int .i64 ((i : Int))))] ?_
   refine wl_end rfl ?_
   refine seq_n hK16 ?_
   refine wp_if ((i : Int) < (L.length : Int)) (by kernel_rfl) (fun b17 => ?_) (fun b17 => ?_)
   ·
    refine wp_skip ?_
    refine seq_n hK15 ?_
    refine wp_seq_k ?_
    intro K18 hK18
    refine wp_block ?_
    refine wp_seq_k ?_
    intro K19 hK19
    refine reg_lit ?_
    refine wq_p 3 [(22, (Value.int .i64 ((i : Int)))), (21, (Value.slice Av L.length cv)), (20, (Value.int .u64 (((q + 2 : Nat) : Int))))] ?_
    refine wq_v (some 23) (eAt Av (i * 1 + 0)) (e_idxN (OV.rvn (h14.at_ 0 rfl)).2 i L.length (OV.rvn (h14.at_ 0 rfl)).1 (by omega) 66 (.tmp 21) (.tmp 22) (by kernel_rfl) .i64 (by kernel_rfl) (by kernel_rfl) 34 (by kernel_rfl) (by kernel_rfl) _) ?_
    refine wq_v (some 24) (Value.int .u64 (((gn L (i) : Nat) : Int))) (e_elemN (OV.rvn (h14.at_ 0 rfl)).2 i 0 ([(Value.int .u64 (((gn L (i) : Nat) : Int)))]) (nx_get L (i) (by omega)) 34 (.tmp 23) (by kernel_rfl) (Value.int .u64 (((gn L (i) : Nat) : Int))) (by kernel_rfl) (by kernel_rfl) (by kernel_rfl)) ?_
    refine wq_v (some 25) (Value.int .u64 ((((((q + 2))) % (((gn L (i)))) : Nat) : Int))) (e_rem64 (.tmp 20) (.tmp 24) 34 34 (by kernel_rfl) (((q + 2))) (((gn L (i)))) (by kernel_rfl) (by kernel_rfl) (prTo_nz hL (by omega)) _) ?_
    refine wq_p 1 [(26, (Value.bool (((((((q + 2))) % (((gn L (i)))) : Nat) : Int)) == 0)))] ?_
    refine wl_end rfl ?_
    refine seq_n hK19 ?_
    refine wp_ifeq ((((((q + 2))) % (((gn L (i)))) : Nat) : Int)) 0 (by kernel_rfl) (fun b20 => ?_) (fun b20 => ?_)
    ·
     refine reg_lit ?_
     refine wq_p 1 [(5, (Value.bool false))] ?_
     refine wl_end rfl ?_
     refine blk_n ?_
     refine seq_n hK18 ?_
     refine reg_lit ?_
     refine wq_p 1 [(18, (Value.int .i64 ((i : Int))))] ?_
     refine wq_v (some 19) (Value.int .i64 ((i : Int) + 1)) (exec_add _ _ _ _ rfl ((i : Int)) 1 (by kernel_rfl) (by kernel_rfl) ((i : Int) + 1) rfl (by omega) (by omega) _) ?_
     refine wq_p 1 [(6, (Value.int .i64 ((i : Int) + 1)))] ?_
     refine wl_end rfl ?_
     refine ⟨L.length - (i + 1), (by omega), (i + 1), false, (by omega), (by rw [primeTo, if_pos (by have hb := b20; omega)]), rfl, (patch_eq _ 33 _ (by kernel_rfl) (by kernel_rfl) (by kernel_rfl)), h14.sel [0] [] (by kernel_rfl) rfl rfl⟩
    ·
     refine wp_skip ?_
     refine blk_n ?_
     refine seq_n hK18 ?_
     refine reg_lit ?_
     refine wq_p 1 [(18, (Value.int .i64 ((i : Int))))] ?_
     refine wq_v (some 19) (Value.int .i64 ((i : Int) + 1)) (exec_add _ _ _ _ rfl ((i : Int)) 1 (by kernel_rfl) (by kernel_rfl) ((i : Int) + 1) rfl (by omega) (by omega) _) ?_
     refine wq_p 1 [(6, (Value.int .i64 ((i : Int) + 1)))] ?_
     refine wl_end rfl ?_
     refine ⟨L.length - (i + 1), (by omega), (i + 1), pr, (by omega), (by rw [primeTo, if_neg (by have hb := b20; omega)]; exact hp), rfl, (patch_eq _ 33 _ (by kernel_rfl) (by kernel_rfl) (by kernel_rfl)), h14.sel [0] [] (by kernel_rfl) rfl rfl⟩
   ·
    refine wp_exit ?_
    refine seq_e ?_
    refine seq_e ?_
    refine blk_e ?_
    refine seq_n hK12 ?_
    refine wp_seq_k ?_
    intro K21 hK21
    refine reg_lit ?_
    refine wq_p 1 [(27, (Value.bool pr))] ?_
    refine wl_end rfl ?_
    refine seq_n hK21 ?_
    refine wp_cond_split (t := pr) (by kernel_rfl) (fun b22 => ?_) (fun b22 => ?_)
    ·
     have hb := b22
     refine reg_lit ?_
     refine wq_p 2 [(29, (Value.int .u64 (((q + 2 : Nat) : Int)))), (28, (Value.slice Av L.length cv))] ?_
     refine wq_to (some 30) (x_bs h14 34 ([(Value.int .u64 (((q + 2 : Nat) : Int)))]) 1 (by kernel_rfl)) ?_
     rintro _ w23 ⟨g23, rfl, h23⟩
     refine wq_to (some 31) (x_pushG h23 1 0 rfl rfl (by kernel_rfl) (.tmp 28) (.tmp 30) 66 (by kernel_rfl) 8 (Value.int .u64 0) (by kernel_rfl) (by kernel_rfl) (by kernel_rfl) (by kernel_rfl) (by kernel_rfl) 1 (by kernel_rfl) (by kernel_rfl) (by kernel_rfl) (by rw [nx_len]; omega) (by rw [nx_len]; unfold maxLen; omega) (nx (L ++ [((q + 2))])) ((L ++ [q + 2]).length) (nx_app L (((q + 2)))) (nx_len _)) ?_
     rintro _ w24 ⟨A24, c24, rfl, h24⟩
     refine wq_p 1 [(3, (Value.slice A24 ((L ++ [q + 2]).length) c24))] ?_
     refine wl_end rfl ?_
     refine blk_n ?_
     refine seq_n hK10 ?_
     refine reg_lit ?_
     refine wq_p 1 [(12, (Value.int .u64 (((q + 2 : Nat) : Int))))] ?_
     refine wq_v (some 13) (Value.int .u64 ((((((q + 2))) + 1 : Nat) : Int))) (e_add64 _ _ _ _ rfl (((q + 2))) 1 (by kernel_rfl) (by kernel_rfl) ((((q + 2))) + 1) rfl (by omega) _) ?_
     refine wq_p 1 [(4, (Value.int .u64 ((((((q + 2))) + 1 : Nat) : Int))))] ?_
     refine wl_end rfl ?_
     refine ⟨310 - (q + 1), (by omega), (q + 1), (L ++ [((q + 2))]), A24, c24, (by omega), (prTo_yes hL hp (by omega) hb), rfl, (patch_eq _ 33 _ (by kernel_rfl) (by kernel_rfl) (by kernel_rfl)), h24.sel [1] [] (by kernel_rfl) rfl rfl⟩
    ·
     have hb := b22
     refine wp_skip ?_
     refine blk_n ?_
     refine seq_n hK10 ?_
     refine reg_lit ?_
     refine wq_p 1 [(12, (Value.int .u64 (((q + 2 : Nat) : Int))))] ?_
     refine wq_v (some 13) (Value.int .u64 ((((((q + 2))) + 1 : Nat) : Int))) (e_add64 _ _ _ _ rfl (((q + 2))) 1 (by kernel_rfl) (by kernel_rfl) ((((q + 2))) + 1) rfl (by omega) _) ?_
     refine wq_p 1 [(4, (Value.int .u64 ((((((q + 2))) + 1 : Nat) : Int))))] ?_
     refine wl_end rfl ?_
     refine ⟨310 - (q + 1), (by omega), (q + 1), L, Av, cv, (by omega), (prTo_no hL hp (by omega) hb), rfl, (patch_eq _ 33 _ (by kernel_rfl) (by kernel_rfl) (by kernel_rfl)), h14.sel [0] [] (by kernel_rfl) rfl rfl⟩
  ·
   refine wp_exit ?_
   refine seq_e ?_
   refine seq_e ?_
   refine blk_e ?_
   refine seq_n hK4 ?_
   refine wp_seq_k ?_
   intro K25 hK25
   refine reg_lit ?_
   refine wq_p 2 [(2, (Value.slice Av L.length cv)), (32, (Value.slice Av L.length cv))] ?_
   refine wl_end rfl ?_
   refine seq_n hK25 ?_
   refine wp_ret ?_
   refine post_1 rfl (by kernel_rfl) (rtmp (v := (Value.slice Av L.length cv)) (by kernel_rfl)) ?_
   exact vopost_of h6 0 rfl (by rw [prTo_end hq hL (by omega)])
set_option maxRecDepth 100000 in
set_option maxHeartbeats 4000000 in
theorem ks_any (w : World) :
    Calls Tryd.prog 16 #[] w (VOPost w 64 1 (wx shaK)) := by
  have h0 := Hp.nil (fun _ => False) w
  refine enter 19 Tryd.func16 rfl rfl ?_
  refine wp_reset 19 [] (fun x0 => ?_)
  refine wp_seq_k ?_
  intro K1 hK1
  refine reg_lit ?_
  refine wq_p 1 [(0, (Value.slice none 0 0))] ?_
  refine wl_end rfl ?_
  refine seq_n hK1 ?_
  refine wp_seq_k ?_
  intro K2 hK2
  refine reg_lit ?_
  refine wq_to (some 4) (x_ovE h0 37 [(Value.int .i64 64)] (by kernel_rfl) (primes_any _) (nx primes64) (64) rfl (nx_len _)) ?_
  rintro _ w3 ⟨A3, c3, rfl, h3⟩
  refine wq_p 1 [(1, (Value.slice A3 64 c3))] ?_
  refine wl_end rfl ?_
  refine seq_n hK2 ?_
  refine wp_seq_k ?_
  intro K4 hK4
  refine reg_lit ?_
  refine wq_to (some 5) (x_bs0 h3 64 1 (by kernel_rfl)) ?_
  rintro _ w5 ⟨A5, rfl, h5⟩
  refine wq_p 1 [(2, (Value.slice A5 0 0))] ?_
  refine wl_end rfl ?_
  refine seq_n hK4 ?_
  refine wp_seq_k ?_
  intro K6 hK6
  refine wp_seq_k ?_
  intro K7 hK7
  refine reg_lit ?_
  refine wq_p 1 [(3, (Value.int .i64 0))] ?_
  refine wl_end rfl ?_
  refine seq_n hK7 ?_
  refine wp_block ?_
  refine wp_loopm (fun mM xX aA wL => ∃ (k : Nat) (L : List UInt32) (Av : Option Addr) (cv : Nat), (k ≤ 64) ∧ (L = kTo k) ∧ ((L : List UInt32).length = k) ∧ mM = 64 - k ∧ aA = patch xX 19 [(0, (Value.slice none 0 0)), (1, (Value.slice A3 64 c3)), (2, (Value.slice Av k cv)), (3, (Value.int .i64 ((k : Int))))] ∧ Hp (fun _ => False) w wL [] [rOV 34 1 ((Value.slice A3 64 c3)) (nx primes64), rOV 64 1 ((Value.slice Av k cv)) (wx L)]) ⟨_, 0, ([]), A5, 0, (by omega), rfl, rfl, rfl, (patch_eq _ 19 _ (by kernel_rfl) (by kernel_rfl) (by kernel_rfl)), h5.sel [1, 0] [] (by kernel_rfl) rfl rfl⟩ ?_
  rintro _ x8 _ w8 ⟨k, L, Av, cv, hk, hL, hl, rfl, rfl, h8⟩
  refine wp_seq_k ?_
  intro K9 hK9
  refine wp_seq_k ?_
  intro K10 hK10
  refine reg_lit ?_
  refine wq_p 2 [(7, (Value.bool (decide ((k : Int) < 64)))), (6, (Value.int .i64 ((k : Int))))] ?_
  refine wl_end rfl ?_
  refine seq_n hK10 ?_
  refine wp_if ((k : Int) < 64) (by kernel_rfl) (fun b11 => ?_) (fun b11 => ?_)
  ·
   refine wp_skip ?_
   refine seq_n hK9 ?_
   refine wp_seq_k ?_
   intro K12 hK12
   refine wp_block ?_
   refine reg_lit ?_
   refine wq_p 3 [(12, (Value.int .i64 ((k : Int)))), (11, (Value.slice A3 64 c3)), (10, (Value.slice Av k cv))] ?_
   refine wq_v (some 13) (eAt A3 (k * 1 + 0)) (e_idxN (OV.rvn (h8.at_ 0 rfl)).2 k 64 (OV.rvn (h8.at_ 0 rfl)).1 (by omega) 66 (.tmp 11) (.tmp 12) (by kernel_rfl) .i64 (by kernel_rfl) (by kernel_rfl) 34 (by kernel_rfl) (by kernel_rfl) _) ?_
   refine wq_v (some 14) (Value.int .u64 (((gn primes64 (k) : Nat) : Int))) (e_elemN (OV.rvn (h8.at_ 0 rfl)).2 k 0 ([(Value.int .u64 (((gn primes64 (k) : Nat) : Int)))]) (nx_get primes64 (k) (by have : primes64.length = 64 := rfl; omega)) 34 (.tmp 13) (by kernel_rfl) (Value.int .u64 (((gn primes64 (k) : Nat) : Int))) (by kernel_rfl) (by kernel_rfl) (by kernel_rfl)) ?_
   refine wq_to (some 15) (x_np h8 38 [(Value.int .u64 (((gn primes64 (k) : Nat) : Int)))] (by kernel_rfl) (cube_any (((gn primes64 (k)))) _)) ?_
   rintro _ w13 ⟨rfl, h13⟩
   refine wq_to (some 16) (x_bs h13 64 ([(Value.int .u32 (uw (UInt32.ofNat (cubeTo (((gn primes64 (k)))) 36 % 4294967296))))]) 1 (by kernel_rfl)) ?_
   rintro _ w14 ⟨g14, rfl, h14⟩
   refine wq_to (some 17) (x_pushG h14 2 0 rfl rfl (by kernel_rfl) (.tmp 10) (.tmp 16) 38 (by kernel_rfl) 4 (Value.int .u32 0) (by kernel_rfl) (by kernel_rfl) (by kernel_rfl) (by kernel_rfl) (by kernel_rfl) 1 (by kernel_rfl) (by kernel_rfl) (by kernel_rfl) (by rw [wx_len]; omega) (by rw [wx_len]; unfold maxLen; omega) (wx (L ++ [(UInt32.ofNat (cubeTo (((gn primes64 (k)))) 36 % 4294967296))])) (k + 1) (wx_app L ((UInt32.ofNat (cubeTo (((gn primes64 (k)))) 36 % 4294967296)))) (by rw [wx_len, List.length_append, hl]; rfl)) ?_
   rintro _ w15 ⟨A15, c15, rfl, h15⟩
   refine wq_p 1 [(2, (Value.slice A15 (k + 1) c15))] ?_
   refine wl_end rfl ?_
   refine blk_n ?_
   refine seq_n hK12 ?_
   refine reg_lit ?_
   refine wq_p 1 [(8, (Value.int .i64 ((k : Int))))] ?_
   refine wq_v (some 9) (Value.int .i64 ((k : Int) + 1)) (exec_add _ _ _ _ rfl ((k : Int)) 1 (by kernel_rfl) (by kernel_rfl) ((k : Int) + 1) rfl (by omega) (by omega) _) ?_
   refine wq_p 1 [(3, (Value.int .i64 ((k : Int) + 1)))] ?_
   refine wl_end rfl ?_
   refine ⟨64 - (k + 1), (by omega), (k + 1), (L ++ [(UInt32.ofNat (cubeTo (((gn primes64 (k)))) 36 % 4294967296))]), A15, c15, (by omega), (by rw [hL]; exact (kTo_next k (by omega)).symm), (by rw [List.length_append, hl]; rfl), rfl, (patch_eq _ 19 _ (by kernel_rfl) (by kernel_rfl) (by kernel_rfl)), h15.sel [1, 2] [] (by kernel_rfl) rfl rfl⟩
  ·
   refine wp_exit ?_
   refine seq_e ?_
   refine seq_e ?_
   refine blk_e ?_
   refine seq_n hK6 ?_
   refine wp_seq_k ?_
   intro K16 hK16
   refine reg_lit ?_
   refine wq_p 2 [(0, (Value.slice Av k cv)), (18, (Value.slice Av k cv))] ?_
   refine wl_end rfl ?_
   refine seq_n hK16 ?_
   refine wp_ret ?_
   refine post_1 rfl (by kernel_rfl) (rtmp (v := (Value.slice Av k cv)) (by kernel_rfl)) ?_
   exact vopost_of h8 1 rfl (by rw [hL, show k = 64 by omega, kTo_all])
end Go.Proofs.YtpkelokaammmjaaDoor
end
/-! The walk of compeerref01.Put. -/
section
namespace Go.Proofs.YtpkelokaammmjaaDoor
open Go.RowKit Go.QT
def rpT (n : Nat) : Nat → Bytes × Nat
  | 0 => ([], n)
  | k+1 => (UInt8.ofNat ((rpT n k).2 % 256) :: (rpT n k).1, (rpT n k).2 / 256)
theorem ofNat_mod (x : Nat) : UInt8.ofNat (x % 256) = UInt8.ofNat x := by
  apply UInt8.toNat_inj.1; simp
theorem rpT_eq (n : Nat) : (rpT n 8).1 = put8 n := by
  simp [rpT, put8, ofNat_mod, Nat.div_div_eq_div_mul, List.range_succ]
theorem rpT_len (n k : Nat) : (rpT n k).1.length = k := by
  induction k with
  | zero => rfl
  | succ k ih => simp [rpT, ih]
theorem rpT_le (n k : Nat) (h : n < 18446744073709551616) : (rpT n k).2 < 18446744073709551616 := by
  induction k with
  | zero => exact h
  | succ k ih => show _ / 256 < _; omega
set_option maxRecDepth 100000 in
set_option maxHeartbeats 1000000 in
theorem rput_any (n : Nat) (hn : n < 18446744073709551616) (w : World) : Calls Tryd.prog 29 #[.int .u64 (n : Int)] w (BPost w (put8 n)) := by
  have Hfin := Hd.mk (rpT_eq n)
  have HL := Hd.mk (rpT_len n)
  have HN := Hd.mk (rpT_le n · hn)
  clear hn
  go_enter Tryd.func29, Tryd.ntmps29
  go_upto_region 2 with (fail)
  have hv : OB (w.alloc (.cells #[] 5)) w.heap.size (.slice (some ⟨w.heap.size, 0, none⟩) 0 0) (rpT n 0).1 := OB.new _ _ [] (by simp) (Row.new w 5 []) (Nat.le_refl _)
  have hB : Below w.heap.size w (w.alloc (.cells #[] 5)) := (Below.refl _ _).alloc (Nat.le_refl _) _
  generalize w.alloc (.cells #[] 5) = w1 at *
  go_wp2
  go_loopw [0, 3, 4] (fun N v i wr => ∃ k : Nat, k ≤ 8 ∧ i = .int .i64 (k : Int) ∧ N = .int .u64 ((rpT n k).2 : Int) ∧ OB wr w.heap.size v (rpT n k).1 ∧ Below w.heap.size w wr) (fun _ _ i _ => 8 - (intOf i).toNat)
  case atStart => exact ⟨0, by omega, rfl, rfl, hv, hB⟩
  case round =>
    clear hv hB
    obtain ⟨k, hk, rfl, rfl, hv, hB⟩ := hrel
    have hl := HL.out k
    have hnn := HN.out k
    by_cases hlt : k < 8
    · have Hs : Hd (rpT n (k+1) = (UInt8.ofNat ((rpT n k).2 % 256) :: (rpT n k).1, (rpT n k).2 / 256)) := ⟨rfl⟩
      generalize (rpT n k).1 = L at *
      generalize (rpT n k).2 = N at *
      obtain ⟨w3, rfl⟩ : ∃ w1 : World, w1 = wr := ⟨_, rfl⟩
      have hub : ub (UInt8.ofNat (N % 256)) = (N : Int) % 256 := by rw [ub_ofNat]; omega
      have hR : Row (w3.alloc (.cells #[.int .u8 ((N : Int) % 256)] 5)) w3.heap.size 5 [UInt8.ofNat (N % 256)] := by
        unfold Row; rw [vb_cons, hub]; exact heap_alloc_new w3 _
      have HR := Hd.mk hR
      have Hv := Hd.mk hv
      have Hl := Hd.mk hl
      clear hub hR hv hl
      go_wp2_with (at_builtin; refine wl_append rfl (.tmp 13) (.tmp 14) rfl w.heap.size (.slice (some ⟨w3.heap.size, 0, none⟩) 1 1) _ [UInt8.ofNat (N % 256)] L rfl rfl (OB.new _ _ [UInt8.ofNat (N % 256)] (by simp [maxLen]) HR.out hB.size) (Hv.out.alloc _).sb (by rw [Hl.out]; simp; omega) (by have := hB.size; simp; omega) ?_; intro v' w' hv' hg' hat')
      refine ⟨⟨k + 1, by omega, by go_num, by rw [Hs.out]; go_num, by rw [Hs.out]; exact hv', ?_⟩, by simp [intOf]; omega⟩
      exact (hB.alloc hB.size _).grown hg' (by have := hB.size; simp; omega) (by rintro j hj; have := hB.size; simp [Value.ownBlock] at hj; omega)
    · have hk8 : k = 8 := by omega
      rw [hk8, Hfin.out] at hv
      have Hv := Hd.mk hv
      clear hv hk8 hl
      go_wp2
      go_ret
      exact ⟨_, rfl, Hv.out, hB⟩
end Go.Proofs.YtpkelokaammmjaaDoor
end
/-! What the functions of compeerref05 compute, as plain functions. -/
section
namespace Go.Proofs.YtpkelokaammmjaaDoor
def mulTo (a b : Nat) : Nat → Nat
  | 0 => 0
  | k+1 => if (b / 2 ^ k) % 2 = 1 then mulTo a b k ^^^ (a * 2 ^ k) else mulTo a b k
def redTo (n : Nat) : Nat → Nat
  | 0 => n
  | j+1 => if (redTo n j / 2 ^ (14 - j)) % 2 = 1 then redTo n j ^^^ (283 * 2 ^ (14 - j - 8)) else redTo n j
/-- compeerref05.Product. -/
def rprod (a b : UInt8) : UInt8 := UInt8.ofNat (redTo (mulTo (nb a) (nb b) 8) 7)
def powTo (b : UInt8) : Nat → UInt8
  | 0 => 1
  | k+1 => rprod (powTo b k) b
def bitTo (x : UInt8) (k : Nat) : Nat → Nat
  | 0 => 0
  | j+1 => bitTo x k j + nb x / 2 ^ ((k + 8 - j) % 8) % 2
def outTo (x : UInt8) : Nat → UInt8
  | 0 => 0
  | k+1 => outTo x k + UInt8.ofNat ((bitTo x k 5 + 99 / 2 ^ k % 2) % 2 * 2 ^ k)
/-- compeerref05.Box. -/
def rbox (b : UInt8) : UInt8 := outTo (powTo b 254) 8
def boxesTo : Nat → Bytes
  | 0 => []
  | n+1 => boxesTo n ++ [rbox (UInt8.ofNat n)]
/-- compeerref05.Boxes. -/
def rboxes : Bytes := boxesTo 256
/-- The four bytes that are to be laid on. -/
def rkT (B out : Bytes) (r : UInt8) (n : Nat) : Bytes :=
  if n % 16 = 0 then [gb B (nb (gb out (n-3))) ^^^ r, gb B (nb (gb out (n-2))), gb B (nb (gb out (n-1))), gb B (nb (gb out (n-4)))]
  else [gb out (n-4), gb out (n-3), gb out (n-2), gb out (n-1)]
def rkRow (out t : Bytes) (n : Nat) : Nat → Bytes
  | 0 => out
  | k+1 => rkRow out t n k ++ [gb (rkRow out t n k) (n+k-16) ^^^ gb t k]
def rkTo (B k : Bytes) : Nat → Bytes × UInt8
  | 0 => (k, 1)
  | m+1 => (rkRow (rkTo B k m).1 (rkT B (rkTo B k m).1 (rkTo B k m).2 (16+4*m)) (16+4*m) 4, if (16+4*m) % 16 = 0 then rprod (rkTo B k m).2 2 else (rkTo B k m).2)
/-- compeerref05.Keys. -/
def rkeys (B k : Bytes) : Bytes := (rkTo B k 40).1
def raddTo (b ks : Bytes) : Nat → Bytes
  | 0 => []
  | k+1 => raddTo b ks k ++ [gb b k ^^^ gb ks k]
def rsubRow (B s : Bytes) (c : Nat) (t : Bytes) : Nat → Bytes
  | 0 => t
  | r+1 => rsubRow B s c t r ++ [gb B (nb (gb s ((c+r)%4*4+r)))]
def rsubTo (B s : Bytes) : Nat → Bytes
  | 0 => []
  | c+1 => rsubRow B s c (rsubTo B s c) 4
def rmixRow (t : Bytes) (c : Nat) (u : Bytes) : Nat → Bytes
  | 0 => u
  | r+1 => rmixRow t c u r ++ [rprod 2 (gb t (c*4+r)) ^^^ rprod 3 (gb t (c*4+(r+1)%4)) ^^^ gb t (c*4+(r+2)%4) ^^^ gb t (c*4+(r+3)%4)]
def rmixTo (t : Bytes) : Nat → Bytes
  | 0 => []
  | c+1 => rmixRow t c (rmixTo t c) 4
def rxorTo (t ks : Bytes) (n : Nat) : Nat → Bytes
  | 0 => t
  | k+1 => (rxorTo t ks n k).set k (gb (rxorTo t ks n k) k ^^^ gb ks (16*n+k))
def rrounds (B ks b : Bytes) : Nat → Bytes
  | 0 => raddTo b ks 16
  | n+1 => rxorTo (if n+1 < 10 then rmixTo (rsubTo B (rrounds B ks b n) 4) 4 else rsubTo B (rrounds B ks b n) 4) ks (n+1) 16
/-- compeerref05.Block. -/
def rblk (B k b : Bytes) : Bytes := rrounds B (rkeys B k) b 10
/-- A number of sixteen bytes, one more: what is laid on and carried. -/
def carryTo (f : Bytes) : Nat → Bytes × Nat
  | 0 => (f, 1)
  | j+1 => ((carryTo f j).1.set (15-j) (UInt8.ofNat ((nb (gb (carryTo f j).1 (15-j)) + (carryTo f j).2) % 256)), (nb (gb (carryTo f j).1 (15-j)) + (carryTo f j).2) / 256)
def rinc (f : Bytes) : Bytes := (carryTo f 16).1
structure RSt where
  at_ : Bytes
  pad : Bytes
  out : Bytes
def rpad (B k : Bytes) (n : Nat) (s : RSt) : RSt := if n % 16 = 0 then ⟨rinc s.at_, rblk B k s.at_, s.out⟩ else s
def rput (b : Bytes) (n : Nat) (s : RSt) : RSt := ⟨s.at_, s.pad, s.out ++ [gb b n ^^^ gb s.pad (n % 16)]⟩
def rstTo (B k f b : Bytes) : Nat → RSt
  | 0 => ⟨f, [], []⟩
  | n+1 => rput b n (rpad B k n (rstTo B k f b n))
/-- compeerref05.Stream. -/
def rstream (B k f b : Bytes) : Bytes := (rstTo B k f b b.length).out
end Go.Proofs.YtpkelokaammmjaaDoor
end
/-! The walk of compeerref05.Product: it answers rprod. -/
section
namespace Go.Proofs.YtpkelokaammmjaaDoor
open Go.RowKit Go.QT
attribute [local go_sem] bits_xor8 bits_or8 bits_and8 u8_ub
theorem mulTo_lt (a b k : Nat) (ha : a < 256) (hk : k ≤ 8) : mulTo a b k < 2 ^ 15 := by
  induction k with
  | zero => simp [mulTo]
  | succ k ih =>
    have h1 := ih (by omega)
    have h2 := pow_lt8 k (by omega)
    have h3 : a * 2 ^ k < 2 ^ 15 := by
      have : a * 2 ^ k ≤ 255 * 128 := Nat.mul_le_mul (by omega) h2
      omega
    rw [mulTo]; split
    · exact Nat.xor_lt_two_pow h1 h3
    · exact h1
theorem redTo_lt (n j : Nat) (hn : n < 2 ^ 15) (hj : j ≤ 7) : redTo n j < 2 ^ 15 := by
  induction j with
  | zero => exact hn
  | succ j ih =>
    have h1 := ih (by omega)
    have h2 : 2 ^ (14 - j - 8) ≤ 64 := by
      have h : 14 - j - 8 ≤ 6 := by omega
      exact Nat.pow_le_pow_right (n := 2) (by omega) h
    have h3 : 283 * 2 ^ (14 - j - 8) < 2 ^ 15 := by
      have : 283 * 2 ^ (14 - j - 8) ≤ 283 * 64 := Nat.mul_le_mul (by omega) h2
      omega
    rw [redTo]; split
    · exact Nat.xor_lt_two_pow h1 h3
    · exact h1
set_option maxRecDepth 100000 in
set_option maxHeartbeats 400000 in
theorem rprod_any (x y : Int) (hx : 0 ≤ x) (hx' : x ≤ 255) (hy : 0 ≤ y) (hy' : y ≤ 255) (w : World) :
    Calls Tryd.prog 57 #[.int .u8 x, .int .u8 y] w fun e w' => e = .returned (.int .u8 (ub (rprod (toB x) (toB y)))) ∧ w = w' := by
  obtain ⟨a, rfl⟩ : ∃ a, x = ub a := ⟨toB x, (ub_u8 hx hx').symm⟩
  obtain ⟨b, rfl⟩ : ∃ a, y = ub a := ⟨toB y, (ub_u8 hy hy').symm⟩
  rw [u8_ub, u8_ub]
  go_enter Tryd.func57, Tryd.ntmps57
  go_wp2
  go_loop [5, 6] (fun n k => ∃ k' : Nat, k' ≤ 8 ∧ k = .int .i64 k' ∧ n = .int .i64 ((mulTo (nb a) (nb b) k' : Nat) : Int)) (fun _ k => 8 - (intOf k).toNat)
  case atStart => exact ⟨0, by omega, rfl, rfl⟩
  case round =>
    obtain ⟨k, hk, rfl, rfl⟩ := hrel
    by_cases hlt : k < 8
    · have hN := mulTo_lt (nb a) (nb b) k (nb_lt a) (by omega)
      have h2 := pow_lt8 k hlt
      have h3 : nb a * 2 ^ k < 2 ^ 15 := by
        have := nb_lt a
        have : nb a * 2 ^ k ≤ 255 * 128 := Nat.mul_le_mul (by omega) h2
        omega
      have hs : mulTo (nb a) (nb b) (k+1) = if (nb b / 2 ^ k) % 2 = 1 then mulTo (nb a) (nb b) k ^^^ (nb a * 2 ^ k) else mulTo (nb a) (nb b) k := rfl
      have Hs := Lib.hid hs
      have H3 := Lib.hid h3
      have HN := Lib.hid hN
      clear hs h3 h2 hN
      generalize mulTo (nb a) (nb b) k = N at *
      by_cases hb : nb b / 2 ^ k % 2 = 1
      · have ht : ((ub b / 2 ^ k).tmod 2 == 1) = true := by rw [ub_nb, bit_test]; simpa using hb
        have Hb := Lib.hid hb
        clear hb
        go_wp2
        refine ⟨⟨k + 1, by omega, by go_num, ?_⟩, by simp [intOf]; omega⟩
        rw [Hs.out, if_pos Hb.out, ub_nb, xor_shl N (nb a) k 15 (Nat.lt_trans HN.out (by decide)) H3.out (by decide)]
      · have ht : ((ub b / 2 ^ k).tmod 2 == 1) = false := by rw [ub_nb, bit_test]; simpa using hb
        have Hb := Lib.hid hb
        clear hb
        go_wp2
        refine ⟨⟨k + 1, by omega, by go_num, ?_⟩, by simp [intOf]; omega⟩
        rw [Hs.out, if_neg Hb.out]
    · have hk8 : k = 8 := by omega
      have hM := mulTo_lt (nb a) (nb b) 8 (nb_lt a) (by omega)
      have hr : rprod a b = UInt8.ofNat (redTo (mulTo (nb a) (nb b) 8) 7) := rfl
      rw [hk8]
      have Hr := Lib.hid hr
      have HM := Lib.hid hM
      clear hr hM hk8 hlt hk
      generalize mulTo (nb a) (nb b) 8 = M at *
      go_wp2
      go_loop [5, 7] (fun n k => ∃ j : Nat, j ≤ 7 ∧ k = .int .i64 (14 - (j : Int)) ∧ n = .int .i64 ((redTo M j : Nat) : Int)) (fun _ k => (intOf k).toNat)
      case atStart => exact ⟨0, by omega, by go_num, rfl⟩
      case round =>
        obtain ⟨j, hj, rfl, rfl⟩ := hrel
        by_cases hlt : j < 7
        · have hN := redTo_lt M j HM.out hj
          have h3 : 283 * 2 ^ (14 - j - 8) < 2 ^ 15 := by
            have h : 14 - j - 8 ≤ 6 := by omega
            have : 2 ^ (14 - j - 8) ≤ 2 ^ 6 := Nat.pow_le_pow_right (n := 2) (by omega) h
            omega
          have hs : redTo M (j+1) = if (redTo M j / 2 ^ (14 - j)) % 2 = 1 then redTo M j ^^^ (283 * 2 ^ (14 - j - 8)) else redTo M j := rfl
          have Hs := Lib.hid hs
          have H3 := Lib.hid h3
          have HN := Lib.hid hN
          clear hs h3 hN
          generalize redTo M j = N at *
          by_cases hb : N / 2 ^ (14 - j) % 2 = 1
          · have ht : (((N : Int) / 2 ^ (14 - j)).tmod 2 == 1) = true := by rw [bit_test]; simpa using hb
            have Hb := Lib.hid hb
            clear hb
            go_wp2
            refine ⟨⟨j + 1, by omega, by go_num, ?_⟩, by simp [intOf]; omega⟩
            have hx := xor_shl N 283 (14 - j - 8) 15 (Nat.lt_trans HN.out (by decide)) H3.out (by decide)
            rw [Hs.out, if_pos Hb.out, ← hx]; rfl
          · have ht : (((N : Int) / 2 ^ (14 - j)).tmod 2 == 1) = false := by rw [bit_test]; simpa using hb
            have Hb := Lib.hid hb
            clear hb
            go_wp2
            refine ⟨⟨j + 1, by omega, by go_num, ?_⟩, by simp [intOf]; omega⟩
            rw [Hs.out, if_neg Hb.out]
        · have hj7 : j = 7 := by omega
          have hN := redTo_lt M j HM.out hj
          have hr := Hr.out
          rw [← hj7] at hr
          have Hr2 := Lib.hid hr
          have HN := Lib.hid hN
          clear hr hN hj7
          generalize redTo M j = N at *
          go_wp2
          go_ret
          exact ⟨by rw [Hr2.out, ub_ofNat]; rfl, rfl⟩
end Go.Proofs.YtpkelokaammmjaaDoor
end
/-! The walk of compeerref05.Box: it answers rbox. -/
section
namespace Go.Proofs.YtpkelokaammmjaaDoor
open Go.RowKit Go.QT
attribute [local go_sem] bits_xor8 bits_or8 bits_and8 u8_ub
theorem bitTo_le (x : UInt8) (k j : Nat) : bitTo x k j ≤ j := by
  induction j with
  | zero => exact Nat.le_refl _
  | succ j ih => rw [bitTo]; omega
set_option maxRecDepth 100000 in
set_option maxHeartbeats 400000 in
theorem rbox_any (y : Int) (hy : 0 ≤ y) (hy' : y ≤ 255) (w : World) :
    Calls Tryd.prog 47 #[.int .u8 y] w fun e w' => e = .returned (.int .u8 (ub (rbox (toB y)))) ∧ w = w' := by
  obtain ⟨b, rfl⟩ : ∃ a, y = ub a := ⟨toB y, (ub_u8 hy hy').symm⟩
  rw [u8_ub]
  go_enter Tryd.func47, Tryd.ntmps47
  go_wp2
  go_loop [3, 4] (fun x k => ∃ k' : Nat, k' ≤ 254 ∧ k = .int .i64 k' ∧ x = .int .u8 (ub (powTo b k'))) (fun _ k => 254 - (intOf k).toNat)
  case atStart => exact ⟨0, by omega, rfl, by simp [powTo, ub]⟩
  case round =>
    obtain ⟨k, hk, rfl, rfl⟩ := hrel
    by_cases hlt : k < 254
    · have Hs : Hid (powTo b (k+1) = rprod (powTo b k) b) := rfl
      generalize powTo b k = x at *
      go_wp2_with (go_at_call 57; refine (rprod_any _ _ (by simp) (by simp) (by simp) (by simp) _).mono ?_; rintro e w' ⟨rfl, rfl⟩)
      exact ⟨⟨k + 1, by omega, by go_num, by rw [Hs.out]⟩, by simp [intOf]; omega⟩
    · have Hx : Hid (rbox b = outTo (powTo b k) 8) := by
        have : k = 254 := by omega
        rw [this]; rfl
      generalize powTo b k = x at *
      go_wp2
      go_loop [5, 6] (fun o k => ∃ k' : Nat, k' ≤ 8 ∧ k = .int .i64 k' ∧ o = .int .u8 (ub (outTo x k'))) (fun _ k => 8 - (intOf k).toNat)
      case atStart => exact ⟨0, by omega, rfl, by simp [outTo, ub]⟩
      case round =>
        obtain ⟨k2, hk2, rfl, rfl⟩ := hrel
        by_cases hlt2 : k2 < 8
        · have Hs : Hid (outTo x (k2+1) = outTo x k2 + UInt8.ofNat ((bitTo x k2 5 + 99 / 2 ^ k2 % 2) % 2 * 2 ^ k2)) := rfl
          generalize outTo x k2 = o at *
          go_wp2
          go_loop [7, 8] (fun t j => ∃ j' : Nat, j' ≤ 5 ∧ j = .int .i64 j' ∧ t = .int .i64 ((bitTo x k2 j' : Nat) : Int)) (fun _ j => 5 - (intOf j).toNat)
          case atStart => exact ⟨0, by omega, rfl, rfl⟩
          case round =>
            obtain ⟨j, hj, rfl, rfl⟩ := hrel
            have hbt : bitTo x k2 j ≤ j := bitTo_le x k2 j
            by_cases hlt3 : j < 5
            · have Hs2 : Hid (bitTo x k2 (j+1) = bitTo x k2 j + nb x / 2 ^ ((k2 + 8 - j) % 8) % 2) := rfl
              generalize bitTo x k2 j = t at *
              go_wp2
              refine ⟨⟨j + 1, by omega, by go_num, ?_⟩, by simp [intOf]; omega⟩
              rw [Hs2.out, wrap64_ub, ub_nb, div_pow, tmod_nat, ← Int.natCast_add, wrap64_nat _ (by omega)]
            · have hj5 : j = 5 := by omega
              have hs := Hs.out
              rw [← hj5] at hs
              have Hs3 := Lib.hid hs
              clear hs hj5 Hs
              generalize bitTo x k2 j = t at *
              go_wp2
              refine ⟨⟨k2 + 1, by omega, by go_num, ?_⟩, by simp [intOf]; omega⟩
              have hp := pow_lt8 k2 hlt2
              have hm : (t + 99 / 2 ^ k2 % 2) % 2 * 2 ^ k2 ≤ 1 * 128 := Nat.mul_le_mul (by omega) hp
              have e1 : ((99 : Int) / 2 ^ k2) = ((99 / 2 ^ k2 : Nat) : Int) := div_pow 99 k2
              rw [Hs3.out, e1, tmod_nat, ← Int.natCast_add, wrap64_nat _ (by omega), tmod_nat, pow_cast, ← Int.natCast_mul, wrap64_nat _ (by omega), ← ub_ofNat, ub_add]
        · have hk8 : k2 = 8 := by omega
          have hx := Hx.out
          rw [← hk8] at hx
          have Hx2 := Lib.hid hx
          clear hx hk8 Hx
          generalize outTo x k2 = o at *
          go_wp2
          go_ret
          exact ⟨by rw [Hx2.out]; rfl, rfl⟩
end Go.Proofs.YtpkelokaammmjaaDoor
end
/-! The walk of compeerref05.Boxes. -/
section
namespace Go.Proofs.YtpkelokaammmjaaDoor
open Go.RowKit Go.QT
attribute [local go_sem] bits_xor8 bits_or8 bits_and8 u8_ub
theorem boxesTo_length (n : Nat) : (boxesTo n).length = n := by
  induction n with
  | zero => rfl
  | succ n ih => rw [boxesTo, List.length_append, ih]; rfl
set_option maxRecDepth 100000 in
set_option maxHeartbeats 400000 in
theorem rboxes_any (w : World) : Calls Tryd.prog 33 #[] w (BPost w rboxes) := by
  go_enter Tryd.func33, Tryd.ntmps33
  go_upto_region 2 with (fail)
  have hv : OB (w.alloc (.cells #[] 5)) w.heap.size (.slice (some ⟨w.heap.size, 0, none⟩) 0 0) (boxesTo 0) := OB.new _ _ [] (by simp) (Row.new w 5 []) (Nat.le_refl _)
  have hB : Below w.heap.size w (w.alloc (.cells #[] 5)) := (Below.refl _ _).alloc (Nat.le_refl _) _
  generalize w.alloc (.cells #[] 5) = w1 at *
  go_wp2
  go_loopw [1, 2] (fun v k wr => ∃ n : Nat, n ≤ 256 ∧ k = .int .i64 n ∧ OB wr w.heap.size v (boxesTo n) ∧ Below w.heap.size w wr) (fun _ k _ => 256 - (intOf k).toNat)
  case atStart => exact ⟨0, by omega, rfl, hv, hB⟩
  case round =>
    clear hv hB
    obtain ⟨n, hn, rfl, hv, hB⟩ := hrel
    have hlen := boxesTo_length n
    by_cases hlt : n < 256
    · have hub : ub (UInt8.ofNat n) = (n : Int) := by rw [ub_ofNat]; omega
      have Hub := Lib.hid hub
      have Hs : Hid (boxesTo (n+1) = boxesTo n ++ [rbox (UInt8.ofNat n)]) := rfl
      clear hub
      have Hl := Lib.hid hlen
      clear hlen
      generalize boxesTo n = l at *
      go_wp2_with (first | (go_at_call 47; refine (rbox_any _ (by simp) (by omega) _).mono ?_; rintro e w' ⟨rfl, rfl⟩) | (at_builtin; refine wl_push rfl (.tmp 8) (.tmp 12) rfl w.heap.size _ l _ wr.heap.size rfl rfl (hv.alloc _) (Row.new _ 5 [_]) (by rw [Hl.out]; omega) (by have := hB.size; simp; omega) ?_; intro v' w' hv' hg' hat))
      refine ⟨⟨n + 1, by omega, by go_num, ?_, (hv.alloc _).grownBelow (hB.alloc hB.size _) hg' (Nat.le_refl _) (Nat.le_refl _)⟩, by simp [intOf]; omega⟩
      rw [Hs.out]
      have e : toB (n : Int) = UInt8.ofNat n := by simp [toB]
      rwa [e] at hv'
    · have hn' : n = 256 := by omega
      have Hv := Lib.hid hv
      clear hv hlen
      go_wp2
      go_ret
      have hv := Hv.out
      rw [hn'] at hv
      exact ⟨_, rfl, hv, hB⟩
end Go.Proofs.YtpkelokaammmjaaDoor
end
/-! The walk of compeerref05.Keys. -/
section
namespace Go.Proofs.YtpkelokaammmjaaDoor
open Go.RowKit Go.QT
attribute [local go_sem] bits_xor8 bits_or8 bits_and8 u8_ub
theorem rkRow_length (out t : Bytes) (n k : Nat) : (rkRow out t n k).length = out.length + k := by
  induction k with
  | zero => rfl
  | succ k ih => rw [rkRow, List.length_append, ih]; rfl
theorem rkTo_length (B k : Bytes) (hk : k.length = 16) (m : Nat) : (rkTo B k m).1.length = 16 + 4 * m := by
  induction m with
  | zero => exact hk
  | succ m ih => rw [rkTo, rkRow_length, ih]; omega
set_option maxRecDepth 100000 in
set_option maxHeartbeats 1000000 in
theorem rkeys_any (vB vk : Value) (B k : Bytes) (w : World) (hB : SB w vB B) (hk : SB w vk k) (hBl : B.length = 256) (hkl : k.length = 16) :
    Calls Tryd.prog 56 #[vB, vk] w (BPost w (rkeys B k)) := by
  obtain ⟨A, cB, rfl, hc1, hc2, hB⟩ := hB
  obtain ⟨bb, ob, rfl, hbl, hBc⟩ := hB (by rintro rfl; simp at hBl)
  clear hB
  rw [hBl] at *
  have HBc := Lib.hid hBc
  clear hBc hBl
  unfold maxLen at hc2
  have hone : ub 1 = 1 := by simp [ub]
  have Hone := Lib.hid hone
  clear hone
  have Hkl := Lib.hid hkl
  clear hkl
  go_enter Tryd.func56, Tryd.ntmps56
  go_upto_region 4 with (at_builtin; refine wl_append rfl (.tmp 10) (.tmp 11) rfl w.heap.size (.slice (some ⟨w.heap.size, 0, none⟩) 0 0) vk [] k rfl rfl (OB.new _ _ [] (by simp) (Row.new w 5 []) (Nat.le_refl _)) (hk.alloc _) (by rw [Hkl.out]; simp) (by simp) ?_; intro v' w' hv' hg' hat)
  go_wp2
  go_loopw [5, 6, 7] (fun v r n wr => ∃ m N : Nat, m ≤ 40 ∧ N = 16 + 4 * m ∧ n = .int .i64 (N : Int) ∧ r = .int .u8 (ub (rkTo B k m).2) ∧ OB wr w.heap.size v (rkTo B k m).1 ∧ Below w.heap.size w wr) (fun _ _ n _ => 176 - (intOf n).toNat)
  case atStart => exact ⟨0, 16, by omega, rfl, rfl, by rw [show (rkTo B k 0).2 = 1 from rfl, Hone.out], hv', (OB.new _ _ [] (by simp) (Row.new w 5 []) (Nat.le_refl _)).grownBelow ((Below.refl _ _).alloc (Nat.le_refl _) _) hg' (Nat.le_refl _) (Nat.le_refl _)⟩
  case round =>
    clear hv' hg' hat
    obtain ⟨m, N, hm, hN, rfl, rfl, hv, hB⟩ := hrel
    have hlen := rkTo_length B k Hkl.out m
    rw [← hN] at hlen
    have h16 : 16 ≤ N := by omega
    have h176 : N ≤ 176 := by omega
    by_cases hlt : m < 40
    · have hltN : N < 176 := by omega
      have hdN : decide ((N : Int) < 176) = true := by simp; omega
      have hs : rkTo B k (m+1) = (rkRow (rkTo B k m).1 (rkT B (rkTo B k m).1 (rkTo B k m).2 (16+4*m)) (16+4*m) 4, if (16+4*m) % 16 = 0 then rprod (rkTo B k m).2 2 else (rkTo B k m).2) := rfl
      rw [← hN] at hs
      have Hs := Lib.hid hs
      have HN := Lib.hid hN
      clear hs hN
      generalize (rkTo B k m).1 = l at *
      generalize (rkTo B k m).2 = r at *
      obtain ⟨g, cap, rfl, hg1, hg2, hc3, hc4, hcell⟩ := hv.open_ (by rintro rfl; simp at hlen; omega)
      rw [hlen] at hc3 hcell hv ⊢
      unfold maxLen at hc4
      have e1 := hcell (N - 4) (by omega)
      have e2 := hcell (N - 3) (by omega)
      have e3 := hcell (N - 2) (by omega)
      have e4 := hcell (N - 1) (by omega)
      have Hcell := Lib.hid hcell
      have Hlen := Lib.hid hlen
      have Hv := Lib.hid hv
      clear hcell hlen hv
      obtain ⟨w2, rfl⟩ : ∃ w1 : World, w1 = wr := ⟨_, rfl⟩
      go_wp2
      refine wp_region_qt 20 (by kernel_rfl) (by kernel_rfl) ?_
      simp only [List.take_succ_cons, List.take_zero, List.drop_succ_cons, List.drop_zero]
      repeat (go_big_quiet_step (fail))
      refine wpQuiet_nil ?_
      rintro _ ⟨nq1, rfl⟩
      go_upto_region 7 with (fail)
      have hR4 : Row ((w2.drewN nq1).alloc (.cells #[.int .u8 (ub (gb l (N - 4))), .int .u8 (ub (gb l (N - 3))), .int .u8 (ub (gb l (N - 2))), .int .u8 (ub (gb l (N - 1)))] 5)) w2.heap.size 5 [gb l (N - 4), gb l (N - 3), gb l (N - 2), gb l (N - 1)] := by
        have := Row.new (w2.drewN nq1) 5 [gb l (N - 4), gb l (N - 3), gb l (N - 2), gb l (N - 1)]
        exact this
      have hv2 : OB ((w2.drewN nq1).alloc (.cells #[.int .u8 (ub (gb l (N - 4))), .int .u8 (ub (gb l (N - 3))), .int .u8 (ub (gb l (N - 2))), .int .u8 (ub (gb l (N - 1)))] 5)) w.heap.size (.slice (some ⟨g, 0, none⟩) N cap) l := (Hv.out.drewN nq1).alloc _
      have hB2 : Below w.heap.size w ((w2.drewN nq1).alloc (.cells #[.int .u8 (ub (gb l (N - 4))), .int .u8 (ub (gb l (N - 3))), .int .u8 (ub (gb l (N - 2))), .int .u8 (ub (gb l (N - 1)))] 5)) := (below_drewN hB nq1).alloc hB.size _
      have hs2 : w.heap.size ≤ w2.heap.size := hB.size
      generalize (w2.drewN nq1).alloc (.cells #[.int .u8 (ub (gb l (N - 4))), .int .u8 (ub (gb l (N - 3))), .int .u8 (ub (gb l (N - 2))), .int .u8 (ub (gb l (N - 1)))] 5) = w3 at *
      have hgg : g ≠ w2.heap.size := by omega
      have hs3 := hR4.lt
      generalize w2.heap.size = gt at *
      clear Hcell Hv e1 e2 e3 e4 hB
      by_cases h0 : N % 16 = 0
      · have ht : (((N : Int) % 16) == 0) = true := by simp; omega
        have H0 := Lib.hid h0
        clear h0
        have hb2 : bb < gt := by omega
        have b1 := (hB2.cell (p := ⟨bb, ob + nb (gb l (N - 1)), none⟩) hbl).trans (HBc.out _ (nb_lt _))
        have l1 := nb_lt (gb l (N - 1))
        have b2 := (hB2.cell (p := ⟨bb, ob + nb (gb l (N - 2)), none⟩) hbl).trans (HBc.out _ (nb_lt _))
        have l2 := nb_lt (gb l (N - 2))
        have b3 := (hB2.cell (p := ⟨bb, ob + nb (gb l (N - 3)), none⟩) hbl).trans (HBc.out _ (nb_lt _))
        have l3 := nb_lt (gb l (N - 3))
        have b4 := (hB2.cell (p := ⟨bb, ob + nb (gb l (N - 4)), none⟩) hbl).trans (HBc.out _ (nb_lt _))
        have l4 := nb_lt (gb l (N - 4))
        have t0 : w3.cell? ⟨gt, 0, none⟩ = some (.int .u8 (ub (gb l (N - 4)))) := Row.cell hR4 (i := 0) (by simp)
        have t1 : w3.cell? ⟨gt, 1, none⟩ = some (.int .u8 (ub (gb l (N - 3)))) := Row.cell hR4 (i := 1) (by simp)
        have t2 : w3.cell? ⟨gt, 2, none⟩ = some (.int .u8 (ub (gb l (N - 2)))) := Row.cell hR4 (i := 2) (by simp)
        have t3 : w3.cell? ⟨gt, 3, none⟩ = some (.int .u8 (ub (gb l (N - 1)))) := Row.cell hR4 (i := 3) (by simp)
        go_wp2
        refine wp_region_qt 26 (by kernel_rfl) (by kernel_rfl) ?_
        simp only [List.take_succ_cons, List.take_zero, List.drop_succ_cons, List.drop_zero]
        repeat (go_big_quiet_step (fail))
        refine wpQuiet_nil ?_
        rintro _ ⟨nq2, rfl⟩
        go_upto_region 10 with (go_at_call 57; refine (rprod_any _ _ (by simp) (by simp) (by simp) (by simp) _).mono ?_; rintro e w' ⟨rfl, rfl⟩)
        clear b1 b2 b3 b4 t0 t1 t2 t3
        have hT : Row ((w3.drewN nq2).alloc (.cells #[.int .u8 (ub (gb B (nb (gb l (N - 3))) ^^^ r)), .int .u8 (ub (gb B (nb (gb l (N - 2))))), .int .u8 (ub (gb B (nb (gb l (N - 1))))), .int .u8 (ub (gb B (nb (gb l (N - 4)))))] 5)) w3.heap.size 5 (rkT B l r N) := by rw [rkT, if_pos H0.out]; exact Row.new (w3.drewN nq2) 5 [gb B (nb (gb l (N - 3))) ^^^ r, gb B (nb (gb l (N - 2))), gb B (nb (gb l (N - 1))), gb B (nb (gb l (N - 4)))]
        have hTl : (rkT B l r N).length = 4 := by rw [rkT]; split <;> rfl
        have HTl := Lib.hid hTl
        clear hTl
        generalize rkT B l r N = T at *
        have hv4 : OB ((w3.drewN nq2).alloc (.cells #[.int .u8 (ub (gb B (nb (gb l (N - 3))) ^^^ r)), .int .u8 (ub (gb B (nb (gb l (N - 2))))), .int .u8 (ub (gb B (nb (gb l (N - 1))))), .int .u8 (ub (gb B (nb (gb l (N - 4)))))] 5)) w.heap.size (.slice (some ⟨g, 0, none⟩) N cap) (rkRow l T N 0) := (hv2.drewN nq2).alloc _
        have hB4 : Below w.heap.size w ((w3.drewN nq2).alloc (.cells #[.int .u8 (ub (gb B (nb (gb l (N - 3))) ^^^ r)), .int .u8 (ub (gb B (nb (gb l (N - 2))))), .int .u8 (ub (gb B (nb (gb l (N - 1))))), .int .u8 (ub (gb B (nb (gb l (N - 4)))))] 5)) := (below_drewN hB2 nq2).alloc hB2.size _
        have hne : ∀ q, (Value.slice (some ⟨g, 0, none⟩) N cap).ownBlock = some q → q ≠ w3.heap.size := by intro q hq; simp [Value.ownBlock] at hq; omega
        have Hne := Lib.hid hne
        clear hne
        generalize (w3.drewN nq2).alloc (.cells #[.int .u8 (ub (gb B (nb (gb l (N - 3))) ^^^ r)), .int .u8 (ub (gb B (nb (gb l (N - 2))))), .int .u8 (ub (gb B (nb (gb l (N - 1))))), .int .u8 (ub (gb B (nb (gb l (N - 4)))))] 5) = w5 at *
        generalize w3.heap.size = g5 at *
        go_wp2
        go_loopw [5, 9] (fun v j wr => ∃ j' : Nat, j' ≤ 4 ∧ j = .int .i64 (j' : Int) ∧ OB wr w.heap.size v (rkRow l T N j') ∧ Row wr g5 5 T ∧ (∀ q, v.ownBlock = some q → q ≠ g5) ∧ Below w.heap.size w wr) (fun _ j _ => 4 - (intOf j).toNat)
        case atStart => exact ⟨0, by omega, rfl, hv4, hT, Hne.out, hB4⟩
        case round =>
          clear hv4 hT hB4 Hne
          obtain ⟨j, hj, rfl, hv, hT, hne, hB⟩ := hrel
          have hrl := rkRow_length l T N j
          rw [Hlen.out] at hrl
          by_cases hj4 : j < 4
          · have Hs2 : Hid (rkRow l T N (j+1) = rkRow l T N j ++ [gb (rkRow l T N j) (N+j-16) ^^^ gb T j]) := rfl
            generalize rkRow l T N j = L at *
            obtain ⟨g', cap', rfl, hg1, hg2, hc3, hc4, hcell⟩ := hv.open_ (by rintro rfl; simp at hrl; omega)
            rw [hrl] at hc3 hcell hv ⊢
            unfold maxLen at hc4
            have e1 := hcell (N + j - 16) (by omega)
            have e2 := Row.cell hT (i := j) (by rw [HTl.out]; exact hj4)
            have Hrl := Lib.hid hrl
            have Hv := Lib.hid hv
            have HT := Lib.hid hT
            have Hne := Lib.hid hne
            clear hcell hrl hv hT hne
            obtain ⟨w4, rfl⟩ : ∃ w1 : World, w1 = wr := ⟨_, rfl⟩
            go_wp2
            refine wp_region_pq [0] [1,2,3,4,5,6,7,8,9,10,11,12] 13 (by kernel_rfl) (by kernel_rfl) (fun _ d _ _ _ h => by cases d <;> exact h) ?_
            simp only [List.map_cons, List.map_nil, List.cons_append, List.nil_append, List.drop_succ_cons, List.drop_zero, List.getD_cons_zero, List.getD_cons_succ]
            repeat (go_big_quiet_step (fail))
            refine wpQuiet_nil ?_
            rintro _ ⟨nq3, rfl⟩
            go_wp2_with (at_builtin; refine wl_push rfl (.tmp 74) (.tmp 87) rfl w.heap.size _ L _ w4.heap.size rfl rfl ((Hv.out.drewN nq3).alloc _) (Row.new (w4.drewN nq3) 5 [_]) (by rw [Hrl.out]; omega) (by have := hB.size; simp; omega) ?_; intro v' w' hv' hg' hat')
            have hrel' : ∃ j' : Nat, j' ≤ 4 ∧ Value.int IntKind.i64 ((j : Int) + 1) = .int .i64 (j' : Int) ∧ OB w' w.heap.size v' (rkRow l T N j') ∧ Row w' g5 5 T ∧ (∀ q, v'.ownBlock = some q → q ≠ g5) ∧ Below w.heap.size w w' := by
              refine ⟨j + 1, by omega, by go_num, by rw [Hs2.out]; exact hv', ((HT.out.drewN nq3).alloc _).grown hg' (fun e => Hne.out g5 e.symm rfl), fun q hq => ?_, ((Hv.out.drewN nq3).alloc _).grownBelow ((below_drewN hB nq3).alloc hB.size _) hg' (Nat.le_refl _) (Nat.le_refl _)⟩
              have hlt' := HT.out.lt
              rcases hat' with e | e
              · rw [e] at hq; exact Hne.out q hq
              · rw [e] at hq; simp at hq; omega
            exact ⟨hrel', by simp [intOf]; omega⟩
          · have hj' : j = 4 := by omega
            rw [hj'] at hv
            clear hj'
            have Hv := Lib.hid hv
            clear hv hrl hT hne
            go_wp2
            have hN := HN.out
            refine ⟨⟨m + 1, N + 4, by omega, by omega, by go_num, ?_, ?_, hB⟩, by simp [intOf]; omega⟩
            · have h0 := H0.out
              rw [Hs.out]; show _ = Value.int .u8 (ub (if N % 16 = 0 then _ else _)); rw [if_pos h0]; rfl
            · rw [Hs.out]; exact Hv.out
      · have ht : (((N : Int) % 16) == 0) = false := by simp; omega
        have H0 := Lib.hid h0
        clear h0
        go_upto_region 10 with (fail)
        have hT : Row w3 gt 5 (rkT B l r N) := by rw [rkT, if_neg H0.out]; exact hR4
        have hTl : (rkT B l r N).length = 4 := by rw [rkT]; split <;> rfl
        have HTl := Lib.hid hTl
        clear hTl
        generalize rkT B l r N = T at *
        have hv4 : OB w3 w.heap.size (.slice (some ⟨g, 0, none⟩) N cap) (rkRow l T N 0) := hv2
        have hB4 : Below w.heap.size w (w3) := hB2
        have hne : ∀ q, (Value.slice (some ⟨g, 0, none⟩) N cap).ownBlock = some q → q ≠ gt := by intro q hq; simp [Value.ownBlock] at hq; omega
        have Hne := Lib.hid hne
        clear hne
        generalize w3 = w5 at *
        generalize gt = g5 at *
        go_wp2
        go_loopw [5, 9] (fun v j wr => ∃ j' : Nat, j' ≤ 4 ∧ j = .int .i64 (j' : Int) ∧ OB wr w.heap.size v (rkRow l T N j') ∧ Row wr g5 5 T ∧ (∀ q, v.ownBlock = some q → q ≠ g5) ∧ Below w.heap.size w wr) (fun _ j _ => 4 - (intOf j).toNat)
        case atStart => exact ⟨0, by omega, rfl, hv4, hT, Hne.out, hB4⟩
        case round =>
          clear hv4 hT hB4 Hne
          obtain ⟨j, hj, rfl, hv, hT, hne, hB⟩ := hrel
          have hrl := rkRow_length l T N j
          rw [Hlen.out] at hrl
          by_cases hj4 : j < 4
          · have Hs2 : Hid (rkRow l T N (j+1) = rkRow l T N j ++ [gb (rkRow l T N j) (N+j-16) ^^^ gb T j]) := rfl
            generalize rkRow l T N j = L at *
            obtain ⟨g', cap', rfl, hg1, hg2, hc3, hc4, hcell⟩ := hv.open_ (by rintro rfl; simp at hrl; omega)
            rw [hrl] at hc3 hcell hv ⊢
            unfold maxLen at hc4
            have e1 := hcell (N + j - 16) (by omega)
            have e2 := Row.cell hT (i := j) (by rw [HTl.out]; exact hj4)
            have Hrl := Lib.hid hrl
            have Hv := Lib.hid hv
            have HT := Lib.hid hT
            have Hne := Lib.hid hne
            clear hcell hrl hv hT hne
            obtain ⟨w4, rfl⟩ : ∃ w1 : World, w1 = wr := ⟨_, rfl⟩
            go_wp2
            refine wp_region_pq [0] [1,2,3,4,5,6,7,8,9,10,11,12] 13 (by kernel_rfl) (by kernel_rfl) (fun _ d _ _ _ h => by cases d <;> exact h) ?_
            simp only [List.map_cons, List.map_nil, List.cons_append, List.nil_append, List.drop_succ_cons, List.drop_zero, List.getD_cons_zero, List.getD_cons_succ]
            repeat (go_big_quiet_step (fail))
            refine wpQuiet_nil ?_
            rintro _ ⟨nq3, rfl⟩
            go_wp2_with (at_builtin; refine wl_push rfl (.tmp 74) (.tmp 87) rfl w.heap.size _ L _ w4.heap.size rfl rfl ((Hv.out.drewN nq3).alloc _) (Row.new (w4.drewN nq3) 5 [_]) (by rw [Hrl.out]; omega) (by have := hB.size; simp; omega) ?_; intro v' w' hv' hg' hat')
            have hrel' : ∃ j' : Nat, j' ≤ 4 ∧ Value.int IntKind.i64 ((j : Int) + 1) = .int .i64 (j' : Int) ∧ OB w' w.heap.size v' (rkRow l T N j') ∧ Row w' g5 5 T ∧ (∀ q, v'.ownBlock = some q → q ≠ g5) ∧ Below w.heap.size w w' := by
              refine ⟨j + 1, by omega, by go_num, by rw [Hs2.out]; exact hv', ((HT.out.drewN nq3).alloc _).grown hg' (fun e => Hne.out g5 e.symm rfl), fun q hq => ?_, ((Hv.out.drewN nq3).alloc _).grownBelow ((below_drewN hB nq3).alloc hB.size _) hg' (Nat.le_refl _) (Nat.le_refl _)⟩
              have hlt' := HT.out.lt
              rcases hat' with e | e
              · rw [e] at hq; exact Hne.out q hq
              · rw [e] at hq; simp at hq; omega
            exact ⟨hrel', by simp [intOf]; omega⟩
          · have hj' : j = 4 := by omega
            rw [hj'] at hv
            clear hj'
            have Hv := Lib.hid hv
            clear hv hrl hT hne
            go_wp2
            have hN := HN.out
            refine ⟨⟨m + 1, N + 4, by omega, by omega, by go_num, ?_, ?_, hB⟩, by simp [intOf]; omega⟩
            · have h0 := H0.out
              rw [Hs.out]; show _ = Value.int .u8 (ub (if N % 16 = 0 then _ else _)); rw [if_neg h0]
            · rw [Hs.out]; exact Hv.out
    · have hm40 : m = 40 := by omega
      rw [hm40] at hv
      clear hm40 hlen
      have Hv := Lib.hid hv
      clear hv
      go_wp2
      go_ret
      exact ⟨_, rfl, Hv.out, hB⟩
end Go.Proofs.YtpkelokaammmjaaDoor
end
/-! The walk of compeerref05.Block. -/
section
namespace Go.Proofs.YtpkelokaammmjaaDoor
open Go.RowKit Go.QT
attribute [local go_sem] bits_xor8 bits_or8 bits_and8 u8_ub
theorem rkeys_length (B k : Bytes) (hk : k.length = 16) : (rkeys B k).length = 176 := rkTo_length B k hk 40
theorem raddTo_length (b ks : Bytes) (k : Nat) : (raddTo b ks k).length = k := by
  induction k with
  | zero => rfl
  | succ k ih => rw [raddTo, List.length_append, ih]; rfl
theorem rsubRow_length (B s : Bytes) (c : Nat) (t : Bytes) (r : Nat) : (rsubRow B s c t r).length = t.length + r := by
  induction r with
  | zero => rfl
  | succ r ih => rw [rsubRow, List.length_append, ih]; rfl
theorem rsubTo_length (B s : Bytes) (c : Nat) : (rsubTo B s c).length = 4 * c := by
  induction c with
  | zero => rfl
  | succ c ih => rw [rsubTo, rsubRow_length, ih]; omega
theorem rmixRow_length (t : Bytes) (c : Nat) (u : Bytes) (r : Nat) : (rmixRow t c u r).length = u.length + r := by
  induction r with
  | zero => rfl
  | succ r ih => rw [rmixRow, List.length_append, ih]; rfl
theorem rmixTo_length (t : Bytes) (c : Nat) : (rmixTo t c).length = 4 * c := by
  induction c with
  | zero => rfl
  | succ c ih => rw [rmixTo, rmixRow_length, ih]; omega
theorem rxorTo_length (t ks : Bytes) (n k : Nat) : (rxorTo t ks n k).length = t.length := by
  induction k with
  | zero => rfl
  | succ k ih => exact List.length_set.trans ih
theorem rrounds_length (B ks b : Bytes) (n : Nat) : (rrounds B ks b n).length = 16 := by
  cases n with
  | zero => exact raddTo_length _ _ _
  | succ n => rw [rrounds, rxorTo_length]; split
              · exact rmixTo_length _ 4
              · exact rsubTo_length _ _ 4
set_option maxRecDepth 100000 in
set_option maxHeartbeats 2000000 in
theorem rblk_any (vB vk vb' : Value) (B k b : Bytes) (w : World) (hB : SB w vB B) (hk : SB w vk k) (hb : SB w vb' b) (hBl : B.length = 256) (hkl : k.length = 16) (hbl : b.length = 16) :
    Calls Tryd.prog 46 #[vB, vk, vb'] w (BPost w (rblk B k b)) := by
  have hksl := rkeys_length B k hkl
  have Hr : Hd (∀ n, rrounds B (rkeys B k) b (n+1) = rxorTo (if n+1 < 10 then rmixTo (rsubTo B (rrounds B (rkeys B k) b n) 4) 4 else rsubTo B (rrounds B (rkeys B k) b n) 4) (rkeys B k) (n+1) 16) := ⟨fun _ => rfl⟩
  have Hr0 : Hd (rrounds B (rkeys B k) b 0 = raddTo b (rkeys B k) 16) := ⟨rfl⟩
  have Hb : Hd (rblk B k b = rrounds B (rkeys B k) b 10) := ⟨rfl⟩
  go_enter Tryd.func46, Tryd.ntmps46
  go_upto_region 2 with (go_at_call 56; refine (rkeys_any _ _ B k _ hB hk hBl hkl).mono ?_; rintro e w1 ⟨vks, rfl, hks, hb1⟩)
  have hB1 := hB.below hb1
  have hbb1 := hb.below hb1
  have hks1 := hks.sb
  clear hB hk hb hks hkl
  generalize rkeys B k = KS at *
  have hraL := raddTo_length b KS
  have Hra : Hd (∀ n, raddTo b KS (n+1) = raddTo b KS n ++ [gb b n ^^^ gb KS n]) := ⟨fun _ => rfl⟩
  obtain ⟨bB, oB, cB, rfl, hB2, hB3, hB4, hB5⟩ := hB1.open_ (by rintro rfl; simp at hBl)
  obtain ⟨bb, ob, cb, rfl, hb2, hb3, hb4, hb5⟩ := hbb1.open_ (by rintro rfl; simp at hbl)
  obtain ⟨bk, ok, ck, rfl, hk2, hk3, hk4, hk5⟩ := hks1.open_ (by rintro rfl; simp at hksl)
  unfold maxLen at hB3 hb3 hk3
  rw [hBl] at hB2 hB5 hB1 ⊢
  rw [hbl] at hb2 hb5 hbb1 ⊢
  rw [hksl] at hk2 hk5 hks1 ⊢
  have HB5 := Hd.mk hB5
  have Hb5 := Hd.mk hb5
  have Hk5 := Hd.mk hk5
  have HraL := Hd.mk hraL
  clear hB5 hb5 hk5 hraL hBl hbl hksl hB1 hbb1 hks1
  go_upto_region 3 with (fail)
  have hv : OB (w1.alloc (.cells #[] 5)) w1.heap.size (.slice (some ⟨w1.heap.size, 0, none⟩) 0 0) (raddTo b KS 0) := OB.new _ _ [] (by simp) (Row.new w1 5 []) (Nat.le_refl _)
  have hB6 : Below w1.heap.size w1 (w1.alloc (.cells #[] 5)) := (Below.refl _ _).alloc (Nat.le_refl _) _
  generalize w1.alloc (.cells #[] 5) = w2 at *
  go_wp2
  go_loopw [8, 9] (fun v i wr => ∃ n : Nat, n ≤ 16 ∧ i = .int .i64 n ∧ OB wr w1.heap.size v (raddTo b KS n) ∧ Below w1.heap.size w1 wr) (fun _ i _ => 16 - (intOf i).toNat)
  case atStart => exact ⟨0, by omega, rfl, hv, hB6⟩
  case round =>
    clear hv hB6
    obtain ⟨n, hn, rfl, hv, hB6⟩ := hrel
    have hlen := HraL.out n
    by_cases hlt : n < 16
    · have Hs := Hd.mk (Hra.out n)
      generalize raddTo b KS n = L at *
      have e1 := (hB6.cell (p := ⟨bb, ob + n, none⟩) hb4).trans (Hb5.out n hlt)
      have e2 := (hB6.cell (p := ⟨bk, ok + n, none⟩) hk4).trans (Hk5.out n (by omega))
      have Hl := Hd.mk hlen
      have Hv := Hd.mk hv
      clear hlen hv
      obtain ⟨w3, rfl⟩ : ∃ w1 : World, w1 = wr := ⟨_, rfl⟩
      go_wp2
      refine wp_region_pq [0] [1,2,3,4,5,6,7,8,9] 10 (by kernel_rfl) (by kernel_rfl) (fun _ d _ _ _ h => by cases d <;> exact h) ?_
      simp only [List.map_cons, List.map_nil, List.cons_append, List.nil_append, List.drop_succ_cons, List.drop_zero, List.getD_cons_zero, List.getD_cons_succ]
      repeat (go_big_quiet_step (fail))
      refine wpQuiet_nil ?_
      rintro _ ⟨nq3, rfl⟩
      go_wp2_with (at_builtin; refine wl_push rfl (.tmp 30) (.tmp 40) rfl w1.heap.size _ L _ w3.heap.size rfl rfl ((Hv.out.drewN nq3).alloc _) (Row.new (w3.drewN nq3) 5 [_]) (by rw [Hl.out]; omega) (by have := hB6.size; simp; omega) ?_; intro v' w' hv' hg' hat')
      refine ⟨⟨n + 1, by omega, by go_num, by rw [Hs.out]; exact hv', ((Hv.out.drewN nq3).alloc _).grownBelow ((below_drewN hB6 nq3).alloc hB6.size _) hg' (Nat.le_refl _) (Nat.le_refl _)⟩, by simp [intOf]; omega⟩
    · have hn16 : n = 16 := by omega
      rw [hn16, ← Hr0.out] at hv
      clear hlen hn16
      have Hv := Hd.mk hv
      clear hv
      obtain ⟨w3, rfl⟩ : ∃ w1 : World, w1 = wr := ⟨_, rfl⟩
      go_wp2
      go_loopw [8, 10] (fun v i wr => ∃ n : Nat, n ≤ 10 ∧ i = .int .i64 (↑n + 1) ∧ OB wr w1.heap.size v (rrounds B KS b n) ∧ Below w1.heap.size w1 wr) (fun _ i _ => 11 - (intOf i).toNat)
      case atStart => exact ⟨0, by omega, by go_num, Hv.out, hB6⟩
      case round =>
        clear Hv hB6
        obtain ⟨n, hn, rfl, hv, hB6⟩ := hrel
        have hlen := rrounds_length B KS b n
        by_cases hlt : n < 10
        · have hdn : decide ((n : Int) + 1 ≤ 10) = true := by simp; omega
          have Hs := Hd.mk (Hr.out n)
          generalize rrounds B KS b n = S at *
          obtain ⟨gs, cs, rfl, hs1, hs2, hs3, hs4, hs5⟩ := hv.open_ (by rintro rfl; simp at hlen)
          unfold maxLen at hs4
          rw [hlen] at hs3 hs5 hv ⊢
          have hsz : w1.heap.size ≤ wr.heap.size := hB6.size
          have Hs5 := Hd.mk hs5
          clear hs5 hv hlen
          obtain ⟨w4, rfl⟩ : ∃ w1 : World, w1 = wr := ⟨_, rfl⟩
          go_upto_region 11 with (fail)
          have ht : OB (w4.alloc (.cells #[] 5)) w4.heap.size (.slice (some ⟨w4.heap.size, 0, none⟩) 0 0) (rsubTo B S 0) := OB.new _ _ [] (by simp) (Row.new w4 5 []) (Nat.le_refl _)
          have hB7 : Below w4.heap.size w4 (w4.alloc (.cells #[] 5)) := (Below.refl _ _).alloc (Nat.le_refl _) _
          generalize w4.alloc (.cells #[] 5) = w5 at *
          go_wp2
          go_loopw [11, 12] (fun v i wr => ∃ c : Nat, c ≤ 4 ∧ i = .int .i64 c ∧ OB wr w4.heap.size v (rsubTo B S c) ∧ Below w4.heap.size w4 wr) (fun _ i _ => 4 - (intOf i).toNat)
          case atStart => exact ⟨0, by omega, rfl, ht, hB7⟩
          case round =>
            clear ht hB7
            obtain ⟨c, hc, rfl, ht, hB7⟩ := hrel
            by_cases hc4 : c < 4
            · have hdc : decide ((c : Int) < 4) = true := by simp; omega
              have Hs2 : Hd (rsubTo B S (c+1) = rsubRow B S c (rsubTo B S c) 4) := ⟨rfl⟩
              have hlr := rsubRow_length B S c (rsubTo B S c)
              rw [rsubTo_length] at hlr
              have Hlr := Hd.mk hlr
              clear hlr
              have ht0 : OB wr w4.heap.size u11 (rsubRow B S c (rsubTo B S c) 0) := ht
              clear ht
              have Hrr : Hd (∀ r, rsubRow B S c (rsubTo B S c) (r+1) = rsubRow B S c (rsubTo B S c) r ++ [gb B (nb (gb S ((c+r)%4*4+r)))]) := ⟨fun _ => rfl⟩
              generalize rsubTo B S c = T0 at *
              obtain ⟨w6, rfl⟩ : ∃ w1 : World, w1 = wr := ⟨_, rfl⟩
              go_wp2
              go_loopw [11, 13] (fun v i wr => ∃ r : Nat, r ≤ 4 ∧ i = .int .i64 r ∧ OB wr w4.heap.size v (rsubRow B S c T0 r) ∧ Below w4.heap.size w4 wr) (fun _ i _ => 4 - (intOf i).toNat)
              case atStart => exact ⟨0, by omega, rfl, ht0, hB7⟩
              case round =>
                clear ht0 hB7
                obtain ⟨r, hr, rfl, ht, hB7⟩ := hrel
                by_cases hr4 : r < 4
                · have hL := Hlr.out r
                  have Hs3 := Hd.mk (Hrr.out r)
                  generalize rsubRow B S c T0 r = L at *
                  have e1 := (hB7.cell (p := ⟨gs, (c+r)%4*4+r, none⟩) hs2).trans (Hs5.out ((c+r)%4*4+r) (by omega))
                  have e2 := (hB7.cell (p := ⟨bB, oB + nb (gb S ((c+r)%4*4+r)), none⟩) (by simp; omega)).trans ((hB6.cell (p := ⟨bB, oB + nb (gb S ((c+r)%4*4+r)), none⟩) hB4).trans (HB5.out _ (nb_lt _)))
                  have l1 := nb_lt (gb S ((c+r)%4*4+r))
                  have HL := Hd.mk hL
                  have Ht := Hd.mk ht
                  clear hL ht
                  obtain ⟨w7, rfl⟩ : ∃ w1 : World, w1 = wr := ⟨_, rfl⟩
                  go_wp2_with (at_builtin; refine wl_push rfl (.tmp 55) (.tmp 69) rfl w4.heap.size _ L _ w7.heap.size rfl rfl (Ht.out.alloc _) (Row.new w7 5 [_]) (by rw [HL.out]; omega) (by have := hB7.size; simp; omega) ?_; intro v' w' hv' hg' hat')
                  exact ⟨⟨r + 1, by omega, by go_num, by rw [Hs3.out]; exact hv', (Ht.out.alloc _).grownBelow (hB7.alloc hB7.size _) hg' (Nat.le_refl _) (Nat.le_refl _)⟩, by simp [intOf]; omega⟩
                · have hr4' : r = 4 := by omega
                  rw [hr4', ← Hs2.out] at ht
                  have Ht := Hd.mk ht
                  clear ht hr4'
                  go_wp2
                  exact ⟨⟨c + 1, by omega, by go_num, Ht.out, hB7⟩, by simp [intOf]; omega⟩
            · have hc4' : c = 4 := by omega
              rw [hc4'] at ht
              clear hc4'
              have htl : (rsubTo B S 4).length = 16 := rsubTo_length B S 4
              generalize hTT : rsubTo B S 4 = T at *
              have HTT := Hd.mk hTT
              clear hTT
              by_cases hn9 : n < 9
              · have hd9 : decide ((n : Int) + 1 < 10) = true := by simp; omega
                obtain ⟨gt, ct, hV, ht1, ht2, ht3, ht4, ht5⟩ := ht.open_ (by rintro rfl; simp at htl)
                subst hV
                unfold maxLen at ht4
                rw [htl] at ht3 ht5 ht ⊢
                obtain ⟨w8, rfl⟩ : ∃ w1 : World, w1 = wr := ⟨_, rfl⟩
                have Ht5 := Hd.mk ht5
                clear ht5
                go_upto_region 20 with (fail)
                have hu : OB (w8.alloc (.cells #[] 5)) w8.heap.size (.slice (some ⟨w8.heap.size, 0, none⟩) 0 0) (rmixTo T 0) := OB.new _ _ [] (by simp) (Row.new w8 5 []) (Nat.le_refl _)
                have hB9 : Below w8.heap.size w8 (w8.alloc (.cells #[] 5)) := (Below.refl _ _).alloc (Nat.le_refl _) _
                have hsz8 : w4.heap.size ≤ w8.heap.size := hB7.size
                generalize w8.alloc (.cells #[] 5) = w11 at *
                go_wp2
                go_loopw [14, 15] (fun v i wr => ∃ c : Nat, c ≤ 4 ∧ i = .int .i64 c ∧ OB wr w8.heap.size v (rmixTo T c) ∧ Below w8.heap.size w8 wr) (fun _ i _ => 4 - (intOf i).toNat)
                case atStart => exact ⟨0, by omega, rfl, hu, hB9⟩
                case round =>
                  clear hu hB9
                  obtain ⟨c, hc, rfl, hu, hB9⟩ := hrel
                  by_cases hc4 : c < 4
                  · have hdc : decide ((c : Int) < 4) = true := by simp; omega
                    have Hs2 : Hd (rmixTo T (c+1) = rmixRow T c (rmixTo T c) 4) := ⟨rfl⟩
                    have hlr := rmixRow_length T c (rmixTo T c)
                    rw [rmixTo_length] at hlr
                    have Hlr := Hd.mk hlr
                    clear hlr
                    have hu0 : OB wr w8.heap.size u14 (rmixRow T c (rmixTo T c) 0) := hu
                    clear hu
                    have Hrr : Hd (∀ r, rmixRow T c (rmixTo T c) (r+1) = rmixRow T c (rmixTo T c) r ++ [rprod 2 (gb T (c*4+r)) ^^^ rprod 3 (gb T (c*4+(r+1)%4)) ^^^ gb T (c*4+(r+2)%4) ^^^ gb T (c*4+(r+3)%4)]) := ⟨fun _ => rfl⟩
                    generalize rmixTo T c = U0 at *
                    obtain ⟨w12, rfl⟩ : ∃ w1 : World, w1 = wr := ⟨_, rfl⟩
                    go_wp2
                    go_loopw [14, 16] (fun v i wr => ∃ r : Nat, r ≤ 4 ∧ i = .int .i64 r ∧ OB wr w8.heap.size v (rmixRow T c U0 r) ∧ Below w8.heap.size w8 wr) (fun _ i _ => 4 - (intOf i).toNat)
                    case atStart => exact ⟨0, by omega, rfl, hu0, hB9⟩
                    case round =>
                      clear hu0 hB9
                      obtain ⟨r, hr, rfl, hu, hB9⟩ := hrel
                      by_cases hr4 : r < 4
                      · have hL := Hlr.out r
                        have Hs3 := Hd.mk (Hrr.out r)
                        generalize rmixRow T c U0 r = L at *
                        have e1 := (hB9.cell (p := ⟨gt, c*4+r, none⟩) ht2).trans (Ht5.out (c*4+r) (by omega))
                        have e2 := (hB9.cell (p := ⟨gt, c*4+(r+1)%4, none⟩) ht2).trans (Ht5.out (c*4+(r+1)%4) (by omega))
                        have e3 := (hB9.cell (p := ⟨gt, c*4+(r+2)%4, none⟩) ht2).trans (Ht5.out (c*4+(r+2)%4) (by omega))
                        have e4 := (hB9.cell (p := ⟨gt, c*4+(r+3)%4, none⟩) ht2).trans (Ht5.out (c*4+(r+3)%4) (by omega))
                        have HL := Hd.mk hL
                        have Hu := Hd.mk hu
                        clear hL hu
                        obtain ⟨w7, rfl⟩ : ∃ w1 : World, w1 = wr := ⟨_, rfl⟩
                        go_wp2_with (first | (at_builtin; refine wl_push rfl (.tmp 116) (.tmp 126) rfl w8.heap.size _ L _ w7.heap.size rfl rfl (Hu.out.alloc _) (Row.new w7 5 [_]) (by rw [HL.out]; omega) (by have := hB9.size; simp; omega) ?_; intro v' w' hv' hg' hat') | (go_at_call 57; refine (rprod_any _ _ (by simp) (by simp) (by simp) (by simp) _).mono ?_; rintro e w' ⟨rfl, rfl⟩))
                        have e5 : toB 2 = 2 := rfl
                        have e6 : toB 3 = 3 := rfl
                        rw [e5, e6] at hv'
                        exact ⟨⟨r + 1, by omega, by go_num, by rw [Hs3.out]; exact hv', (Hu.out.alloc _).grownBelow (hB9.alloc hB9.size _) hg' (Nat.le_refl _) (Nat.le_refl _)⟩, by simp [intOf]; omega⟩
                      · have hr4' : r = 4 := by omega
                        rw [hr4', ← Hs2.out] at hu
                        have Hu := Hd.mk hu
                        clear hu hr4'
                        go_wp2
                        exact ⟨⟨c + 1, by omega, by go_num, Hu.out, hB9⟩, by simp [intOf]; omega⟩
                  · have hc4' : c = 4 := by omega
                    rw [hc4'] at hu
                    clear hc4'
                    have hul : (rmixTo T 4).length = 16 := rmixTo_length T 4
                    have Hu := Hd.mk hu
                    have Hul := Hd.mk hul
                    clear hu hul
                    go_upto_region 32 with (fail)
                    obtain ⟨w9, rfl⟩ : ∃ w1 : World, w1 = wr := ⟨_, rfl⟩
                    have hx0 : OB w9 w4.heap.size u14 (rxorTo (rmixTo T 4) KS (n+1) 0) := Hu.out.mono hsz8
                    have hB8 : Below w4.heap.size w4 w9 := hB7.trans (hB9.mono hsz8)
                    have hTl : (rmixTo T 4).length = 16 := Hul.out
                    have hgs : rrounds B KS b (n+1) = rxorTo (rmixTo T 4) KS (n+1) 16 := by rw [Hs.out, if_pos (by omega)]
                    have Hgs := Hd.mk hgs
                    clear hgs
                    have Hxs : Hd (∀ k, rxorTo (rmixTo T 4) KS (n+1) (k+1) = (rxorTo (rmixTo T 4) KS (n+1) k).set k (gb (rxorTo (rmixTo T 4) KS (n+1) k) k ^^^ gb KS (16*(n+1)+k))) := ⟨fun _ => rfl⟩
                    have HTl := Hd.mk hTl
                    clear hTl
                    generalize rmixTo T 4 = TT at *
                    go_wp2
                    go_loopw [21] (fun i wr => ∃ k : Nat, k ≤ 16 ∧ i = .int .i64 k ∧ OB wr w4.heap.size u14 (rxorTo TT KS (n+1) k) ∧ Below w4.heap.size w4 wr) (fun i _ => 16 - (intOf i).toNat)
                    case atStart => exact ⟨0, by omega, rfl, hx0, hB8⟩
                    case round =>
                      clear hx0 hB8
                      obtain ⟨k, hk, rfl, hx, hB8⟩ := hrel
                      have hxl := rxorTo_length TT KS (n+1) k
                      rw [HTl.out] at hxl
                      by_cases hk16 : k < 16
                      · have Hx1 := Hd.mk (Hxs.out k)
                        generalize rxorTo TT KS (n+1) k = X at *
                        obtain ⟨g', cap', hV, hg1, hg2, hg3, hg4, hcell⟩ := hx.open_ (by rintro rfl; simp at hxl)
                        subst hV
                        rw [hxl] at hg3 hcell hx ⊢
                        unfold maxLen at hg4
                        have e1 := hcell k hk16
                        have e2 := (hB8.cell (p := ⟨bk, ok + (16*(n+1)+k), none⟩) (by simp; omega)).trans ((hB6.cell (p := ⟨bk, ok + (16*(n+1)+k), none⟩) hk4).trans (Hk5.out (16*(n+1)+k) (by omega)))
                        have e3 := hx.frozen_ k
                        have Hx := Hd.mk hx
                        clear hx hcell hxl
                        obtain ⟨w10, rfl⟩ : ∃ w1 : World, w1 = wr := ⟨_, rfl⟩
                        go_wp2
                        refine wp_region_qt 15 (by kernel_rfl) (by kernel_rfl) ?_
                        simp only [List.take_succ_cons, List.take_zero, List.drop_succ_cons, List.drop_zero]
                        repeat (go_big_quiet_step (fail))
                        refine wpQuiet_nil ?_
                        rintro _ ⟨nq4, rfl⟩
                        go_wp2
                        exact ⟨⟨k + 1, by omega, by go_num, by rw [Hx1.out]; exact (Hx.out.drewN nq4).set k _, (below_drewN hB8 nq4).setCell hg1 _⟩, by simp [intOf]; omega⟩
                      · have hk16' : k = 16 := by omega
                        rw [hk16', ← Hgs.out] at hx
                        have Hx := Hd.mk hx
                        clear hx hk16' hxl
                        go_wp2
                        exact ⟨⟨n + 1, by omega, by go_num, Hx.out.mono (by simpa using hB6.size), hB6.trans (hB8.mono (by simpa using hB6.size))⟩, by simp [intOf]; omega⟩
              · have hd9 : decide ((n : Int) + 1 < 10) = false := by simp; omega
                have Ht := Hd.mk ht
                have Htl := Hd.mk htl
                clear ht htl
                go_upto_region 32 with (fail)
                obtain ⟨w9, rfl⟩ : ∃ w1 : World, w1 = wr := ⟨_, rfl⟩
                have hx0 : OB w9 w4.heap.size u11 (rxorTo (T) KS (n+1) 0) := Ht.out
                have hB8 : Below w4.heap.size w4 w9 := hB7
                have hTl : (T).length = 16 := Htl.out
                have hgs : rrounds B KS b (n+1) = rxorTo (T) KS (n+1) 16 := by rw [Hs.out, if_neg (by omega)]
                have Hgs := Hd.mk hgs
                clear hgs
                have Hxs : Hd (∀ k, rxorTo (T) KS (n+1) (k+1) = (rxorTo (T) KS (n+1) k).set k (gb (rxorTo (T) KS (n+1) k) k ^^^ gb KS (16*(n+1)+k))) := ⟨fun _ => rfl⟩
                have HTl := Hd.mk hTl
                clear hTl
                generalize T = TT at *
                go_wp2
                go_loopw [21] (fun i wr => ∃ k : Nat, k ≤ 16 ∧ i = .int .i64 k ∧ OB wr w4.heap.size u11 (rxorTo TT KS (n+1) k) ∧ Below w4.heap.size w4 wr) (fun i _ => 16 - (intOf i).toNat)
                case atStart => exact ⟨0, by omega, rfl, hx0, hB8⟩
                case round =>
                  clear hx0 hB8
                  obtain ⟨k, hk, rfl, hx, hB8⟩ := hrel
                  have hxl := rxorTo_length TT KS (n+1) k
                  rw [HTl.out] at hxl
                  by_cases hk16 : k < 16
                  · have Hx1 := Hd.mk (Hxs.out k)
                    generalize rxorTo TT KS (n+1) k = X at *
                    obtain ⟨g', cap', hV, hg1, hg2, hg3, hg4, hcell⟩ := hx.open_ (by rintro rfl; simp at hxl)
                    subst hV
                    rw [hxl] at hg3 hcell hx ⊢
                    unfold maxLen at hg4
                    have e1 := hcell k hk16
                    have e2 := (hB8.cell (p := ⟨bk, ok + (16*(n+1)+k), none⟩) (by simp; omega)).trans ((hB6.cell (p := ⟨bk, ok + (16*(n+1)+k), none⟩) hk4).trans (Hk5.out (16*(n+1)+k) (by omega)))
                    have e3 := hx.frozen_ k
                    have Hx := Hd.mk hx
                    clear hx hcell hxl
                    obtain ⟨w10, rfl⟩ : ∃ w1 : World, w1 = wr := ⟨_, rfl⟩
                    go_wp2
                    refine wp_region_qt 15 (by kernel_rfl) (by kernel_rfl) ?_
                    simp only [List.take_succ_cons, List.take_zero, List.drop_succ_cons, List.drop_zero]
                    repeat (go_big_quiet_step (fail))
                    refine wpQuiet_nil ?_
                    rintro _ ⟨nq4, rfl⟩
                    go_wp2
                    exact ⟨⟨k + 1, by omega, by go_num, by rw [Hx1.out]; exact (Hx.out.drewN nq4).set k _, (below_drewN hB8 nq4).setCell hg1 _⟩, by simp [intOf]; omega⟩
                  · have hk16' : k = 16 := by omega
                    rw [hk16', ← Hgs.out] at hx
                    have Hx := Hd.mk hx
                    clear hx hk16' hxl
                    go_wp2
                    exact ⟨⟨n + 1, by omega, by go_num, Hx.out.mono (by simpa using hB6.size), hB6.trans (hB8.mono (by simpa using hB6.size))⟩, by simp [intOf]; omega⟩
        · have hn10 : n = 10 := by omega
          rw [hn10, ← Hb.out] at hv
          have Hv := Hd.mk hv
          clear hv hn10
          go_wp2
          go_ret
          exact ⟨_, rfl, Hv.out.mono hb1.size, hb1.trans (hB6.mono hb1.size)⟩
end Go.Proofs.YtpkelokaammmjaaDoor
end
/-! The walk of compeerref05.Stream. -/
section
namespace Go.Proofs.YtpkelokaammmjaaDoor
open Go.RowKit Go.QT
attribute [local go_sem] bits_xor8 bits_or8 bits_and8 u8_ub
theorem carryTo_length (f : Bytes) (i : Nat) : (carryTo f i).1.length = f.length := by
  induction i with
  | zero => rfl
  | succ i ih => exact List.length_set.trans ih
theorem carryTo_le (f : Bytes) (i : Nat) : (carryTo f i).2 ≤ 1 := by
  induction i with
  | zero => exact Nat.le_refl _
  | succ i ih => have := nb_lt (gb (carryTo f i).1 (15-i)); show (_ + _) / 256 ≤ 1; omega
theorem nbc_le (x : UInt8) (c : Nat) (hc : c ≤ 1) : nb x + c ≤ 256 := by have := nb_lt x; omega
theorem rblk_length (B k b : Bytes) : (rblk B k b).length = 16 := rrounds_length B (rkeys B k) b 10
structure RLen (s : RSt) (n : Nat) : Prop where
  at_ : s.at_.length = 16
  out : s.out.length = n
  pad : 0 < n → s.pad.length = 16
theorem rstTo_len (B k f b : Bytes) (hf : f.length = 16) (n : Nat) : RLen (rstTo B k f b n) n := by
  induction n with
  | zero => exact ⟨hf, rfl, fun h => absurd h (by omega)⟩
  | succ n ih =>
    have hp : (rpad B k n (rstTo B k f b n)).at_.length = 16 ∧ (rpad B k n (rstTo B k f b n)).out.length = n ∧ (rpad B k n (rstTo B k f b n)).pad.length = 16 := by
      unfold rpad
      split
      · dsimp only
        refine ⟨?_, ih.out, ?_⟩
        · unfold rinc; rw [carryTo_length]; exact ih.at_
        · rw [rblk_length]
      · exact ⟨ih.at_, ih.out, ih.pad (by omega)⟩
    exact ⟨hp.1, by show (_ ++ _ : Bytes).length = _; rw [List.length_append, hp.2.1]; rfl, fun _ => hp.2.2⟩
/-- What the loop keeps: three rows of the call's own, apart from one another. -/
structure St (w wr : World) (ga ca : Nat) (v p : Value) (s : RSt) : Prop where
  at_ : OB wr w.heap.size (.slice (some ⟨ga, 0, none⟩) 16 ca) s.at_
  out : OB wr w.heap.size v s.out
  pad : OB wr w.heap.size p s.pad
  d1 : Disj v (.slice (some ⟨ga, 0, none⟩) 16 ca)
  d2 : Disj p (.slice (some ⟨ga, 0, none⟩) 16 ca)
  d3 : Disj v p
  low : Below w.heap.size w wr
theorem OB.cells {w : World} {base g n c : Nat} {l : Bytes} (h : OB w base (.slice (some ⟨g, 0, none⟩) n c) l) : n = l.length ∧ base ≤ g ∧ g < w.heap.size ∧ n ≤ c ∧ c ≤ maxLen ∧ ∀ i, i < l.length → w.cell? ⟨g, i, none⟩ = some (.int .u8 (ub (gb l i))) := by
  have hl : n = l.length := by
    rcases h.2 with ⟨e, _⟩ | ⟨g', cap, cur, e, _⟩
    · cases e
    · injection e with _ e2 _
  have ho := h.own g rfl
  have hc : n ≤ c ∧ c ≤ maxLen := by
    rcases h.2 with ⟨e, _⟩ | ⟨g', cap, cur, e, _, _, h1, h2, _⟩
    · cases e
    · injection e with _ e2 e3; subst e3; exact ⟨by omega, h2⟩
  refine ⟨hl, ho.1, ho.2, hc.1, hc.2, fun i hi => ?_⟩
  obtain ⟨g', cap, e, _, _, _, _, hcell⟩ := h.open_ (by rintro rfl; simp at hi)
  injection e with e1 _ _
  injection e1 with e1
  injection e1 with e1
  subst e1
  exact hcell i hi
theorem St.set {w wr : World} {ga ca : Nat} {v p : Value} {s : RSt} (h : St w wr ga ca v p s) (j : Nat) (x : UInt8) : St w (wr.setCell ⟨ga, j, none⟩ (.int .u8 (ub x))) ga ca v p ⟨s.at_.set j x, s.pad, s.out⟩ :=
  ⟨h.at_.set j x, h.out.far (fun q hq e => h.d1 q hq (by rw [e]; rfl)) _, h.pad.far (fun q hq e => h.d2 q hq (by rw [e]; rfl)) _, h.d1, h.d2, h.d3, h.low.setCell h.at_.cells.2.1 _⟩
set_option maxRecDepth 100000 in
set_option maxHeartbeats 1000000 in
theorem rstream_any (vB vk vf vb' : Value) (B k f b : Bytes) (w : World) (hB : SB w vB B) (hk : SB w vk k) (hf : SB w vf f) (hb : SB w vb' b) (hBl : B.length = 256) (hkl : k.length = 16) (hfl : f.length = 16) (hbl : b.length ≤ 1000) :
    Calls Tryd.prog 32 #[vB, vk, vf, vb'] w (BPost w (rstream B k f b)) := by
  have Hend : Hd (rstream B k f b = (rstTo B k f b b.length).out) := ⟨rfl⟩
  have hLen := rstTo_len B k f b hfl
  have hstep : ∀ n, rstTo B k f b (n+1) = rput b n (rpad B k n (rstTo B k f b n)) := fun _ => rfl
  have hst0 : rstTo B k f b 0 = ⟨f, [], []⟩ := rfl
  have HLen := Hd.mk hLen
  have Hstep := Hd.mk hstep
  have Hst0 := Hd.mk hst0
  clear hLen hstep hst0
  have hbc : ∃ A, (∃ c, vb' = .slice A b.length c) ∧ (b ≠ [] → ∃ bb o, A = some ⟨bb, o, none⟩ ∧ bb < w.heap.size ∧ ∀ i, i < b.length → w.cell? ⟨bb, o + i, none⟩ = some (.int .u8 (ub (gb b i)))) := by obtain ⟨A, c, e, h1, h2, h3⟩ := hb; exact ⟨A, ⟨c, e⟩, h3⟩
  have hbv : ∃ A c, vb' = .slice A b.length c ∧ b.length ≤ c ∧ c ≤ 2 ^ 63 - 1 := by obtain ⟨A, c, e, h1, h2, _⟩ := hb; exact ⟨A, c, e, h1, by unfold maxLen at h2; exact h2⟩
  obtain ⟨Ab, cb, rfl, hb1, hb2⟩ := hbv
  obtain ⟨Ab', ⟨cb', eA⟩, hb3⟩ := hbc
  obtain rfl : Ab' = Ab := by injection eA with e _ _; exact e.symm
  clear eA
  have Hb2 := Hd.mk hb3
  clear hb3
  go_enter Tryd.func32, Tryd.ntmps32
  go_upto_region 2 with (at_builtin; refine wl_append rfl (.tmp 16) (.tmp 17) rfl w.heap.size (.slice (some ⟨w.heap.size, 0, none⟩) 0 0) vf [] f rfl rfl (OB.new _ _ [] (by simp) (Row.new w 5 []) (Nat.le_refl _)) (hf.alloc _) (by simp; omega) (by simp) ?_; intro v' w' hv' hg' hat)
  have hB1 : Below w.heap.size w w' := (OB.new _ _ [] (by simp) (Row.new w 5 []) (Nat.le_refl _)).grownBelow ((Below.refl _ _).alloc (Nat.le_refl _) _) hg' (Nat.le_refl _) (Nat.le_refl _)
  rw [List.nil_append] at hv'
  obtain ⟨ga, ca, rfl, ha1, ha2, ha3, ha4, _⟩ := hv'.open_ (by rintro rfl; simp at hfl)
  unfold maxLen at ha4
  clear hg' hat ha2
  have HB := Hd.mk hB
  have Hk := Hd.mk hk
  have Hb := Hd.mk hb
  have HB1 := Hd.mk hB1
  have Hat := Hd.mk hv'
  clear hB hk hf hb hB1 hv'
  rw [hfl] at *
  obtain ⟨w1, rfl⟩ : ∃ w1 : World, w1 = w' := ⟨_, rfl⟩
  go_upto_region 5 with (fail)
  have hst : St w ((w1.alloc (.cells #[] 5)).alloc (.cells #[] 5)) ga ca (.slice (some ⟨w1.heap.size, 0, none⟩) 0 0) (.slice (some ⟨w1.heap.size + 1, 0, none⟩) 0 0) (rstTo B k f b 0) := by
    rw [Hst0.out]
    have hs := HB1.out.size
    have ha := (Hat.out.own ga rfl).2
    refine ⟨(Hat.out.alloc _).alloc _, (OB.new _ _ [] (by simp) (Row.new w1 5 []) hs).alloc _, ?_, ?_, ?_, ?_, ?_⟩
    · have := OB.new (base := w.heap.size) _ _ [] (by simp) (Row.new (w1.alloc (.cells #[] 5)) 5 []) (by simp; omega)
      simpa using this
    · intro q hq hq'; simp [Value.ownBlock] at hq hq'; omega
    · intro q hq hq'; simp [Value.ownBlock] at hq hq'; omega
    · intro q hq hq'; simp [Value.ownBlock] at hq hq'; omega
    · exact (HB1.out.alloc hs _).alloc (by simp; omega) _
  generalize (w1.alloc (.cells #[] 5)).alloc (.cells #[] 5) = w2 at *
  clear HB1 Hat Hst0
  go_loopw [10, 11, 12] (fun v p n wr => ∃ m : Nat, m ≤ b.length ∧ n = .int .i64 (m : Int) ∧ St w wr ga ca v p (rstTo B k f b m)) (fun _ _ n _ => b.length - (intOf n).toNat)
  case atStart => exact ⟨0, by omega, rfl, hst⟩
  case round =>
    clear hst
    obtain ⟨m, hm, rfl, hst⟩ := hrel
    by_cases hlt : m < b.length
    · have hd : decide ((m : Int) < b.length) = true := by simp; omega
      have Hs := Hd.mk (Hstep.out m)
      have hl := HLen.out m
      have hw : w.heap.size ≤ wr.heap.size := hst.low.size
      generalize rstTo B k f b m = s at *
      obtain ⟨w3, rfl⟩ : ∃ w1 : World, w1 = wr := ⟨_, rfl⟩
      have Hst := Hd.mk hst
      have Hl := Hd.mk hl
      clear hst hl
      by_cases h0 : m % 16 = 0
      · have ht : (((m : Int) % 16) == 0) = true := by simp; omega
        have hp0 : rpad B k m s = ⟨rinc s.at_, rblk B k s.at_, s.out⟩ := if_pos h0
        rw [hp0] at Hs
        clear hp0 h0
        go_upto_region 11 with (go_at_call 46; refine (rblk_any _ _ _ B k s.at_ _ (HB.out.below Hst.out.low) (Hk.out.below Hst.out.low) Hst.out.at_.sb hBl hkl Hl.out.at_).mono ?_; rintro e w' ⟨vp, rfl, hp, hb3⟩)
        have hpl := rblk_length B k s.at_
        have Hinc : Hd (rinc s.at_ = (carryTo s.at_ 16).1) := ⟨rfl⟩
        have Hc1 : Hd (∀ j, carryTo s.at_ (j+1) = ((carryTo s.at_ j).1.set (15-j) (UInt8.ofNat ((nb (gb (carryTo s.at_ j).1 (15-j)) + (carryTo s.at_ j).2) % 256)), (nb (gb (carryTo s.at_ j).1 (15-j)) + (carryTo s.at_ j).2) / 256)) := ⟨fun _ => rfl⟩
        generalize rblk B k s.at_ = P at *
        have hst4 : St w w' ga ca u10 vp ⟨(carryTo s.at_ 0).1, P, s.out⟩ :=
          ⟨Hst.out.at_.below hb3, Hst.out.out.below hb3, hp.mono hw, Hst.out.d1, fun q hq hq' => Disj.fresh Hst.out.at_ (fun k hk => (hp.own k hk).1) (Nat.le_refl _) q hq' hq, Disj.fresh Hst.out.out (fun k hk => (hp.own k hk).1) (Nat.le_refl _), Hst.out.low.trans (hb3.mono hw)⟩
        have hcl := carryTo_length s.at_
        have hcc := carryTo_le s.at_
        rw [Hl.out.at_] at hcl
        have Hpl := Hd.mk hpl
        have Hcl := Hd.mk hcl
        have Hcc := Hd.mk hcc
        clear hpl hcl hcc hp hb3 Hst
        obtain ⟨w4, rfl⟩ : ∃ w1 : World, w1 = w' := ⟨_, rfl⟩
        have hc0 : Value.int .i64 1 = .int .i64 ((carryTo s.at_ 0).2 : Int) := rfl
        have Hc0 := Hd.mk hc0
        clear hc0
        go_loopw [13, 14] (fun c j wr => ∃ i : Nat, i ≤ 16 ∧ c = .int .i64 ((carryTo s.at_ i).2 : Int) ∧ j = .int .i64 (15 - (i : Int)) ∧ St w wr ga ca u10 vp ⟨(carryTo s.at_ i).1, P, s.out⟩) (fun _ j _ => (intOf j + 1).toNat)
        case atStart => exact ⟨0, by omega, Hc0.out, rfl, hst4⟩
        case round =>
          clear hst4
          obtain ⟨i, hi, rfl, rfl, hst⟩ := hrel
          by_cases hi16 : i < 16
          · obtain ⟨j, hj, hj2⟩ : ∃ j : Nat, i + j = 15 ∧ (15 - (i : Int)) = j := ⟨15 - i, by omega, by omega⟩
            rw [hj2]
            have hcl := Hcl.out i
            have hcc := Hcc.out i
            have Hn := Hd.mk (Hc1.out i)
            rw [show 15 - i = j by omega] at Hn
            generalize (carryTo s.at_ i).1 = L at *
            generalize (carryTo s.at_ i).2 = c at *
            have e1 := hst.at_.cells.2.2.2.2.2 j (by show j < L.length; omega)
            have e3 := hst.at_.frozen_ j
            have e4 : w.heap.size ≤ ga := hst.at_.cells.2.1
            have HL := Hd.mk hcl
            have Hst := Hd.mk hst
            clear hst hcl
            obtain ⟨w5, rfl⟩ : ∃ w1 : World, w1 = wr := ⟨_, rfl⟩
            go_wp2
            have hN : wrap64 (wrap64 (ub (gb L j)) + (c : Int)) = ((nb (gb L j) + c : Nat) : Int) := by
              have := nb_lt (gb L j)
              rw [wrap64_ub, ub_nb, ← Int.natCast_add, wrap64_nat _ (by omega)]
            have hN2 : nb (gb L j) + c ≤ 256 := nbc_le _ _ hcc
            rw [hN]
            generalize nb (gb L j) + c = N at *
            have hD : wrap64 ((N : Int).tdiv 256) = ((N / 256 : Nat) : Int) := by
              rw [Int.tdiv_eq_ediv_of_nonneg (by omega), show (N : Int) / 256 = ((N / 256 : Nat) : Int) by omega, wrap64_nat _ (by omega)]
            have hM : (N : Int).tmod 256 % 256 = ub (UInt8.ofNat (N % 256)) := by
              rw [Int.tmod_eq_emod_of_nonneg (by omega), ub_ofNat]; omega
            rw [hD, hM]
            refine ⟨⟨i + 1, by omega, by rw [Hn.out], congrArg (Value.int .i64) (by omega), ?_⟩, ?_⟩
            · rw [Hn.out]
              exact Hst.out.set j _
            · show ((j : Int) - 1 + 1).toNat < ((j : Int) + 1).toNat
              omega
          · have hi' : i = 16 := by omega
            rw [hi', ← Hinc.out] at hst
            have Hst := Hd.mk hst
            clear hst hi'
            obtain ⟨w5, rfl⟩ : ∃ w1 : World, w1 = wr := ⟨_, rfl⟩
            have hpad := Hst.out.pad
            obtain ⟨gp, cp, rfl, hp1, hp2, hp3, hp4, hp5⟩ := hpad.open_ (by intro e; have h := Hpl.out; rw [show P = [] from e] at h; cases h)
            unfold maxLen at hp4
            rw [show P.length = 16 from Hpl.out] at hp3 hp5 hpad Hst ⊢
            obtain ⟨bb, ob, hbA, hb3, hb4⟩ := Hb2.out (by rintro rfl; simp at hlt)
            subst hbA
            have e1 := (Hst.out.low.cell (p := ⟨bb, ob + m, none⟩) hb3).trans (hb4 m hlt)
            have e2 := hp5 (m % 16) (Nat.mod_lt _ (by omega))
            have hwz := Hst.out.low.size
            have Hpad := Hd.mk hpad
            clear hp5 hpad hb4
            go_upto_region 16 with (fail)
            refine wp_region_pq [0] [1,2,3,4,5,6,7,8,9,10] 11 (by kernel_rfl) (by kernel_rfl) (fun _ d _ _ _ h => by cases d <;> exact h) ?_
            simp only [List.map_cons, List.map_nil, List.cons_append, List.nil_append, List.drop_succ_cons, List.drop_zero, List.getD_cons_zero, List.getD_cons_succ]
            repeat (go_big_quiet_step (fail))
            refine wpQuiet_nil ?_
            rintro _ ⟨nq3, rfl⟩
            go_wp2_with (at_builtin; refine wl_push rfl (.tmp 53) (.tmp 64) rfl w.heap.size _ s.out _ w5.heap.size rfl rfl ((Hst.out.out.drewN nq3).alloc _) (Row.new (w5.drewN nq3) 5 [_]) (by have := Hl.out.out; omega) (by simp; omega) ?_; intro v' w' hv' hg' hat')
            have hn := Hs.out
            refine ⟨⟨m + 1, by omega, by go_num, ?_⟩, by simp [intOf]; omega⟩
            rw [hn]
            refine ⟨((Hst.out.at_.drewN nq3).alloc _).apart hg' Hst.out.d1.symm ((Hst.out.out.drewN nq3).alloc _), hv', ((Hst.out.pad.drewN nq3).alloc _).apart hg' Hst.out.d3.symm ((Hst.out.out.drewN nq3).alloc _), ?_, Hst.out.d2, ?_, ((Hst.out.out.drewN nq3).alloc _).grownBelow ((below_drewN Hst.out.low nq3).alloc hwz _) hg' (Nat.le_refl _) (Nat.le_refl _)⟩
            · exact (Disj.grown ((Hst.out.at_.drewN nq3).alloc _) Hst.out.d1.symm hat').symm
            · exact (Disj.grown ((Hst.out.pad.drewN nq3).alloc _) Hst.out.d3.symm hat').symm
      · have ht : (((m : Int) % 16) == 0) = false := by simp; omega
        have hp0 : rpad B k m s = s := if_neg h0
        rw [hp0] at Hs
        have Hpl : Hd (s.pad.length = 16) := ⟨Hl.out.pad (by omega)⟩
        clear hp0 h0
        obtain ⟨w5, rfl⟩ : ∃ w1 : World, w1 = w3 := ⟨_, rfl⟩
        have hpad := Hst.out.pad
        obtain ⟨gp, cp, rfl, hp1, hp2, hp3, hp4, hp5⟩ := hpad.open_ (by intro e; have h := Hpl.out; rw [show s.pad = [] from e] at h; cases h)
        unfold maxLen at hp4
        rw [show s.pad.length = 16 from Hpl.out] at hp3 hp5 hpad Hst ⊢
        obtain ⟨bb, ob, hbA, hb3, hb4⟩ := Hb2.out (by rintro rfl; simp at hlt)
        subst hbA
        have e1 := (Hst.out.low.cell (p := ⟨bb, ob + m, none⟩) hb3).trans (hb4 m hlt)
        have e2 := hp5 (m % 16) (Nat.mod_lt _ (by omega))
        have hwz := Hst.out.low.size
        have Hpad := Hd.mk hpad
        clear hp5 hpad hb4
        go_upto_region 16 with (fail)
        refine wp_region_pq [0] [1,2,3,4,5,6,7,8,9,10] 11 (by kernel_rfl) (by kernel_rfl) (fun _ d _ _ _ h => by cases d <;> exact h) ?_
        simp only [List.map_cons, List.map_nil, List.cons_append, List.nil_append, List.drop_succ_cons, List.drop_zero, List.getD_cons_zero, List.getD_cons_succ]
        repeat (go_big_quiet_step (fail))
        refine wpQuiet_nil ?_
        rintro _ ⟨nq3, rfl⟩
        go_wp2_with (at_builtin; refine wl_push rfl (.tmp 53) (.tmp 64) rfl w.heap.size _ s.out _ w5.heap.size rfl rfl ((Hst.out.out.drewN nq3).alloc _) (Row.new (w5.drewN nq3) 5 [_]) (by have := Hl.out.out; omega) (by simp; omega) ?_; intro v' w' hv' hg' hat')
        have hn := Hs.out
        refine ⟨⟨m + 1, by omega, by go_num, ?_⟩, by simp [intOf]; omega⟩
        rw [hn]
        refine ⟨((Hst.out.at_.drewN nq3).alloc _).apart hg' Hst.out.d1.symm ((Hst.out.out.drewN nq3).alloc _), hv', ((Hst.out.pad.drewN nq3).alloc _).apart hg' Hst.out.d3.symm ((Hst.out.out.drewN nq3).alloc _), ?_, Hst.out.d2, ?_, ((Hst.out.out.drewN nq3).alloc _).grownBelow ((below_drewN Hst.out.low nq3).alloc hwz _) hg' (Nat.le_refl _) (Nat.le_refl _)⟩
        · exact (Disj.grown ((Hst.out.at_.drewN nq3).alloc _) Hst.out.d1.symm hat').symm
        · exact (Disj.grown ((Hst.out.pad.drewN nq3).alloc _) Hst.out.d3.symm hat').symm
    · have hm2 : m = b.length := by omega
      have hd : decide ((m : Int) < b.length) = false := by simp; omega
      rw [hm2] at hst
      have Hst := Hd.mk hst
      clear hst hm2
      go_wp2
      go_ret
      exact ⟨_, rfl, by rw [Hend.out]; exact Hst.out.out, Hst.out.low⟩
end Go.Proofs.YtpkelokaammmjaaDoor
end
