/- The row of SymPlays: for every input the law returns true and what came in reads as it did. (Texts laid one behind the other: SPlays, SymPlays.) -/
import Derived.ChangeMaps5
import Derived.Test.YtjjcnijdjhhdoaaCA7
/-! The walk of SymPlays: true. -/
section
namespace Go.Proofs.Ytjjcnijdjhhdoaa
open Go.RowKit Go.QT
set_option maxRecDepth 100000 in
set_option maxHeartbeats 40000000 in
theorem symPlays_any (A : Option Addr) (c : Nat) (st : List StS) (w : World) (h5 : RV w 5 A c (st.map stCells)) (hst : (rSBs (st.map (·.v)) (st.map (·.body))).Φ w) : Calls Try.prog 9 #[Value.slice A st.length c] w fun e w' => e = .returned (.bool true) ∧ Below w.heap.size w w' := by
  have hx0 : STab.empty.boxes.length = 0 := rfl
  have hu0 : STab.empty.sums.length = 0 := rfl
  have hk0 : STab.empty.keys.length = 0 := rfl
  have h0 := ((Hp.ro1 _ hst).addR (rRV 5 A c (st.map stCells)) h5 (by simp))
  refine enter 398 Try.func9 rfl rfl ?_
  refine wp_reset 399 [(0, (Value.slice A st.length c))] (fun x0 => ?_)
  refine wp_seq_k ?_
  intro K1 hK1
  refine reg_lit ?_
  refine wq_p 1 [(2, (Value.bool false))] ?_
  refine wl_end rfl ?_
  refine seq_n hK1 ?_
  refine wp_seq_k ?_
  intro K2 hK2
  refine wp_seq_k ?_
  intro K3 hK3
  refine reg_lit ?_
  refine wq_to (some 33) (OpTo.enter 23 [] (by kernel_rfl) (salive_any _) (R := fun u w' => u = Value.bool true ∧ Below w.heap.size w w') (fun e w' hq => ⟨_, hq.1, rfl, hq.2⟩)) ?_
  rintro _ w4 ⟨rfl, hb4⟩
  have h4 := h0.below hb4
  refine wq_p 1 [(34, (Value.bool false))] ?_
  refine wl_end rfl ?_
  refine seq_n hK3 ?_
  refine wp_cond_false (by kernel_rfl) ?_
  refine wp_skip ?_
  refine seq_n hK2 ?_
  refine wp_seq_k ?_
  intro K5 hK5
  refine wp_seq_k ?_
  intro K6 hK6
  refine reg_lit ?_
  refine wq_p 3 [(37, (Value.bool (decide ((st.length : Int) > 60)))), (36, (Value.int .i64 ((st.length : Int)))), (35, (Value.slice A st.length c))] ?_
  refine wl_end rfl ?_
  refine seq_n hK6 ?_
  refine wp_if ((st.length : Int) > 60) (by kernel_rfl) (fun b7 => ?_) (fun b7 => ?_)
  ·
   refine wp_seq_k ?_
   intro K8 hK8
   refine reg_lit ?_
   refine wq_p 1 [(2, (Value.bool true))] ?_
   refine wl_end rfl ?_
   refine seq_n hK8 ?_
   refine wp_ret ?_
   refine seq_r ?_
   refine post_1 rfl (by kernel_rfl) (rtmp (v := (Value.bool true)) (by kernel_rfl)) ?_
   exact ⟨rfl, h4.below0⟩
  ·
   refine wp_skip ?_
   refine seq_n hK5 ?_
   refine wp_seq_k ?_
   intro K9 hK9
   refine reg_lit ?_
   refine wq_to (some 38) (x_snew h4 (by kernel_rfl)) ?_
   rintro _ w10 ⟨tb10, F10, rfl, h10⟩
   refine wq_p 1 [(3, (pt tb10 0))] ?_
   refine wl_end rfl ?_
   refine seq_n hK9 ?_
   refine wp_seq_k ?_
   intro K11 hK11
   refine reg_lit ?_
   refine wq_to (some 39) (x_bs0 h10 67 19 (by kernel_rfl)) ?_
   rintro _ w12 ⟨A12, rfl, h12⟩
   refine wq_p 1 [(4, (Value.slice A12 0 0))] ?_
   refine wl_end rfl ?_
   refine seq_n hK11 ?_
   refine wp_seq_k ?_
   intro K13 hK13
   refine reg_lit ?_
   refine wq_to (some 40) (x_bs0 h12 56 18 (by kernel_rfl)) ?_
   rintro _ w14 ⟨A14, rfl, h14⟩
   refine wq_p 1 [(5, (Value.slice A14 0 0))] ?_
   refine wl_end rfl ?_
   refine seq_n hK13 ?_
   refine wp_seq_k ?_
   intro K15 hK15
   refine wp_reset 399 [(0, (Value.slice A st.length c)), (2, (Value.bool false)), (3, (pt tb10 0)), (4, (Value.slice A12 0 0)), (5, (Value.slice A14 0 0)), (34, (Value.bool false)), (37, (Value.bool (decide ((st.length : Int) > 60))))] (fun x16 => ?_)
   refine reg_lit ?_
   refine wq_to (some 41) (x_bs0 h14 28 1 (by kernel_rfl)) ?_
   rintro _ w17 ⟨A17, rfl, h17⟩
   refine wq_p 1 [(6, (Value.slice A17 0 0))] ?_
   refine wl_end rfl ?_
   refine seq_n hK15 ?_
   refine wp_seq_k ?_
   intro K18 hK18
   refine wp_seq_k ?_
   intro K19 hK19
   refine reg_lit ?_
   refine wq_p 3 [(44, (Value.int .i64 0)), (43, (Value.int .i64 ((st.length : Int)))), (42, (Value.slice A st.length c))] ?_
   refine wl_end rfl ?_
   refine seq_n hK19 ?_
   refine wp_block ?_
   have h17n := h17.nilSBs.nilSBs
   refine wp_loopm (fun mM xX aA wL => ∃ (n : Nat) (ks : List LF) (bx : List SSealed) (bv : List Value) (ss : List Bytes) (sv : List Value) (s : STab) (F : Nat → Prop) (A1 : Option Addr) (c1 : Nat) (A2 : Option Addr) (c2 : Nat) (A3 : Option Addr) (c3 : Nat) (nk : Nat) (nb : Nat) (ns : Nat), (Inv ks s) ∧ (s.boxes = bx) ∧ (s.sums = ss) ∧ ((bv : List Value).length = (bx : List SSealed).length) ∧ ((sv : List Value).length = (ss : List Bytes).length) ∧ ((ks : List LF).length ≤ n) ∧ ((bx : List SSealed).length ≤ n) ∧ ((ss : List Bytes).length ≤ n) ∧ (n ≤ st.length) ∧ (∀ x ∈ (bx : List SSealed), x.body.length ≤ 1000000) ∧ ((ss : List Bytes).Nodup) ∧ (nk = (ks : List LF).length) ∧ (nb = (bx : List SSealed).length) ∧ (ns = (ss : List Bytes).length) ∧ mM = st.length - (n) ∧ aA = patch xX 399 [(0, (Value.slice A st.length c)), (3, (pt tb10 0)), (4, (Value.slice A1 nk c1)), (5, (Value.slice A2 nb c2)), (6, (Value.slice A3 ns c3)), (34, (Value.bool false)), (37, (Value.bool (decide ((st.length : Int) > 60)))), (42, (Value.slice A st.length c)), (43, (Value.int .i64 ((st.length : Int)))), (44, (Value.int .i64 ((n : Int))))] ∧ Hp (fun _ => False) w wL [rRV 5 A c (st.map stCells), rSBs (st.map (·.v)) (st.map (·.body)), rSBs bv (bx.map (·.body)), rSBs sv ss] [rOV 67 19 ((Value.slice A1 nk c1)) (ks.map lfCells), rOV 56 18 ((Value.slice A2 nb c2)) (List.zipWith sealCells bx bv), rOV 28 1 ((Value.slice A3 ns c3)) (sv.map fun v => [v]), rTab F tb10 s]) ⟨_, 0, ([]), ([]), ([]), ([]), ([]), STab.empty, F10, A12, 0, A14, 0, A17, 0, 0, 0, 0, Inv.empty, rfl, rfl, rfl, rfl, (by simp), (by simp), (by simp), (by omega), (by simp), (by simp), rfl, rfl, rfl, rfl, (patch_eq _ 399 _ (by kernel_rfl) (by kernel_rfl) (by kernel_rfl)), h17n.sel [2, 1, 0, 3] [2, 3, 0, 0] (by kernel_rfl) rfl rfl⟩ ?_
   rintro _ x20 _ w20 ⟨n, ks, bx, bv, ss, sv, s, F, A1, c1, A2, c2, A3, c3, nk, nb, ns, hI, hB, hS, hbv, hsv, hkl, hbl, hsl, hn, hbb, hnd, hnk, hnb, hns, rfl, rfl, h20⟩
   have hIl := hI.len
   have hBl : s.boxes.length = bx.length := by rw [hB]
   have hSl : s.sums.length = ss.length := by rw [hS]
   refine wp_seq_k ?_
   intro K21 hK21
   refine reg_lit ?_
   refine wq_p 1 [(45, (Value.bool (decide ((n : Int) < (st.length : Int)))))] ?_
   refine wl_end rfl ?_
   refine seq_n hK21 ?_
   refine wp_seq_k ?_
   intro K22 hK22
   refine wp_if ((n : Int) < (st.length : Int)) (by kernel_rfl) (fun b23 => ?_) (fun b23 => ?_)
   ·
    refine wp_skip ?_
    refine seq_n hK22 ?_
    refine wp_seq_k ?_
    intro K24 hK24
    refine wp_block ?_
    refine wp_seq_k ?_
    intro K25 hK25
    obtain ⟨xk, xa, xb, xt, Ax, cx, xl, hx⟩ := st_get (h20.rd 1 rfl) n (by omega)
    have h20x := h20.subSBs (v := Value.slice Ax xl.length cx) (l := xl) 1 rfl n (map_get (·.v) hx) (map_get (·.body) hx)
    refine reg_lit ?_
    refine wq_v (some 46) (eAt A (n * 5 + 0)) (e_idxN (RV.lenIs (n := st.length) (h20x.rd 1 rfl) (by simp)).2 n st.length (RV.lenIs (n := st.length) (h20x.rd 1 rfl) (by simp)).1 (by omega) 60 (.tmp 42) (.tmp 44) (by kernel_rfl) .i64 (by kernel_rfl) (by kernel_rfl) 65 (by kernel_rfl) (by kernel_rfl) _) ?_
    refine wq_v (some 47) (Value.agg ([(Value.int .i64 xk), (Value.int .i64 xa), (Value.int .i64 xb), (Value.string xt), (Value.slice Ax xl.length cx)]).toArray) (e_elemsN (RV.lenIs (n := st.length) (h20x.rd 1 rfl) (by simp)).2 n 0 ([(Value.int .i64 xk), (Value.int .i64 xa), (Value.int .i64 xb), (Value.string xt), (Value.slice Ax xl.length cx)]) (map_get stCells hx) 65 (.tmp 46) (by kernel_rfl) ([(Value.int .i64 xk), (Value.int .i64 xa), (Value.int .i64 xb), (Value.string xt), (Value.slice Ax xl.length cx)]) (by kernel_rfl) (by kernel_rfl) (by kernel_rfl)) ?_
    refine wq_to (some 8) (x_new h20x 65 ([(Value.int .i64 0), (Value.int .i64 0), (Value.int .i64 0), (Value.string ByteArray.empty), (Value.slice none 0 0)]) (fun r => pt r 0) (by kernel_rfl)) ?_
    rintro _ w26 ⟨g26, rfl, h26⟩
    refine wq_to none (x_stores h26 0 rfl 65 (.tmp 8) (.tmp 47) (by kernel_rfl) 0 ([(Value.int .i64 xk), (Value.int .i64 xa), (Value.int .i64 xb), (Value.string xt), (Value.slice Ax xl.length cx)]) ([(Value.int .i64 xk), (Value.int .i64 xa), (Value.int .i64 xb), (Value.string xt), (Value.slice Ax xl.length cx)]) (by kernel_rfl) (by kernel_rfl) (by kernel_rfl) (by kernel_rfl) (by kernel_rfl) (by kernel_rfl)) ?_
    rintro _ w27 h27
    refine wl_end rfl ?_
    refine seq_n hK25 ?_
    refine wp_seq_k ?_
    intro K28 hK28
    refine wp_seq_k ?_
    intro K29 hK29
    refine reg_lit ?_
    refine wq_p 1 [(48, (pt g26 3))] ?_
    refine wq_v (some 49) (Value.string xt) (e_load (h27.at_ 0 rfl) 9 (.tmp 48) (by kernel_rfl) 3 (Value.string xt) (by kernel_rfl) (by kernel_rfl) (by kernel_rfl)) ?_
    refine wq_p 1 [(50, (Value.int .i64 (((xt).size : Int))))] ?_
    by_cases b30 : (xt.size : Int) > 40
    ·
     refine wq_v (some 51) (.bool true) (eq_is (v := (Value.bool (decide (((xt).size : Int) > 40)))) (by kernel_rfl) (by simp [b30])) ?_
     refine wq_p 4 [(55, undef), (54, undef), (53, undef), (52, (Value.bool true))] ?_
     refine wq_p 1 [(56, undef)] ?_
     refine wq_p 1 [(57, (Value.bool true))] ?_
     refine wl_end rfl ?_
     refine seq_n hK29 ?_
     refine wp_cond_true (by kernel_rfl) ?_
     refine wp_exit ?_
     refine seq_e ?_
     refine blk_e ?_
     refine seq_n hK24 ?_
     refine reg_lit ?_
     refine wq_v (some 332) (Value.int .i64 ((n : Int) + 1)) (exec_add _ _ _ _ rfl ((n : Int)) 1 (by kernel_rfl) (by kernel_rfl) ((n : Int) + 1) rfl (by omega) (by omega) _) ?_
     refine wq_p 1 [(44, (Value.int .i64 ((n : Int) + 1)))] ?_
     refine wl_end rfl ?_
     refine ⟨st.length - (n + 1), (by omega), (n + 1), ks, bx, bv, ss, sv, s, F, A1, c1, A2, c2, A3, c3, nk, nb, ns, hI, hB, hS, hbv, hsv, (by omega), (by omega), (by omega), (by omega), hbb, hnd, hnk, hnb, hns, rfl, (patch_eq _ 399 _ (by kernel_rfl) (by kernel_rfl) (by kernel_rfl)), h27.sel [1, 2, 3, 4] [1, 2, 3, 4] (by kernel_rfl) rfl rfl⟩
    ·
     refine wq_v (some 51) (.bool false) (eq_is (v := (Value.bool (decide (((xt).size : Int) > 40)))) (by kernel_rfl) (by simp [b30])) ?_
     refine wq_p 2 [(53, (pt g26 4)), (52, (Value.bool false))] ?_
     refine wq_v (some 54) (Value.slice Ax xl.length cx) (e_load (h27.at_ 0 rfl) 28 (.tmp 53) (by kernel_rfl) 4 (Value.slice Ax xl.length cx) (by kernel_rfl) (by kernel_rfl) (by kernel_rfl)) ?_
     refine wq_p 1 [(55, (Value.int .i64 ((xl.length : Int))))] ?_
     by_cases b31 : (xl.length : Int) > 40
     ·
      refine wq_v (some 56) (.bool true) (eq_is (v := (Value.bool (decide ((xl.length : Int) > 40)))) (by kernel_rfl) (by simp [b31])) ?_
      refine wq_p 1 [(57, (Value.bool true))] ?_
      refine wl_end rfl ?_
      refine seq_n hK29 ?_
      refine wp_cond_true (by kernel_rfl) ?_
      refine wp_exit ?_
      refine seq_e ?_
      refine blk_e ?_
      refine seq_n hK24 ?_
      refine reg_lit ?_
      refine wq_v (some 332) (Value.int .i64 ((n : Int) + 1)) (exec_add _ _ _ _ rfl ((n : Int)) 1 (by kernel_rfl) (by kernel_rfl) ((n : Int) + 1) rfl (by omega) (by omega) _) ?_
      refine wq_p 1 [(44, (Value.int .i64 ((n : Int) + 1)))] ?_
      refine wl_end rfl ?_
      refine ⟨st.length - (n + 1), (by omega), (n + 1), ks, bx, bv, ss, sv, s, F, A1, c1, A2, c2, A3, c3, nk, nb, ns, hI, hB, hS, hbv, hsv, (by omega), (by omega), (by omega), (by omega), hbb, hnd, hnk, hnb, hns, rfl, (patch_eq _ 399 _ (by kernel_rfl) (by kernel_rfl) (by kernel_rfl)), h27.sel [1, 2, 3, 4] [1, 2, 3, 4] (by kernel_rfl) rfl rfl⟩
     ·
      refine wq_v (some 56) (.bool false) (eq_is (v := (Value.bool (decide ((xl.length : Int) > 40)))) (by kernel_rfl) (by simp [b31])) ?_
      refine wq_p 1 [(57, (Value.bool false))] ?_
      refine wl_end rfl ?_
      refine seq_n hK29 ?_
      refine wp_cond_false (by kernel_rfl) ?_
      refine wp_skip ?_
      refine seq_n hK28 ?_
      refine wp_seq_k ?_
      intro K32 hK32
      refine reg_lit ?_
      refine wq_p 1 [(58, (pt g26 1))] ?_
      refine wq_v (some 59) (Value.int .i64 xa) (e_load (h27.at_ 0 rfl) 3 (.tmp 58) (by kernel_rfl) 1 (Value.int .i64 xa) (by kernel_rfl) (by kernel_rfl) (by kernel_rfl)) ?_
      obtain ⟨M33, hM33, hb33⟩ := and_mask xa 31 (by decide)
      refine wq_v (some 60) (Value.int .i64 ((M33 : Int))) (eq_is (v := Value.int .i64 (bits .and .i64 xa 31)) (by kernel_rfl) (congrArg (Value.int .i64) hM33)) ?_
      refine wq_to (some 61) (x_lmark h27 107 (M33) (by kernel_rfl) (by omega)) ?_
      rintro _ w34 ⟨K34, rfl, hK34, h34⟩
      refine wq_to (some 9) (x_new h34 22 (vb (List.replicate 16 0)) (fun r => pt r 0) (by kernel_rfl)) ?_
      rintro _ w35 ⟨g35, rfl, h35⟩
      refine wq_to none (x_stores h35 0 rfl 22 (.tmp 9) (.tmp 61) (by kernel_rfl) 0 (vb (kl K34)) (vb (kl K34)) (by kernel_rfl) (by kernel_rfl) (by kernel_rfl) (by kernel_rfl) (by kernel_rfl) (by kernel_rfl)) ?_
      rintro _ w36 h36
      refine wl_end rfl ?_
      refine seq_n hK32 ?_
      refine wp_seq_k ?_
      intro K37 hK37
      refine wp_seq_k ?_
      intro K38 hK38
      refine wp_reset 399 [(0, (Value.slice A st.length c)), (3, (pt tb10 0)), (4, (Value.slice A1 nk c1)), (5, (Value.slice A2 nb c2)), (6, (Value.slice A3 ns c3)), (8, (pt g26 0)), (9, (pt g35 0)), (34, (Value.bool false)), (37, (Value.bool (decide ((st.length : Int) > 60)))), (42, (Value.slice A st.length c)), (43, (Value.int .i64 ((st.length : Int)))), (44, (Value.int .i64 ((n : Int)))), (45, (Value.bool (decide ((n : Int) < (st.length : Int))))), (57, (Value.bool false))] (fun x39 => ?_)
      refine reg_lit ?_
      refine wq_p 1 [(62, (pt g26 0))] ?_
      refine wq_v (some 63) (Value.int .i64 xk) (e_load (h36.at_ 1 rfl) 3 (.tmp 62) (by kernel_rfl) 0 (Value.int .i64 xk) (by kernel_rfl) (by kernel_rfl) (by kernel_rfl)) ?_
      refine wl_end rfl ?_
      refine seq_n hK38 ?_
      refine wp_block ?_
      refine wp_seq_k ?_
      intro K40 hK40
      refine reg_lit ?_
      refine wq_p 2 [(64, (Value.bool (xk == 0))), (65, (Value.bool (xk == 0)))] ?_
      refine wl_end rfl ?_
      refine seq_n hK40 ?_
      refine wp_ifeq xk 0 (by kernel_rfl) (fun b41 => ?_) (fun b41 => ?_)
      ·
       refine wp_seq_k ?_
       intro K42 hK42
       refine reg_lit ?_
       refine wq_p 2 [(67, (Value.agg ([(Value.int .i64 0)] ++ vb (List.replicate 16 0) ++ [(Value.string ByteArray.empty), (Value.string ByteArray.empty)]).toArray)), (66, (Value.slice A1 nk c1))] ?_
       refine wq_to (some 68) (x_bs h36 67 ([(Value.int .i64 0)] ++ vb (List.replicate 16 0) ++ [(Value.string ByteArray.empty), (Value.string ByteArray.empty)]) 1 (by kernel_rfl)) ?_
       rintro _ w43 ⟨g43, rfl, h43⟩
       refine wq_to (some 69) (x_pushG h43 3 0 rfl rfl (by kernel_rfl) (.tmp 66) (.tmp 68) 61 (by kernel_rfl) 56 (Value.agg ([(Value.int .i64 0)] ++ vb (List.replicate 16 0) ++ [(Value.string ByteArray.empty), (Value.string ByteArray.empty)]).toArray) (by kernel_rfl) (by kernel_rfl) (by kernel_rfl) (by kernel_rfl) (by kernel_rfl) 1 (by kernel_rfl) (by kernel_rfl) (by kernel_rfl) (by simp; omega) (by unfold maxLen; simp; omega) ((ks ++ [LF.fresh]).map lfCells) (nk + 1) (by rw [List.map_append]; rfl) (by simp; omega)) ?_
       rintro _ w44 ⟨A44, c44, rfl, h44⟩
       refine wq_p 1 [(4, (Value.slice A44 (nk + 1) c44))] ?_
       refine wl_end rfl ?_
       refine seq_n hK42 ?_
       refine wp_seq_k ?_
       intro K45 hK45
       refine reg_lit ?_
       refine wq_p 1 [(70, (pt tb10 0))] ?_
       refine wq_to (some 71) (x_fresh h44 6 rfl  (by kernel_rfl) (by omega)) ?_
       rintro _ w46 ⟨K46, F46, s46, rfl, hK46, hs46, h46⟩
       have e46 := add_boxes hs46
       have hx46 : s46.boxes.length = s.boxes.length := by rw [e46.1]
       have hu46 : s46.sums.length = s.sums.length := by rw [e46.2.1]
       have hk46 := e46.2.2
       refine wq_p 2 [(73, (Value.int .i64 ((nk + 1 : Int)))), (72, (Value.slice A44 (nk + 1) c44))] ?_
       refine wq_to (some 74) (x_lmark h46 107 (nk + 1) (by kernel_rfl) (by omega)) ?_
       rintro _ w47 ⟨K47, rfl, hK47, h47⟩
       refine wq_v (some 75) (Value.bool false) (e_kne K46 K47 42 42 (.tmp 71) (.tmp 74) (by kernel_rfl) (by kernel_rfl) (by kernel_rfl) (by kernel_rfl) (by kernel_rfl) false (by rw [hK46, hK47, hI.len, hnk]; simp) _) ?_
       refine wl_end rfl ?_
       refine seq_n hK45 ?_
       refine wp_cond_false (by kernel_rfl) ?_
       refine wp_skip ?_
       refine blk_n ?_
       refine seq_n hK37 ?_
       refine wp_seq_k ?_
       intro K48 hK48
       have hI2 : Inv (ks ++ [LF.fresh]) s46 := (by rw [hs46]; exact hI.add)
       have hB2 : s46.boxes = bx := (e46.1.trans hB)
       have hS2 : s46.sums = ss := (e46.2.1.trans hS)
       have hkl2 := hI2.len
       have hbl2 : s46.boxes.length = (bx : List SSealed).length := by rw [hB2]
       try simp only [List.length_append, List.length_cons, List.length_nil] at hkl2 hbl2
       refine reg_lit ?_
       refine wq_p 1 [(320, (pt tb10 0))] ?_
       refine wq_to (some 321) (x_nkeys h47 6 rfl (by kernel_rfl)) ?_
       rintro _ w49 ⟨rfl, h49⟩
       refine wq_p 2 [(323, (Value.int .i64 ((nk + 1 : Int)))), (322, (Value.slice A44 (nk + 1) c44))] ?_
       refine wq_v (some 324) (.bool false) (eq_is (v := (Value.bool (((s46.keys.length : Int)) != ((nk + 1 : Int))))) (by kernel_rfl) (by simp; omega)) ?_
       refine wq_p 2 [(326, (pt tb10 0)), (325, (Value.bool false))] ?_
       refine wq_to (some 327) (x_nboxes h49 6 rfl (by kernel_rfl)) ?_
       rintro _ w50 ⟨rfl, h50⟩
       refine wq_p 2 [(329, (Value.int .i64 ((nb : Int)))), (328, (Value.slice A2 nb c2))] ?_
       refine wq_v (some 330) (.bool false) (eq_is (v := (Value.bool (((s46.boxes.length : Int)) != ((nb : Int))))) (by kernel_rfl) (by simp; omega)) ?_
       refine wq_p 1 [(331, (Value.bool false))] ?_
       refine wl_end rfl ?_
       refine seq_n hK48 ?_
       refine wp_cond_false (by kernel_rfl) ?_
       refine wp_skip ?_
       refine blk_n ?_
       refine seq_n hK24 ?_
       refine wp_reset 399 [(0, (Value.slice A st.length c)), (3, (pt tb10 0)), (4, (Value.slice A44 (nk + 1) c44)), (5, (Value.slice A2 nb c2)), (6, (Value.slice A3 ns c3)), (8, (pt g26 0)), (9, (pt g35 0)), (34, (Value.bool false)), (37, (Value.bool (decide ((st.length : Int) > 60)))), (42, (Value.slice A st.length c)), (43, (Value.int .i64 ((st.length : Int)))), (44, (Value.int .i64 ((n : Int)))), (45, (Value.bool (decide ((n : Int) < (st.length : Int))))), (57, (Value.bool false)), (63, (Value.int .i64 xk)), (64, (Value.bool (xk == 0))), (75, (Value.bool false)), (331, (Value.bool false))] (fun x51 => ?_)
       refine reg_lit ?_
       refine wq_v (some 332) (Value.int .i64 ((n : Int) + 1)) (exec_add _ _ _ _ rfl ((n : Int)) 1 (by kernel_rfl) (by kernel_rfl) ((n : Int) + 1) rfl (by omega) (by omega) _) ?_
       refine wq_p 1 [(44, (Value.int .i64 ((n : Int) + 1)))] ?_
       refine wl_end rfl ?_
       refine ⟨st.length - (n + 1), (by omega), (n + 1), (ks ++ [LF.fresh]), bx, bv, ss, sv, s46, F46, A44, c44, A2, c2, A3, c3, (nk + 1), nb, ns, hI2, hB2, hS2, hbv, hsv, (by simp; omega), (by omega), (by omega), (by omega), hbb, hnd, (by first | omega | (simp; omega)), (by first | omega | (simp; omega)), (by first | omega | (simp; omega)), rfl, (patch_eq _ 399 _ (by kernel_rfl) (by kernel_rfl) (by kernel_rfl)), h50.sel [3, 4, 5, 6] [1, 2, 3, 4] (by kernel_rfl) rfl rfl⟩
      ·
       refine wp_seq_k ?_
       intro K52 hK52
       refine wp_seq_k ?_
       intro K53 hK53
       refine reg_lit ?_
       refine wq_p 2 [(76, (Value.bool (xk == 1))), (77, (Value.bool (xk == 1)))] ?_
       refine wl_end rfl ?_
       refine seq_n hK53 ?_
       refine wp_ifeq xk 1 (by kernel_rfl) (fun b54 => ?_) (fun b54 => ?_)
       ·
        refine wp_skip ?_
        refine seq_n hK52 ?_
        refine wp_ifeq xk 1 (by kernel_rfl) (fun _ => ?_) (fun hh => absurd b54 hh)
        refine wp_seq_k ?_
        intro K55 hK55
        refine reg_lit ?_
        refine wq_p 1 [(79, (pt g26 3))] ?_
        refine wq_v (some 80) (Value.string xt) (e_load (h36.at_ 1 rfl) 9 (.tmp 79) (by kernel_rfl) 3 (Value.string xt) (by kernel_rfl) (by kernel_rfl) (by kernel_rfl)) ?_
        refine wq_p 1 [(81, (pt g26 4))] ?_
        refine wq_v (some 82) (Value.slice Ax xl.length cx) (e_load (h36.at_ 1 rfl) 28 (.tmp 81) (by kernel_rfl) 4 (Value.slice Ax xl.length cx) (by kernel_rfl) (by kernel_rfl) (by kernel_rfl)) ?_
        refine wq_v (some 83) (Value.string (⟨xl.toArray⟩)) (exec_sb_conv (.tmp 82) (by kernel_rfl) (Value.slice Ax xl.length cx) xl (by kernel_rfl) (h36.rd 0 rfl)) ?_
        refine wq_p 1 [(84, (Value.agg ([(Value.int .i64 1)] ++ vb (List.replicate 16 0) ++ [(Value.string xt), (Value.string (⟨xl.toArray⟩))]).toArray))] ?_
        refine wq_to (some 10) (x_new h36 67 ([(Value.int .i64 0)] ++ vb (List.replicate 16 0) ++ [(Value.string ByteArray.empty), (Value.string ByteArray.empty)]) (fun r => pt r 0) (by kernel_rfl)) ?_
        rintro _ w56 ⟨g56, rfl, h56⟩
        refine wq_to none (x_stores h56 0 rfl 67 (.tmp 10) (.tmp 84) (by kernel_rfl) 0 ([(Value.int .i64 1)] ++ vb (List.replicate 16 0) ++ [(Value.string xt), (Value.string (⟨xl.toArray⟩))]) ([(Value.int .i64 1)] ++ vb (List.replicate 16 0) ++ [(Value.string xt), (Value.string (⟨xl.toArray⟩))]) (by kernel_rfl) (by kernel_rfl) (by kernel_rfl) (by kernel_rfl) (by kernel_rfl) (by kernel_rfl)) ?_
        rintro _ w57 h57
        refine wl_end rfl ?_
        refine seq_n hK55 ?_
        refine wp_seq_k ?_
        intro K58 hK58
        refine reg_lit ?_
        refine wq_p 1 [(85, (Value.agg (vb (List.replicate 16 0)).toArray))] ?_
        refine wq_to (some 11) (x_new h57 22 (vb (List.replicate 16 0)) (fun r => pt r 0) (by kernel_rfl)) ?_
        rintro _ w59 ⟨g59, rfl, h59⟩
        refine wq_to none (x_stores h59 0 rfl 22 (.tmp 11) (.tmp 85) (by kernel_rfl) 0 (vb (List.replicate 16 0)) (vb (List.replicate 16 0)) (by kernel_rfl) (by kernel_rfl) (by kernel_rfl) (by kernel_rfl) (by kernel_rfl) (by kernel_rfl)) ?_
        rintro _ w60 h60
        refine wl_end rfl ?_
        refine seq_n hK58 ?_
        refine wp_seq_k ?_
        intro K61 hK61
        refine wp_seq_k ?_
        intro K62 hK62
        refine reg_lit ?_
        refine wq_p 1 [(86, (pt g26 0))] ?_
        refine wq_v (some 87) (Value.int .i64 xk) (e_load (h60.at_ 3 rfl) 3 (.tmp 86) (by kernel_rfl) 0 (Value.int .i64 xk) (by kernel_rfl) (by kernel_rfl) (by kernel_rfl)) ?_
        refine wq_p 1 [(88, (Value.bool (xk == 2)))] ?_
        refine wl_end rfl ?_
        refine seq_n hK62 ?_
        refine wp_ifeq xk 2 (by kernel_rfl) (fun b63 => ?_) (fun b63 => ?_)
        ·
         refine wp_seq_k ?_
         intro K64 hK64
         refine wp_reset 399 [(0, (Value.slice A st.length c)), (3, (pt tb10 0)), (4, (Value.slice A1 nk c1)), (5, (Value.slice A2 nb c2)), (6, (Value.slice A3 ns c3)), (8, (pt g26 0)), (9, (pt g35 0)), (10, (pt g56 0)), (11, (pt g59 0)), (34, (Value.bool false)), (37, (Value.bool (decide ((st.length : Int) > 60)))), (42, (Value.slice A st.length c)), (43, (Value.int .i64 ((st.length : Int)))), (44, (Value.int .i64 ((n : Int)))), (45, (Value.bool (decide ((n : Int) < (st.length : Int))))), (57, (Value.bool false)), (63, (Value.int .i64 xk)), (64, (Value.bool (xk == 0))), (76, (Value.bool (xk == 1))), (88, (Value.bool (xk == 2)))] (fun x65 => ?_)
         have hOk : (LF.derive (kl K34) xt).Ok := .inr ⟨kl K34, xt, kl_len _, rfl⟩
         refine reg_lit ?_
         refine wq_v (some 89) (Value.agg (vb (kl K34)).toArray) (e_loads (h60.at_ 2 rfl) 22 (.tmp 9) (by kernel_rfl) 0 (vb (kl K34)) (by kernel_rfl) (by kernel_rfl) (by kernel_rfl)) ?_
         refine wq_p 1 [(90, (pt g26 3))] ?_
         refine wq_v (some 91) (Value.string xt) (e_load (h60.at_ 3 rfl) 9 (.tmp 90) (by kernel_rfl) 3 (Value.string xt) (by kernel_rfl) (by kernel_rfl) (by kernel_rfl)) ?_
         refine wq_p 1 [(92, (Value.agg ([(Value.int .i64 2)] ++ vb (kl K34) ++ [(Value.string xt), (Value.string ByteArray.empty)]).toArray))] ?_
         refine wq_to none (x_stores h60 1 rfl 67 (.tmp 10) (.tmp 92) (by kernel_rfl) 0 ([(Value.int .i64 2)] ++ vb (kl K34) ++ [(Value.string xt), (Value.string ByteArray.empty)]) ([(Value.int .i64 2)] ++ vb (kl K34) ++ [(Value.string xt), (Value.string ByteArray.empty)]) (by kernel_rfl) (by kernel_rfl) (by kernel_rfl) (by kernel_rfl) (by kernel_rfl) (by kernel_rfl)) ?_
         rintro _ w66 h66
         refine wl_end rfl ?_
         refine seq_n hK64 ?_
         refine reg_lit ?_
         refine wq_p 1 [(93, (pt tb10 0))] ?_
         refine wq_v (some 94) (Value.agg (vb (kl K34)).toArray) (e_loads (h66.at_ 2 rfl) 22 (.tmp 9) (by kernel_rfl) 0 (vb (kl K34)) (by kernel_rfl) (by kernel_rfl) (by kernel_rfl)) ?_
         refine wq_p 1 [(95, (pt g26 3))] ?_
         refine wq_v (some 96) (Value.string xt) (e_load (h66.at_ 3 rfl) 9 (.tmp 95) (by kernel_rfl) 3 (Value.string xt) (by kernel_rfl) (by kernel_rfl) (by kernel_rfl)) ?_
         refine wq_to (some 97) (x_derive h66 7 rfl K34 xt (by kernel_rfl) (by omega)) ?_
         rintro _ w67 ⟨K67, F67, s67, rfl, hK67, hs67, h67⟩
         have e67 := made_boxes hs67
         have hx67 : s67.boxes.length = s.boxes.length := by rw [e67.1]
         have hu67 : s67.sums.length = s.sums.length := by rw [e67.2]
         have hk67 := keys_made hs67
         refine wq_to none (x_stores h67 0 rfl 22 (.tmp 11) (.tmp 97) (by kernel_rfl) 0 (vb (kl K67)) (vb (kl K67)) (by kernel_rfl) (by kernel_rfl) (by kernel_rfl) (by kernel_rfl) (by kernel_rfl) (by kernel_rfl)) ?_
         rintro _ w68 h68
         refine wl_end rfl ?_
         refine seq_n hK61 ?_
         refine wp_seq_k ?_
         intro K69 hK69
         refine reg_lit ?_
         refine wq_p 1 [(12, (Value.int .i64 0))] ?_
         refine wl_end rfl ?_
         refine seq_n hK69 ?_
         refine wp_seq_k ?_
         intro K70 hK70
         refine wp_seq_k ?_
         intro K71 hK71
         refine reg_lit ?_
         refine wq_p 3 [(107, (Value.int .i64 0)), (106, (Value.int .i64 ((nk : Int)))), (105, (Value.slice A1 nk c1))] ?_
         refine wl_end rfl ?_
         refine seq_n hK71 ?_
         refine wp_block ?_
         refine wp_loopm (fun mM xX aA wL => ∃ (i : Nat) (z : Nat), ((z = 0 ∧ ∀ j : Nat, j < i → ks[j]? ≠ some (LF.derive (kl K34) xt)) ∨ (1 ≤ z ∧ ks[z - 1]? = some (LF.derive (kl K34) xt))) ∧ (i ≤ ks.length) ∧ (z ≤ ks.length) ∧ mM = ks.length - (i) ∧ aA = patch xX 399 [(0, (Value.slice A st.length c)), (3, (pt tb10 0)), (4, (Value.slice A1 nk c1)), (5, (Value.slice A2 nb c2)), (6, (Value.slice A3 ns c3)), (8, (pt g26 0)), (9, (pt g35 0)), (10, (pt g56 0)), (11, (pt g59 0)), (12, (Value.int .i64 ((z : Int)))), (34, (Value.bool false)), (37, (Value.bool (decide ((st.length : Int) > 60)))), (42, (Value.slice A st.length c)), (43, (Value.int .i64 ((st.length : Int)))), (44, (Value.int .i64 ((n : Int)))), (45, (Value.bool (decide ((n : Int) < (st.length : Int))))), (57, (Value.bool false)), (63, (Value.int .i64 xk)), (64, (Value.bool (xk == 0))), (76, (Value.bool (xk == 1))), (88, (Value.bool (xk == 2))), (105, (Value.slice A1 nk c1)), (106, (Value.int .i64 ((nk : Int)))), (107, (Value.int .i64 ((i : Int))))] ∧ Hp (fun _ => False) w wL [rSB ((Value.slice Ax xl.length cx)) xl, rRV 5 A c (st.map stCells), rSBs (st.map (·.v)) (st.map (·.body)), rSBs bv (bx.map (·.body)), rSBs sv ss] [rBlk g59 22 (vb (kl K67)), rBlk g56 67 ([(Value.int .i64 2)] ++ vb (kl K34) ++ [(Value.string xt), (Value.string ByteArray.empty)]), rBlk g35 22 (vb (kl K34)), rBlk g26 65 ([(Value.int .i64 xk), (Value.int .i64 xa), (Value.int .i64 xb), (Value.string xt), (Value.slice Ax xl.length cx)]), rOV 67 19 ((Value.slice A1 nk c1)) (ks.map lfCells), rOV 56 18 ((Value.slice A2 nb c2)) (List.zipWith sealCells bx bv), rOV 28 1 ((Value.slice A3 ns c3)) (sv.map fun v => [v]), rTab F67 tb10 s67]) ⟨_, 0, 0, (.inl ⟨rfl, fun j hj => absurd hj (by omega)⟩), (by omega), (by omega), rfl, (patch_eq _ 399 _ (by kernel_rfl) (by kernel_rfl) (by kernel_rfl)), h68.sel [0, 1, 2, 3, 4, 5, 6, 7] [0, 1, 2, 3, 4] (by kernel_rfl) rfl rfl⟩ ?_
         rintro _ x72 _ w72 ⟨i, z, hz, hi, hzl, rfl, rfl, h72⟩
         refine wp_seq_k ?_
         intro K73 hK73
         refine reg_lit ?_
         refine wq_p 1 [(108, (Value.bool (decide ((i : Int) < (nk : Int)))))] ?_
         refine wl_end rfl ?_
         refine seq_n hK73 ?_
         refine wp_seq_k ?_
         intro K74 hK74
         refine wp_if ((i : Int) < (nk : Int)) (by kernel_rfl) (fun b75 => ?_) (fun b75 => ?_)
         ·
          refine wp_skip ?_
          refine seq_n hK74 ?_
          refine wp_seq_k ?_
          intro K76 hK76
          refine wp_block ?_
          refine wp_seq_k ?_
          intro K77 hK77
          obtain ⟨fk, fK, fa, fb, hf⟩ := lf_get hI i (by omega)
          refine reg_lit ?_
          refine wq_p 1 [(109, (Value.int .i64 ((i : Int))))] ?_
          refine wq_v (some 110) (eAt A1 (i * 19 + 0)) (e_idxN (OV.rvn (h72.at_ 4 rfl)).2 i nk (OV.rvn (h72.at_ 4 rfl)).1 (by omega) 61 (.tmp 105) (.tmp 107) (by kernel_rfl) .i64 (by kernel_rfl) (by kernel_rfl) 67 (by kernel_rfl) (by kernel_rfl) _) ?_
          refine wq_v (some 111) (Value.agg ([(Value.int .i64 fk)] ++ vb (kl fK) ++ [(Value.string fa), (Value.string fb)]).toArray) (e_elemsN (OV.rvn (h72.at_ 4 rfl)).2 i 0 ([(Value.int .i64 fk)] ++ vb (kl fK) ++ [(Value.string fa), (Value.string fb)]) (map_get lfCells hf) 67 (.tmp 110) (by kernel_rfl) ([(Value.int .i64 fk)] ++ vb (kl fK) ++ [(Value.string fa), (Value.string fb)]) (by kernel_rfl) (by kernel_rfl) (by kernel_rfl)) ?_
          refine wq_to (some 14) (x_new h72 67 ([(Value.int .i64 0)] ++ vb (List.replicate 16 0) ++ [(Value.string ByteArray.empty), (Value.string ByteArray.empty)]) (fun r => pt r 0) (by kernel_rfl)) ?_
          rintro _ w78 ⟨g78, rfl, h78⟩
          refine wq_p 1 [(13, (Value.int .i64 ((i : Int))))] ?_
          refine wq_to none (x_stores h78 0 rfl 67 (.tmp 14) (.tmp 111) (by kernel_rfl) 0 ([(Value.int .i64 fk)] ++ vb (kl fK) ++ [(Value.string fa), (Value.string fb)]) ([(Value.int .i64 fk)] ++ vb (kl fK) ++ [(Value.string fa), (Value.string fb)]) (by kernel_rfl) (by kernel_rfl) (by kernel_rfl) (by kernel_rfl) (by kernel_rfl) (by kernel_rfl)) ?_
          rintro _ w79 h79
          refine wl_end rfl ?_
          refine seq_n hK77 ?_
          refine wp_seq_k ?_
          intro K80 hK80
          by_cases hfg : (⟨fk, kl fK, fa, fb⟩ : LF) = LF.derive (kl K34) xt
          ·
           refine reg_lit ?_
           refine wq_v (some 112) (Value.agg ([(Value.int .i64 fk)] ++ vb (kl fK) ++ [(Value.string fa), (Value.string fb)]).toArray) (e_loads (h79.at_ 0 rfl) 67 (.tmp 14) (by kernel_rfl) 0 ([(Value.int .i64 fk)] ++ vb (kl fK) ++ [(Value.string fa), (Value.string fb)]) (by kernel_rfl) (by kernel_rfl) (by kernel_rfl)) ?_
           refine wq_v (some 113) (Value.agg ([(Value.int .i64 2)] ++ vb (kl K34) ++ [(Value.string xt), (Value.string ByteArray.empty)]).toArray) (e_loads (h79.at_ 2 rfl) 67 (.tmp 10) (by kernel_rfl) 0 ([(Value.int .i64 2)] ++ vb (kl K34) ++ [(Value.string xt), (Value.string ByteArray.empty)]) (by kernel_rfl) (by kernel_rfl) (by kernel_rfl)) ?_
           refine wq_v (some 114) (Value.bool true) (e_lfeq ⟨fk, kl fK, fa, fb⟩ (LF.derive (kl K34) xt) (kl_len _) (by first | exact kl_len _ | rfl) (.tmp 112) (.tmp 113) 67 (by kernel_rfl) (by kernel_rfl) (by kernel_rfl) true (decide_eq_true hfg) _) ?_
           refine wl_end rfl ?_
           refine seq_n hK80 ?_
           refine wp_cond_true (by kernel_rfl) ?_
           refine reg_lit ?_
           refine wq_p 1 [(115, (Value.int .i64 ((i : Int))))] ?_
           refine wq_v (some 116) (Value.int .i64 ((i : Int) + 1)) (exec_add _ _ _ _ rfl ((i : Int)) 1 (by kernel_rfl) (by kernel_rfl) ((i : Int) + 1) rfl (by omega) (by omega) _) ?_
           refine wq_p 1 [(12, (Value.int .i64 ((i : Int) + 1)))] ?_
           refine wl_end rfl ?_
           refine blk_n ?_
           refine seq_n hK76 ?_
           refine reg_lit ?_
           refine wq_v (some 117) (Value.int .i64 ((i : Int) + 1)) (exec_add _ _ _ _ rfl ((i : Int)) 1 (by kernel_rfl) (by kernel_rfl) ((i : Int) + 1) rfl (by omega) (by omega) _) ?_
           refine wq_p 1 [(107, (Value.int .i64 ((i : Int) + 1)))] ?_
           refine wl_end rfl ?_
           refine ⟨ks.length - (i + 1), (by omega), (i + 1), ((i) + 1), (.inr ⟨by omega, by rw [← hfg]; simpa using hf⟩), (by omega), (by omega), rfl, (patch_eq _ 399 _ (by kernel_rfl) (by kernel_rfl) (by kernel_rfl)), h79.sel [1, 2, 3, 4, 5, 6, 7, 8] [0, 1, 2, 3, 4] (by kernel_rfl) rfl rfl⟩
          ·
           refine reg_lit ?_
           refine wq_v (some 112) (Value.agg ([(Value.int .i64 fk)] ++ vb (kl fK) ++ [(Value.string fa), (Value.string fb)]).toArray) (e_loads (h79.at_ 0 rfl) 67 (.tmp 14) (by kernel_rfl) 0 ([(Value.int .i64 fk)] ++ vb (kl fK) ++ [(Value.string fa), (Value.string fb)]) (by kernel_rfl) (by kernel_rfl) (by kernel_rfl)) ?_
           refine wq_v (some 113) (Value.agg ([(Value.int .i64 2)] ++ vb (kl K34) ++ [(Value.string xt), (Value.string ByteArray.empty)]).toArray) (e_loads (h79.at_ 2 rfl) 67 (.tmp 10) (by kernel_rfl) 0 ([(Value.int .i64 2)] ++ vb (kl K34) ++ [(Value.string xt), (Value.string ByteArray.empty)]) (by kernel_rfl) (by kernel_rfl) (by kernel_rfl)) ?_
           refine wq_v (some 114) (Value.bool false) (e_lfeq ⟨fk, kl fK, fa, fb⟩ (LF.derive (kl K34) xt) (kl_len _) (by first | exact kl_len _ | rfl) (.tmp 112) (.tmp 113) 67 (by kernel_rfl) (by kernel_rfl) (by kernel_rfl) false (decide_eq_false hfg) _) ?_
           refine wl_end rfl ?_
           refine seq_n hK80 ?_
           refine wp_cond_false (by kernel_rfl) ?_
           refine wp_skip ?_
           refine blk_n ?_
           refine seq_n hK76 ?_
           refine reg_lit ?_
           refine wq_v (some 117) (Value.int .i64 ((i : Int) + 1)) (exec_add _ _ _ _ rfl ((i : Int)) 1 (by kernel_rfl) (by kernel_rfl) ((i : Int) + 1) rfl (by omega) (by omega) _) ?_
           refine wq_p 1 [(107, (Value.int .i64 ((i : Int) + 1)))] ?_
           refine wl_end rfl ?_
           refine ⟨ks.length - (i + 1), (by omega), (i + 1), z, (hz.imp (fun hh => ⟨hh.1, fun j hj => (by rcases Nat.lt_or_ge j i with h1 | h1; exact hh.2 j h1; have : j = i := (by omega); subst this; rw [hf]; intro e; exact hfg (Option.some.inj e))⟩) id), (by omega), (by omega), rfl, (patch_eq _ 399 _ (by kernel_rfl) (by kernel_rfl) (by kernel_rfl)), h79.sel [1, 2, 3, 4, 5, 6, 7, 8] [0, 1, 2, 3, 4] (by kernel_rfl) rfl rfl⟩
         ·
          refine wp_exit ?_
          refine seq_e ?_
          refine seq_e ?_
          refine blk_e ?_
          refine seq_n hK70 ?_
          refine wp_seq_k ?_
          intro K82 hK82
          refine wp_seq_k ?_
          intro K83 hK83
          refine reg_lit ?_
          refine wq_p 2 [(119, (Value.bool (((z : Int)) == 0))), (118, (Value.int .i64 ((z : Int))))] ?_
          refine wl_end rfl ?_
          refine seq_n hK83 ?_
          refine wp_ifeq ((z : Int)) 0 (by kernel_rfl) (fun b84 => ?_) (fun b84 => ?_)
          ·
           refine wp_seq_k ?_
           intro K85 hK85
           have hnone : ∀ j : Nat, ks[j]? ≠ some (LF.derive (kl K34) xt) := by
             intro j
             rcases hz with ⟨_, hz⟩ | ⟨hz, _⟩
             · by_cases hj : j < i
               · exact hz j hj
               · rw [List.getElem?_eq_none (by omega)]; simp
             · omega
           have hnew := hI.new hOk hnone
           refine reg_lit ?_
           refine wq_p 1 [(120, (Value.slice A1 nk c1))] ?_
           refine wq_v (some 121) (Value.agg ([(Value.int .i64 2)] ++ vb (kl K34) ++ [(Value.string xt), (Value.string ByteArray.empty)]).toArray) (e_loads (h72.at_ 1 rfl) 67 (.tmp 10) (by kernel_rfl) 0 ([(Value.int .i64 2)] ++ vb (kl K34) ++ [(Value.string xt), (Value.string ByteArray.empty)]) (by kernel_rfl) (by kernel_rfl) (by kernel_rfl)) ?_
           refine wq_to (some 122) (x_bs h72 67 ([(Value.int .i64 2)] ++ vb (kl K34) ++ [(Value.string xt), (Value.string ByteArray.empty)]) 1 (by kernel_rfl)) ?_
           rintro _ w86 ⟨g86, rfl, h86⟩
           refine wq_to (some 123) (x_pushG h86 5 0 rfl rfl (by kernel_rfl) (.tmp 120) (.tmp 122) 61 (by kernel_rfl) 56 (Value.agg ([(Value.int .i64 0)] ++ vb (List.replicate 16 0) ++ [(Value.string ByteArray.empty), (Value.string ByteArray.empty)]).toArray) (by kernel_rfl) (by kernel_rfl) (by kernel_rfl) (by kernel_rfl) (by kernel_rfl) 1 (by kernel_rfl) (by kernel_rfl) (by kernel_rfl) (by simp; omega) (by unfold maxLen; simp; omega) ((ks ++ [LF.derive (kl K34) xt]).map lfCells) (nk + 1) (by rw [List.map_append]; rfl) (by simp; omega)) ?_
           rintro _ w87 ⟨A87, c87, rfl, h87⟩
           refine wq_p 1 [(4, (Value.slice A87 (nk + 1) c87))] ?_
           refine wl_end rfl ?_
           refine seq_n hK85 ?_
           refine reg_lit ?_
           refine wq_p 3 [(12, (Value.int .i64 ((nk + 1 : Int)))), (125, (Value.int .i64 ((nk + 1 : Int)))), (124, (Value.slice A87 (nk + 1) c87))] ?_
           refine wl_end rfl ?_
           refine seq_n hK82 ?_
           refine wp_seq_k ?_
           intro K88 hK88
           have hnum : s.num (LF.derive (kl K34) xt).toS = nk + 1 := by rw [hnew.1]; omega
           refine pR_go h87 4 (fun W => (rBlk g59 22 (vb (kl K67))).Φ W ∧ True) [(127, [11], 0), (128, [12], 0), (129, [127], 2), (130, [126, 128], 5)] rfl (fun _ d _ _ _ h => by cases d <;> exact h) ?_
           intro hs89 w89 h89
           refine pR_p 3 [1] [(127, (Value.int .i64 ((nk + 1 : Int))))] 2 hs89 ⟨h89.at_ 1 rfl, trivial⟩ ?_
           refine pR_v 0 (some 126) (Value.agg (vb (kl K67)).toArray) 3 rfl hs89 ⟨h89.at_ 1 rfl, trivial⟩ (fun W hW => e_loads hW.1 22 (.tmp 11) (by kernel_rfl) 0 (vb (kl K67)) (by kernel_rfl) (by kernel_rfl) (by kernel_rfl)) ?_
           refine pR_to 2 (some 128) 7 rfl hs89 (x_lmark h89 107 (nk + 1) (by kernel_rfl) (by omega)) ?_
           rintro _ w90 ⟨K90, rfl, hK90, h90⟩
           refine ⟨fun _ => ⟨h90.at_ 1 rfl, trivial⟩, ?_⟩
           refine pR_v 3 (some 129) (Value.bool false) 15 rfl hs89 ⟨h90.at_ 1 rfl, trivial⟩ (fun W hW => e_kne K67 K90 22 22 (.tmp 126) (.tmp 128) (by kernel_rfl) (by kernel_rfl) (by kernel_rfl) (by kernel_rfl) (by kernel_rfl) false (by rw [hK67, hK90]; have e := hnum; rw [toS_derive] at e; rw [e]; simp) _) ?_
           refine pR_done hs89 ?_ _
           refine seq_n hK88 ?_
           refine wp_cond_false (by kernel_rfl) ?_
           refine wp_skip ?_
           refine blk_n ?_
           refine seq_n hK37 ?_
           refine wp_seq_k ?_
           intro K91 hK91
           refine wp_reset 399 [(0, (Value.slice A st.length c)), (3, (pt tb10 0)), (4, (Value.slice A87 (nk + 1) c87)), (5, (Value.slice A2 nb c2)), (6, (Value.slice A3 ns c3)), (8, (pt g26 0)), (9, (pt g35 0)), (10, (pt g56 0)), (11, (pt g59 0)), (12, (Value.int .i64 ((nk + 1 : Int)))), (34, (Value.bool false)), (37, (Value.bool (decide ((st.length : Int) > 60)))), (42, (Value.slice A st.length c)), (43, (Value.int .i64 ((st.length : Int)))), (44, (Value.int .i64 ((n : Int)))), (45, (Value.bool (decide ((n : Int) < (st.length : Int))))), (57, (Value.bool false)), (63, (Value.int .i64 xk)), (64, (Value.bool (xk == 0))), (76, (Value.bool (xk == 1))), (88, (Value.bool (xk == 2))), (105, (Value.slice A1 nk c1)), (106, (Value.int .i64 ((nk : Int)))), (107, (Value.int .i64 ((i : Int)))), (108, (Value.bool (decide ((i : Int) < (nk : Int))))), (119, (Value.bool (((z : Int)) == 0))), (129, (Value.bool false))] (fun x92 => ?_)
           have hI2 : Inv (ks ++ [LF.derive (kl K34) xt]) s67 := (by rw [hs67]; exact hnew.2)
           have hB2 : s67.boxes = bx := (e67.1.trans hB)
           have hS2 : s67.sums = ss := (e67.2.trans hS)
           have hkl2 := hI2.len
           have hbl2 : s67.boxes.length = (bx : List SSealed).length := by rw [hB2]
           try simp only [List.length_append, List.length_cons, List.length_nil] at hkl2 hbl2
           refine reg_lit ?_
           refine wq_p 1 [(320, (pt tb10 0))] ?_
           refine wq_to (some 321) (x_nkeys h90 8 rfl (by kernel_rfl)) ?_
           rintro _ w93 ⟨rfl, h93⟩
           refine wq_p 2 [(323, (Value.int .i64 ((nk + 1 : Int)))), (322, (Value.slice A87 (nk + 1) c87))] ?_
           refine wq_v (some 324) (.bool false) (eq_is (v := (Value.bool (((s67.keys.length : Int)) != ((nk + 1 : Int))))) (by kernel_rfl) (by simp; omega)) ?_
           refine wq_p 2 [(326, (pt tb10 0)), (325, (Value.bool false))] ?_
           refine wq_to (some 327) (x_nboxes h93 8 rfl (by kernel_rfl)) ?_
           rintro _ w94 ⟨rfl, h94⟩
           refine wq_p 2 [(329, (Value.int .i64 ((nb : Int)))), (328, (Value.slice A2 nb c2))] ?_
           refine wq_v (some 330) (.bool false) (eq_is (v := (Value.bool (((s67.boxes.length : Int)) != ((nb : Int))))) (by kernel_rfl) (by simp; omega)) ?_
           refine wq_p 1 [(331, (Value.bool false))] ?_
           refine wl_end rfl ?_
           refine seq_n hK91 ?_
           refine wp_cond_false (by kernel_rfl) ?_
           refine wp_skip ?_
           refine blk_n ?_
           refine seq_n hK24 ?_
           refine reg_lit ?_
           refine wq_v (some 332) (Value.int .i64 ((n : Int) + 1)) (exec_add _ _ _ _ rfl ((n : Int)) 1 (by kernel_rfl) (by kernel_rfl) ((n : Int) + 1) rfl (by omega) (by omega) _) ?_
           refine wq_p 1 [(44, (Value.int .i64 ((n : Int) + 1)))] ?_
           refine wl_end rfl ?_
           refine ⟨st.length - (n + 1), (by omega), (n + 1), (ks ++ [LF.derive (kl K34) xt]), bx, bv, ss, sv, s67, F67, A87, c87, A2, c2, A3, c3, (nk + 1), nb, ns, hI2, hB2, hS2, hbv, hsv, (by simp; omega), (by omega), (by omega), (by omega), hbb, hnd, (by first | omega | (simp; omega)), (by first | omega | (simp; omega)), (by first | omega | (simp; omega)), rfl, (patch_eq _ 399 _ (by kernel_rfl) (by kernel_rfl) (by kernel_rfl)), h94.sel [5, 6, 7, 8] [1, 2, 3, 4] (by kernel_rfl) rfl rfl⟩
          ·
           refine wp_skip ?_
           refine seq_n hK82 ?_
           refine wp_seq_k ?_
           intro K95 hK95
           have hold : 1 ≤ z ∧ ks[z - 1]? = some (LF.derive (kl K34) xt) := by rcases hz with ⟨hz, _⟩ | hz; omega; exact hz
           have hnum := (hI.old hOk hold.1 hold.2).1
           refine pR_go h72 4 (fun W => (rBlk g59 22 (vb (kl K67))).Φ W ∧ True) [(127, [11], 0), (128, [12], 0), (129, [127], 2), (130, [126, 128], 5)] rfl (fun _ d _ _ _ h => by cases d <;> exact h) ?_
           intro hs96 w96 h96
           refine pR_p 3 [1] [(127, (Value.int .i64 ((z : Int))))] 2 hs96 ⟨h96.at_ 0 rfl, trivial⟩ ?_
           refine pR_v 0 (some 126) (Value.agg (vb (kl K67)).toArray) 3 rfl hs96 ⟨h96.at_ 0 rfl, trivial⟩ (fun W hW => e_loads hW.1 22 (.tmp 11) (by kernel_rfl) 0 (vb (kl K67)) (by kernel_rfl) (by kernel_rfl) (by kernel_rfl)) ?_
           refine pR_to 2 (some 128) 7 rfl hs96 (x_lmark h96 107 (z) (by kernel_rfl) (by omega)) ?_
           rintro _ w97 ⟨K97, rfl, hK97, h97⟩
           refine ⟨fun _ => ⟨h97.at_ 0 rfl, trivial⟩, ?_⟩
           refine pR_v 3 (some 129) (Value.bool false) 15 rfl hs96 ⟨h97.at_ 0 rfl, trivial⟩ (fun W hW => e_kne K67 K97 22 22 (.tmp 126) (.tmp 128) (by kernel_rfl) (by kernel_rfl) (by kernel_rfl) (by kernel_rfl) (by kernel_rfl) false (by rw [hK67, hK97]; have e := hnum; rw [toS_derive] at e; rw [e]; simp) _) ?_
           refine pR_done hs96 ?_ _
           refine seq_n hK95 ?_
           refine wp_cond_false (by kernel_rfl) ?_
           refine wp_skip ?_
           refine blk_n ?_
           refine seq_n hK37 ?_
           refine wp_seq_k ?_
           intro K98 hK98
           have hI2 : Inv (ks) s67 := (hI.of_eq (hs67.trans (hI.old hOk hold.1 hold.2).2))
           have hB2 : s67.boxes = bx := (e67.1.trans hB)
           have hS2 : s67.sums = ss := (e67.2.trans hS)
           have hkl2 := hI2.len
           have hbl2 : s67.boxes.length = (bx : List SSealed).length := by rw [hB2]
           refine reg_lit ?_
           refine wq_p 1 [(320, (pt tb10 0))] ?_
           refine wq_to (some 321) (x_nkeys h97 7 rfl (by kernel_rfl)) ?_
           rintro _ w99 ⟨rfl, h99⟩
           refine wq_p 2 [(323, (Value.int .i64 ((nk : Int)))), (322, (Value.slice A1 nk c1))] ?_
           refine wq_v (some 324) (.bool false) (eq_is (v := (Value.bool (((s67.keys.length : Int)) != ((nk : Int))))) (by kernel_rfl) (by simp; omega)) ?_
           refine wq_p 2 [(326, (pt tb10 0)), (325, (Value.bool false))] ?_
           refine wq_to (some 327) (x_nboxes h99 7 rfl (by kernel_rfl)) ?_
           rintro _ w100 ⟨rfl, h100⟩
           refine wq_p 2 [(329, (Value.int .i64 ((nb : Int)))), (328, (Value.slice A2 nb c2))] ?_
           refine wq_v (some 330) (.bool false) (eq_is (v := (Value.bool (((s67.boxes.length : Int)) != ((nb : Int))))) (by kernel_rfl) (by simp; omega)) ?_
           refine wq_p 1 [(331, (Value.bool false))] ?_
           refine wl_end rfl ?_
           refine seq_n hK98 ?_
           refine wp_cond_false (by kernel_rfl) ?_
           refine wp_skip ?_
           refine blk_n ?_
           refine seq_n hK24 ?_
           refine wp_reset 399 [(0, (Value.slice A st.length c)), (3, (pt tb10 0)), (4, (Value.slice A1 nk c1)), (5, (Value.slice A2 nb c2)), (6, (Value.slice A3 ns c3)), (8, (pt g26 0)), (9, (pt g35 0)), (10, (pt g56 0)), (11, (pt g59 0)), (12, (Value.int .i64 ((z : Int)))), (34, (Value.bool false)), (37, (Value.bool (decide ((st.length : Int) > 60)))), (42, (Value.slice A st.length c)), (43, (Value.int .i64 ((st.length : Int)))), (44, (Value.int .i64 ((n : Int)))), (45, (Value.bool (decide ((n : Int) < (st.length : Int))))), (57, (Value.bool false)), (63, (Value.int .i64 xk)), (64, (Value.bool (xk == 0))), (76, (Value.bool (xk == 1))), (88, (Value.bool (xk == 2))), (105, (Value.slice A1 nk c1)), (106, (Value.int .i64 ((nk : Int)))), (107, (Value.int .i64 ((i : Int)))), (108, (Value.bool (decide ((i : Int) < (nk : Int))))), (119, (Value.bool (((z : Int)) == 0))), (129, (Value.bool false)), (331, (Value.bool false))] (fun x101 => ?_)
           refine reg_lit ?_
           refine wq_v (some 332) (Value.int .i64 ((n : Int) + 1)) (exec_add _ _ _ _ rfl ((n : Int)) 1 (by kernel_rfl) (by kernel_rfl) ((n : Int) + 1) rfl (by omega) (by omega) _) ?_
           refine wq_p 1 [(44, (Value.int .i64 ((n : Int) + 1)))] ?_
           refine wl_end rfl ?_
           refine ⟨st.length - (n + 1), (by omega), (n + 1), ks, bx, bv, ss, sv, s67, F67, A1, c1, A2, c2, A3, c3, nk, nb, ns, hI2, hB2, hS2, hbv, hsv, (by omega), (by omega), (by omega), (by omega), hbb, hnd, (by first | omega | (simp; omega)), (by first | omega | (simp; omega)), (by first | omega | (simp; omega)), rfl, (patch_eq _ 399 _ (by kernel_rfl) (by kernel_rfl) (by kernel_rfl)), h100.sel [4, 5, 6, 7] [1, 2, 3, 4] (by kernel_rfl) rfl rfl⟩
        ·
         refine wp_reset 399 [(0, (Value.slice A st.length c)), (3, (pt tb10 0)), (4, (Value.slice A1 nk c1)), (5, (Value.slice A2 nb c2)), (6, (Value.slice A3 ns c3)), (8, (pt g26 0)), (9, (pt g35 0)), (10, (pt g56 0)), (11, (pt g59 0)), (34, (Value.bool false)), (37, (Value.bool (decide ((st.length : Int) > 60)))), (42, (Value.slice A st.length c)), (43, (Value.int .i64 ((st.length : Int)))), (44, (Value.int .i64 ((n : Int)))), (45, (Value.bool (decide ((n : Int) < (st.length : Int))))), (57, (Value.bool false)), (63, (Value.int .i64 xk)), (64, (Value.bool (xk == 0))), (76, (Value.bool (xk == 1))), (88, (Value.bool (xk == 2)))] (fun x102 => ?_)
         have hOk : (LF.text xt ⟨xl.toArray⟩).Ok := .inl ⟨xt, ⟨xl.toArray⟩, by omega, by show xl.toArray.size ≤ 40; simp; omega, rfl⟩
         refine reg_lit ?_
         refine wq_p 2 [(99, (pt g26 3)), (98, (pt tb10 0))] ?_
         refine wq_v (some 100) (Value.string xt) (e_load (h60.at_ 3 rfl) 9 (.tmp 99) (by kernel_rfl) 3 (Value.string xt) (by kernel_rfl) (by kernel_rfl) (by kernel_rfl)) ?_
         refine wq_p 1 [(101, (pt g26 4))] ?_
         refine wq_v (some 102) (Value.slice Ax xl.length cx) (e_load (h60.at_ 3 rfl) 28 (.tmp 101) (by kernel_rfl) 4 (Value.slice Ax xl.length cx) (by kernel_rfl) (by kernel_rfl) (by kernel_rfl)) ?_
         refine wq_v (some 103) (Value.string (⟨xl.toArray⟩)) (exec_sb_conv (.tmp 102) (by kernel_rfl) (Value.slice Ax xl.length cx) xl (by kernel_rfl) (h60.rd 0 rfl)) ?_
         refine wq_to (some 104) (x_text h60 7 rfl xt (⟨xl.toArray⟩) (by kernel_rfl) (by omega) (by show xl.toArray.size ≤ 1000000; simp; omega) (by omega)) ?_
         rintro _ w103 ⟨K103, F103, s103, rfl, hK103, hs103, h103⟩
         have e103 := made_boxes hs103
         have hx103 : s103.boxes.length = s.boxes.length := by rw [e103.1]
         have hu103 : s103.sums.length = s.sums.length := by rw [e103.2]
         have hk103 := keys_made hs103
         refine wq_to none (x_stores h103 0 rfl 22 (.tmp 11) (.tmp 104) (by kernel_rfl) 0 (vb (kl K103)) (vb (kl K103)) (by kernel_rfl) (by kernel_rfl) (by kernel_rfl) (by kernel_rfl) (by kernel_rfl) (by kernel_rfl)) ?_
         rintro _ w104 h104
         refine wl_end rfl ?_
         refine seq_n hK61 ?_
         refine wp_seq_k ?_
         intro K105 hK105
         refine reg_lit ?_
         refine wq_p 1 [(12, (Value.int .i64 0))] ?_
         refine wl_end rfl ?_
         refine seq_n hK105 ?_
         refine wp_seq_k ?_
         intro K106 hK106
         refine wp_seq_k ?_
         intro K107 hK107
         refine reg_lit ?_
         refine wq_p 3 [(107, (Value.int .i64 0)), (106, (Value.int .i64 ((nk : Int)))), (105, (Value.slice A1 nk c1))] ?_
         refine wl_end rfl ?_
         refine seq_n hK107 ?_
         refine wp_block ?_
         refine wp_loopm (fun mM xX aA wL => ∃ (i : Nat) (z : Nat), ((z = 0 ∧ ∀ j : Nat, j < i → ks[j]? ≠ some (LF.text xt ⟨xl.toArray⟩)) ∨ (1 ≤ z ∧ ks[z - 1]? = some (LF.text xt ⟨xl.toArray⟩))) ∧ (i ≤ ks.length) ∧ (z ≤ ks.length) ∧ mM = ks.length - (i) ∧ aA = patch xX 399 [(0, (Value.slice A st.length c)), (3, (pt tb10 0)), (4, (Value.slice A1 nk c1)), (5, (Value.slice A2 nb c2)), (6, (Value.slice A3 ns c3)), (8, (pt g26 0)), (9, (pt g35 0)), (10, (pt g56 0)), (11, (pt g59 0)), (12, (Value.int .i64 ((z : Int)))), (34, (Value.bool false)), (37, (Value.bool (decide ((st.length : Int) > 60)))), (42, (Value.slice A st.length c)), (43, (Value.int .i64 ((st.length : Int)))), (44, (Value.int .i64 ((n : Int)))), (45, (Value.bool (decide ((n : Int) < (st.length : Int))))), (57, (Value.bool false)), (63, (Value.int .i64 xk)), (64, (Value.bool (xk == 0))), (76, (Value.bool (xk == 1))), (88, (Value.bool (xk == 2))), (105, (Value.slice A1 nk c1)), (106, (Value.int .i64 ((nk : Int)))), (107, (Value.int .i64 ((i : Int))))] ∧ Hp (fun _ => False) w wL [rSB ((Value.slice Ax xl.length cx)) xl, rRV 5 A c (st.map stCells), rSBs (st.map (·.v)) (st.map (·.body)), rSBs bv (bx.map (·.body)), rSBs sv ss] [rBlk g59 22 (vb (kl K103)), rBlk g56 67 ([(Value.int .i64 1)] ++ vb (List.replicate 16 0) ++ [(Value.string xt), (Value.string (⟨xl.toArray⟩))]), rBlk g35 22 (vb (kl K34)), rBlk g26 65 ([(Value.int .i64 xk), (Value.int .i64 xa), (Value.int .i64 xb), (Value.string xt), (Value.slice Ax xl.length cx)]), rOV 67 19 ((Value.slice A1 nk c1)) (ks.map lfCells), rOV 56 18 ((Value.slice A2 nb c2)) (List.zipWith sealCells bx bv), rOV 28 1 ((Value.slice A3 ns c3)) (sv.map fun v => [v]), rTab F103 tb10 s103]) ⟨_, 0, 0, (.inl ⟨rfl, fun j hj => absurd hj (by omega)⟩), (by omega), (by omega), rfl, (patch_eq _ 399 _ (by kernel_rfl) (by kernel_rfl) (by kernel_rfl)), h104.sel [0, 1, 2, 3, 4, 5, 6, 7] [0, 1, 2, 3, 4] (by kernel_rfl) rfl rfl⟩ ?_
         rintro _ x108 _ w108 ⟨i, z, hz, hi, hzl, rfl, rfl, h108⟩
         refine wp_seq_k ?_
         intro K109 hK109
         refine reg_lit ?_
         refine wq_p 1 [(108, (Value.bool (decide ((i : Int) < (nk : Int)))))] ?_
         refine wl_end rfl ?_
         refine seq_n hK109 ?_
         refine wp_seq_k ?_
         intro K110 hK110
         refine wp_if ((i : Int) < (nk : Int)) (by kernel_rfl) (fun b111 => ?_) (fun b111 => ?_)
         ·
          refine wp_skip ?_
          refine seq_n hK110 ?_
          refine wp_seq_k ?_
          intro K112 hK112
          refine wp_block ?_
          refine wp_seq_k ?_
          intro K113 hK113
          obtain ⟨fk, fK, fa, fb, hf⟩ := lf_get hI i (by omega)
          refine reg_lit ?_
          refine wq_p 1 [(109, (Value.int .i64 ((i : Int))))] ?_
          refine wq_v (some 110) (eAt A1 (i * 19 + 0)) (e_idxN (OV.rvn (h108.at_ 4 rfl)).2 i nk (OV.rvn (h108.at_ 4 rfl)).1 (by omega) 61 (.tmp 105) (.tmp 107) (by kernel_rfl) .i64 (by kernel_rfl) (by kernel_rfl) 67 (by kernel_rfl) (by kernel_rfl) _) ?_
          refine wq_v (some 111) (Value.agg ([(Value.int .i64 fk)] ++ vb (kl fK) ++ [(Value.string fa), (Value.string fb)]).toArray) (e_elemsN (OV.rvn (h108.at_ 4 rfl)).2 i 0 ([(Value.int .i64 fk)] ++ vb (kl fK) ++ [(Value.string fa), (Value.string fb)]) (map_get lfCells hf) 67 (.tmp 110) (by kernel_rfl) ([(Value.int .i64 fk)] ++ vb (kl fK) ++ [(Value.string fa), (Value.string fb)]) (by kernel_rfl) (by kernel_rfl) (by kernel_rfl)) ?_
          refine wq_to (some 14) (x_new h108 67 ([(Value.int .i64 0)] ++ vb (List.replicate 16 0) ++ [(Value.string ByteArray.empty), (Value.string ByteArray.empty)]) (fun r => pt r 0) (by kernel_rfl)) ?_
          rintro _ w114 ⟨g114, rfl, h114⟩
          refine wq_p 1 [(13, (Value.int .i64 ((i : Int))))] ?_
          refine wq_to none (x_stores h114 0 rfl 67 (.tmp 14) (.tmp 111) (by kernel_rfl) 0 ([(Value.int .i64 fk)] ++ vb (kl fK) ++ [(Value.string fa), (Value.string fb)]) ([(Value.int .i64 fk)] ++ vb (kl fK) ++ [(Value.string fa), (Value.string fb)]) (by kernel_rfl) (by kernel_rfl) (by kernel_rfl) (by kernel_rfl) (by kernel_rfl) (by kernel_rfl)) ?_
          rintro _ w115 h115
          refine wl_end rfl ?_
          refine seq_n hK113 ?_
          refine wp_seq_k ?_
          intro K116 hK116
          by_cases hfg : (⟨fk, kl fK, fa, fb⟩ : LF) = LF.text xt ⟨xl.toArray⟩
          ·
           refine reg_lit ?_
           refine wq_v (some 112) (Value.agg ([(Value.int .i64 fk)] ++ vb (kl fK) ++ [(Value.string fa), (Value.string fb)]).toArray) (e_loads (h115.at_ 0 rfl) 67 (.tmp 14) (by kernel_rfl) 0 ([(Value.int .i64 fk)] ++ vb (kl fK) ++ [(Value.string fa), (Value.string fb)]) (by kernel_rfl) (by kernel_rfl) (by kernel_rfl)) ?_
           refine wq_v (some 113) (Value.agg ([(Value.int .i64 1)] ++ vb (List.replicate 16 0) ++ [(Value.string xt), (Value.string (⟨xl.toArray⟩))]).toArray) (e_loads (h115.at_ 2 rfl) 67 (.tmp 10) (by kernel_rfl) 0 ([(Value.int .i64 1)] ++ vb (List.replicate 16 0) ++ [(Value.string xt), (Value.string (⟨xl.toArray⟩))]) (by kernel_rfl) (by kernel_rfl) (by kernel_rfl)) ?_
           refine wq_v (some 114) (Value.bool true) (e_lfeq ⟨fk, kl fK, fa, fb⟩ (LF.text xt ⟨xl.toArray⟩) (kl_len _) (by first | exact kl_len _ | rfl) (.tmp 112) (.tmp 113) 67 (by kernel_rfl) (by kernel_rfl) (by kernel_rfl) true (decide_eq_true hfg) _) ?_
           refine wl_end rfl ?_
           refine seq_n hK116 ?_
           refine wp_cond_true (by kernel_rfl) ?_
           refine reg_lit ?_
           refine wq_p 1 [(115, (Value.int .i64 ((i : Int))))] ?_
           refine wq_v (some 116) (Value.int .i64 ((i : Int) + 1)) (exec_add _ _ _ _ rfl ((i : Int)) 1 (by kernel_rfl) (by kernel_rfl) ((i : Int) + 1) rfl (by omega) (by omega) _) ?_
           refine wq_p 1 [(12, (Value.int .i64 ((i : Int) + 1)))] ?_
           refine wl_end rfl ?_
           refine blk_n ?_
           refine seq_n hK112 ?_
           refine reg_lit ?_
           refine wq_v (some 117) (Value.int .i64 ((i : Int) + 1)) (exec_add _ _ _ _ rfl ((i : Int)) 1 (by kernel_rfl) (by kernel_rfl) ((i : Int) + 1) rfl (by omega) (by omega) _) ?_
           refine wq_p 1 [(107, (Value.int .i64 ((i : Int) + 1)))] ?_
           refine wl_end rfl ?_
           refine ⟨ks.length - (i + 1), (by omega), (i + 1), ((i) + 1), (.inr ⟨by omega, by rw [← hfg]; simpa using hf⟩), (by omega), (by omega), rfl, (patch_eq _ 399 _ (by kernel_rfl) (by kernel_rfl) (by kernel_rfl)), h115.sel [1, 2, 3, 4, 5, 6, 7, 8] [0, 1, 2, 3, 4] (by kernel_rfl) rfl rfl⟩
          ·
           refine reg_lit ?_
           refine wq_v (some 112) (Value.agg ([(Value.int .i64 fk)] ++ vb (kl fK) ++ [(Value.string fa), (Value.string fb)]).toArray) (e_loads (h115.at_ 0 rfl) 67 (.tmp 14) (by kernel_rfl) 0 ([(Value.int .i64 fk)] ++ vb (kl fK) ++ [(Value.string fa), (Value.string fb)]) (by kernel_rfl) (by kernel_rfl) (by kernel_rfl)) ?_
           refine wq_v (some 113) (Value.agg ([(Value.int .i64 1)] ++ vb (List.replicate 16 0) ++ [(Value.string xt), (Value.string (⟨xl.toArray⟩))]).toArray) (e_loads (h115.at_ 2 rfl) 67 (.tmp 10) (by kernel_rfl) 0 ([(Value.int .i64 1)] ++ vb (List.replicate 16 0) ++ [(Value.string xt), (Value.string (⟨xl.toArray⟩))]) (by kernel_rfl) (by kernel_rfl) (by kernel_rfl)) ?_
           refine wq_v (some 114) (Value.bool false) (e_lfeq ⟨fk, kl fK, fa, fb⟩ (LF.text xt ⟨xl.toArray⟩) (kl_len _) (by first | exact kl_len _ | rfl) (.tmp 112) (.tmp 113) 67 (by kernel_rfl) (by kernel_rfl) (by kernel_rfl) false (decide_eq_false hfg) _) ?_
           refine wl_end rfl ?_
           refine seq_n hK116 ?_
           refine wp_cond_false (by kernel_rfl) ?_
           refine wp_skip ?_
           refine blk_n ?_
           refine seq_n hK112 ?_
           refine reg_lit ?_
           refine wq_v (some 117) (Value.int .i64 ((i : Int) + 1)) (exec_add _ _ _ _ rfl ((i : Int)) 1 (by kernel_rfl) (by kernel_rfl) ((i : Int) + 1) rfl (by omega) (by omega) _) ?_
           refine wq_p 1 [(107, (Value.int .i64 ((i : Int) + 1)))] ?_
           refine wl_end rfl ?_
           refine ⟨ks.length - (i + 1), (by omega), (i + 1), z, (hz.imp (fun hh => ⟨hh.1, fun j hj => (by rcases Nat.lt_or_ge j i with h1 | h1; exact hh.2 j h1; have : j = i := (by omega); subst this; rw [hf]; intro e; exact hfg (Option.some.inj e))⟩) id), (by omega), (by omega), rfl, (patch_eq _ 399 _ (by kernel_rfl) (by kernel_rfl) (by kernel_rfl)), h115.sel [1, 2, 3, 4, 5, 6, 7, 8] [0, 1, 2, 3, 4] (by kernel_rfl) rfl rfl⟩
         ·
          refine wp_exit ?_
          refine seq_e ?_
          refine seq_e ?_
          refine blk_e ?_
          refine seq_n hK106 ?_
          refine wp_seq_k ?_
          intro K118 hK118
          refine wp_seq_k ?_
          intro K119 hK119
          refine reg_lit ?_
          refine wq_p 2 [(119, (Value.bool (((z : Int)) == 0))), (118, (Value.int .i64 ((z : Int))))] ?_
          refine wl_end rfl ?_
          refine seq_n hK119 ?_
          refine wp_ifeq ((z : Int)) 0 (by kernel_rfl) (fun b120 => ?_) (fun b120 => ?_)
          ·
           refine wp_seq_k ?_
           intro K121 hK121
           have hnone : ∀ j : Nat, ks[j]? ≠ some (LF.text xt ⟨xl.toArray⟩) := by
             intro j
             rcases hz with ⟨_, hz⟩ | ⟨hz, _⟩
             · by_cases hj : j < i
               · exact hz j hj
               · rw [List.getElem?_eq_none (by omega)]; simp
             · omega
           have hnew := hI.new hOk hnone
           refine reg_lit ?_
           refine wq_p 1 [(120, (Value.slice A1 nk c1))] ?_
           refine wq_v (some 121) (Value.agg ([(Value.int .i64 1)] ++ vb (List.replicate 16 0) ++ [(Value.string xt), (Value.string (⟨xl.toArray⟩))]).toArray) (e_loads (h108.at_ 1 rfl) 67 (.tmp 10) (by kernel_rfl) 0 ([(Value.int .i64 1)] ++ vb (List.replicate 16 0) ++ [(Value.string xt), (Value.string (⟨xl.toArray⟩))]) (by kernel_rfl) (by kernel_rfl) (by kernel_rfl)) ?_
           refine wq_to (some 122) (x_bs h108 67 ([(Value.int .i64 1)] ++ vb (List.replicate 16 0) ++ [(Value.string xt), (Value.string (⟨xl.toArray⟩))]) 1 (by kernel_rfl)) ?_
           rintro _ w122 ⟨g122, rfl, h122⟩
           refine wq_to (some 123) (x_pushG h122 5 0 rfl rfl (by kernel_rfl) (.tmp 120) (.tmp 122) 61 (by kernel_rfl) 56 (Value.agg ([(Value.int .i64 0)] ++ vb (List.replicate 16 0) ++ [(Value.string ByteArray.empty), (Value.string ByteArray.empty)]).toArray) (by kernel_rfl) (by kernel_rfl) (by kernel_rfl) (by kernel_rfl) (by kernel_rfl) 1 (by kernel_rfl) (by kernel_rfl) (by kernel_rfl) (by simp; omega) (by unfold maxLen; simp; omega) ((ks ++ [LF.text xt ⟨xl.toArray⟩]).map lfCells) (nk + 1) (by rw [List.map_append]; rfl) (by simp; omega)) ?_
           rintro _ w123 ⟨A123, c123, rfl, h123⟩
           refine wq_p 1 [(4, (Value.slice A123 (nk + 1) c123))] ?_
           refine wl_end rfl ?_
           refine seq_n hK121 ?_
           refine reg_lit ?_
           refine wq_p 3 [(12, (Value.int .i64 ((nk + 1 : Int)))), (125, (Value.int .i64 ((nk + 1 : Int)))), (124, (Value.slice A123 (nk + 1) c123))] ?_
           refine wl_end rfl ?_
           refine seq_n hK118 ?_
           refine wp_seq_k ?_
           intro K124 hK124
           have hnum : s.num (LF.text xt ⟨xl.toArray⟩).toS = nk + 1 := by rw [hnew.1]; omega
           refine pR_go h123 4 (fun W => (rBlk g59 22 (vb (kl K103))).Φ W ∧ True) [(127, [11], 0), (128, [12], 0), (129, [127], 2), (130, [126, 128], 5)] rfl (fun _ d _ _ _ h => by cases d <;> exact h) ?_
           intro hs125 w125 h125
           refine pR_p 3 [1] [(127, (Value.int .i64 ((nk + 1 : Int))))] 2 hs125 ⟨h125.at_ 1 rfl, trivial⟩ ?_
           refine pR_v 0 (some 126) (Value.agg (vb (kl K103)).toArray) 3 rfl hs125 ⟨h125.at_ 1 rfl, trivial⟩ (fun W hW => e_loads hW.1 22 (.tmp 11) (by kernel_rfl) 0 (vb (kl K103)) (by kernel_rfl) (by kernel_rfl) (by kernel_rfl)) ?_
           refine pR_to 2 (some 128) 7 rfl hs125 (x_lmark h125 107 (nk + 1) (by kernel_rfl) (by omega)) ?_
           rintro _ w126 ⟨K126, rfl, hK126, h126⟩
           refine ⟨fun _ => ⟨h126.at_ 1 rfl, trivial⟩, ?_⟩
           refine pR_v 3 (some 129) (Value.bool false) 15 rfl hs125 ⟨h126.at_ 1 rfl, trivial⟩ (fun W hW => e_kne K103 K126 22 22 (.tmp 126) (.tmp 128) (by kernel_rfl) (by kernel_rfl) (by kernel_rfl) (by kernel_rfl) (by kernel_rfl) false (by rw [hK103, hK126]; have e := hnum; rw [toS_text] at e; rw [e]; simp) _) ?_
           refine pR_done hs125 ?_ _
           refine seq_n hK124 ?_
           refine wp_cond_false (by kernel_rfl) ?_
           refine wp_skip ?_
           refine blk_n ?_
           refine seq_n hK37 ?_
           refine wp_seq_k ?_
           intro K127 hK127
           refine wp_reset 399 [(0, (Value.slice A st.length c)), (3, (pt tb10 0)), (4, (Value.slice A123 (nk + 1) c123)), (5, (Value.slice A2 nb c2)), (6, (Value.slice A3 ns c3)), (8, (pt g26 0)), (9, (pt g35 0)), (10, (pt g56 0)), (11, (pt g59 0)), (12, (Value.int .i64 ((nk + 1 : Int)))), (34, (Value.bool false)), (37, (Value.bool (decide ((st.length : Int) > 60)))), (42, (Value.slice A st.length c)), (43, (Value.int .i64 ((st.length : Int)))), (44, (Value.int .i64 ((n : Int)))), (45, (Value.bool (decide ((n : Int) < (st.length : Int))))), (57, (Value.bool false)), (63, (Value.int .i64 xk)), (64, (Value.bool (xk == 0))), (76, (Value.bool (xk == 1))), (88, (Value.bool (xk == 2))), (105, (Value.slice A1 nk c1)), (106, (Value.int .i64 ((nk : Int)))), (107, (Value.int .i64 ((i : Int)))), (108, (Value.bool (decide ((i : Int) < (nk : Int))))), (119, (Value.bool (((z : Int)) == 0))), (129, (Value.bool false))] (fun x128 => ?_)
           have hI2 : Inv (ks ++ [LF.text xt ⟨xl.toArray⟩]) s103 := (by rw [hs103]; exact hnew.2)
           have hB2 : s103.boxes = bx := (e103.1.trans hB)
           have hS2 : s103.sums = ss := (e103.2.trans hS)
           have hkl2 := hI2.len
           have hbl2 : s103.boxes.length = (bx : List SSealed).length := by rw [hB2]
           try simp only [List.length_append, List.length_cons, List.length_nil] at hkl2 hbl2
           refine reg_lit ?_
           refine wq_p 1 [(320, (pt tb10 0))] ?_
           refine wq_to (some 321) (x_nkeys h126 8 rfl (by kernel_rfl)) ?_
           rintro _ w129 ⟨rfl, h129⟩
           refine wq_p 2 [(323, (Value.int .i64 ((nk + 1 : Int)))), (322, (Value.slice A123 (nk + 1) c123))] ?_
           refine wq_v (some 324) (.bool false) (eq_is (v := (Value.bool (((s103.keys.length : Int)) != ((nk + 1 : Int))))) (by kernel_rfl) (by simp; omega)) ?_
           refine wq_p 2 [(326, (pt tb10 0)), (325, (Value.bool false))] ?_
           refine wq_to (some 327) (x_nboxes h129 8 rfl (by kernel_rfl)) ?_
           rintro _ w130 ⟨rfl, h130⟩
           refine wq_p 2 [(329, (Value.int .i64 ((nb : Int)))), (328, (Value.slice A2 nb c2))] ?_
           refine wq_v (some 330) (.bool false) (eq_is (v := (Value.bool (((s103.boxes.length : Int)) != ((nb : Int))))) (by kernel_rfl) (by simp; omega)) ?_
           refine wq_p 1 [(331, (Value.bool false))] ?_
           refine wl_end rfl ?_
           refine seq_n hK127 ?_
           refine wp_cond_false (by kernel_rfl) ?_
           refine wp_skip ?_
           refine blk_n ?_
           refine seq_n hK24 ?_
           refine reg_lit ?_
           refine wq_v (some 332) (Value.int .i64 ((n : Int) + 1)) (exec_add _ _ _ _ rfl ((n : Int)) 1 (by kernel_rfl) (by kernel_rfl) ((n : Int) + 1) rfl (by omega) (by omega) _) ?_
           refine wq_p 1 [(44, (Value.int .i64 ((n : Int) + 1)))] ?_
           refine wl_end rfl ?_
           refine ⟨st.length - (n + 1), (by omega), (n + 1), (ks ++ [LF.text xt ⟨xl.toArray⟩]), bx, bv, ss, sv, s103, F103, A123, c123, A2, c2, A3, c3, (nk + 1), nb, ns, hI2, hB2, hS2, hbv, hsv, (by simp; omega), (by omega), (by omega), (by omega), hbb, hnd, (by first | omega | (simp; omega)), (by first | omega | (simp; omega)), (by first | omega | (simp; omega)), rfl, (patch_eq _ 399 _ (by kernel_rfl) (by kernel_rfl) (by kernel_rfl)), h130.sel [5, 6, 7, 8] [1, 2, 3, 4] (by kernel_rfl) rfl rfl⟩
          ·
           refine wp_skip ?_
           refine seq_n hK118 ?_
           refine wp_seq_k ?_
           intro K131 hK131
           have hold : 1 ≤ z ∧ ks[z - 1]? = some (LF.text xt ⟨xl.toArray⟩) := by rcases hz with ⟨hz, _⟩ | hz; omega; exact hz
           have hnum := (hI.old hOk hold.1 hold.2).1
           refine pR_go h108 4 (fun W => (rBlk g59 22 (vb (kl K103))).Φ W ∧ True) [(127, [11], 0), (128, [12], 0), (129, [127], 2), (130, [126, 128], 5)] rfl (fun _ d _ _ _ h => by cases d <;> exact h) ?_
           intro hs132 w132 h132
           refine pR_p 3 [1] [(127, (Value.int .i64 ((z : Int))))] 2 hs132 ⟨h132.at_ 0 rfl, trivial⟩ ?_
           refine pR_v 0 (some 126) (Value.agg (vb (kl K103)).toArray) 3 rfl hs132 ⟨h132.at_ 0 rfl, trivial⟩ (fun W hW => e_loads hW.1 22 (.tmp 11) (by kernel_rfl) 0 (vb (kl K103)) (by kernel_rfl) (by kernel_rfl) (by kernel_rfl)) ?_
           refine pR_to 2 (some 128) 7 rfl hs132 (x_lmark h132 107 (z) (by kernel_rfl) (by omega)) ?_
           rintro _ w133 ⟨K133, rfl, hK133, h133⟩
           refine ⟨fun _ => ⟨h133.at_ 0 rfl, trivial⟩, ?_⟩
           refine pR_v 3 (some 129) (Value.bool false) 15 rfl hs132 ⟨h133.at_ 0 rfl, trivial⟩ (fun W hW => e_kne K103 K133 22 22 (.tmp 126) (.tmp 128) (by kernel_rfl) (by kernel_rfl) (by kernel_rfl) (by kernel_rfl) (by kernel_rfl) false (by rw [hK103, hK133]; have e := hnum; rw [toS_text] at e; rw [e]; simp) _) ?_
           refine pR_done hs132 ?_ _
           refine seq_n hK131 ?_
           refine wp_cond_false (by kernel_rfl) ?_
           refine wp_skip ?_
           refine blk_n ?_
           refine seq_n hK37 ?_
           refine wp_seq_k ?_
           intro K134 hK134
           have hI2 : Inv (ks) s103 := (hI.of_eq (hs103.trans (hI.old hOk hold.1 hold.2).2))
           have hB2 : s103.boxes = bx := (e103.1.trans hB)
           have hS2 : s103.sums = ss := (e103.2.trans hS)
           have hkl2 := hI2.len
           have hbl2 : s103.boxes.length = (bx : List SSealed).length := by rw [hB2]
           refine reg_lit ?_
           refine wq_p 1 [(320, (pt tb10 0))] ?_
           refine wq_to (some 321) (x_nkeys h133 7 rfl (by kernel_rfl)) ?_
           rintro _ w135 ⟨rfl, h135⟩
           refine wq_p 2 [(323, (Value.int .i64 ((nk : Int)))), (322, (Value.slice A1 nk c1))] ?_
           refine wq_v (some 324) (.bool false) (eq_is (v := (Value.bool (((s103.keys.length : Int)) != ((nk : Int))))) (by kernel_rfl) (by simp; omega)) ?_
           refine wq_p 2 [(326, (pt tb10 0)), (325, (Value.bool false))] ?_
           refine wq_to (some 327) (x_nboxes h135 7 rfl (by kernel_rfl)) ?_
           rintro _ w136 ⟨rfl, h136⟩
           refine wq_p 2 [(329, (Value.int .i64 ((nb : Int)))), (328, (Value.slice A2 nb c2))] ?_
           refine wq_v (some 330) (.bool false) (eq_is (v := (Value.bool (((s103.boxes.length : Int)) != ((nb : Int))))) (by kernel_rfl) (by simp; omega)) ?_
           refine wq_p 1 [(331, (Value.bool false))] ?_
           refine wl_end rfl ?_
           refine seq_n hK134 ?_
           refine wp_cond_false (by kernel_rfl) ?_
           refine wp_skip ?_
           refine blk_n ?_
           refine seq_n hK24 ?_
           refine wp_reset 399 [(0, (Value.slice A st.length c)), (3, (pt tb10 0)), (4, (Value.slice A1 nk c1)), (5, (Value.slice A2 nb c2)), (6, (Value.slice A3 ns c3)), (8, (pt g26 0)), (9, (pt g35 0)), (10, (pt g56 0)), (11, (pt g59 0)), (12, (Value.int .i64 ((z : Int)))), (34, (Value.bool false)), (37, (Value.bool (decide ((st.length : Int) > 60)))), (42, (Value.slice A st.length c)), (43, (Value.int .i64 ((st.length : Int)))), (44, (Value.int .i64 ((n : Int)))), (45, (Value.bool (decide ((n : Int) < (st.length : Int))))), (57, (Value.bool false)), (63, (Value.int .i64 xk)), (64, (Value.bool (xk == 0))), (76, (Value.bool (xk == 1))), (88, (Value.bool (xk == 2))), (105, (Value.slice A1 nk c1)), (106, (Value.int .i64 ((nk : Int)))), (107, (Value.int .i64 ((i : Int)))), (108, (Value.bool (decide ((i : Int) < (nk : Int))))), (119, (Value.bool (((z : Int)) == 0))), (129, (Value.bool false)), (331, (Value.bool false))] (fun x137 => ?_)
           refine reg_lit ?_
           refine wq_v (some 332) (Value.int .i64 ((n : Int) + 1)) (exec_add _ _ _ _ rfl ((n : Int)) 1 (by kernel_rfl) (by kernel_rfl) ((n : Int) + 1) rfl (by omega) (by omega) _) ?_
           refine wq_p 1 [(44, (Value.int .i64 ((n : Int) + 1)))] ?_
           refine wl_end rfl ?_
           refine ⟨st.length - (n + 1), (by omega), (n + 1), ks, bx, bv, ss, sv, s103, F103, A1, c1, A2, c2, A3, c3, nk, nb, ns, hI2, hB2, hS2, hbv, hsv, (by omega), (by omega), (by omega), (by omega), hbb, hnd, (by first | omega | (simp; omega)), (by first | omega | (simp; omega)), (by first | omega | (simp; omega)), rfl, (patch_eq _ 399 _ (by kernel_rfl) (by kernel_rfl) (by kernel_rfl)), h136.sel [4, 5, 6, 7] [1, 2, 3, 4] (by kernel_rfl) rfl rfl⟩
       ·
        refine reg_lit ?_
        refine wq_p 2 [(76, (Value.bool (xk == 2))), (78, (Value.bool (xk == 2)))] ?_
        refine wl_end rfl ?_
        refine seq_n hK52 ?_
        refine wp_ifeq xk 2 (by kernel_rfl) (fun b138 => ?_) (fun b138 => ?_)
        ·
         refine wp_seq_k ?_
         intro K139 hK139
         refine reg_lit ?_
         refine wq_p 1 [(79, (pt g26 3))] ?_
         refine wq_v (some 80) (Value.string xt) (e_load (h36.at_ 1 rfl) 9 (.tmp 79) (by kernel_rfl) 3 (Value.string xt) (by kernel_rfl) (by kernel_rfl) (by kernel_rfl)) ?_
         refine wq_p 1 [(81, (pt g26 4))] ?_
         refine wq_v (some 82) (Value.slice Ax xl.length cx) (e_load (h36.at_ 1 rfl) 28 (.tmp 81) (by kernel_rfl) 4 (Value.slice Ax xl.length cx) (by kernel_rfl) (by kernel_rfl) (by kernel_rfl)) ?_
         refine wq_v (some 83) (Value.string (⟨xl.toArray⟩)) (exec_sb_conv (.tmp 82) (by kernel_rfl) (Value.slice Ax xl.length cx) xl (by kernel_rfl) (h36.rd 0 rfl)) ?_
         refine wq_p 1 [(84, (Value.agg ([(Value.int .i64 1)] ++ vb (List.replicate 16 0) ++ [(Value.string xt), (Value.string (⟨xl.toArray⟩))]).toArray))] ?_
         refine wq_to (some 10) (x_new h36 67 ([(Value.int .i64 0)] ++ vb (List.replicate 16 0) ++ [(Value.string ByteArray.empty), (Value.string ByteArray.empty)]) (fun r => pt r 0) (by kernel_rfl)) ?_
         rintro _ w140 ⟨g140, rfl, h140⟩
         refine wq_to none (x_stores h140 0 rfl 67 (.tmp 10) (.tmp 84) (by kernel_rfl) 0 ([(Value.int .i64 1)] ++ vb (List.replicate 16 0) ++ [(Value.string xt), (Value.string (⟨xl.toArray⟩))]) ([(Value.int .i64 1)] ++ vb (List.replicate 16 0) ++ [(Value.string xt), (Value.string (⟨xl.toArray⟩))]) (by kernel_rfl) (by kernel_rfl) (by kernel_rfl) (by kernel_rfl) (by kernel_rfl) (by kernel_rfl)) ?_
         rintro _ w141 h141
         refine wl_end rfl ?_
         refine seq_n hK139 ?_
         refine wp_seq_k ?_
         intro K142 hK142
         refine reg_lit ?_
         refine wq_p 1 [(85, (Value.agg (vb (List.replicate 16 0)).toArray))] ?_
         refine wq_to (some 11) (x_new h141 22 (vb (List.replicate 16 0)) (fun r => pt r 0) (by kernel_rfl)) ?_
         rintro _ w143 ⟨g143, rfl, h143⟩
         refine wq_to none (x_stores h143 0 rfl 22 (.tmp 11) (.tmp 85) (by kernel_rfl) 0 (vb (List.replicate 16 0)) (vb (List.replicate 16 0)) (by kernel_rfl) (by kernel_rfl) (by kernel_rfl) (by kernel_rfl) (by kernel_rfl) (by kernel_rfl)) ?_
         rintro _ w144 h144
         refine wl_end rfl ?_
         refine seq_n hK142 ?_
         refine wp_seq_k ?_
         intro K145 hK145
         refine wp_seq_k ?_
         intro K146 hK146
         refine reg_lit ?_
         refine wq_p 1 [(86, (pt g26 0))] ?_
         refine wq_v (some 87) (Value.int .i64 xk) (e_load (h144.at_ 3 rfl) 3 (.tmp 86) (by kernel_rfl) 0 (Value.int .i64 xk) (by kernel_rfl) (by kernel_rfl) (by kernel_rfl)) ?_
         refine wq_p 1 [(88, (Value.bool (xk == 2)))] ?_
         refine wl_end rfl ?_
         refine seq_n hK146 ?_
         refine wp_ifeq xk 2 (by kernel_rfl) (fun _ => ?_) (fun hh => absurd b138 hh)
         refine wp_seq_k ?_
         intro K147 hK147
         refine wp_reset 399 [(0, (Value.slice A st.length c)), (3, (pt tb10 0)), (4, (Value.slice A1 nk c1)), (5, (Value.slice A2 nb c2)), (6, (Value.slice A3 ns c3)), (8, (pt g26 0)), (9, (pt g35 0)), (10, (pt g140 0)), (11, (pt g143 0)), (34, (Value.bool false)), (37, (Value.bool (decide ((st.length : Int) > 60)))), (42, (Value.slice A st.length c)), (43, (Value.int .i64 ((st.length : Int)))), (44, (Value.int .i64 ((n : Int)))), (45, (Value.bool (decide ((n : Int) < (st.length : Int))))), (57, (Value.bool false)), (63, (Value.int .i64 xk)), (64, (Value.bool (xk == 0))), (76, (Value.bool (xk == 2))), (88, (Value.bool (xk == 2)))] (fun x148 => ?_)
         have hOk : (LF.derive (kl K34) xt).Ok := .inr ⟨kl K34, xt, kl_len _, rfl⟩
         refine reg_lit ?_
         refine wq_v (some 89) (Value.agg (vb (kl K34)).toArray) (e_loads (h144.at_ 2 rfl) 22 (.tmp 9) (by kernel_rfl) 0 (vb (kl K34)) (by kernel_rfl) (by kernel_rfl) (by kernel_rfl)) ?_
         refine wq_p 1 [(90, (pt g26 3))] ?_
         refine wq_v (some 91) (Value.string xt) (e_load (h144.at_ 3 rfl) 9 (.tmp 90) (by kernel_rfl) 3 (Value.string xt) (by kernel_rfl) (by kernel_rfl) (by kernel_rfl)) ?_
         refine wq_p 1 [(92, (Value.agg ([(Value.int .i64 2)] ++ vb (kl K34) ++ [(Value.string xt), (Value.string ByteArray.empty)]).toArray))] ?_
         refine wq_to none (x_stores h144 1 rfl 67 (.tmp 10) (.tmp 92) (by kernel_rfl) 0 ([(Value.int .i64 2)] ++ vb (kl K34) ++ [(Value.string xt), (Value.string ByteArray.empty)]) ([(Value.int .i64 2)] ++ vb (kl K34) ++ [(Value.string xt), (Value.string ByteArray.empty)]) (by kernel_rfl) (by kernel_rfl) (by kernel_rfl) (by kernel_rfl) (by kernel_rfl) (by kernel_rfl)) ?_
         rintro _ w149 h149
         refine wl_end rfl ?_
         refine seq_n hK147 ?_
         refine reg_lit ?_
         refine wq_p 1 [(93, (pt tb10 0))] ?_
         refine wq_v (some 94) (Value.agg (vb (kl K34)).toArray) (e_loads (h149.at_ 2 rfl) 22 (.tmp 9) (by kernel_rfl) 0 (vb (kl K34)) (by kernel_rfl) (by kernel_rfl) (by kernel_rfl)) ?_
         refine wq_p 1 [(95, (pt g26 3))] ?_
         refine wq_v (some 96) (Value.string xt) (e_load (h149.at_ 3 rfl) 9 (.tmp 95) (by kernel_rfl) 3 (Value.string xt) (by kernel_rfl) (by kernel_rfl) (by kernel_rfl)) ?_
         refine wq_to (some 97) (x_derive h149 7 rfl K34 xt (by kernel_rfl) (by omega)) ?_
         rintro _ w150 ⟨K150, F150, s150, rfl, hK150, hs150, h150⟩
         have e150 := made_boxes hs150
         have hx150 : s150.boxes.length = s.boxes.length := by rw [e150.1]
         have hu150 : s150.sums.length = s.sums.length := by rw [e150.2]
         have hk150 := keys_made hs150
         refine wq_to none (x_stores h150 0 rfl 22 (.tmp 11) (.tmp 97) (by kernel_rfl) 0 (vb (kl K150)) (vb (kl K150)) (by kernel_rfl) (by kernel_rfl) (by kernel_rfl) (by kernel_rfl) (by kernel_rfl) (by kernel_rfl)) ?_
         rintro _ w151 h151
         refine wl_end rfl ?_
         refine seq_n hK145 ?_
         refine wp_seq_k ?_
         intro K152 hK152
         refine reg_lit ?_
         refine wq_p 1 [(12, (Value.int .i64 0))] ?_
         refine wl_end rfl ?_
         refine seq_n hK152 ?_
         refine wp_seq_k ?_
         intro K153 hK153
         refine wp_seq_k ?_
         intro K154 hK154
         refine reg_lit ?_
         refine wq_p 3 [(107, (Value.int .i64 0)), (106, (Value.int .i64 ((nk : Int)))), (105, (Value.slice A1 nk c1))] ?_
         refine wl_end rfl ?_
         refine seq_n hK154 ?_
         refine wp_block ?_
         refine wp_loopm (fun mM xX aA wL => ∃ (i : Nat) (z : Nat), ((z = 0 ∧ ∀ j : Nat, j < i → ks[j]? ≠ some (LF.derive (kl K34) xt)) ∨ (1 ≤ z ∧ ks[z - 1]? = some (LF.derive (kl K34) xt))) ∧ (i ≤ ks.length) ∧ (z ≤ ks.length) ∧ mM = ks.length - (i) ∧ aA = patch xX 399 [(0, (Value.slice A st.length c)), (3, (pt tb10 0)), (4, (Value.slice A1 nk c1)), (5, (Value.slice A2 nb c2)), (6, (Value.slice A3 ns c3)), (8, (pt g26 0)), (9, (pt g35 0)), (10, (pt g140 0)), (11, (pt g143 0)), (12, (Value.int .i64 ((z : Int)))), (34, (Value.bool false)), (37, (Value.bool (decide ((st.length : Int) > 60)))), (42, (Value.slice A st.length c)), (43, (Value.int .i64 ((st.length : Int)))), (44, (Value.int .i64 ((n : Int)))), (45, (Value.bool (decide ((n : Int) < (st.length : Int))))), (57, (Value.bool false)), (63, (Value.int .i64 xk)), (64, (Value.bool (xk == 0))), (76, (Value.bool (xk == 2))), (88, (Value.bool (xk == 2))), (105, (Value.slice A1 nk c1)), (106, (Value.int .i64 ((nk : Int)))), (107, (Value.int .i64 ((i : Int))))] ∧ Hp (fun _ => False) w wL [rSB ((Value.slice Ax xl.length cx)) xl, rRV 5 A c (st.map stCells), rSBs (st.map (·.v)) (st.map (·.body)), rSBs bv (bx.map (·.body)), rSBs sv ss] [rBlk g143 22 (vb (kl K150)), rBlk g140 67 ([(Value.int .i64 2)] ++ vb (kl K34) ++ [(Value.string xt), (Value.string ByteArray.empty)]), rBlk g35 22 (vb (kl K34)), rBlk g26 65 ([(Value.int .i64 xk), (Value.int .i64 xa), (Value.int .i64 xb), (Value.string xt), (Value.slice Ax xl.length cx)]), rOV 67 19 ((Value.slice A1 nk c1)) (ks.map lfCells), rOV 56 18 ((Value.slice A2 nb c2)) (List.zipWith sealCells bx bv), rOV 28 1 ((Value.slice A3 ns c3)) (sv.map fun v => [v]), rTab F150 tb10 s150]) ⟨_, 0, 0, (.inl ⟨rfl, fun j hj => absurd hj (by omega)⟩), (by omega), (by omega), rfl, (patch_eq _ 399 _ (by kernel_rfl) (by kernel_rfl) (by kernel_rfl)), h151.sel [0, 1, 2, 3, 4, 5, 6, 7] [0, 1, 2, 3, 4] (by kernel_rfl) rfl rfl⟩ ?_
         rintro _ x155 _ w155 ⟨i, z, hz, hi, hzl, rfl, rfl, h155⟩
         refine wp_seq_k ?_
         intro K156 hK156
         refine reg_lit ?_
         refine wq_p 1 [(108, (Value.bool (decide ((i : Int) < (nk : Int)))))] ?_
         refine wl_end rfl ?_
         refine seq_n hK156 ?_
         refine wp_seq_k ?_
         intro K157 hK157
         refine wp_if ((i : Int) < (nk : Int)) (by kernel_rfl) (fun b158 => ?_) (fun b158 => ?_)
         ·
          refine wp_skip ?_
          refine seq_n hK157 ?_
          refine wp_seq_k ?_
          intro K159 hK159
          refine wp_block ?_
          refine wp_seq_k ?_
          intro K160 hK160
          obtain ⟨fk, fK, fa, fb, hf⟩ := lf_get hI i (by omega)
          refine reg_lit ?_
          refine wq_p 1 [(109, (Value.int .i64 ((i : Int))))] ?_
          refine wq_v (some 110) (eAt A1 (i * 19 + 0)) (e_idxN (OV.rvn (h155.at_ 4 rfl)).2 i nk (OV.rvn (h155.at_ 4 rfl)).1 (by omega) 61 (.tmp 105) (.tmp 107) (by kernel_rfl) .i64 (by kernel_rfl) (by kernel_rfl) 67 (by kernel_rfl) (by kernel_rfl) _) ?_
          refine wq_v (some 111) (Value.agg ([(Value.int .i64 fk)] ++ vb (kl fK) ++ [(Value.string fa), (Value.string fb)]).toArray) (e_elemsN (OV.rvn (h155.at_ 4 rfl)).2 i 0 ([(Value.int .i64 fk)] ++ vb (kl fK) ++ [(Value.string fa), (Value.string fb)]) (map_get lfCells hf) 67 (.tmp 110) (by kernel_rfl) ([(Value.int .i64 fk)] ++ vb (kl fK) ++ [(Value.string fa), (Value.string fb)]) (by kernel_rfl) (by kernel_rfl) (by kernel_rfl)) ?_
          refine wq_to (some 14) (x_new h155 67 ([(Value.int .i64 0)] ++ vb (List.replicate 16 0) ++ [(Value.string ByteArray.empty), (Value.string ByteArray.empty)]) (fun r => pt r 0) (by kernel_rfl)) ?_
          rintro _ w161 ⟨g161, rfl, h161⟩
          refine wq_p 1 [(13, (Value.int .i64 ((i : Int))))] ?_
          refine wq_to none (x_stores h161 0 rfl 67 (.tmp 14) (.tmp 111) (by kernel_rfl) 0 ([(Value.int .i64 fk)] ++ vb (kl fK) ++ [(Value.string fa), (Value.string fb)]) ([(Value.int .i64 fk)] ++ vb (kl fK) ++ [(Value.string fa), (Value.string fb)]) (by kernel_rfl) (by kernel_rfl) (by kernel_rfl) (by kernel_rfl) (by kernel_rfl) (by kernel_rfl)) ?_
          rintro _ w162 h162
          refine wl_end rfl ?_
          refine seq_n hK160 ?_
          refine wp_seq_k ?_
          intro K163 hK163
          by_cases hfg : (⟨fk, kl fK, fa, fb⟩ : LF) = LF.derive (kl K34) xt
          ·
           refine reg_lit ?_
           refine wq_v (some 112) (Value.agg ([(Value.int .i64 fk)] ++ vb (kl fK) ++ [(Value.string fa), (Value.string fb)]).toArray) (e_loads (h162.at_ 0 rfl) 67 (.tmp 14) (by kernel_rfl) 0 ([(Value.int .i64 fk)] ++ vb (kl fK) ++ [(Value.string fa), (Value.string fb)]) (by kernel_rfl) (by kernel_rfl) (by kernel_rfl)) ?_
           refine wq_v (some 113) (Value.agg ([(Value.int .i64 2)] ++ vb (kl K34) ++ [(Value.string xt), (Value.string ByteArray.empty)]).toArray) (e_loads (h162.at_ 2 rfl) 67 (.tmp 10) (by kernel_rfl) 0 ([(Value.int .i64 2)] ++ vb (kl K34) ++ [(Value.string xt), (Value.string ByteArray.empty)]) (by kernel_rfl) (by kernel_rfl) (by kernel_rfl)) ?_
           refine wq_v (some 114) (Value.bool true) (e_lfeq ⟨fk, kl fK, fa, fb⟩ (LF.derive (kl K34) xt) (kl_len _) (by first | exact kl_len _ | rfl) (.tmp 112) (.tmp 113) 67 (by kernel_rfl) (by kernel_rfl) (by kernel_rfl) true (decide_eq_true hfg) _) ?_
           refine wl_end rfl ?_
           refine seq_n hK163 ?_
           refine wp_cond_true (by kernel_rfl) ?_
           refine reg_lit ?_
           refine wq_p 1 [(115, (Value.int .i64 ((i : Int))))] ?_
           refine wq_v (some 116) (Value.int .i64 ((i : Int) + 1)) (exec_add _ _ _ _ rfl ((i : Int)) 1 (by kernel_rfl) (by kernel_rfl) ((i : Int) + 1) rfl (by omega) (by omega) _) ?_
           refine wq_p 1 [(12, (Value.int .i64 ((i : Int) + 1)))] ?_
           refine wl_end rfl ?_
           refine blk_n ?_
           refine seq_n hK159 ?_
           refine reg_lit ?_
           refine wq_v (some 117) (Value.int .i64 ((i : Int) + 1)) (exec_add _ _ _ _ rfl ((i : Int)) 1 (by kernel_rfl) (by kernel_rfl) ((i : Int) + 1) rfl (by omega) (by omega) _) ?_
           refine wq_p 1 [(107, (Value.int .i64 ((i : Int) + 1)))] ?_
           refine wl_end rfl ?_
           refine ⟨ks.length - (i + 1), (by omega), (i + 1), ((i) + 1), (.inr ⟨by omega, by rw [← hfg]; simpa using hf⟩), (by omega), (by omega), rfl, (patch_eq _ 399 _ (by kernel_rfl) (by kernel_rfl) (by kernel_rfl)), h162.sel [1, 2, 3, 4, 5, 6, 7, 8] [0, 1, 2, 3, 4] (by kernel_rfl) rfl rfl⟩
          ·
           refine reg_lit ?_
           refine wq_v (some 112) (Value.agg ([(Value.int .i64 fk)] ++ vb (kl fK) ++ [(Value.string fa), (Value.string fb)]).toArray) (e_loads (h162.at_ 0 rfl) 67 (.tmp 14) (by kernel_rfl) 0 ([(Value.int .i64 fk)] ++ vb (kl fK) ++ [(Value.string fa), (Value.string fb)]) (by kernel_rfl) (by kernel_rfl) (by kernel_rfl)) ?_
           refine wq_v (some 113) (Value.agg ([(Value.int .i64 2)] ++ vb (kl K34) ++ [(Value.string xt), (Value.string ByteArray.empty)]).toArray) (e_loads (h162.at_ 2 rfl) 67 (.tmp 10) (by kernel_rfl) 0 ([(Value.int .i64 2)] ++ vb (kl K34) ++ [(Value.string xt), (Value.string ByteArray.empty)]) (by kernel_rfl) (by kernel_rfl) (by kernel_rfl)) ?_
           refine wq_v (some 114) (Value.bool false) (e_lfeq ⟨fk, kl fK, fa, fb⟩ (LF.derive (kl K34) xt) (kl_len _) (by first | exact kl_len _ | rfl) (.tmp 112) (.tmp 113) 67 (by kernel_rfl) (by kernel_rfl) (by kernel_rfl) false (decide_eq_false hfg) _) ?_
           refine wl_end rfl ?_
           refine seq_n hK163 ?_
           refine wp_cond_false (by kernel_rfl) ?_
           refine wp_skip ?_
           refine blk_n ?_
           refine seq_n hK159 ?_
           refine reg_lit ?_
           refine wq_v (some 117) (Value.int .i64 ((i : Int) + 1)) (exec_add _ _ _ _ rfl ((i : Int)) 1 (by kernel_rfl) (by kernel_rfl) ((i : Int) + 1) rfl (by omega) (by omega) _) ?_
           refine wq_p 1 [(107, (Value.int .i64 ((i : Int) + 1)))] ?_
           refine wl_end rfl ?_
           refine ⟨ks.length - (i + 1), (by omega), (i + 1), z, (hz.imp (fun hh => ⟨hh.1, fun j hj => (by rcases Nat.lt_or_ge j i with h1 | h1; exact hh.2 j h1; have : j = i := (by omega); subst this; rw [hf]; intro e; exact hfg (Option.some.inj e))⟩) id), (by omega), (by omega), rfl, (patch_eq _ 399 _ (by kernel_rfl) (by kernel_rfl) (by kernel_rfl)), h162.sel [1, 2, 3, 4, 5, 6, 7, 8] [0, 1, 2, 3, 4] (by kernel_rfl) rfl rfl⟩
         ·
          refine wp_exit ?_
          refine seq_e ?_
          refine seq_e ?_
          refine blk_e ?_
          refine seq_n hK153 ?_
          refine wp_seq_k ?_
          intro K165 hK165
          refine wp_seq_k ?_
          intro K166 hK166
          refine reg_lit ?_
          refine wq_p 2 [(119, (Value.bool (((z : Int)) == 0))), (118, (Value.int .i64 ((z : Int))))] ?_
          refine wl_end rfl ?_
          refine seq_n hK166 ?_
          refine wp_ifeq ((z : Int)) 0 (by kernel_rfl) (fun b167 => ?_) (fun b167 => ?_)
          ·
           refine wp_seq_k ?_
           intro K168 hK168
           have hnone : ∀ j : Nat, ks[j]? ≠ some (LF.derive (kl K34) xt) := by
             intro j
             rcases hz with ⟨_, hz⟩ | ⟨hz, _⟩
             · by_cases hj : j < i
               · exact hz j hj
               · rw [List.getElem?_eq_none (by omega)]; simp
             · omega
           have hnew := hI.new hOk hnone
           refine reg_lit ?_
           refine wq_p 1 [(120, (Value.slice A1 nk c1))] ?_
           refine wq_v (some 121) (Value.agg ([(Value.int .i64 2)] ++ vb (kl K34) ++ [(Value.string xt), (Value.string ByteArray.empty)]).toArray) (e_loads (h155.at_ 1 rfl) 67 (.tmp 10) (by kernel_rfl) 0 ([(Value.int .i64 2)] ++ vb (kl K34) ++ [(Value.string xt), (Value.string ByteArray.empty)]) (by kernel_rfl) (by kernel_rfl) (by kernel_rfl)) ?_
           refine wq_to (some 122) (x_bs h155 67 ([(Value.int .i64 2)] ++ vb (kl K34) ++ [(Value.string xt), (Value.string ByteArray.empty)]) 1 (by kernel_rfl)) ?_
           rintro _ w169 ⟨g169, rfl, h169⟩
           refine wq_to (some 123) (x_pushG h169 5 0 rfl rfl (by kernel_rfl) (.tmp 120) (.tmp 122) 61 (by kernel_rfl) 56 (Value.agg ([(Value.int .i64 0)] ++ vb (List.replicate 16 0) ++ [(Value.string ByteArray.empty), (Value.string ByteArray.empty)]).toArray) (by kernel_rfl) (by kernel_rfl) (by kernel_rfl) (by kernel_rfl) (by kernel_rfl) 1 (by kernel_rfl) (by kernel_rfl) (by kernel_rfl) (by simp; omega) (by unfold maxLen; simp; omega) ((ks ++ [LF.derive (kl K34) xt]).map lfCells) (nk + 1) (by rw [List.map_append]; rfl) (by simp; omega)) ?_
           rintro _ w170 ⟨A170, c170, rfl, h170⟩
           refine wq_p 1 [(4, (Value.slice A170 (nk + 1) c170))] ?_
           refine wl_end rfl ?_
           refine seq_n hK168 ?_
           refine reg_lit ?_
           refine wq_p 3 [(12, (Value.int .i64 ((nk + 1 : Int)))), (125, (Value.int .i64 ((nk + 1 : Int)))), (124, (Value.slice A170 (nk + 1) c170))] ?_
           refine wl_end rfl ?_
           refine seq_n hK165 ?_
           refine wp_seq_k ?_
           intro K171 hK171
           have hnum : s.num (LF.derive (kl K34) xt).toS = nk + 1 := by rw [hnew.1]; omega
           refine pR_go h170 4 (fun W => (rBlk g143 22 (vb (kl K150))).Φ W ∧ True) [(127, [11], 0), (128, [12], 0), (129, [127], 2), (130, [126, 128], 5)] rfl (fun _ d _ _ _ h => by cases d <;> exact h) ?_
           intro hs172 w172 h172
           refine pR_p 3 [1] [(127, (Value.int .i64 ((nk + 1 : Int))))] 2 hs172 ⟨h172.at_ 1 rfl, trivial⟩ ?_
           refine pR_v 0 (some 126) (Value.agg (vb (kl K150)).toArray) 3 rfl hs172 ⟨h172.at_ 1 rfl, trivial⟩ (fun W hW => e_loads hW.1 22 (.tmp 11) (by kernel_rfl) 0 (vb (kl K150)) (by kernel_rfl) (by kernel_rfl) (by kernel_rfl)) ?_
           refine pR_to 2 (some 128) 7 rfl hs172 (x_lmark h172 107 (nk + 1) (by kernel_rfl) (by omega)) ?_
           rintro _ w173 ⟨K173, rfl, hK173, h173⟩
           refine ⟨fun _ => ⟨h173.at_ 1 rfl, trivial⟩, ?_⟩
           refine pR_v 3 (some 129) (Value.bool false) 15 rfl hs172 ⟨h173.at_ 1 rfl, trivial⟩ (fun W hW => e_kne K150 K173 22 22 (.tmp 126) (.tmp 128) (by kernel_rfl) (by kernel_rfl) (by kernel_rfl) (by kernel_rfl) (by kernel_rfl) false (by rw [hK150, hK173]; have e := hnum; rw [toS_derive] at e; rw [e]; simp) _) ?_
           refine pR_done hs172 ?_ _
           refine seq_n hK171 ?_
           refine wp_cond_false (by kernel_rfl) ?_
           refine wp_skip ?_
           refine blk_n ?_
           refine seq_n hK37 ?_
           refine wp_seq_k ?_
           intro K174 hK174
           refine wp_reset 399 [(0, (Value.slice A st.length c)), (3, (pt tb10 0)), (4, (Value.slice A170 (nk + 1) c170)), (5, (Value.slice A2 nb c2)), (6, (Value.slice A3 ns c3)), (8, (pt g26 0)), (9, (pt g35 0)), (10, (pt g140 0)), (11, (pt g143 0)), (12, (Value.int .i64 ((nk + 1 : Int)))), (34, (Value.bool false)), (37, (Value.bool (decide ((st.length : Int) > 60)))), (42, (Value.slice A st.length c)), (43, (Value.int .i64 ((st.length : Int)))), (44, (Value.int .i64 ((n : Int)))), (45, (Value.bool (decide ((n : Int) < (st.length : Int))))), (57, (Value.bool false)), (63, (Value.int .i64 xk)), (64, (Value.bool (xk == 0))), (76, (Value.bool (xk == 2))), (88, (Value.bool (xk == 2))), (105, (Value.slice A1 nk c1)), (106, (Value.int .i64 ((nk : Int)))), (107, (Value.int .i64 ((i : Int)))), (108, (Value.bool (decide ((i : Int) < (nk : Int))))), (119, (Value.bool (((z : Int)) == 0))), (129, (Value.bool false))] (fun x175 => ?_)
           have hI2 : Inv (ks ++ [LF.derive (kl K34) xt]) s150 := (by rw [hs150]; exact hnew.2)
           have hB2 : s150.boxes = bx := (e150.1.trans hB)
           have hS2 : s150.sums = ss := (e150.2.trans hS)
           have hkl2 := hI2.len
           have hbl2 : s150.boxes.length = (bx : List SSealed).length := by rw [hB2]
           try simp only [List.length_append, List.length_cons, List.length_nil] at hkl2 hbl2
           refine reg_lit ?_
           refine wq_p 1 [(320, (pt tb10 0))] ?_
           refine wq_to (some 321) (x_nkeys h173 8 rfl (by kernel_rfl)) ?_
           rintro _ w176 ⟨rfl, h176⟩
           refine wq_p 2 [(323, (Value.int .i64 ((nk + 1 : Int)))), (322, (Value.slice A170 (nk + 1) c170))] ?_
           refine wq_v (some 324) (.bool false) (eq_is (v := (Value.bool (((s150.keys.length : Int)) != ((nk + 1 : Int))))) (by kernel_rfl) (by simp; omega)) ?_
           refine wq_p 2 [(326, (pt tb10 0)), (325, (Value.bool false))] ?_
           refine wq_to (some 327) (x_nboxes h176 8 rfl (by kernel_rfl)) ?_
           rintro _ w177 ⟨rfl, h177⟩
           refine wq_p 2 [(329, (Value.int .i64 ((nb : Int)))), (328, (Value.slice A2 nb c2))] ?_
           refine wq_v (some 330) (.bool false) (eq_is (v := (Value.bool (((s150.boxes.length : Int)) != ((nb : Int))))) (by kernel_rfl) (by simp; omega)) ?_
           refine wq_p 1 [(331, (Value.bool false))] ?_
           refine wl_end rfl ?_
           refine seq_n hK174 ?_
           refine wp_cond_false (by kernel_rfl) ?_
           refine wp_skip ?_
           refine blk_n ?_
           refine seq_n hK24 ?_
           refine reg_lit ?_
           refine wq_v (some 332) (Value.int .i64 ((n : Int) + 1)) (exec_add _ _ _ _ rfl ((n : Int)) 1 (by kernel_rfl) (by kernel_rfl) ((n : Int) + 1) rfl (by omega) (by omega) _) ?_
           refine wq_p 1 [(44, (Value.int .i64 ((n : Int) + 1)))] ?_
           refine wl_end rfl ?_
           refine ⟨st.length - (n + 1), (by omega), (n + 1), (ks ++ [LF.derive (kl K34) xt]), bx, bv, ss, sv, s150, F150, A170, c170, A2, c2, A3, c3, (nk + 1), nb, ns, hI2, hB2, hS2, hbv, hsv, (by simp; omega), (by omega), (by omega), (by omega), hbb, hnd, (by first | omega | (simp; omega)), (by first | omega | (simp; omega)), (by first | omega | (simp; omega)), rfl, (patch_eq _ 399 _ (by kernel_rfl) (by kernel_rfl) (by kernel_rfl)), h177.sel [5, 6, 7, 8] [1, 2, 3, 4] (by kernel_rfl) rfl rfl⟩
          ·
           refine wp_skip ?_
           refine seq_n hK165 ?_
           refine wp_seq_k ?_
           intro K178 hK178
           have hold : 1 ≤ z ∧ ks[z - 1]? = some (LF.derive (kl K34) xt) := by rcases hz with ⟨hz, _⟩ | hz; omega; exact hz
           have hnum := (hI.old hOk hold.1 hold.2).1
           refine pR_go h155 4 (fun W => (rBlk g143 22 (vb (kl K150))).Φ W ∧ True) [(127, [11], 0), (128, [12], 0), (129, [127], 2), (130, [126, 128], 5)] rfl (fun _ d _ _ _ h => by cases d <;> exact h) ?_
           intro hs179 w179 h179
           refine pR_p 3 [1] [(127, (Value.int .i64 ((z : Int))))] 2 hs179 ⟨h179.at_ 0 rfl, trivial⟩ ?_
           refine pR_v 0 (some 126) (Value.agg (vb (kl K150)).toArray) 3 rfl hs179 ⟨h179.at_ 0 rfl, trivial⟩ (fun W hW => e_loads hW.1 22 (.tmp 11) (by kernel_rfl) 0 (vb (kl K150)) (by kernel_rfl) (by kernel_rfl) (by kernel_rfl)) ?_
           refine pR_to 2 (some 128) 7 rfl hs179 (x_lmark h179 107 (z) (by kernel_rfl) (by omega)) ?_
           rintro _ w180 ⟨K180, rfl, hK180, h180⟩
           refine ⟨fun _ => ⟨h180.at_ 0 rfl, trivial⟩, ?_⟩
           refine pR_v 3 (some 129) (Value.bool false) 15 rfl hs179 ⟨h180.at_ 0 rfl, trivial⟩ (fun W hW => e_kne K150 K180 22 22 (.tmp 126) (.tmp 128) (by kernel_rfl) (by kernel_rfl) (by kernel_rfl) (by kernel_rfl) (by kernel_rfl) false (by rw [hK150, hK180]; have e := hnum; rw [toS_derive] at e; rw [e]; simp) _) ?_
           refine pR_done hs179 ?_ _
           refine seq_n hK178 ?_
           refine wp_cond_false (by kernel_rfl) ?_
           refine wp_skip ?_
           refine blk_n ?_
           refine seq_n hK37 ?_
           refine wp_seq_k ?_
           intro K181 hK181
           have hI2 : Inv (ks) s150 := (hI.of_eq (hs150.trans (hI.old hOk hold.1 hold.2).2))
           have hB2 : s150.boxes = bx := (e150.1.trans hB)
           have hS2 : s150.sums = ss := (e150.2.trans hS)
           have hkl2 := hI2.len
           have hbl2 : s150.boxes.length = (bx : List SSealed).length := by rw [hB2]
           refine reg_lit ?_
           refine wq_p 1 [(320, (pt tb10 0))] ?_
           refine wq_to (some 321) (x_nkeys h180 7 rfl (by kernel_rfl)) ?_
           rintro _ w182 ⟨rfl, h182⟩
           refine wq_p 2 [(323, (Value.int .i64 ((nk : Int)))), (322, (Value.slice A1 nk c1))] ?_
           refine wq_v (some 324) (.bool false) (eq_is (v := (Value.bool (((s150.keys.length : Int)) != ((nk : Int))))) (by kernel_rfl) (by simp; omega)) ?_
           refine wq_p 2 [(326, (pt tb10 0)), (325, (Value.bool false))] ?_
           refine wq_to (some 327) (x_nboxes h182 7 rfl (by kernel_rfl)) ?_
           rintro _ w183 ⟨rfl, h183⟩
           refine wq_p 2 [(329, (Value.int .i64 ((nb : Int)))), (328, (Value.slice A2 nb c2))] ?_
           refine wq_v (some 330) (.bool false) (eq_is (v := (Value.bool (((s150.boxes.length : Int)) != ((nb : Int))))) (by kernel_rfl) (by simp; omega)) ?_
           refine wq_p 1 [(331, (Value.bool false))] ?_
           refine wl_end rfl ?_
           refine seq_n hK181 ?_
           refine wp_cond_false (by kernel_rfl) ?_
           refine wp_skip ?_
           refine blk_n ?_
           refine seq_n hK24 ?_
           refine wp_reset 399 [(0, (Value.slice A st.length c)), (3, (pt tb10 0)), (4, (Value.slice A1 nk c1)), (5, (Value.slice A2 nb c2)), (6, (Value.slice A3 ns c3)), (8, (pt g26 0)), (9, (pt g35 0)), (10, (pt g140 0)), (11, (pt g143 0)), (12, (Value.int .i64 ((z : Int)))), (34, (Value.bool false)), (37, (Value.bool (decide ((st.length : Int) > 60)))), (42, (Value.slice A st.length c)), (43, (Value.int .i64 ((st.length : Int)))), (44, (Value.int .i64 ((n : Int)))), (45, (Value.bool (decide ((n : Int) < (st.length : Int))))), (57, (Value.bool false)), (63, (Value.int .i64 xk)), (64, (Value.bool (xk == 0))), (76, (Value.bool (xk == 2))), (88, (Value.bool (xk == 2))), (105, (Value.slice A1 nk c1)), (106, (Value.int .i64 ((nk : Int)))), (107, (Value.int .i64 ((i : Int)))), (108, (Value.bool (decide ((i : Int) < (nk : Int))))), (119, (Value.bool (((z : Int)) == 0))), (129, (Value.bool false)), (331, (Value.bool false))] (fun x184 => ?_)
           refine reg_lit ?_
           refine wq_v (some 332) (Value.int .i64 ((n : Int) + 1)) (exec_add _ _ _ _ rfl ((n : Int)) 1 (by kernel_rfl) (by kernel_rfl) ((n : Int) + 1) rfl (by omega) (by omega) _) ?_
           refine wq_p 1 [(44, (Value.int .i64 ((n : Int) + 1)))] ?_
           refine wl_end rfl ?_
           refine ⟨st.length - (n + 1), (by omega), (n + 1), ks, bx, bv, ss, sv, s150, F150, A1, c1, A2, c2, A3, c3, nk, nb, ns, hI2, hB2, hS2, hbv, hsv, (by omega), (by omega), (by omega), (by omega), hbb, hnd, (by first | omega | (simp; omega)), (by first | omega | (simp; omega)), (by first | omega | (simp; omega)), rfl, (patch_eq _ 399 _ (by kernel_rfl) (by kernel_rfl) (by kernel_rfl)), h183.sel [4, 5, 6, 7] [1, 2, 3, 4] (by kernel_rfl) rfl rfl⟩
        ·
         refine wp_seq_k ?_
         intro K185 hK185
         refine reg_lit ?_
         refine wq_p 2 [(130, (Value.bool (xk == 3))), (131, (Value.bool (xk == 3)))] ?_
         refine wl_end rfl ?_
         refine seq_n hK185 ?_
         refine wp_ifeq xk 3 (by kernel_rfl) (fun b186 => ?_) (fun b186 => ?_)
         ·
          refine wp_seq_k ?_
          intro K187 hK187
          refine pR_go h36 11 (fun W => (rBlk g35 22 (vb (kl K34))).Φ W ∧ (rBlk g26 65 ([(Value.int .i64 xk), (Value.int .i64 xa), (Value.int .i64 xb), (Value.string xt), (Value.slice Ax xl.length cx)])).Φ W ∧ True) [(133, [5], 0), (134, [9], 0), (135, [8], 0), (136, [134], 4), (137, [], 0), (138, [8], 0), (139, [137], 32), (140, [136, 138], 80), (141, [133, 135, 139], 138), (142, [140], 256), (143, [132, 141], 641), (6, [142], 2047)] rfl (fun _ d _ _ _ h => by cases d <;> exact h) ?_
          intro hs188 w188 h188
          refine pR_p 9 [0, 2, 5] [(137, (pt g26 4)), (134, (pt g26 2)), (132, (Value.slice A2 nb c2))] 37 hs188 ⟨h188.at_ 0 rfl, h188.at_ 1 rfl, trivial⟩ ?_
          refine pR_v 1 (some 133) (Value.agg (vb (kl K34)).toArray) 39 rfl hs188 ⟨h188.at_ 0 rfl, h188.at_ 1 rfl, trivial⟩ (fun W hW => e_loads hW.1 22 (.tmp 9) (by kernel_rfl) 0 (vb (kl K34)) (by kernel_rfl) (by kernel_rfl) (by kernel_rfl)) ?_
          refine pR_v 3 (some 135) (Value.int .i64 xb) 47 rfl hs188 ⟨h188.at_ 0 rfl, h188.at_ 1 rfl, trivial⟩ (fun W hW => e_load hW.2.1 3 (.tmp 134) (by kernel_rfl) 2 (Value.int .i64 xb) (by kernel_rfl) (by kernel_rfl) (by kernel_rfl)) ?_
          refine pR_v 6 (some 138) (Value.slice Ax xl.length cx) 111 rfl hs188 ⟨h188.at_ 0 rfl, h188.at_ 1 rfl, trivial⟩ (fun W hW => e_load hW.2.1 28 (.tmp 137) (by kernel_rfl) 4 (Value.slice Ax xl.length cx) (by kernel_rfl) (by kernel_rfl) (by kernel_rfl)) ?_
          refine pR_to 4 (some 136) 127 rfl hs188 (x_bs0B h188 (by kernel_rfl)) ?_
          rintro _ w189 ⟨A189, rfl, h189⟩
          refine ⟨fun _ => ⟨h189.at_ 1 rfl, h189.at_ 2 rfl, trivial⟩, ?_⟩
          refine pR_to 7 (some 139) 255 rfl hs188 (x_appG h189 0 rfl (.tmp 136) (.tmp 138) (by kernel_rfl) (Value.slice Ax xl.length cx) (by kernel_rfl) (by kernel_rfl) (h189.rd 0 rfl) (by simp; omega) (xl) (xl.length) (by simp) rfl) ?_
          rintro _ w190 ⟨A190, c190, rfl, h190⟩
          refine ⟨fun _ => ⟨h190.at_ 1 rfl, h190.at_ 2 rfl, trivial⟩, ?_⟩
          refine pR_p 3 [8] [(140, (Value.agg (vb (kl K34) ++ [(Value.int .i64 xb), (Value.slice A190 xl.length c190)]).toArray))] 511 hs188 ⟨h190.at_ 1 rfl, h190.at_ 2 rfl, trivial⟩ ?_
          refine pR_to 9 (some 141) 1023 rfl hs188 (x_bs h190 56 (vb (kl K34) ++ [(Value.int .i64 xb), (Value.slice A190 xl.length c190)]) 1 (by kernel_rfl)) ?_
          rintro _ w191 ⟨g191, rfl, h191⟩
          refine ⟨fun _ => ⟨h191.at_ 2 rfl, h191.at_ 3 rfl, trivial⟩, ?_⟩
          refine pR_to 10 (some 142) 2047 rfl hs188 (x_pushG h191 5 0 rfl rfl (by kernel_rfl) (.tmp 132) (.tmp 141) 62 (by kernel_rfl) 48 (Value.agg (vb (List.replicate 16 0) ++ [(Value.int .i64 0), (Value.slice none 0 0)]).toArray) (by kernel_rfl) (by kernel_rfl) (by kernel_rfl) (by kernel_rfl) (by kernel_rfl) 1 (by kernel_rfl) (by kernel_rfl) (by kernel_rfl) (by simp; omega) (by unfold maxLen; simp; omega) (List.zipWith sealCells (bx ++ [(⟨kl K34, xb, xl⟩ : SSealed)]) (bv ++ [(Value.slice A190 xl.length c190)])) (nb + 1) (by rw [List.zipWith_append hbv.symm]; rfl) (by simp [hbv]; omega)) ?_
          rintro _ w192 ⟨A192, c192, rfl, h192⟩
          refine ⟨fun _ => ⟨h192.at_ 2 rfl, h192.at_ 3 rfl, trivial⟩, ?_⟩
          refine pR_to 11 (some 5) 4095 rfl hs188 (OpTo.run (Value.slice A192 (nb + 1) c192) (pureOp_run (by kernel_rfl) _) (R := fun v w => v = (Value.slice A192 (nb + 1) c192) ∧ w = w192) ⟨rfl, rfl⟩) ?_
          rintro _ _ ⟨rfl, rfl⟩
          refine ⟨fun h => absurd h (by decide), ?_⟩
          refine pR_done hs188 ?_ _
          refine seq_n hK187 ?_
          refine wp_seq_k ?_
          intro K193 hK193
          refine wp_reset 399 [(0, (Value.slice A st.length c)), (3, (pt tb10 0)), (4, (Value.slice A1 nk c1)), (5, (Value.slice A192 (nb + 1) c192)), (6, (Value.slice A3 ns c3)), (8, (pt g26 0)), (9, (pt g35 0)), (34, (Value.bool false)), (37, (Value.bool (decide ((st.length : Int) > 60)))), (42, (Value.slice A st.length c)), (43, (Value.int .i64 ((st.length : Int)))), (44, (Value.int .i64 ((n : Int)))), (45, (Value.bool (decide ((n : Int) < (st.length : Int))))), (57, (Value.bool false)), (63, (Value.int .i64 xk)), (64, (Value.bool (xk == 0))), (76, (Value.bool (xk == 2))), (130, (Value.bool (xk == 3)))] (fun x194 => ?_)
          have h192s := (h192.shareOB 1 rfl)
          have h192ss := h192s.snocSBs 4 0 rfl rfl (by simp [hbv])
          have h192ssr := h192ss
          rw [show bx.map (·.body) ++ [xl] = (bx ++ [(⟨kl K34, xb, xl⟩ : SSealed)]).map (·.body) by simp] at h192ssr
          refine reg_lit ?_
          refine wq_p 2 [(144, (Value.int .i64 ((nb + 1 : Int)))), (143, (Value.slice A192 (nb + 1) c192))] ?_
          refine wq_to (some 145) (x_lmark h192ssr 98 (nb + 1) (by kernel_rfl) (by omega)) ?_
          rintro _ w195 ⟨K195, rfl, hK195, h195⟩
          refine wq_to (some 15) (x_new h195 22 (vb (List.replicate 16 0)) (fun r => pt r 0) (by kernel_rfl)) ?_
          rintro _ w196 ⟨g196, rfl, h196⟩
          refine wq_to none (x_stores h196 0 rfl 22 (.tmp 15) (.tmp 145) (by kernel_rfl) 0 (vb (kl K195)) (vb (kl K195)) (by kernel_rfl) (by kernel_rfl) (by kernel_rfl) (by kernel_rfl) (by kernel_rfl) (by kernel_rfl)) ?_
          rintro _ w197 h197
          refine wl_end rfl ?_
          refine seq_n hK193 ?_
          refine wp_seq_k ?_
          intro K198 hK198
          refine pR_go h197 10 (fun W => (rBlk g35 22 (vb (kl K34))).Φ W ∧ (rBlk g26 65 ([(Value.int .i64 xk), (Value.int .i64 xa), (Value.int .i64 xb), (Value.string xt), (Value.slice Ax xl.length cx)])).Φ W ∧ True) [(147, [3], 0), (148, [9], 0), (149, [8], 0), (150, [148], 4), (151, [8], 0), (152, [150], 16), (153, [146, 147, 149, 151], 43), (154, [15], 0), (155, [152, 153], 192), (156, [154], 256)] rfl (fun _ d _ _ _ h => by cases d <;> exact h) ?_
          intro hs199 w199 h199
          refine pR_p 6 [0, 2, 4, 7] [(153, (Value.slice (some ⟨g196, 0, none⟩) 16 16)), (150, (pt g26 4)), (148, (pt g26 2)), (146, (pt tb10 0))] 149 hs199 ⟨h199.at_ 2 rfl, h199.at_ 3 rfl, trivial⟩ ?_
          refine pR_v 1 (some 147) (Value.agg (vb (kl K34)).toArray) 151 rfl hs199 ⟨h199.at_ 2 rfl, h199.at_ 3 rfl, trivial⟩ (fun W hW => e_loads hW.1 22 (.tmp 9) (by kernel_rfl) 0 (vb (kl K34)) (by kernel_rfl) (by kernel_rfl) (by kernel_rfl)) ?_
          refine pR_v 3 (some 149) (Value.int .i64 xb) 159 rfl hs199 ⟨h199.at_ 2 rfl, h199.at_ 3 rfl, trivial⟩ (fun W hW => e_load hW.2.1 3 (.tmp 148) (by kernel_rfl) 2 (Value.int .i64 xb) (by kernel_rfl) (by kernel_rfl) (by kernel_rfl)) ?_
          refine pR_v 5 (some 151) (Value.slice Ax xl.length cx) 191 rfl hs199 ⟨h199.at_ 2 rfl, h199.at_ 3 rfl, trivial⟩ (fun W hW => e_load hW.2.1 28 (.tmp 150) (by kernel_rfl) 4 (Value.slice Ax xl.length cx) (by kernel_rfl) (by kernel_rfl) (by kernel_rfl)) ?_
          refine pR_to 6 (some 152) 255 rfl hs199 (x_seal h199 7 rfl K34 xb xl (Value.slice Ax xl.length cx) (by kernel_rfl) (h199.rd 2 rfl) (by omega) (by omega)) ?_
          rintro _ w200 ⟨A200, c200, F200, s200, rfl, hs200, h200⟩
          refine ⟨fun _ => ⟨h200.at_ 2 rfl, h200.at_ 3 rfl, trivial⟩, ?_⟩
          have e200 := seal_all hs200
          have hx200 : s200.boxes.length = s.boxes.length + 1 := by rw [e200.1]; simp
          have hu200 : s200.sums.length = s.sums.length := by rw [e200.2.1]
          have hk200 : s200.keys.length = s.keys.length := by rw [e200.2.2.1]
          refine pR_to 8 (some 154) 511 rfl hs199 (x_same h200 (mkB 98 (s.boxes.length + 1)) (kl K195) (Value.slice A200 16 c200) (Value.slice (some ⟨g196, 0, none⟩) 16 16) (by kernel_rfl) (h200.rd 0 rfl) (SB.blk16 (K := K195) (h200.at_ 0 rfl)) true (by rw [hK195, show s.boxes.length = nb by omega]; simp)) ?_
          rintro _ w201 ⟨rfl, h201⟩
          refine ⟨fun _ => ⟨h201.at_ 2 rfl, h201.at_ 3 rfl, trivial⟩, ?_⟩
          refine pR_p 0 [9] [(155, (Value.bool false))] 1023 hs199 ⟨h201.at_ 2 rfl, h201.at_ 3 rfl, trivial⟩ ?_
          refine pR_done hs199 ?_ _
          refine seq_n hK198 ?_
          refine wp_cond_false (by kernel_rfl) ?_
          refine wp_skip ?_
          refine blk_n ?_
          refine seq_n hK37 ?_
          refine wp_seq_k ?_
          intro K202 hK202
          have hI2 : Inv (ks) s200 := (hI.same e200.2.2.1 e200.2.2.2)
          have hB2 : s200.boxes = bx ++ [(⟨kl K34, xb, xl⟩ : SSealed)] := (by rw [e200.1, hB])
          have hS2 : s200.sums = ss := (e200.2.1.trans hS)
          have hkl2 := hI2.len
          have hbl2 : s200.boxes.length = (bx ++ [(⟨kl K34, xb, xl⟩ : SSealed)] : List SSealed).length := by rw [hB2]
          try simp only [List.length_append, List.length_cons, List.length_nil] at hkl2 hbl2
          refine reg_lit ?_
          refine wq_p 1 [(320, (pt tb10 0))] ?_
          refine wq_to (some 321) (x_nkeys h201 7 rfl (by kernel_rfl)) ?_
          rintro _ w203 ⟨rfl, h203⟩
          refine wq_p 2 [(323, (Value.int .i64 ((nk : Int)))), (322, (Value.slice A1 nk c1))] ?_
          refine wq_v (some 324) (.bool false) (eq_is (v := (Value.bool (((s200.keys.length : Int)) != ((nk : Int))))) (by kernel_rfl) (by simp; omega)) ?_
          refine wq_p 2 [(326, (pt tb10 0)), (325, (Value.bool false))] ?_
          refine wq_to (some 327) (x_nboxes h203 7 rfl (by kernel_rfl)) ?_
          rintro _ w204 ⟨rfl, h204⟩
          refine wq_p 2 [(329, (Value.int .i64 ((nb + 1 : Int)))), (328, (Value.slice A192 (nb + 1) c192))] ?_
          refine wq_v (some 330) (.bool false) (eq_is (v := (Value.bool (((s200.boxes.length : Int)) != ((nb + 1 : Int))))) (by kernel_rfl) (by simp; omega)) ?_
          refine wq_p 1 [(331, (Value.bool false))] ?_
          refine wl_end rfl ?_
          refine seq_n hK202 ?_
          refine wp_cond_false (by kernel_rfl) ?_
          refine wp_skip ?_
          refine blk_n ?_
          refine seq_n hK24 ?_
          refine wp_reset 399 [(0, (Value.slice A st.length c)), (3, (pt tb10 0)), (4, (Value.slice A1 nk c1)), (5, (Value.slice A192 (nb + 1) c192)), (6, (Value.slice A3 ns c3)), (8, (pt g26 0)), (9, (pt g35 0)), (15, (pt g196 0)), (34, (Value.bool false)), (37, (Value.bool (decide ((st.length : Int) > 60)))), (42, (Value.slice A st.length c)), (43, (Value.int .i64 ((st.length : Int)))), (44, (Value.int .i64 ((n : Int)))), (45, (Value.bool (decide ((n : Int) < (st.length : Int))))), (57, (Value.bool false)), (63, (Value.int .i64 xk)), (64, (Value.bool (xk == 0))), (76, (Value.bool (xk == 2))), (130, (Value.bool (xk == 3))), (155, (Value.bool false)), (331, (Value.bool false))] (fun x205 => ?_)
          refine reg_lit ?_
          refine wq_v (some 332) (Value.int .i64 ((n : Int) + 1)) (exec_add _ _ _ _ rfl ((n : Int)) 1 (by kernel_rfl) (by kernel_rfl) ((n : Int) + 1) rfl (by omega) (by omega) _) ?_
          refine wq_p 1 [(44, (Value.int .i64 ((n : Int) + 1)))] ?_
          refine wl_end rfl ?_
          refine ⟨st.length - (n + 1), (by omega), (n + 1), ks, (bx ++ [(⟨kl K34, xb, xl⟩ : SSealed)]), (bv ++ [(Value.slice A190 xl.length c190)]), ss, sv, s200, F200, A1, c1, A192, c192, A3, c3, nk, (nb + 1), ns, hI2, hB2, hS2, (by simp [hbv]), hsv, (by omega), (by simp; omega), (by omega), (by omega), (by intro x hx; rcases List.mem_append.1 hx with hx | hx; exact hbb x hx; have hy := List.mem_singleton.1 hx; subst hy; show xl.length ≤ 1000000; omega), hnd, (by first | omega | (simp; omega)), (by first | omega | (simp; omega)), (by first | omega | (simp; omega)), rfl, (patch_eq _ 399 _ (by kernel_rfl) (by kernel_rfl) (by kernel_rfl)), h204.sel [4, 5, 6, 7] [4, 5, 1, 7] (by kernel_rfl) rfl rfl⟩
         ·
          refine wp_seq_k ?_
          intro K206 hK206
          refine reg_lit ?_
          refine wq_p 2 [(156, (Value.bool (xk == 4))), (157, (Value.bool (xk == 4)))] ?_
          refine wl_end rfl ?_
          refine seq_n hK206 ?_
          refine wp_ifeq xk 4 (by kernel_rfl) (fun b207 => ?_) (fun b207 => ?_)
          ·
           refine wp_seq_k ?_
           intro K208 hK208
           refine reg_lit ?_
           refine wq_p 1 [(158, (pt g26 2))] ?_
           refine wq_v (some 159) (Value.int .i64 xb) (e_load (h36.at_ 1 rfl) 3 (.tmp 158) (by kernel_rfl) 2 (Value.int .i64 xb) (by kernel_rfl) (by kernel_rfl) (by kernel_rfl)) ?_
           obtain ⟨M209, hM209, hb209⟩ := and_mask xb 31 (by decide)
           refine wq_v (some 160) (Value.int .i64 ((M209 : Int))) (eq_is (v := Value.int .i64 (bits .and .i64 xb 31)) (by kernel_rfl) (congrArg (Value.int .i64) hM209)) ?_
           refine wq_to (some 161) (x_lmark h36 98 (M209) (by kernel_rfl) (by omega)) ?_
           rintro _ w210 ⟨K210, rfl, hK210, h210⟩
           refine wq_to (some 16) (x_new h210 22 (vb (List.replicate 16 0)) (fun r => pt r 0) (by kernel_rfl)) ?_
           rintro _ w211 ⟨g211, rfl, h211⟩
           refine wq_to none (x_stores h211 0 rfl 22 (.tmp 16) (.tmp 161) (by kernel_rfl) 0 (vb (kl K210)) (vb (kl K210)) (by kernel_rfl) (by kernel_rfl) (by kernel_rfl) (by kernel_rfl) (by kernel_rfl) (by kernel_rfl)) ?_
           rintro _ w212 h212
           refine wl_end rfl ?_
           refine seq_n hK208 ?_
           refine wp_seq_k ?_
           intro K213 hK213
           have h46 : (M209 = 0 ∨ bx.length < M209) ∨ ∃ Ab cb lb Kb ub_, 1 ≤ M209 ∧ M209 ≤ bx.length ∧ bv[M209 - 1]? = some (Value.slice Ab lb.length cb) ∧ (bx.map (·.body))[M209 - 1]? = some lb ∧ bx[M209 - 1]? = some ⟨kl Kb, ub_, lb⟩ := by
             by_cases h1 : M209 = 0 ∨ bx.length < M209
             · exact .inl h1
             · right
               obtain ⟨Ab, cb, lb, hbvx, hlbx⟩ := sbs_get (h212.rd 3 rfl) (by simp [hbv]) (M209 - 1) (by simp; omega)
               obtain ⟨Kb, ub_, hbx⟩ := seal_get (h212.tabW 6 rfl).1 hB (M209 - 1) hlbx
               exact ⟨Ab, cb, lb, Kb, ub_, by omega, by omega, hbvx, hlbx, hbx⟩
           rcases h46 with (hM0 | hM1) | ⟨Ab, cb, lb, Kb, ub_, hM2, hM3, hbvx, hlbx, hbx⟩
           ·
            refine wp_reset 399 [(0, (Value.slice A st.length c)), (3, (pt tb10 0)), (4, (Value.slice A1 nk c1)), (5, (Value.slice A2 nb c2)), (6, (Value.slice A3 ns c3)), (8, (pt g26 0)), (9, (pt g35 0)), (16, (pt g211 0)), (34, (Value.bool false)), (37, (Value.bool (decide ((st.length : Int) > 60)))), (42, (Value.slice A st.length c)), (43, (Value.int .i64 ((st.length : Int)))), (44, (Value.int .i64 ((n : Int)))), (45, (Value.bool (decide ((n : Int) < (st.length : Int))))), (57, (Value.bool false)), (63, (Value.int .i64 xk)), (64, (Value.bool (xk == 0))), (76, (Value.bool (xk == 2))), (130, (Value.bool (xk == 3))), (156, (Value.bool (xk == 4)))] (fun x215 => ?_)
            have hbox : s.box (mkB 98 M209) = none := by rw [hM0]; exact box_zero s
            refine pR_go h212 11 (fun W => (rBlk g35 22 (vb (kl K34))).Φ W ∧ (rBlk g26 65 ([(Value.int .i64 xk), (Value.int .i64 xa), (Value.int .i64 xb), (Value.string xt), (Value.slice Ax xl.length cx)])).Φ W ∧ True) [(164, [3], 0), (165, [9], 0), (166, [8], 0), (167, [165], 4), (168, [166], 8), (169, [16], 0), (170, [163, 164, 167, 168], 51), (163, [169], 64), (171, [162], 128), (172, [162], 128), (18, [170], 511), (19, [171], 2047)] rfl (fun _ d _ _ _ h => by cases d <;> exact h) ?_
            intro hs216 w216 h216
            refine pR_p 9 [0, 2, 5] [(168, (Value.slice (some ⟨g211, 0, none⟩) 16 16)), (165, (pt g26 3)), (163, (pt tb10 0))] 37 hs216 ⟨h216.at_ 1 rfl, h216.at_ 2 rfl, trivial⟩ ?_
            refine pR_v 1 (some 164) (Value.agg (vb (kl K34)).toArray) 39 rfl hs216 ⟨h216.at_ 1 rfl, h216.at_ 2 rfl, trivial⟩ (fun W hW => e_loads hW.1 22 (.tmp 9) (by kernel_rfl) 0 (vb (kl K34)) (by kernel_rfl) (by kernel_rfl) (by kernel_rfl)) ?_
            refine pR_v 3 (some 166) (Value.string xt) 47 rfl hs216 ⟨h216.at_ 1 rfl, h216.at_ 2 rfl, trivial⟩ (fun W hW => e_load hW.2.1 9 (.tmp 165) (by kernel_rfl) 3 (Value.string xt) (by kernel_rfl) (by kernel_rfl) (by kernel_rfl)) ?_
            refine pR_p 6 [4] [(167, (Value.int .i64 (((xt).size : Int))))] 63 hs216 ⟨h216.at_ 1 rfl, h216.at_ 2 rfl, trivial⟩ ?_
            refine pR_to 6 (some 169) 127 rfl hs216 (x_open h216 6 rfl K34 (((xt).size : Int)) (kl K210) (Value.slice (some ⟨g211, 0, none⟩) 16 16) none (by kernel_rfl) (SB.blk16 (K := K210) (h216.at_ 0 rfl)) (by rw [hB]; exact hbb) (h216.tabW 6 rfl).1 (by omega) (open_none (by rw [hK210]; exact hbox))) ?_
            rintro _ w217 ⟨A217, c217, rfl, h217⟩
            refine ⟨fun _ => ⟨h217.at_ 2 rfl, h217.at_ 3 rfl, trivial⟩, ?_⟩
            refine pR_p 1 [7, 8, 9, 10] [(17, (Value.slice A217 0 c217)), (171, (Value.bool false)), (170, (Value.slice A217 0 c217)), (162, (Value.tuple #[(Value.slice A217 0 c217), (Value.bool false)]))] 2047 hs216 ⟨h217.at_ 2 rfl, h217.at_ 3 rfl, trivial⟩ ?_
            refine pR_to 11 (some 18) 4095 rfl hs216 (OpTo.run (Value.bool false) (pureOp_run (by kernel_rfl) _) (R := fun v w => v = (Value.bool false) ∧ w = w217) ⟨rfl, rfl⟩) ?_
            rintro _ _ ⟨rfl, rfl⟩
            refine ⟨fun h => absurd h (by decide), ?_⟩
            refine pR_done hs216 ?_ _
            refine seq_n hK213 ?_
            refine wp_seq_k ?_
            intro K218 hK218
            refine reg_lit ?_
            refine wq_p 1 [(172, (pt g26 2))] ?_
            refine wq_v (some 173) (Value.int .i64 xb) (e_load (h217.at_ 3 rfl) 3 (.tmp 172) (by kernel_rfl) 2 (Value.int .i64 xb) (by kernel_rfl) (by kernel_rfl) (by kernel_rfl)) ?_
            refine wq_v (some 174) (Value.int .i64 ((M209 : Int))) (eq_is (v := Value.int .i64 (bits .and .i64 xb 31)) (by kernel_rfl) (congrArg (Value.int .i64) hM209)) ?_
            refine wq_p 1 [(19, (Value.int .i64 ((M209 : Int))))] ?_
            refine wl_end rfl ?_
            refine seq_n hK218 ?_
            refine wp_seq_k ?_
            intro K219 hK219
            refine pR_go h217 30 (fun W => True) [(176, [19], 0), (177, [175], 1), (178, [176], 2), (179, [19, 177], 4), (180, [5, 177], 4), (181, [179, 177], 20), (182, [178, 180, 177], 44), (183, [177, 181], 68), (184, [182], 132), (185, [5, 183], 256), (186, [19, 183], 256), (187, [185, 183], 1280), (188, [184, 186, 183], 2816), (189, [187, 183], 4352), (190, [188, 183], 8448), (191, [9, 183], 256), (192, [189, 190, 183], 49408), (193, [183, 191], 65792), (194, [192], 131328), (195, [5, 193], 262144), (196, [19, 193], 262144), (197, [195, 193], 1310720), (198, [194, 196, 193], 2883584), (199, [197, 193], 4456448), (200, [198, 193], 8650752), (201, [8, 193], 262144), (202, [200, 193], 33816576), (203, [201, 193], 67371008), (204, [199, 202, 193], 151257088), (205, [193, 203], 268697600), (21, [204], 1073741823)] rfl (fun _ d _ _ _ h => by cases d <;> exact h) ?_
            intro hs220 w220 h220
            refine pR_p 30 [0] [(175, (Value.int .i64 ((M209 : Int))))] 1 hs220 trivial ?_
            refine pR_v 1 (some 176) (Value.bool false) 3 rfl hs220 trivial (fun W hW => eq_is (v := (Value.bool (decide ((M209 : Int) ≥ 1)))) (by kernel_rfl) (by simp; omega)) ?_
            refine pR_p 1 [2, 3, 4, 5, 6, 7, 8, 9, 10, 11, 12, 13, 14, 15, 16, 17, 18, 19, 20, 21, 22, 23, 24, 25, 26, 27, 28, 29] [(204, (Value.bool false)), (203, undef), (202, undef), (201, undef), (200, undef), (199, undef), (198, undef), (197, undef), (196, undef), (195, undef), (194, undef), (193, (Value.bool false)), (192, (Value.bool false)), (191, undef), (190, undef), (189, undef), (188, undef), (187, undef), (186, undef), (185, undef), (184, undef), (183, (Value.bool false)), (182, (Value.bool false)), (181, undef), (180, undef), (179, undef), (178, undef), (177, (Value.bool false))] 1073741823 hs220 trivial ?_
            refine pR_to 30 (some 20) 2147483647 rfl hs220 (OpTo.run (Value.bool false) (pureOp_run (by kernel_rfl) _) (R := fun v w => v = (Value.bool false) ∧ w = w220) ⟨rfl, rfl⟩) ?_
            rintro _ _ ⟨rfl, rfl⟩
            refine ⟨fun h => absurd h (by decide), ?_⟩
            refine pR_done hs220 ?_ _
            refine seq_n hK219 ?_
            refine wp_seq_k ?_
            intro K221 hK221
            refine wp_seq_k ?_
            intro K222 hK222
            refine reg_lit ?_
            refine wq_p 26 [(230, (Value.bool false)), (229, (Value.bool false)), (228, (Value.bool false)), (227, (Value.int .i64 0)), (226, (Value.slice A217 0 c217)), (225, (Value.bool true)), (224, (Value.bool true)), (223, (Value.bool false)), (222, (Value.bool false)), (221, (Value.bool false)), (220, (Value.bool false)), (219, undef), (218, undef), (217, undef), (216, undef), (215, undef), (214, undef), (213, undef), (212, undef), (211, undef), (210, (Value.bool false)), (209, (Value.bool false)), (208, (Value.bool false)), (207, (Value.bool false)), (206, (Value.bool false)), (205, (Value.bool false))] ?_
            refine wl_end rfl ?_
            refine seq_n hK222 ?_
            refine wp_cond_false (by kernel_rfl) ?_
            refine wp_skip ?_
            refine seq_n hK221 ?_
            refine wp_seq_k ?_
            intro K223 hK223
            refine reg_lit ?_
            refine wq_p 2 [(233, (Value.slice (some ⟨g211, 0, none⟩) 16 16)), (232, (pt tb10 0))] ?_
            refine wq_to (some 234) (x_boxN h220 7 rfl (kl K210) (Value.slice (some ⟨g211, 0, none⟩) 16 16) (by kernel_rfl) (SB.blk16 (K := K210) (h220.at_ 1 rfl)) (by rw [hB]; exact hbb) (h220.tabW 7 rfl).1 (by omega) (by rw [hK210]; exact hbox)) ?_
            rintro _ w224 ⟨A224, c224, rfl, h224⟩
            refine wq_p 3 [(236, (Value.bool false)), (235, (Value.agg (vb zKey ++ [(Value.int .i64 0), (Value.slice A224 0 c224)]).toArray)), (231, (Value.tuple #[(Value.agg (vb zKey ++ [(Value.int .i64 0), (Value.slice A224 0 c224)]).toArray), (Value.bool false)]))] ?_
            refine wq_to (some 21) (x_new h224 56 (vb (List.replicate 16 0) ++ [(Value.int .i64 0), (Value.slice none 0 0)]) (fun r => pt r 0) (by kernel_rfl)) ?_
            rintro _ w225 ⟨g225, rfl, h225⟩
            refine wq_to none (x_stores h225 0 rfl 56 (.tmp 21) (.tmp 235) (by kernel_rfl) 0 (vb zKey ++ [(Value.int .i64 0), (Value.slice A224 0 c224)]) (vb zKey ++ [(Value.int .i64 0), (Value.slice A224 0 c224)]) (by kernel_rfl) (by kernel_rfl) (by kernel_rfl) (by kernel_rfl) (by kernel_rfl) (by kernel_rfl)) ?_
            rintro _ w226 h226
            refine wq_p 1 [(22, (Value.bool false))] ?_
            refine wl_end rfl ?_
            refine seq_n hK223 ?_
            refine wp_seq_k ?_
            intro K227 hK227
            refine wp_reset 399 [(0, (Value.slice A st.length c)), (3, (pt tb10 0)), (4, (Value.slice A1 nk c1)), (5, (Value.slice A2 nb c2)), (6, (Value.slice A3 ns c3)), (8, (pt g26 0)), (9, (pt g35 0)), (16, (pt g211 0)), (17, (Value.slice A217 0 c217)), (18, (Value.bool false)), (19, (Value.int .i64 ((M209 : Int)))), (20, (Value.bool false)), (21, (pt g225 0)), (22, (Value.bool false)), (34, (Value.bool false)), (37, (Value.bool (decide ((st.length : Int) > 60)))), (42, (Value.slice A st.length c)), (43, (Value.int .i64 ((st.length : Int)))), (44, (Value.int .i64 ((n : Int)))), (45, (Value.bool (decide ((n : Int) < (st.length : Int))))), (57, (Value.bool false)), (63, (Value.int .i64 xk)), (64, (Value.bool (xk == 0))), (76, (Value.bool (xk == 2))), (130, (Value.bool (xk == 3))), (156, (Value.bool (xk == 4))), (230, (Value.bool false))] (fun x228 => ?_)
            refine pR_go h226 47 (fun W => True) [(238, [22], 0), (239, [19], 0), (240, [238], 2), (241, [239], 4), (242, [19, 240], 8), (243, [5, 240], 8), (244, [242, 240], 40), (245, [241, 243, 240], 88), (246, [240, 244], 136), (247, [237, 245], 257), (248, [246], 520), (249, [22, 247], 1024), (250, [248, 247], 3072), (251, [21, 249], 4096), (252, [250, 249], 12288), (253, [5, 249], 4096), (254, [19, 249], 4096), (255, [253, 249], 69632), (256, [252, 254, 249], 167936), (257, [255, 249], 266240), (258, [256, 249], 528384), (259, [251, 257, 249], 1069056), (260, [258, 249], 2101248), (261, [21, 259], 4194304), (262, [260, 259], 12582912), (263, [5, 259], 4194304), (264, [19, 259], 4194304), (265, [263, 259], 71303168), (266, [262, 264, 259], 171966464), (267, [265, 259], 272629760), (268, [266, 259], 541065216), (269, [261, 267, 259], 1094713344), (270, [259, 268, 249], 2151682048), (271, [269, 249], 4299165696), (272, [21, 270], 8589934592), (273, [271, 270], 25769803776), (274, [5, 270], 8589934592), (275, [19, 270], 8589934592), (276, [274, 270], 146028888064), (277, [273, 275, 270], 352187318272), (278, [276, 270], 558345748480), (279, [277, 270], 1108101562368), (280, [272, 278, 270], 2241972928512), (281, [279, 270], 4406636445696), (282, [270, 280, 249], 8804682960896), (283, [249, 281, 247], 17592186049536), (284, [247, 282], 35184372089856)] rfl (fun _ d _ _ _ h => by cases d <;> exact h) ?_
            intro hs229 w229 h229
            refine pR_p 45 [0, 1] [(238, (Value.int .i64 ((M209 : Int)))), (237, (Value.bool false))] 3 hs229 trivial ?_
            refine pR_v 2 (some 239) (Value.bool false) 7 rfl hs229 trivial (fun W hW => eq_is (v := (Value.bool (decide ((M209 : Int) ≥ 1)))) (by kernel_rfl) (by simp; omega)) ?_
            refine pR_p 0 [3, 4, 5, 6, 7, 8, 9, 10, 11, 12, 13, 14, 15, 16, 17, 18, 19, 20, 21, 22, 23, 24, 25, 26, 27, 28, 29, 30, 31, 32, 33, 34, 35, 36, 37, 38, 39, 40, 41, 42, 43, 44, 45, 46] [(283, (Value.bool false)), (282, (Value.bool false)), (281, undef), (280, undef), (279, undef), (278, undef), (277, undef), (276, undef), (275, undef), (274, undef), (273, undef), (272, undef), (271, undef), (270, undef), (269, undef), (268, undef), (267, undef), (266, undef), (265, undef), (264, undef), (263, undef), (262, undef), (261, undef), (260, undef), (259, undef), (258, undef), (257, undef), (256, undef), (255, undef), (254, undef), (253, undef), (252, undef), (251, undef), (250, undef), (249, (Value.bool false)), (248, (Value.bool false)), (247, (Value.bool false)), (246, (Value.bool false)), (245, (Value.bool false)), (244, undef), (243, undef), (242, undef), (241, undef), (240, (Value.bool false))] 140737488355327 hs229 trivial ?_
            refine pR_done hs229 ?_ _
            refine seq_n hK227 ?_
            refine wp_cond_false (by kernel_rfl) ?_
            refine wp_skip ?_
            refine blk_n ?_
            refine seq_n hK37 ?_
            refine wp_seq_k ?_
            intro K230 hK230
            have hI2 : Inv (ks) s := hI
            have hB2 : s.boxes = bx := hB
            have hS2 : s.sums = ss := hS
            have hkl2 := hI2.len
            have hbl2 : s.boxes.length = (bx : List SSealed).length := by rw [hB2]
            refine reg_lit ?_
            refine wq_p 1 [(320, (pt tb10 0))] ?_
            refine wq_to (some 321) (x_nkeys h229 8 rfl (by kernel_rfl)) ?_
            rintro _ w231 ⟨rfl, h231⟩
            refine wq_p 2 [(323, (Value.int .i64 ((nk : Int)))), (322, (Value.slice A1 nk c1))] ?_
            refine wq_v (some 324) (.bool false) (eq_is (v := (Value.bool (((s.keys.length : Int)) != ((nk : Int))))) (by kernel_rfl) (by simp; omega)) ?_
            refine wq_p 2 [(326, (pt tb10 0)), (325, (Value.bool false))] ?_
            refine wq_to (some 327) (x_nboxes h231 8 rfl (by kernel_rfl)) ?_
            rintro _ w232 ⟨rfl, h232⟩
            refine wq_p 2 [(329, (Value.int .i64 ((nb : Int)))), (328, (Value.slice A2 nb c2))] ?_
            refine wq_v (some 330) (.bool false) (eq_is (v := (Value.bool (((s.boxes.length : Int)) != ((nb : Int))))) (by kernel_rfl) (by simp; omega)) ?_
            refine wq_p 1 [(331, (Value.bool false))] ?_
            refine wl_end rfl ?_
            refine seq_n hK230 ?_
            refine wp_cond_false (by kernel_rfl) ?_
            refine wp_skip ?_
            refine blk_n ?_
            refine seq_n hK24 ?_
            refine reg_lit ?_
            refine wq_v (some 332) (Value.int .i64 ((n : Int) + 1)) (exec_add _ _ _ _ rfl ((n : Int)) 1 (by kernel_rfl) (by kernel_rfl) ((n : Int) + 1) rfl (by omega) (by omega) _) ?_
            refine wq_p 1 [(44, (Value.int .i64 ((n : Int) + 1)))] ?_
            refine wl_end rfl ?_
            refine ⟨st.length - (n + 1), (by omega), (n + 1), ks, bx, bv, ss, sv, s, F, A1, c1, A2, c2, A3, c3, nk, nb, ns, hI2, hB2, hS2, hbv, hsv, (by omega), (by omega), (by omega), (by omega), hbb, hnd, (by first | omega | (simp; omega)), (by first | omega | (simp; omega)), (by first | omega | (simp; omega)), rfl, (patch_eq _ 399 _ (by kernel_rfl) (by kernel_rfl) (by kernel_rfl)), h232.sel [5, 6, 7, 8] [1, 2, 3, 4] (by kernel_rfl) rfl rfl⟩
           ·
            refine wp_reset 399 [(0, (Value.slice A st.length c)), (3, (pt tb10 0)), (4, (Value.slice A1 nk c1)), (5, (Value.slice A2 nb c2)), (6, (Value.slice A3 ns c3)), (8, (pt g26 0)), (9, (pt g35 0)), (16, (pt g211 0)), (34, (Value.bool false)), (37, (Value.bool (decide ((st.length : Int) > 60)))), (42, (Value.slice A st.length c)), (43, (Value.int .i64 ((st.length : Int)))), (44, (Value.int .i64 ((n : Int)))), (45, (Value.bool (decide ((n : Int) < (st.length : Int))))), (57, (Value.bool false)), (63, (Value.int .i64 xk)), (64, (Value.bool (xk == 0))), (76, (Value.bool (xk == 2))), (130, (Value.bool (xk == 3))), (156, (Value.bool (xk == 4)))] (fun x233 => ?_)
            have hbox : s.box (mkB 98 M209) = none := box_behind (by rw [hB]; exact hM1) (by omega)
            refine pR_go h212 11 (fun W => (rBlk g35 22 (vb (kl K34))).Φ W ∧ (rBlk g26 65 ([(Value.int .i64 xk), (Value.int .i64 xa), (Value.int .i64 xb), (Value.string xt), (Value.slice Ax xl.length cx)])).Φ W ∧ True) [(164, [3], 0), (165, [9], 0), (166, [8], 0), (167, [165], 4), (168, [166], 8), (169, [16], 0), (170, [163, 164, 167, 168], 51), (163, [169], 64), (171, [162], 128), (172, [162], 128), (18, [170], 511), (19, [171], 2047)] rfl (fun _ d _ _ _ h => by cases d <;> exact h) ?_
            intro hs234 w234 h234
            refine pR_p 9 [0, 2, 5] [(168, (Value.slice (some ⟨g211, 0, none⟩) 16 16)), (165, (pt g26 3)), (163, (pt tb10 0))] 37 hs234 ⟨h234.at_ 1 rfl, h234.at_ 2 rfl, trivial⟩ ?_
            refine pR_v 1 (some 164) (Value.agg (vb (kl K34)).toArray) 39 rfl hs234 ⟨h234.at_ 1 rfl, h234.at_ 2 rfl, trivial⟩ (fun W hW => e_loads hW.1 22 (.tmp 9) (by kernel_rfl) 0 (vb (kl K34)) (by kernel_rfl) (by kernel_rfl) (by kernel_rfl)) ?_
            refine pR_v 3 (some 166) (Value.string xt) 47 rfl hs234 ⟨h234.at_ 1 rfl, h234.at_ 2 rfl, trivial⟩ (fun W hW => e_load hW.2.1 9 (.tmp 165) (by kernel_rfl) 3 (Value.string xt) (by kernel_rfl) (by kernel_rfl) (by kernel_rfl)) ?_
            refine pR_p 6 [4] [(167, (Value.int .i64 (((xt).size : Int))))] 63 hs234 ⟨h234.at_ 1 rfl, h234.at_ 2 rfl, trivial⟩ ?_
            refine pR_to 6 (some 169) 127 rfl hs234 (x_open h234 6 rfl K34 (((xt).size : Int)) (kl K210) (Value.slice (some ⟨g211, 0, none⟩) 16 16) none (by kernel_rfl) (SB.blk16 (K := K210) (h234.at_ 0 rfl)) (by rw [hB]; exact hbb) (h234.tabW 6 rfl).1 (by omega) (open_none (by rw [hK210]; exact hbox))) ?_
            rintro _ w235 ⟨A235, c235, rfl, h235⟩
            refine ⟨fun _ => ⟨h235.at_ 2 rfl, h235.at_ 3 rfl, trivial⟩, ?_⟩
            refine pR_p 1 [7, 8, 9, 10] [(17, (Value.slice A235 0 c235)), (171, (Value.bool false)), (170, (Value.slice A235 0 c235)), (162, (Value.tuple #[(Value.slice A235 0 c235), (Value.bool false)]))] 2047 hs234 ⟨h235.at_ 2 rfl, h235.at_ 3 rfl, trivial⟩ ?_
            refine pR_to 11 (some 18) 4095 rfl hs234 (OpTo.run (Value.bool false) (pureOp_run (by kernel_rfl) _) (R := fun v w => v = (Value.bool false) ∧ w = w235) ⟨rfl, rfl⟩) ?_
            rintro _ _ ⟨rfl, rfl⟩
            refine ⟨fun h => absurd h (by decide), ?_⟩
            refine pR_done hs234 ?_ _
            refine seq_n hK213 ?_
            refine wp_seq_k ?_
            intro K236 hK236
            refine reg_lit ?_
            refine wq_p 1 [(172, (pt g26 2))] ?_
            refine wq_v (some 173) (Value.int .i64 xb) (e_load (h235.at_ 3 rfl) 3 (.tmp 172) (by kernel_rfl) 2 (Value.int .i64 xb) (by kernel_rfl) (by kernel_rfl) (by kernel_rfl)) ?_
            refine wq_v (some 174) (Value.int .i64 ((M209 : Int))) (eq_is (v := Value.int .i64 (bits .and .i64 xb 31)) (by kernel_rfl) (congrArg (Value.int .i64) hM209)) ?_
            refine wq_p 1 [(19, (Value.int .i64 ((M209 : Int))))] ?_
            refine wl_end rfl ?_
            refine seq_n hK236 ?_
            refine wp_seq_k ?_
            intro K237 hK237
            refine pR_go h235 30 (fun W => True) [(176, [19], 0), (177, [175], 1), (178, [176], 2), (179, [19, 177], 4), (180, [5, 177], 4), (181, [179, 177], 20), (182, [178, 180, 177], 44), (183, [177, 181], 68), (184, [182], 132), (185, [5, 183], 256), (186, [19, 183], 256), (187, [185, 183], 1280), (188, [184, 186, 183], 2816), (189, [187, 183], 4352), (190, [188, 183], 8448), (191, [9, 183], 256), (192, [189, 190, 183], 49408), (193, [183, 191], 65792), (194, [192], 131328), (195, [5, 193], 262144), (196, [19, 193], 262144), (197, [195, 193], 1310720), (198, [194, 196, 193], 2883584), (199, [197, 193], 4456448), (200, [198, 193], 8650752), (201, [8, 193], 262144), (202, [200, 193], 33816576), (203, [201, 193], 67371008), (204, [199, 202, 193], 151257088), (205, [193, 203], 268697600), (21, [204], 1073741823)] rfl (fun _ d _ _ _ h => by cases d <;> exact h) ?_
            intro hs238 w238 h238
            refine pR_p 30 [0] [(175, (Value.int .i64 ((M209 : Int))))] 1 hs238 trivial ?_
            refine pR_v 1 (some 176) (Value.bool true) 3 rfl hs238 trivial (fun W hW => eq_is (v := (Value.bool (decide ((M209 : Int) ≥ 1)))) (by kernel_rfl) (by simp; omega)) ?_
            refine pR_p 25 [2, 3, 4, 5] [(180, (Value.int .i64 ((nb : Int)))), (179, (Value.slice A2 nb c2)), (178, (Value.int .i64 ((M209 : Int)))), (177, (Value.bool true))] 63 hs238 trivial ?_
            refine pR_v 6 (some 181) (Value.bool false) 127 rfl hs238 trivial (fun W hW => eq_is (v := (Value.bool (decide ((M209 : Int) ≤ (nb : Int))))) (by kernel_rfl) (by simp; omega)) ?_
            refine pR_p 1 [7, 8, 9, 10, 11, 12, 13, 14, 15, 16, 17, 18, 19, 20, 21, 22, 23, 24, 25, 26, 27, 28, 29] [(204, (Value.bool false)), (203, undef), (202, undef), (201, undef), (200, undef), (199, undef), (198, undef), (197, undef), (196, undef), (195, undef), (194, undef), (193, (Value.bool false)), (192, (Value.bool false)), (191, undef), (190, undef), (189, undef), (188, undef), (187, undef), (186, undef), (185, undef), (184, undef), (183, (Value.bool false)), (182, (Value.bool false))] 1073741823 hs238 trivial ?_
            refine pR_to 30 (some 20) 2147483647 rfl hs238 (OpTo.run (Value.bool false) (pureOp_run (by kernel_rfl) _) (R := fun v w => v = (Value.bool false) ∧ w = w238) ⟨rfl, rfl⟩) ?_
            rintro _ _ ⟨rfl, rfl⟩
            refine ⟨fun h => absurd h (by decide), ?_⟩
            refine pR_done hs238 ?_ _
            refine seq_n hK237 ?_
            refine wp_seq_k ?_
            intro K239 hK239
            refine wp_seq_k ?_
            intro K240 hK240
            refine reg_lit ?_
            refine wq_p 26 [(230, (Value.bool false)), (229, (Value.bool false)), (228, (Value.bool false)), (227, (Value.int .i64 0)), (226, (Value.slice A235 0 c235)), (225, (Value.bool true)), (224, (Value.bool true)), (223, (Value.bool false)), (222, (Value.bool false)), (221, (Value.bool false)), (220, (Value.bool false)), (219, undef), (218, undef), (217, undef), (216, undef), (215, undef), (214, undef), (213, undef), (212, undef), (211, undef), (210, (Value.bool false)), (209, (Value.bool false)), (208, (Value.bool false)), (207, (Value.bool false)), (206, (Value.bool false)), (205, (Value.bool false))] ?_
            refine wl_end rfl ?_
            refine seq_n hK240 ?_
            refine wp_cond_false (by kernel_rfl) ?_
            refine wp_skip ?_
            refine seq_n hK239 ?_
            refine wp_seq_k ?_
            intro K241 hK241
            refine reg_lit ?_
            refine wq_p 2 [(233, (Value.slice (some ⟨g211, 0, none⟩) 16 16)), (232, (pt tb10 0))] ?_
            refine wq_to (some 234) (x_boxN h238 7 rfl (kl K210) (Value.slice (some ⟨g211, 0, none⟩) 16 16) (by kernel_rfl) (SB.blk16 (K := K210) (h238.at_ 1 rfl)) (by rw [hB]; exact hbb) (h238.tabW 7 rfl).1 (by omega) (by rw [hK210]; exact hbox)) ?_
            rintro _ w242 ⟨A242, c242, rfl, h242⟩
            refine wq_p 3 [(236, (Value.bool false)), (235, (Value.agg (vb zKey ++ [(Value.int .i64 0), (Value.slice A242 0 c242)]).toArray)), (231, (Value.tuple #[(Value.agg (vb zKey ++ [(Value.int .i64 0), (Value.slice A242 0 c242)]).toArray), (Value.bool false)]))] ?_
            refine wq_to (some 21) (x_new h242 56 (vb (List.replicate 16 0) ++ [(Value.int .i64 0), (Value.slice none 0 0)]) (fun r => pt r 0) (by kernel_rfl)) ?_
            rintro _ w243 ⟨g243, rfl, h243⟩
            refine wq_to none (x_stores h243 0 rfl 56 (.tmp 21) (.tmp 235) (by kernel_rfl) 0 (vb zKey ++ [(Value.int .i64 0), (Value.slice A242 0 c242)]) (vb zKey ++ [(Value.int .i64 0), (Value.slice A242 0 c242)]) (by kernel_rfl) (by kernel_rfl) (by kernel_rfl) (by kernel_rfl) (by kernel_rfl) (by kernel_rfl)) ?_
            rintro _ w244 h244
            refine wq_p 1 [(22, (Value.bool false))] ?_
            refine wl_end rfl ?_
            refine seq_n hK241 ?_
            refine wp_seq_k ?_
            intro K245 hK245
            refine wp_reset 399 [(0, (Value.slice A st.length c)), (3, (pt tb10 0)), (4, (Value.slice A1 nk c1)), (5, (Value.slice A2 nb c2)), (6, (Value.slice A3 ns c3)), (8, (pt g26 0)), (9, (pt g35 0)), (16, (pt g211 0)), (17, (Value.slice A235 0 c235)), (18, (Value.bool false)), (19, (Value.int .i64 ((M209 : Int)))), (20, (Value.bool false)), (21, (pt g243 0)), (22, (Value.bool false)), (34, (Value.bool false)), (37, (Value.bool (decide ((st.length : Int) > 60)))), (42, (Value.slice A st.length c)), (43, (Value.int .i64 ((st.length : Int)))), (44, (Value.int .i64 ((n : Int)))), (45, (Value.bool (decide ((n : Int) < (st.length : Int))))), (57, (Value.bool false)), (63, (Value.int .i64 xk)), (64, (Value.bool (xk == 0))), (76, (Value.bool (xk == 2))), (130, (Value.bool (xk == 3))), (156, (Value.bool (xk == 4))), (230, (Value.bool false))] (fun x246 => ?_)
            refine pR_go h244 47 (fun W => True) [(238, [22], 0), (239, [19], 0), (240, [238], 2), (241, [239], 4), (242, [19, 240], 8), (243, [5, 240], 8), (244, [242, 240], 40), (245, [241, 243, 240], 88), (246, [240, 244], 136), (247, [237, 245], 257), (248, [246], 520), (249, [22, 247], 1024), (250, [248, 247], 3072), (251, [21, 249], 4096), (252, [250, 249], 12288), (253, [5, 249], 4096), (254, [19, 249], 4096), (255, [253, 249], 69632), (256, [252, 254, 249], 167936), (257, [255, 249], 266240), (258, [256, 249], 528384), (259, [251, 257, 249], 1069056), (260, [258, 249], 2101248), (261, [21, 259], 4194304), (262, [260, 259], 12582912), (263, [5, 259], 4194304), (264, [19, 259], 4194304), (265, [263, 259], 71303168), (266, [262, 264, 259], 171966464), (267, [265, 259], 272629760), (268, [266, 259], 541065216), (269, [261, 267, 259], 1094713344), (270, [259, 268, 249], 2151682048), (271, [269, 249], 4299165696), (272, [21, 270], 8589934592), (273, [271, 270], 25769803776), (274, [5, 270], 8589934592), (275, [19, 270], 8589934592), (276, [274, 270], 146028888064), (277, [273, 275, 270], 352187318272), (278, [276, 270], 558345748480), (279, [277, 270], 1108101562368), (280, [272, 278, 270], 2241972928512), (281, [279, 270], 4406636445696), (282, [270, 280, 249], 8804682960896), (283, [249, 281, 247], 17592186049536), (284, [247, 282], 35184372089856)] rfl (fun _ d _ _ _ h => by cases d <;> exact h) ?_
            intro hs247 w247 h247
            refine pR_p 45 [0, 1] [(238, (Value.int .i64 ((M209 : Int)))), (237, (Value.bool false))] 3 hs247 trivial ?_
            refine pR_v 2 (some 239) (Value.bool true) 7 rfl hs247 trivial (fun W hW => eq_is (v := (Value.bool (decide ((M209 : Int) ≥ 1)))) (by kernel_rfl) (by simp; omega)) ?_
            refine pR_p 40 [3, 4, 5, 6] [(243, (Value.int .i64 ((nb : Int)))), (242, (Value.slice A2 nb c2)), (241, (Value.int .i64 ((M209 : Int)))), (240, (Value.bool true))] 127 hs247 trivial ?_
            refine pR_v 7 (some 244) (Value.bool false) 255 rfl hs247 trivial (fun W hW => eq_is (v := (Value.bool (decide ((M209 : Int) ≤ (nb : Int))))) (by kernel_rfl) (by simp; omega)) ?_
            refine pR_p 0 [8, 9, 10, 11, 12, 13, 14, 15, 16, 17, 18, 19, 20, 21, 22, 23, 24, 25, 26, 27, 28, 29, 30, 31, 32, 33, 34, 35, 36, 37, 38, 39, 40, 41, 42, 43, 44, 45, 46] [(283, (Value.bool false)), (282, (Value.bool false)), (281, undef), (280, undef), (279, undef), (278, undef), (277, undef), (276, undef), (275, undef), (274, undef), (273, undef), (272, undef), (271, undef), (270, undef), (269, undef), (268, undef), (267, undef), (266, undef), (265, undef), (264, undef), (263, undef), (262, undef), (261, undef), (260, undef), (259, undef), (258, undef), (257, undef), (256, undef), (255, undef), (254, undef), (253, undef), (252, undef), (251, undef), (250, undef), (249, (Value.bool false)), (248, (Value.bool false)), (247, (Value.bool false)), (246, (Value.bool false)), (245, (Value.bool false))] 140737488355327 hs247 trivial ?_
            refine pR_done hs247 ?_ _
            refine seq_n hK245 ?_
            refine wp_cond_false (by kernel_rfl) ?_
            refine wp_skip ?_
            refine blk_n ?_
            refine seq_n hK37 ?_
            refine wp_seq_k ?_
            intro K248 hK248
            have hI2 : Inv (ks) s := hI
            have hB2 : s.boxes = bx := hB
            have hS2 : s.sums = ss := hS
            have hkl2 := hI2.len
            have hbl2 : s.boxes.length = (bx : List SSealed).length := by rw [hB2]
            refine reg_lit ?_
            refine wq_p 1 [(320, (pt tb10 0))] ?_
            refine wq_to (some 321) (x_nkeys h247 8 rfl (by kernel_rfl)) ?_
            rintro _ w249 ⟨rfl, h249⟩
            refine wq_p 2 [(323, (Value.int .i64 ((nk : Int)))), (322, (Value.slice A1 nk c1))] ?_
            refine wq_v (some 324) (.bool false) (eq_is (v := (Value.bool (((s.keys.length : Int)) != ((nk : Int))))) (by kernel_rfl) (by simp; omega)) ?_
            refine wq_p 2 [(326, (pt tb10 0)), (325, (Value.bool false))] ?_
            refine wq_to (some 327) (x_nboxes h249 8 rfl (by kernel_rfl)) ?_
            rintro _ w250 ⟨rfl, h250⟩
            refine wq_p 2 [(329, (Value.int .i64 ((nb : Int)))), (328, (Value.slice A2 nb c2))] ?_
            refine wq_v (some 330) (.bool false) (eq_is (v := (Value.bool (((s.boxes.length : Int)) != ((nb : Int))))) (by kernel_rfl) (by simp; omega)) ?_
            refine wq_p 1 [(331, (Value.bool false))] ?_
            refine wl_end rfl ?_
            refine seq_n hK248 ?_
            refine wp_cond_false (by kernel_rfl) ?_
            refine wp_skip ?_
            refine blk_n ?_
            refine seq_n hK24 ?_
            refine reg_lit ?_
            refine wq_v (some 332) (Value.int .i64 ((n : Int) + 1)) (exec_add _ _ _ _ rfl ((n : Int)) 1 (by kernel_rfl) (by kernel_rfl) ((n : Int) + 1) rfl (by omega) (by omega) _) ?_
            refine wq_p 1 [(44, (Value.int .i64 ((n : Int) + 1)))] ?_
            refine wl_end rfl ?_
            refine ⟨st.length - (n + 1), (by omega), (n + 1), ks, bx, bv, ss, sv, s, F, A1, c1, A2, c2, A3, c3, nk, nb, ns, hI2, hB2, hS2, hbv, hsv, (by omega), (by omega), (by omega), (by omega), hbb, hnd, (by first | omega | (simp; omega)), (by first | omega | (simp; omega)), (by first | omega | (simp; omega)), rfl, (patch_eq _ 399 _ (by kernel_rfl) (by kernel_rfl) (by kernel_rfl)), h250.sel [5, 6, 7, 8] [1, 2, 3, 4] (by kernel_rfl) rfl rfl⟩
           ·
            by_cases hKb : kl Kb = kl K34
            ·
             by_cases hub : ub_ = (xt.size : Int)
             ·
              refine wp_reset 399 [(0, (Value.slice A st.length c)), (3, (pt tb10 0)), (4, (Value.slice A1 nk c1)), (5, (Value.slice A2 nb c2)), (6, (Value.slice A3 ns c3)), (8, (pt g26 0)), (9, (pt g35 0)), (16, (pt g211 0)), (34, (Value.bool false)), (37, (Value.bool (decide ((st.length : Int) > 60)))), (42, (Value.slice A st.length c)), (43, (Value.int .i64 ((st.length : Int)))), (44, (Value.int .i64 ((n : Int)))), (45, (Value.bool (decide ((n : Int) < (st.length : Int))))), (57, (Value.bool false)), (63, (Value.int .i64 xk)), (64, (Value.bool (xk == 0))), (76, (Value.bool (xk == 2))), (130, (Value.bool (xk == 3))), (156, (Value.bool (xk == 4)))] (fun x251 => ?_)
              have hbox : s.box (mkB 98 M209) = some ⟨kl Kb, ub_, lb⟩ := box_there (by rw [hB]; exact hbx) hM2 (by omega)
              refine pR_go h212 11 (fun W => (rBlk g35 22 (vb (kl K34))).Φ W ∧ (rBlk g26 65 ([(Value.int .i64 xk), (Value.int .i64 xa), (Value.int .i64 xb), (Value.string xt), (Value.slice Ax xl.length cx)])).Φ W ∧ True) [(164, [3], 0), (165, [9], 0), (166, [8], 0), (167, [165], 4), (168, [166], 8), (169, [16], 0), (170, [163, 164, 167, 168], 51), (163, [169], 64), (171, [162], 128), (172, [162], 128), (18, [170], 511), (19, [171], 2047)] rfl (fun _ d _ _ _ h => by cases d <;> exact h) ?_
              intro hs252 w252 h252
              refine pR_p 9 [0, 2, 5] [(168, (Value.slice (some ⟨g211, 0, none⟩) 16 16)), (165, (pt g26 3)), (163, (pt tb10 0))] 37 hs252 ⟨h252.at_ 1 rfl, h252.at_ 2 rfl, trivial⟩ ?_
              refine pR_v 1 (some 164) (Value.agg (vb (kl K34)).toArray) 39 rfl hs252 ⟨h252.at_ 1 rfl, h252.at_ 2 rfl, trivial⟩ (fun W hW => e_loads hW.1 22 (.tmp 9) (by kernel_rfl) 0 (vb (kl K34)) (by kernel_rfl) (by kernel_rfl) (by kernel_rfl)) ?_
              refine pR_v 3 (some 166) (Value.string xt) 47 rfl hs252 ⟨h252.at_ 1 rfl, h252.at_ 2 rfl, trivial⟩ (fun W hW => e_load hW.2.1 9 (.tmp 165) (by kernel_rfl) 3 (Value.string xt) (by kernel_rfl) (by kernel_rfl) (by kernel_rfl)) ?_
              refine pR_p 6 [4] [(167, (Value.int .i64 (((xt).size : Int))))] 63 hs252 ⟨h252.at_ 1 rfl, h252.at_ 2 rfl, trivial⟩ ?_
              refine pR_to 6 (some 169) 127 rfl hs252 (x_open h252 6 rfl K34 (((xt).size : Int)) (kl K210) (Value.slice (some ⟨g211, 0, none⟩) 16 16) (some lb) (by kernel_rfl) (SB.blk16 (K := K210) (h252.at_ 0 rfl)) (by rw [hB]; exact hbb) (h252.tabW 6 rfl).1 (by omega) (open_some (by rw [hK210, hbox, hKb, hub]))) ?_
              rintro _ w253 ⟨A253, c253, rfl, h253⟩
              refine ⟨fun _ => ⟨h253.at_ 2 rfl, h253.at_ 3 rfl, trivial⟩, ?_⟩
              refine pR_p 1 [7, 8, 9, 10] [(17, (Value.slice A253 lb.length c253)), (171, (Value.bool true)), (170, (Value.slice A253 lb.length c253)), (162, (Value.tuple #[(Value.slice A253 lb.length c253), (Value.bool true)]))] 2047 hs252 ⟨h253.at_ 2 rfl, h253.at_ 3 rfl, trivial⟩ ?_
              refine pR_to 11 (some 18) 4095 rfl hs252 (OpTo.run (Value.bool true) (pureOp_run (by kernel_rfl) _) (R := fun v w => v = (Value.bool true) ∧ w = w253) ⟨rfl, rfl⟩) ?_
              rintro _ _ ⟨rfl, rfl⟩
              refine ⟨fun h => absurd h (by decide), ?_⟩
              refine pR_done hs252 ?_ _
              refine seq_n hK213 ?_
              refine wp_seq_k ?_
              intro K254 hK254
              refine reg_lit ?_
              refine wq_p 1 [(172, (pt g26 2))] ?_
              refine wq_v (some 173) (Value.int .i64 xb) (e_load (h253.at_ 3 rfl) 3 (.tmp 172) (by kernel_rfl) 2 (Value.int .i64 xb) (by kernel_rfl) (by kernel_rfl) (by kernel_rfl)) ?_
              refine wq_v (some 174) (Value.int .i64 ((M209 : Int))) (eq_is (v := Value.int .i64 (bits .and .i64 xb 31)) (by kernel_rfl) (congrArg (Value.int .i64) hM209)) ?_
              refine wq_p 1 [(19, (Value.int .i64 ((M209 : Int))))] ?_
              refine wl_end rfl ?_
              refine seq_n hK254 ?_
              refine wp_seq_k ?_
              intro K255 hK255
              refine pR_go h253 30 (fun W => (rOV 56 18 ((Value.slice A2 nb c2)) (List.zipWith sealCells bx bv)).Φ W ∧ (rBlk g35 22 (vb (kl K34))).Φ W ∧ (rBlk g26 65 ([(Value.int .i64 xk), (Value.int .i64 xa), (Value.int .i64 xb), (Value.string xt), (Value.slice Ax xl.length cx)])).Φ W ∧ True) [(176, [19], 0), (177, [175], 1), (178, [176], 2), (179, [19, 177], 4), (180, [5, 177], 4), (181, [179, 177], 20), (182, [178, 180, 177], 44), (183, [177, 181], 68), (184, [182], 132), (185, [5, 183], 256), (186, [19, 183], 256), (187, [185, 183], 1280), (188, [184, 186, 183], 2816), (189, [187, 183], 4352), (190, [188, 183], 8448), (191, [9, 183], 256), (192, [189, 190, 183], 49408), (193, [183, 191], 65792), (194, [192], 131328), (195, [5, 193], 262144), (196, [19, 193], 262144), (197, [195, 193], 1310720), (198, [194, 196, 193], 2883584), (199, [197, 193], 4456448), (200, [198, 193], 8650752), (201, [8, 193], 262144), (202, [200, 193], 33816576), (203, [201, 193], 67371008), (204, [199, 202, 193], 151257088), (205, [193, 203], 268697600), (21, [204], 1073741823)] rfl (fun _ d _ _ _ h => by cases d <;> exact h) ?_
              intro hs256 w256 h256
              refine pR_p 30 [0] [(175, (Value.int .i64 ((M209 : Int))))] 1 hs256 ⟨h256.at_ 5 rfl, h256.at_ 2 rfl, h256.at_ 3 rfl, trivial⟩ ?_
              refine pR_v 1 (some 176) (Value.bool true) 3 rfl hs256 ⟨h256.at_ 5 rfl, h256.at_ 2 rfl, h256.at_ 3 rfl, trivial⟩ (fun W hW => eq_is (v := (Value.bool (decide ((M209 : Int) ≥ 1)))) (by kernel_rfl) (by simp; omega)) ?_
              refine pR_p 25 [2, 3, 4, 5] [(180, (Value.int .i64 ((nb : Int)))), (179, (Value.slice A2 nb c2)), (178, (Value.int .i64 ((M209 : Int)))), (177, (Value.bool true))] 63 hs256 ⟨h256.at_ 5 rfl, h256.at_ 2 rfl, h256.at_ 3 rfl, trivial⟩ ?_
              refine pR_v 6 (some 181) (Value.bool true) 127 rfl hs256 ⟨h256.at_ 5 rfl, h256.at_ 2 rfl, h256.at_ 3 rfl, trivial⟩ (fun W hW => eq_is (v := (Value.bool (decide ((M209 : Int) ≤ (nb : Int))))) (by kernel_rfl) (by simp; omega)) ?_
              refine pR_p 20 [7, 8, 9, 10] [(185, (Value.int .i64 ((M209 : Int)))), (184, (Value.slice A2 nb c2)), (183, (Value.bool true)), (182, (Value.bool true))] 2047 hs256 ⟨h256.at_ 5 rfl, h256.at_ 2 rfl, h256.at_ 3 rfl, trivial⟩ ?_
              refine pR_v 11 (some 186) (Value.int .i64 (((M209 - 1 : Nat) : Int))) 4095 rfl hs256 ⟨h256.at_ 5 rfl, h256.at_ 2 rfl, h256.at_ 3 rfl, trivial⟩ (fun W hW => exec_sub _ _ _ _ rfl ((M209 : Int)) 1 (by kernel_rfl) (by kernel_rfl) (((M209 - 1 : Nat) : Int)) (by omega) (by omega) (by omega) _) ?_
              refine pR_v 12 (some 187) (eAt A2 ((((M209 - 1))) * 18 + 0)) 8191 rfl hs256 ⟨h256.at_ 5 rfl, h256.at_ 2 rfl, h256.at_ 3 rfl, trivial⟩ (fun W hW => e_idxN (OV.rvn (h256.at_ 5 rfl)).2 (((M209 - 1))) nb (OV.rvn (h256.at_ 5 rfl)).1 (by omega) 62 (.tmp 184) (.tmp 186) (by kernel_rfl) .i64 (by kernel_rfl) (by kernel_rfl) 56 (by kernel_rfl) (by kernel_rfl) _) ?_
              refine pR_v 13 (some 188) (eAt A2 ((((M209 - 1))) * 18 + 0)) 16383 rfl hs256 ⟨h256.at_ 5 rfl, h256.at_ 2 rfl, h256.at_ 3 rfl, trivial⟩ (fun W hW => e_fldN (OV.rvn (h256.at_ 5 rfl)).2 (((M209 - 1))) 0 0 (vb (kl Kb) ++ [(Value.int .i64 ub_), (Value.slice Ab lb.length cb)]) (zip_get sealCells hbx hbvx) (.tmp 187) (by kernel_rfl) (fun _ _ => by kernel_rfl) (fun _ => rfl) _) ?_
              refine pR_v 14 (some 189) (Value.agg (vb (kl Kb)).toArray) 32767 rfl hs256 ⟨h256.at_ 5 rfl, h256.at_ 2 rfl, h256.at_ 3 rfl, trivial⟩ (fun W hW => e_elemsN (OV.rvn hW.1).2 (((M209 - 1))) 0 (vb (kl Kb) ++ [(Value.int .i64 ub_), (Value.slice Ab lb.length cb)]) (zip_get sealCells hbx hbvx) 42 (.tmp 188) (by kernel_rfl) (vb (kl Kb)) (by kernel_rfl) (by kernel_rfl) (by kernel_rfl)) ?_
              refine pR_v 15 (some 190) (Value.agg (vb (kl K34)).toArray) 65535 rfl hs256 ⟨h256.at_ 5 rfl, h256.at_ 2 rfl, h256.at_ 3 rfl, trivial⟩ (fun W hW => e_loads hW.2.1 22 (.tmp 9) (by kernel_rfl) 0 (vb (kl K34)) (by kernel_rfl) (by kernel_rfl) (by kernel_rfl)) ?_
              refine pR_v 16 (some 191) (Value.bool true) 131071 rfl hs256 ⟨h256.at_ 5 rfl, h256.at_ 2 rfl, h256.at_ 3 rfl, trivial⟩ (fun W hW => e_keq Kb K34 42 42 (.tmp 189) (.tmp 190) (by kernel_rfl) (by kernel_rfl) (by kernel_rfl) (by kernel_rfl) (by kernel_rfl) true (decide_eq_true hKb) _) ?_
              refine pR_p 9 [17, 18, 19, 20, 25] [(200, (pt g26 3)), (195, (Value.int .i64 ((M209 : Int)))), (194, (Value.slice A2 nb c2)), (193, (Value.bool true)), (192, (Value.bool true))] 35651583 hs256 ⟨h256.at_ 5 rfl, h256.at_ 2 rfl, h256.at_ 3 rfl, trivial⟩ ?_
              refine pR_v 21 (some 196) (Value.int .i64 (((M209 - 1 : Nat) : Int))) 37748735 rfl hs256 ⟨h256.at_ 5 rfl, h256.at_ 2 rfl, h256.at_ 3 rfl, trivial⟩ (fun W hW => exec_sub _ _ _ _ rfl ((M209 : Int)) 1 (by kernel_rfl) (by kernel_rfl) (((M209 - 1 : Nat) : Int)) (by omega) (by omega) (by omega) _) ?_
              refine pR_v 22 (some 197) (eAt A2 ((((M209 - 1))) * 18 + 0)) 41943039 rfl hs256 ⟨h256.at_ 5 rfl, h256.at_ 2 rfl, h256.at_ 3 rfl, trivial⟩ (fun W hW => e_idxN (OV.rvn (h256.at_ 5 rfl)).2 (((M209 - 1))) nb (OV.rvn (h256.at_ 5 rfl)).1 (by omega) 62 (.tmp 194) (.tmp 196) (by kernel_rfl) .i64 (by kernel_rfl) (by kernel_rfl) 56 (by kernel_rfl) (by kernel_rfl) _) ?_
              refine pR_v 23 (some 198) (eAt A2 ((((M209 - 1))) * 18 + 16)) 50331647 rfl hs256 ⟨h256.at_ 5 rfl, h256.at_ 2 rfl, h256.at_ 3 rfl, trivial⟩ (fun W hW => e_fldN (OV.rvn (h256.at_ 5 rfl)).2 (((M209 - 1))) 0 16 (vb (kl Kb) ++ [(Value.int .i64 ub_), (Value.slice Ab lb.length cb)]) (zip_get sealCells hbx hbvx) (.tmp 197) (by kernel_rfl) (fun _ _ => by kernel_rfl) (fun _ => rfl) _) ?_
              refine pR_v 24 (some 199) (Value.int .i64 ub_) 67108863 rfl hs256 ⟨h256.at_ 5 rfl, h256.at_ 2 rfl, h256.at_ 3 rfl, trivial⟩ (fun W hW => e_elemN (OV.rvn hW.1).2 (((M209 - 1))) 16 (vb (kl Kb) ++ [(Value.int .i64 ub_), (Value.slice Ab lb.length cb)]) (zip_get sealCells hbx hbvx) 3 (.tmp 198) (by kernel_rfl) (Value.int .i64 ub_) (by kernel_rfl) (by kernel_rfl) (by kernel_rfl)) ?_
              refine pR_v 26 (some 201) (Value.string xt) 134217727 rfl hs256 ⟨h256.at_ 5 rfl, h256.at_ 2 rfl, h256.at_ 3 rfl, trivial⟩ (fun W hW => e_load hW.2.2.1 9 (.tmp 200) (by kernel_rfl) 3 (Value.string xt) (by kernel_rfl) (by kernel_rfl) (by kernel_rfl)) ?_
              refine pR_p 3 [27] [(202, (Value.int .i64 (((xt).size : Int))))] 268435455 hs256 ⟨h256.at_ 5 rfl, h256.at_ 2 rfl, h256.at_ 3 rfl, trivial⟩ ?_
              refine pR_v 28 (some 203) (Value.bool true) 536870911 rfl hs256 ⟨h256.at_ 5 rfl, h256.at_ 2 rfl, h256.at_ 3 rfl, trivial⟩ (fun W hW => eq_is (v := (Value.bool (ub_ == (((xt).size : Int))))) (by kernel_rfl) (by simp [hub])) ?_
              refine pR_p 1 [29] [(204, (Value.bool true))] 1073741823 hs256 ⟨h256.at_ 5 rfl, h256.at_ 2 rfl, h256.at_ 3 rfl, trivial⟩ ?_
              refine pR_to 30 (some 20) 2147483647 rfl hs256 (OpTo.run (Value.bool true) (pureOp_run (by kernel_rfl) _) (R := fun v w => v = (Value.bool true) ∧ w = w256) ⟨rfl, rfl⟩) ?_
              rintro _ _ ⟨rfl, rfl⟩
              refine ⟨fun h => absurd h (by decide), ?_⟩
              refine pR_done hs256 ?_ _
              refine seq_n hK255 ?_
              refine wp_seq_k ?_
              intro K257 hK257
              refine wp_seq_k ?_
              intro K258 hK258
              refine reg_lit ?_
              refine wq_p 9 [(213, (Value.int .i64 ((M209 : Int)))), (212, (Value.slice A2 nb c2)), (211, (Value.slice A253 lb.length c253)), (210, (Value.bool true)), (209, (Value.bool true)), (208, (Value.bool false)), (207, (Value.bool false)), (206, (Value.bool true)), (205, (Value.bool true))] ?_
              refine wq_v (some 214) (Value.int .i64 (((M209 - 1 : Nat) : Int))) (exec_sub _ _ _ _ rfl ((M209 : Int)) 1 (by kernel_rfl) (by kernel_rfl) (((M209 - 1 : Nat) : Int)) (by omega) (by omega) (by omega) _) ?_
              refine wq_v (some 215) (eAt A2 ((((M209 - 1))) * 18 + 0)) (e_idxN (OV.rvn (h256.at_ 5 rfl)).2 (((M209 - 1))) nb (OV.rvn (h256.at_ 5 rfl)).1 (by omega) 62 (.tmp 212) (.tmp 214) (by kernel_rfl) .i64 (by kernel_rfl) (by kernel_rfl) 56 (by kernel_rfl) (by kernel_rfl) _) ?_
              refine wq_v (some 216) (eAt A2 ((((M209 - 1))) * 18 + 17)) (e_fldN (OV.rvn (h256.at_ 5 rfl)).2 (((M209 - 1))) 0 17 (vb (kl Kb) ++ [(Value.int .i64 ub_), (Value.slice Ab lb.length cb)]) (zip_get sealCells hbx hbvx) (.tmp 215) (by kernel_rfl) (fun _ _ => by kernel_rfl) (fun _ => rfl) _) ?_
              refine wq_v (some 217) (Value.slice Ab lb.length cb) (e_elemN (OV.rvn (h256.at_ 5 rfl)).2 (((M209 - 1))) 17 (vb (kl Kb) ++ [(Value.int .i64 ub_), (Value.slice Ab lb.length cb)]) (zip_get sealCells hbx hbvx) 28 (.tmp 216) (by kernel_rfl) (Value.slice Ab lb.length cb) (by kernel_rfl) (by kernel_rfl) (by kernel_rfl)) ?_
              refine wq_to (some 218) (x_same h256 lb lb (Value.slice A253 lb.length c253) (Value.slice Ab lb.length cb) (by kernel_rfl) (OB.sb (h256.at_ 0 rfl)) (SBs.at_ (h256.rd 3 rfl) hbvx hlbx) true (by simp)) ?_
              rintro _ w259 ⟨rfl, h259⟩
              refine wq_p 12 [(230, (Value.bool false)), (229, (Value.bool false)), (228, undef), (227, undef), (226, undef), (225, (Value.bool false)), (224, (Value.bool false)), (223, (Value.bool true)), (222, (Value.bool false)), (221, (Value.bool false)), (220, (Value.bool false)), (219, (Value.bool false))] ?_
              refine wl_end rfl ?_
              refine seq_n hK258 ?_
              refine wp_cond_false (by kernel_rfl) ?_
              refine wp_skip ?_
              refine seq_n hK257 ?_
              refine wp_seq_k ?_
              intro K260 hK260
              refine wp_reset 399 [(0, (Value.slice A st.length c)), (3, (pt tb10 0)), (4, (Value.slice A1 nk c1)), (5, (Value.slice A2 nb c2)), (6, (Value.slice A3 ns c3)), (8, (pt g26 0)), (9, (pt g35 0)), (16, (pt g211 0)), (17, (Value.slice A253 lb.length c253)), (18, (Value.bool true)), (19, (Value.int .i64 ((M209 : Int)))), (20, (Value.bool true)), (34, (Value.bool false)), (37, (Value.bool (decide ((st.length : Int) > 60)))), (42, (Value.slice A st.length c)), (43, (Value.int .i64 ((st.length : Int)))), (44, (Value.int .i64 ((n : Int)))), (45, (Value.bool (decide ((n : Int) < (st.length : Int))))), (57, (Value.bool false)), (63, (Value.int .i64 xk)), (64, (Value.bool (xk == 0))), (76, (Value.bool (xk == 2))), (130, (Value.bool (xk == 3))), (156, (Value.bool (xk == 4))), (230, (Value.bool false))] (fun x261 => ?_)
              refine reg_lit ?_
              refine wq_p 2 [(233, (Value.slice (some ⟨g211, 0, none⟩) 16 16)), (232, (pt tb10 0))] ?_
              refine wq_to (some 234) (x_boxS h259 7 rfl (kl K210) (Value.slice (some ⟨g211, 0, none⟩) 16 16) Kb ub_ lb (by kernel_rfl) (SB.blk16 (K := K210) (h259.at_ 1 rfl)) (by rw [hB]; exact hbb) (h259.tabW 7 rfl).1 (by omega) (by rw [hK210]; exact hbox)) ?_
              rintro _ w262 ⟨A262, c262, rfl, h262⟩
              refine wq_p 3 [(236, (Value.bool true)), (235, (Value.agg (vb (kl Kb) ++ [(Value.int .i64 ub_), (Value.slice A262 lb.length c262)]).toArray)), (231, (Value.tuple #[(Value.agg (vb (kl Kb) ++ [(Value.int .i64 ub_), (Value.slice A262 lb.length c262)]).toArray), (Value.bool true)]))] ?_
              refine wq_to (some 21) (x_new h262 56 (vb (List.replicate 16 0) ++ [(Value.int .i64 0), (Value.slice none 0 0)]) (fun r => pt r 0) (by kernel_rfl)) ?_
              rintro _ w263 ⟨g263, rfl, h263⟩
              refine wq_to none (x_stores h263 0 rfl 56 (.tmp 21) (.tmp 235) (by kernel_rfl) 0 (vb (kl Kb) ++ [(Value.int .i64 ub_), (Value.slice A262 lb.length c262)]) (vb (kl Kb) ++ [(Value.int .i64 ub_), (Value.slice A262 lb.length c262)]) (by kernel_rfl) (by kernel_rfl) (by kernel_rfl) (by kernel_rfl) (by kernel_rfl) (by kernel_rfl)) ?_
              rintro _ w264 h264
              refine wq_p 1 [(22, (Value.bool true))] ?_
              refine wl_end rfl ?_
              refine seq_n hK260 ?_
              refine wp_seq_k ?_
              intro K265 hK265
              refine pR_go h264 47 (fun W => (rBlk g263 56 (vb (kl Kb) ++ [(Value.int .i64 ub_), (Value.slice A262 lb.length c262)])).Φ W ∧ (rOV 56 18 ((Value.slice A2 nb c2)) (List.zipWith sealCells bx bv)).Φ W ∧ True) [(238, [22], 0), (239, [19], 0), (240, [238], 2), (241, [239], 4), (242, [19, 240], 8), (243, [5, 240], 8), (244, [242, 240], 40), (245, [241, 243, 240], 88), (246, [240, 244], 136), (247, [237, 245], 257), (248, [246], 520), (249, [22, 247], 1024), (250, [248, 247], 3072), (251, [21, 249], 4096), (252, [250, 249], 12288), (253, [5, 249], 4096), (254, [19, 249], 4096), (255, [253, 249], 69632), (256, [252, 254, 249], 167936), (257, [255, 249], 266240), (258, [256, 249], 528384), (259, [251, 257, 249], 1069056), (260, [258, 249], 2101248), (261, [21, 259], 4194304), (262, [260, 259], 12582912), (263, [5, 259], 4194304), (264, [19, 259], 4194304), (265, [263, 259], 71303168), (266, [262, 264, 259], 171966464), (267, [265, 259], 272629760), (268, [266, 259], 541065216), (269, [261, 267, 259], 1094713344), (270, [259, 268, 249], 2151682048), (271, [269, 249], 4299165696), (272, [21, 270], 8589934592), (273, [271, 270], 25769803776), (274, [5, 270], 8589934592), (275, [19, 270], 8589934592), (276, [274, 270], 146028888064), (277, [273, 275, 270], 352187318272), (278, [276, 270], 558345748480), (279, [277, 270], 1108101562368), (280, [272, 278, 270], 2241972928512), (281, [279, 270], 4406636445696), (282, [270, 280, 249], 8804682960896), (283, [249, 281, 247], 17592186049536), (284, [247, 282], 35184372089856)] rfl (fun _ d _ _ _ h => by cases d <;> exact h) ?_
              intro hs266 w266 h266
              refine pR_p 45 [0, 1] [(238, (Value.int .i64 ((M209 : Int)))), (237, (Value.bool true))] 3 hs266 ⟨h266.at_ 0 rfl, h266.at_ 7 rfl, trivial⟩ ?_
              refine pR_v 2 (some 239) (Value.bool true) 7 rfl hs266 ⟨h266.at_ 0 rfl, h266.at_ 7 rfl, trivial⟩ (fun W hW => eq_is (v := (Value.bool (decide ((M209 : Int) ≥ 1)))) (by kernel_rfl) (by simp; omega)) ?_
              refine pR_p 40 [3, 4, 5, 6] [(243, (Value.int .i64 ((nb : Int)))), (242, (Value.slice A2 nb c2)), (241, (Value.int .i64 ((M209 : Int)))), (240, (Value.bool true))] 127 hs266 ⟨h266.at_ 0 rfl, h266.at_ 7 rfl, trivial⟩ ?_
              refine pR_v 7 (some 244) (Value.bool true) 255 rfl hs266 ⟨h266.at_ 0 rfl, h266.at_ 7 rfl, trivial⟩ (fun W hW => eq_is (v := (Value.bool (decide ((M209 : Int) ≤ (nb : Int))))) (by kernel_rfl) (by simp; omega)) ?_
              refine pR_p 31 [8, 9, 10, 11, 12, 13, 15, 16] [(253, (Value.int .i64 ((M209 : Int)))), (252, (Value.slice A2 nb c2)), (250, (pt g263 0)), (249, (Value.bool true)), (248, (Value.bool true)), (247, (Value.bool false)), (246, (Value.bool false)), (245, (Value.bool true))] 114687 hs266 ⟨h266.at_ 0 rfl, h266.at_ 7 rfl, trivial⟩ ?_
              refine pR_v 17 (some 254) (Value.int .i64 (((M209 - 1 : Nat) : Int))) 245759 rfl hs266 ⟨h266.at_ 0 rfl, h266.at_ 7 rfl, trivial⟩ (fun W hW => exec_sub _ _ _ _ rfl ((M209 : Int)) 1 (by kernel_rfl) (by kernel_rfl) (((M209 - 1 : Nat) : Int)) (by omega) (by omega) (by omega) _) ?_
              refine pR_v 18 (some 255) (eAt A2 ((((M209 - 1))) * 18 + 0)) 507903 rfl hs266 ⟨h266.at_ 0 rfl, h266.at_ 7 rfl, trivial⟩ (fun W hW => e_idxN (OV.rvn (h266.at_ 7 rfl)).2 (((M209 - 1))) nb (OV.rvn (h266.at_ 7 rfl)).1 (by omega) 62 (.tmp 252) (.tmp 254) (by kernel_rfl) .i64 (by kernel_rfl) (by kernel_rfl) 56 (by kernel_rfl) (by kernel_rfl) _) ?_
              refine pR_v 19 (some 256) (eAt A2 ((((M209 - 1))) * 18 + 0)) 1032191 rfl hs266 ⟨h266.at_ 0 rfl, h266.at_ 7 rfl, trivial⟩ (fun W hW => e_fldN (OV.rvn (h266.at_ 7 rfl)).2 (((M209 - 1))) 0 0 (vb (kl Kb) ++ [(Value.int .i64 ub_), (Value.slice Ab lb.length cb)]) (zip_get sealCells hbx hbvx) (.tmp 255) (by kernel_rfl) (fun _ _ => by kernel_rfl) (fun _ => rfl) _) ?_
              refine pR_v 14 (some 251) (Value.agg (vb (kl Kb)).toArray) 1048575 rfl hs266 ⟨h266.at_ 0 rfl, h266.at_ 7 rfl, trivial⟩ (fun W hW => e_loads hW.1 42 (.tmp 250) (by kernel_rfl) 0 (vb (kl Kb)) (by kernel_rfl) (by kernel_rfl) (by kernel_rfl)) ?_
              refine pR_v 20 (some 257) (Value.agg (vb (kl Kb)).toArray) 2097151 rfl hs266 ⟨h266.at_ 0 rfl, h266.at_ 7 rfl, trivial⟩ (fun W hW => e_elemsN (OV.rvn hW.2.1).2 (((M209 - 1))) 0 (vb (kl Kb) ++ [(Value.int .i64 ub_), (Value.slice Ab lb.length cb)]) (zip_get sealCells hbx hbvx) 42 (.tmp 256) (by kernel_rfl) (vb (kl Kb)) (by kernel_rfl) (by kernel_rfl) (by kernel_rfl)) ?_
              refine pR_v 21 (some 258) (Value.bool false) 4194303 rfl hs266 ⟨h266.at_ 0 rfl, h266.at_ 7 rfl, trivial⟩ (fun W hW => e_kne Kb Kb 42 42 (.tmp 251) (.tmp 257) (by kernel_rfl) (by kernel_rfl) (by kernel_rfl) (by kernel_rfl) (by kernel_rfl) false (by simp) _) ?_
              refine pR_p 21 [22, 23, 25, 26] [(263, (Value.int .i64 ((M209 : Int)))), (262, (Value.slice A2 nb c2)), (260, (pt g263 16)), (259, (Value.bool false))] 117440511 hs266 ⟨h266.at_ 0 rfl, h266.at_ 7 rfl, trivial⟩ ?_
              refine pR_v 27 (some 264) (Value.int .i64 (((M209 - 1 : Nat) : Int))) 251658239 rfl hs266 ⟨h266.at_ 0 rfl, h266.at_ 7 rfl, trivial⟩ (fun W hW => exec_sub _ _ _ _ rfl ((M209 : Int)) 1 (by kernel_rfl) (by kernel_rfl) (((M209 - 1 : Nat) : Int)) (by omega) (by omega) (by omega) _) ?_
              refine pR_v 28 (some 265) (eAt A2 ((((M209 - 1))) * 18 + 0)) 520093695 rfl hs266 ⟨h266.at_ 0 rfl, h266.at_ 7 rfl, trivial⟩ (fun W hW => e_idxN (OV.rvn (h266.at_ 7 rfl)).2 (((M209 - 1))) nb (OV.rvn (h266.at_ 7 rfl)).1 (by omega) 62 (.tmp 262) (.tmp 264) (by kernel_rfl) .i64 (by kernel_rfl) (by kernel_rfl) 56 (by kernel_rfl) (by kernel_rfl) _) ?_
              refine pR_v 29 (some 266) (eAt A2 ((((M209 - 1))) * 18 + 16)) 1056964607 rfl hs266 ⟨h266.at_ 0 rfl, h266.at_ 7 rfl, trivial⟩ (fun W hW => e_fldN (OV.rvn (h266.at_ 7 rfl)).2 (((M209 - 1))) 0 16 (vb (kl Kb) ++ [(Value.int .i64 ub_), (Value.slice Ab lb.length cb)]) (zip_get sealCells hbx hbvx) (.tmp 265) (by kernel_rfl) (fun _ _ => by kernel_rfl) (fun _ => rfl) _) ?_
              refine pR_v 24 (some 261) (Value.int .i64 ub_) 1073741823 rfl hs266 ⟨h266.at_ 0 rfl, h266.at_ 7 rfl, trivial⟩ (fun W hW => e_load hW.1 3 (.tmp 260) (by kernel_rfl) 16 (Value.int .i64 ub_) (by kernel_rfl) (by kernel_rfl) (by kernel_rfl)) ?_
              refine pR_v 30 (some 267) (Value.int .i64 ub_) 2147483647 rfl hs266 ⟨h266.at_ 0 rfl, h266.at_ 7 rfl, trivial⟩ (fun W hW => e_elemN (OV.rvn hW.2.1).2 (((M209 - 1))) 16 (vb (kl Kb) ++ [(Value.int .i64 ub_), (Value.slice Ab lb.length cb)]) (zip_get sealCells hbx hbvx) 3 (.tmp 266) (by kernel_rfl) (Value.int .i64 ub_) (by kernel_rfl) (by kernel_rfl) (by kernel_rfl)) ?_
              refine pR_v 31 (some 268) (Value.bool false) 4294967295 rfl hs266 ⟨h266.at_ 0 rfl, h266.at_ 7 rfl, trivial⟩ (fun W hW => eq_is (v := (Value.bool (ub_ != ub_))) (by kernel_rfl) (by simp)) ?_
              refine pR_p 10 [32, 33, 34, 36, 37] [(274, (Value.int .i64 ((M209 : Int)))), (273, (Value.slice A2 nb c2)), (271, (pt g263 17)), (270, (Value.bool false)), (269, (Value.bool false))] 240518168575 hs266 ⟨h266.at_ 0 rfl, h266.at_ 7 rfl, trivial⟩ ?_
              refine pR_v 38 (some 275) (Value.int .i64 (((M209 - 1 : Nat) : Int))) 515396075519 rfl hs266 ⟨h266.at_ 0 rfl, h266.at_ 7 rfl, trivial⟩ (fun W hW => exec_sub _ _ _ _ rfl ((M209 : Int)) 1 (by kernel_rfl) (by kernel_rfl) (((M209 - 1 : Nat) : Int)) (by omega) (by omega) (by omega) _) ?_
              refine pR_v 39 (some 276) (eAt A2 ((((M209 - 1))) * 18 + 0)) 1065151889407 rfl hs266 ⟨h266.at_ 0 rfl, h266.at_ 7 rfl, trivial⟩ (fun W hW => e_idxN (OV.rvn (h266.at_ 7 rfl)).2 (((M209 - 1))) nb (OV.rvn (h266.at_ 7 rfl)).1 (by omega) 62 (.tmp 273) (.tmp 275) (by kernel_rfl) .i64 (by kernel_rfl) (by kernel_rfl) 56 (by kernel_rfl) (by kernel_rfl) _) ?_
              refine pR_v 40 (some 277) (eAt A2 ((((M209 - 1))) * 18 + 17)) 2164663517183 rfl hs266 ⟨h266.at_ 0 rfl, h266.at_ 7 rfl, trivial⟩ (fun W hW => e_fldN (OV.rvn (h266.at_ 7 rfl)).2 (((M209 - 1))) 0 17 (vb (kl Kb) ++ [(Value.int .i64 ub_), (Value.slice Ab lb.length cb)]) (zip_get sealCells hbx hbvx) (.tmp 276) (by kernel_rfl) (fun _ _ => by kernel_rfl) (fun _ => rfl) _) ?_
              refine pR_v 35 (some 272) (Value.slice A262 lb.length c262) 2199023255551 rfl hs266 ⟨h266.at_ 0 rfl, h266.at_ 7 rfl, trivial⟩ (fun W hW => e_load hW.1 28 (.tmp 271) (by kernel_rfl) 17 (Value.slice A262 lb.length c262) (by kernel_rfl) (by kernel_rfl) (by kernel_rfl)) ?_
              refine pR_v 41 (some 278) (Value.slice Ab lb.length cb) 4398046511103 rfl hs266 ⟨h266.at_ 0 rfl, h266.at_ 7 rfl, trivial⟩ (fun W hW => e_elemN (OV.rvn hW.2.1).2 (((M209 - 1))) 17 (vb (kl Kb) ++ [(Value.int .i64 ub_), (Value.slice Ab lb.length cb)]) (zip_get sealCells hbx hbvx) 28 (.tmp 277) (by kernel_rfl) (Value.slice Ab lb.length cb) (by kernel_rfl) (by kernel_rfl) (by kernel_rfl)) ?_
              refine pR_to 42 (some 279) 8796093022207 rfl hs266 (x_same h266 lb lb (Value.slice A262 lb.length c262) (Value.slice Ab lb.length cb) (by kernel_rfl) (OB.sb (h266.at_ 1 rfl)) (SBs.at_ (h266.rd 3 rfl) hbvx hlbx) true (by simp)) ?_
              rintro _ w267 ⟨rfl, h267⟩
              refine ⟨fun _ => ⟨h267.at_ 0 rfl, h267.at_ 7 rfl, trivial⟩, ?_⟩
              refine pR_p 0 [43, 44, 45, 46] [(283, (Value.bool false)), (282, (Value.bool false)), (281, (Value.bool false)), (280, (Value.bool false))] 140737488355327 hs266 ⟨h267.at_ 0 rfl, h267.at_ 7 rfl, trivial⟩ ?_
              refine pR_done hs266 ?_ _
              refine seq_n hK265 ?_
              refine wp_cond_false (by kernel_rfl) ?_
              refine wp_skip ?_
              refine blk_n ?_
              refine seq_n hK37 ?_
              refine wp_seq_k ?_
              intro K268 hK268
              have hI2 : Inv (ks) s := hI
              have hB2 : s.boxes = bx := hB
              have hS2 : s.sums = ss := hS
              have hkl2 := hI2.len
              have hbl2 : s.boxes.length = (bx : List SSealed).length := by rw [hB2]
              refine reg_lit ?_
              refine wq_p 1 [(320, (pt tb10 0))] ?_
              refine wq_to (some 321) (x_nkeys h267 9 rfl (by kernel_rfl)) ?_
              rintro _ w269 ⟨rfl, h269⟩
              refine wq_p 2 [(323, (Value.int .i64 ((nk : Int)))), (322, (Value.slice A1 nk c1))] ?_
              refine wq_v (some 324) (.bool false) (eq_is (v := (Value.bool (((s.keys.length : Int)) != ((nk : Int))))) (by kernel_rfl) (by simp; omega)) ?_
              refine wq_p 2 [(326, (pt tb10 0)), (325, (Value.bool false))] ?_
              refine wq_to (some 327) (x_nboxes h269 9 rfl (by kernel_rfl)) ?_
              rintro _ w270 ⟨rfl, h270⟩
              refine wq_p 2 [(329, (Value.int .i64 ((nb : Int)))), (328, (Value.slice A2 nb c2))] ?_
              refine wq_v (some 330) (.bool false) (eq_is (v := (Value.bool (((s.boxes.length : Int)) != ((nb : Int))))) (by kernel_rfl) (by simp; omega)) ?_
              refine wq_p 1 [(331, (Value.bool false))] ?_
              refine wl_end rfl ?_
              refine seq_n hK268 ?_
              refine wp_cond_false (by kernel_rfl) ?_
              refine wp_skip ?_
              refine blk_n ?_
              refine seq_n hK24 ?_
              refine wp_reset 399 [(0, (Value.slice A st.length c)), (3, (pt tb10 0)), (4, (Value.slice A1 nk c1)), (5, (Value.slice A2 nb c2)), (6, (Value.slice A3 ns c3)), (8, (pt g26 0)), (9, (pt g35 0)), (16, (pt g211 0)), (17, (Value.slice A253 lb.length c253)), (18, (Value.bool true)), (19, (Value.int .i64 ((M209 : Int)))), (20, (Value.bool true)), (21, (pt g263 0)), (22, (Value.bool true)), (34, (Value.bool false)), (37, (Value.bool (decide ((st.length : Int) > 60)))), (42, (Value.slice A st.length c)), (43, (Value.int .i64 ((st.length : Int)))), (44, (Value.int .i64 ((n : Int)))), (45, (Value.bool (decide ((n : Int) < (st.length : Int))))), (57, (Value.bool false)), (63, (Value.int .i64 xk)), (64, (Value.bool (xk == 0))), (76, (Value.bool (xk == 2))), (130, (Value.bool (xk == 3))), (156, (Value.bool (xk == 4))), (230, (Value.bool false)), (283, (Value.bool false)), (331, (Value.bool false))] (fun x271 => ?_)
              refine reg_lit ?_
              refine wq_v (some 332) (Value.int .i64 ((n : Int) + 1)) (exec_add _ _ _ _ rfl ((n : Int)) 1 (by kernel_rfl) (by kernel_rfl) ((n : Int) + 1) rfl (by omega) (by omega) _) ?_
              refine wq_p 1 [(44, (Value.int .i64 ((n : Int) + 1)))] ?_
              refine wl_end rfl ?_
              refine ⟨st.length - (n + 1), (by omega), (n + 1), ks, bx, bv, ss, sv, s, F, A1, c1, A2, c2, A3, c3, nk, nb, ns, hI2, hB2, hS2, hbv, hsv, (by omega), (by omega), (by omega), (by omega), hbb, hnd, (by first | omega | (simp; omega)), (by first | omega | (simp; omega)), (by first | omega | (simp; omega)), rfl, (patch_eq _ 399 _ (by kernel_rfl) (by kernel_rfl) (by kernel_rfl)), h270.sel [6, 7, 8, 9] [1, 2, 3, 4] (by kernel_rfl) rfl rfl⟩
             ·
              refine wp_reset 399 [(0, (Value.slice A st.length c)), (3, (pt tb10 0)), (4, (Value.slice A1 nk c1)), (5, (Value.slice A2 nb c2)), (6, (Value.slice A3 ns c3)), (8, (pt g26 0)), (9, (pt g35 0)), (16, (pt g211 0)), (34, (Value.bool false)), (37, (Value.bool (decide ((st.length : Int) > 60)))), (42, (Value.slice A st.length c)), (43, (Value.int .i64 ((st.length : Int)))), (44, (Value.int .i64 ((n : Int)))), (45, (Value.bool (decide ((n : Int) < (st.length : Int))))), (57, (Value.bool false)), (63, (Value.int .i64 xk)), (64, (Value.bool (xk == 0))), (76, (Value.bool (xk == 2))), (130, (Value.bool (xk == 3))), (156, (Value.bool (xk == 4)))] (fun x272 => ?_)
              have hbox : s.box (mkB 98 M209) = some ⟨kl Kb, ub_, lb⟩ := box_there (by rw [hB]; exact hbx) hM2 (by omega)
              refine pR_go h212 11 (fun W => (rBlk g35 22 (vb (kl K34))).Φ W ∧ (rBlk g26 65 ([(Value.int .i64 xk), (Value.int .i64 xa), (Value.int .i64 xb), (Value.string xt), (Value.slice Ax xl.length cx)])).Φ W ∧ True) [(164, [3], 0), (165, [9], 0), (166, [8], 0), (167, [165], 4), (168, [166], 8), (169, [16], 0), (170, [163, 164, 167, 168], 51), (163, [169], 64), (171, [162], 128), (172, [162], 128), (18, [170], 511), (19, [171], 2047)] rfl (fun _ d _ _ _ h => by cases d <;> exact h) ?_
              intro hs273 w273 h273
              refine pR_p 9 [0, 2, 5] [(168, (Value.slice (some ⟨g211, 0, none⟩) 16 16)), (165, (pt g26 3)), (163, (pt tb10 0))] 37 hs273 ⟨h273.at_ 1 rfl, h273.at_ 2 rfl, trivial⟩ ?_
              refine pR_v 1 (some 164) (Value.agg (vb (kl K34)).toArray) 39 rfl hs273 ⟨h273.at_ 1 rfl, h273.at_ 2 rfl, trivial⟩ (fun W hW => e_loads hW.1 22 (.tmp 9) (by kernel_rfl) 0 (vb (kl K34)) (by kernel_rfl) (by kernel_rfl) (by kernel_rfl)) ?_
              refine pR_v 3 (some 166) (Value.string xt) 47 rfl hs273 ⟨h273.at_ 1 rfl, h273.at_ 2 rfl, trivial⟩ (fun W hW => e_load hW.2.1 9 (.tmp 165) (by kernel_rfl) 3 (Value.string xt) (by kernel_rfl) (by kernel_rfl) (by kernel_rfl)) ?_
              refine pR_p 6 [4] [(167, (Value.int .i64 (((xt).size : Int))))] 63 hs273 ⟨h273.at_ 1 rfl, h273.at_ 2 rfl, trivial⟩ ?_
              refine pR_to 6 (some 169) 127 rfl hs273 (x_open h273 6 rfl K34 (((xt).size : Int)) (kl K210) (Value.slice (some ⟨g211, 0, none⟩) 16 16) none (by kernel_rfl) (SB.blk16 (K := K210) (h273.at_ 0 rfl)) (by rw [hB]; exact hbb) (h273.tabW 6 rfl).1 (by omega) (open_other (by rw [hK210]; exact hbox) (fun hh => hub hh.2))) ?_
              rintro _ w274 ⟨A274, c274, rfl, h274⟩
              refine ⟨fun _ => ⟨h274.at_ 2 rfl, h274.at_ 3 rfl, trivial⟩, ?_⟩
              refine pR_p 1 [7, 8, 9, 10] [(17, (Value.slice A274 0 c274)), (171, (Value.bool false)), (170, (Value.slice A274 0 c274)), (162, (Value.tuple #[(Value.slice A274 0 c274), (Value.bool false)]))] 2047 hs273 ⟨h274.at_ 2 rfl, h274.at_ 3 rfl, trivial⟩ ?_
              refine pR_to 11 (some 18) 4095 rfl hs273 (OpTo.run (Value.bool false) (pureOp_run (by kernel_rfl) _) (R := fun v w => v = (Value.bool false) ∧ w = w274) ⟨rfl, rfl⟩) ?_
              rintro _ _ ⟨rfl, rfl⟩
              refine ⟨fun h => absurd h (by decide), ?_⟩
              refine pR_done hs273 ?_ _
              refine seq_n hK213 ?_
              refine wp_seq_k ?_
              intro K275 hK275
              refine reg_lit ?_
              refine wq_p 1 [(172, (pt g26 2))] ?_
              refine wq_v (some 173) (Value.int .i64 xb) (e_load (h274.at_ 3 rfl) 3 (.tmp 172) (by kernel_rfl) 2 (Value.int .i64 xb) (by kernel_rfl) (by kernel_rfl) (by kernel_rfl)) ?_
              refine wq_v (some 174) (Value.int .i64 ((M209 : Int))) (eq_is (v := Value.int .i64 (bits .and .i64 xb 31)) (by kernel_rfl) (congrArg (Value.int .i64) hM209)) ?_
              refine wq_p 1 [(19, (Value.int .i64 ((M209 : Int))))] ?_
              refine wl_end rfl ?_
              refine seq_n hK275 ?_
              refine wp_seq_k ?_
              intro K276 hK276
              refine pR_go h274 30 (fun W => (rOV 56 18 ((Value.slice A2 nb c2)) (List.zipWith sealCells bx bv)).Φ W ∧ (rBlk g35 22 (vb (kl K34))).Φ W ∧ (rBlk g26 65 ([(Value.int .i64 xk), (Value.int .i64 xa), (Value.int .i64 xb), (Value.string xt), (Value.slice Ax xl.length cx)])).Φ W ∧ True) [(176, [19], 0), (177, [175], 1), (178, [176], 2), (179, [19, 177], 4), (180, [5, 177], 4), (181, [179, 177], 20), (182, [178, 180, 177], 44), (183, [177, 181], 68), (184, [182], 132), (185, [5, 183], 256), (186, [19, 183], 256), (187, [185, 183], 1280), (188, [184, 186, 183], 2816), (189, [187, 183], 4352), (190, [188, 183], 8448), (191, [9, 183], 256), (192, [189, 190, 183], 49408), (193, [183, 191], 65792), (194, [192], 131328), (195, [5, 193], 262144), (196, [19, 193], 262144), (197, [195, 193], 1310720), (198, [194, 196, 193], 2883584), (199, [197, 193], 4456448), (200, [198, 193], 8650752), (201, [8, 193], 262144), (202, [200, 193], 33816576), (203, [201, 193], 67371008), (204, [199, 202, 193], 151257088), (205, [193, 203], 268697600), (21, [204], 1073741823)] rfl (fun _ d _ _ _ h => by cases d <;> exact h) ?_
              intro hs277 w277 h277
              refine pR_p 30 [0] [(175, (Value.int .i64 ((M209 : Int))))] 1 hs277 ⟨h277.at_ 5 rfl, h277.at_ 2 rfl, h277.at_ 3 rfl, trivial⟩ ?_
              refine pR_v 1 (some 176) (Value.bool true) 3 rfl hs277 ⟨h277.at_ 5 rfl, h277.at_ 2 rfl, h277.at_ 3 rfl, trivial⟩ (fun W hW => eq_is (v := (Value.bool (decide ((M209 : Int) ≥ 1)))) (by kernel_rfl) (by simp; omega)) ?_
              refine pR_p 25 [2, 3, 4, 5] [(180, (Value.int .i64 ((nb : Int)))), (179, (Value.slice A2 nb c2)), (178, (Value.int .i64 ((M209 : Int)))), (177, (Value.bool true))] 63 hs277 ⟨h277.at_ 5 rfl, h277.at_ 2 rfl, h277.at_ 3 rfl, trivial⟩ ?_
              refine pR_v 6 (some 181) (Value.bool true) 127 rfl hs277 ⟨h277.at_ 5 rfl, h277.at_ 2 rfl, h277.at_ 3 rfl, trivial⟩ (fun W hW => eq_is (v := (Value.bool (decide ((M209 : Int) ≤ (nb : Int))))) (by kernel_rfl) (by simp; omega)) ?_
              refine pR_p 20 [7, 8, 9, 10] [(185, (Value.int .i64 ((M209 : Int)))), (184, (Value.slice A2 nb c2)), (183, (Value.bool true)), (182, (Value.bool true))] 2047 hs277 ⟨h277.at_ 5 rfl, h277.at_ 2 rfl, h277.at_ 3 rfl, trivial⟩ ?_
              refine pR_v 11 (some 186) (Value.int .i64 (((M209 - 1 : Nat) : Int))) 4095 rfl hs277 ⟨h277.at_ 5 rfl, h277.at_ 2 rfl, h277.at_ 3 rfl, trivial⟩ (fun W hW => exec_sub _ _ _ _ rfl ((M209 : Int)) 1 (by kernel_rfl) (by kernel_rfl) (((M209 - 1 : Nat) : Int)) (by omega) (by omega) (by omega) _) ?_
              refine pR_v 12 (some 187) (eAt A2 ((((M209 - 1))) * 18 + 0)) 8191 rfl hs277 ⟨h277.at_ 5 rfl, h277.at_ 2 rfl, h277.at_ 3 rfl, trivial⟩ (fun W hW => e_idxN (OV.rvn (h277.at_ 5 rfl)).2 (((M209 - 1))) nb (OV.rvn (h277.at_ 5 rfl)).1 (by omega) 62 (.tmp 184) (.tmp 186) (by kernel_rfl) .i64 (by kernel_rfl) (by kernel_rfl) 56 (by kernel_rfl) (by kernel_rfl) _) ?_
              refine pR_v 13 (some 188) (eAt A2 ((((M209 - 1))) * 18 + 0)) 16383 rfl hs277 ⟨h277.at_ 5 rfl, h277.at_ 2 rfl, h277.at_ 3 rfl, trivial⟩ (fun W hW => e_fldN (OV.rvn (h277.at_ 5 rfl)).2 (((M209 - 1))) 0 0 (vb (kl Kb) ++ [(Value.int .i64 ub_), (Value.slice Ab lb.length cb)]) (zip_get sealCells hbx hbvx) (.tmp 187) (by kernel_rfl) (fun _ _ => by kernel_rfl) (fun _ => rfl) _) ?_
              refine pR_v 14 (some 189) (Value.agg (vb (kl Kb)).toArray) 32767 rfl hs277 ⟨h277.at_ 5 rfl, h277.at_ 2 rfl, h277.at_ 3 rfl, trivial⟩ (fun W hW => e_elemsN (OV.rvn hW.1).2 (((M209 - 1))) 0 (vb (kl Kb) ++ [(Value.int .i64 ub_), (Value.slice Ab lb.length cb)]) (zip_get sealCells hbx hbvx) 42 (.tmp 188) (by kernel_rfl) (vb (kl Kb)) (by kernel_rfl) (by kernel_rfl) (by kernel_rfl)) ?_
              refine pR_v 15 (some 190) (Value.agg (vb (kl K34)).toArray) 65535 rfl hs277 ⟨h277.at_ 5 rfl, h277.at_ 2 rfl, h277.at_ 3 rfl, trivial⟩ (fun W hW => e_loads hW.2.1 22 (.tmp 9) (by kernel_rfl) 0 (vb (kl K34)) (by kernel_rfl) (by kernel_rfl) (by kernel_rfl)) ?_
              refine pR_v 16 (some 191) (Value.bool true) 131071 rfl hs277 ⟨h277.at_ 5 rfl, h277.at_ 2 rfl, h277.at_ 3 rfl, trivial⟩ (fun W hW => e_keq Kb K34 42 42 (.tmp 189) (.tmp 190) (by kernel_rfl) (by kernel_rfl) (by kernel_rfl) (by kernel_rfl) (by kernel_rfl) true (decide_eq_true hKb) _) ?_
              refine pR_p 9 [17, 18, 19, 20, 25] [(200, (pt g26 3)), (195, (Value.int .i64 ((M209 : Int)))), (194, (Value.slice A2 nb c2)), (193, (Value.bool true)), (192, (Value.bool true))] 35651583 hs277 ⟨h277.at_ 5 rfl, h277.at_ 2 rfl, h277.at_ 3 rfl, trivial⟩ ?_
              refine pR_v 21 (some 196) (Value.int .i64 (((M209 - 1 : Nat) : Int))) 37748735 rfl hs277 ⟨h277.at_ 5 rfl, h277.at_ 2 rfl, h277.at_ 3 rfl, trivial⟩ (fun W hW => exec_sub _ _ _ _ rfl ((M209 : Int)) 1 (by kernel_rfl) (by kernel_rfl) (((M209 - 1 : Nat) : Int)) (by omega) (by omega) (by omega) _) ?_
              refine pR_v 22 (some 197) (eAt A2 ((((M209 - 1))) * 18 + 0)) 41943039 rfl hs277 ⟨h277.at_ 5 rfl, h277.at_ 2 rfl, h277.at_ 3 rfl, trivial⟩ (fun W hW => e_idxN (OV.rvn (h277.at_ 5 rfl)).2 (((M209 - 1))) nb (OV.rvn (h277.at_ 5 rfl)).1 (by omega) 62 (.tmp 194) (.tmp 196) (by kernel_rfl) .i64 (by kernel_rfl) (by kernel_rfl) 56 (by kernel_rfl) (by kernel_rfl) _) ?_
              refine pR_v 23 (some 198) (eAt A2 ((((M209 - 1))) * 18 + 16)) 50331647 rfl hs277 ⟨h277.at_ 5 rfl, h277.at_ 2 rfl, h277.at_ 3 rfl, trivial⟩ (fun W hW => e_fldN (OV.rvn (h277.at_ 5 rfl)).2 (((M209 - 1))) 0 16 (vb (kl Kb) ++ [(Value.int .i64 ub_), (Value.slice Ab lb.length cb)]) (zip_get sealCells hbx hbvx) (.tmp 197) (by kernel_rfl) (fun _ _ => by kernel_rfl) (fun _ => rfl) _) ?_
              refine pR_v 24 (some 199) (Value.int .i64 ub_) 67108863 rfl hs277 ⟨h277.at_ 5 rfl, h277.at_ 2 rfl, h277.at_ 3 rfl, trivial⟩ (fun W hW => e_elemN (OV.rvn hW.1).2 (((M209 - 1))) 16 (vb (kl Kb) ++ [(Value.int .i64 ub_), (Value.slice Ab lb.length cb)]) (zip_get sealCells hbx hbvx) 3 (.tmp 198) (by kernel_rfl) (Value.int .i64 ub_) (by kernel_rfl) (by kernel_rfl) (by kernel_rfl)) ?_
              refine pR_v 26 (some 201) (Value.string xt) 134217727 rfl hs277 ⟨h277.at_ 5 rfl, h277.at_ 2 rfl, h277.at_ 3 rfl, trivial⟩ (fun W hW => e_load hW.2.2.1 9 (.tmp 200) (by kernel_rfl) 3 (Value.string xt) (by kernel_rfl) (by kernel_rfl) (by kernel_rfl)) ?_
              refine pR_p 3 [27] [(202, (Value.int .i64 (((xt).size : Int))))] 268435455 hs277 ⟨h277.at_ 5 rfl, h277.at_ 2 rfl, h277.at_ 3 rfl, trivial⟩ ?_
              refine pR_v 28 (some 203) (Value.bool false) 536870911 rfl hs277 ⟨h277.at_ 5 rfl, h277.at_ 2 rfl, h277.at_ 3 rfl, trivial⟩ (fun W hW => eq_is (v := (Value.bool (ub_ == (((xt).size : Int))))) (by kernel_rfl) (by simp [hub])) ?_
              refine pR_p 1 [29] [(204, (Value.bool false))] 1073741823 hs277 ⟨h277.at_ 5 rfl, h277.at_ 2 rfl, h277.at_ 3 rfl, trivial⟩ ?_
              refine pR_to 30 (some 20) 2147483647 rfl hs277 (OpTo.run (Value.bool false) (pureOp_run (by kernel_rfl) _) (R := fun v w => v = (Value.bool false) ∧ w = w277) ⟨rfl, rfl⟩) ?_
              rintro _ _ ⟨rfl, rfl⟩
              refine ⟨fun h => absurd h (by decide), ?_⟩
              refine pR_done hs277 ?_ _
              refine seq_n hK276 ?_
              refine wp_seq_k ?_
              intro K278 hK278
              refine wp_seq_k ?_
              intro K279 hK279
              refine reg_lit ?_
              refine wq_p 26 [(230, (Value.bool false)), (229, (Value.bool false)), (228, (Value.bool false)), (227, (Value.int .i64 0)), (226, (Value.slice A274 0 c274)), (225, (Value.bool true)), (224, (Value.bool true)), (223, (Value.bool false)), (222, (Value.bool false)), (221, (Value.bool false)), (220, (Value.bool false)), (219, undef), (218, undef), (217, undef), (216, undef), (215, undef), (214, undef), (213, undef), (212, undef), (211, undef), (210, (Value.bool false)), (209, (Value.bool false)), (208, (Value.bool false)), (207, (Value.bool false)), (206, (Value.bool false)), (205, (Value.bool false))] ?_
              refine wl_end rfl ?_
              refine seq_n hK279 ?_
              refine wp_cond_false (by kernel_rfl) ?_
              refine wp_skip ?_
              refine seq_n hK278 ?_
              refine wp_seq_k ?_
              intro K280 hK280
              refine wp_reset 399 [(0, (Value.slice A st.length c)), (3, (pt tb10 0)), (4, (Value.slice A1 nk c1)), (5, (Value.slice A2 nb c2)), (6, (Value.slice A3 ns c3)), (8, (pt g26 0)), (9, (pt g35 0)), (16, (pt g211 0)), (17, (Value.slice A274 0 c274)), (18, (Value.bool false)), (19, (Value.int .i64 ((M209 : Int)))), (20, (Value.bool false)), (34, (Value.bool false)), (37, (Value.bool (decide ((st.length : Int) > 60)))), (42, (Value.slice A st.length c)), (43, (Value.int .i64 ((st.length : Int)))), (44, (Value.int .i64 ((n : Int)))), (45, (Value.bool (decide ((n : Int) < (st.length : Int))))), (57, (Value.bool false)), (63, (Value.int .i64 xk)), (64, (Value.bool (xk == 0))), (76, (Value.bool (xk == 2))), (130, (Value.bool (xk == 3))), (156, (Value.bool (xk == 4))), (230, (Value.bool false))] (fun x281 => ?_)
              refine reg_lit ?_
              refine wq_p 2 [(233, (Value.slice (some ⟨g211, 0, none⟩) 16 16)), (232, (pt tb10 0))] ?_
              refine wq_to (some 234) (x_boxS h277 7 rfl (kl K210) (Value.slice (some ⟨g211, 0, none⟩) 16 16) Kb ub_ lb (by kernel_rfl) (SB.blk16 (K := K210) (h277.at_ 1 rfl)) (by rw [hB]; exact hbb) (h277.tabW 7 rfl).1 (by omega) (by rw [hK210]; exact hbox)) ?_
              rintro _ w282 ⟨A282, c282, rfl, h282⟩
              refine wq_p 3 [(236, (Value.bool true)), (235, (Value.agg (vb (kl Kb) ++ [(Value.int .i64 ub_), (Value.slice A282 lb.length c282)]).toArray)), (231, (Value.tuple #[(Value.agg (vb (kl Kb) ++ [(Value.int .i64 ub_), (Value.slice A282 lb.length c282)]).toArray), (Value.bool true)]))] ?_
              refine wq_to (some 21) (x_new h282 56 (vb (List.replicate 16 0) ++ [(Value.int .i64 0), (Value.slice none 0 0)]) (fun r => pt r 0) (by kernel_rfl)) ?_
              rintro _ w283 ⟨g283, rfl, h283⟩
              refine wq_to none (x_stores h283 0 rfl 56 (.tmp 21) (.tmp 235) (by kernel_rfl) 0 (vb (kl Kb) ++ [(Value.int .i64 ub_), (Value.slice A282 lb.length c282)]) (vb (kl Kb) ++ [(Value.int .i64 ub_), (Value.slice A282 lb.length c282)]) (by kernel_rfl) (by kernel_rfl) (by kernel_rfl) (by kernel_rfl) (by kernel_rfl) (by kernel_rfl)) ?_
              rintro _ w284 h284
              refine wq_p 1 [(22, (Value.bool true))] ?_
              refine wl_end rfl ?_
              refine seq_n hK280 ?_
              refine wp_seq_k ?_
              intro K285 hK285
              refine pR_go h284 47 (fun W => (rBlk g283 56 (vb (kl Kb) ++ [(Value.int .i64 ub_), (Value.slice A282 lb.length c282)])).Φ W ∧ (rOV 56 18 ((Value.slice A2 nb c2)) (List.zipWith sealCells bx bv)).Φ W ∧ True) [(238, [22], 0), (239, [19], 0), (240, [238], 2), (241, [239], 4), (242, [19, 240], 8), (243, [5, 240], 8), (244, [242, 240], 40), (245, [241, 243, 240], 88), (246, [240, 244], 136), (247, [237, 245], 257), (248, [246], 520), (249, [22, 247], 1024), (250, [248, 247], 3072), (251, [21, 249], 4096), (252, [250, 249], 12288), (253, [5, 249], 4096), (254, [19, 249], 4096), (255, [253, 249], 69632), (256, [252, 254, 249], 167936), (257, [255, 249], 266240), (258, [256, 249], 528384), (259, [251, 257, 249], 1069056), (260, [258, 249], 2101248), (261, [21, 259], 4194304), (262, [260, 259], 12582912), (263, [5, 259], 4194304), (264, [19, 259], 4194304), (265, [263, 259], 71303168), (266, [262, 264, 259], 171966464), (267, [265, 259], 272629760), (268, [266, 259], 541065216), (269, [261, 267, 259], 1094713344), (270, [259, 268, 249], 2151682048), (271, [269, 249], 4299165696), (272, [21, 270], 8589934592), (273, [271, 270], 25769803776), (274, [5, 270], 8589934592), (275, [19, 270], 8589934592), (276, [274, 270], 146028888064), (277, [273, 275, 270], 352187318272), (278, [276, 270], 558345748480), (279, [277, 270], 1108101562368), (280, [272, 278, 270], 2241972928512), (281, [279, 270], 4406636445696), (282, [270, 280, 249], 8804682960896), (283, [249, 281, 247], 17592186049536), (284, [247, 282], 35184372089856)] rfl (fun _ d _ _ _ h => by cases d <;> exact h) ?_
              intro hs286 w286 h286
              refine pR_p 45 [0, 1] [(238, (Value.int .i64 ((M209 : Int)))), (237, (Value.bool true))] 3 hs286 ⟨h286.at_ 0 rfl, h286.at_ 7 rfl, trivial⟩ ?_
              refine pR_v 2 (some 239) (Value.bool true) 7 rfl hs286 ⟨h286.at_ 0 rfl, h286.at_ 7 rfl, trivial⟩ (fun W hW => eq_is (v := (Value.bool (decide ((M209 : Int) ≥ 1)))) (by kernel_rfl) (by simp; omega)) ?_
              refine pR_p 40 [3, 4, 5, 6] [(243, (Value.int .i64 ((nb : Int)))), (242, (Value.slice A2 nb c2)), (241, (Value.int .i64 ((M209 : Int)))), (240, (Value.bool true))] 127 hs286 ⟨h286.at_ 0 rfl, h286.at_ 7 rfl, trivial⟩ ?_
              refine pR_v 7 (some 244) (Value.bool true) 255 rfl hs286 ⟨h286.at_ 0 rfl, h286.at_ 7 rfl, trivial⟩ (fun W hW => eq_is (v := (Value.bool (decide ((M209 : Int) ≤ (nb : Int))))) (by kernel_rfl) (by simp; omega)) ?_
              refine pR_p 31 [8, 9, 10, 11, 12, 13, 15, 16] [(253, (Value.int .i64 ((M209 : Int)))), (252, (Value.slice A2 nb c2)), (250, (pt g283 0)), (249, (Value.bool true)), (248, (Value.bool true)), (247, (Value.bool false)), (246, (Value.bool false)), (245, (Value.bool true))] 114687 hs286 ⟨h286.at_ 0 rfl, h286.at_ 7 rfl, trivial⟩ ?_
              refine pR_v 17 (some 254) (Value.int .i64 (((M209 - 1 : Nat) : Int))) 245759 rfl hs286 ⟨h286.at_ 0 rfl, h286.at_ 7 rfl, trivial⟩ (fun W hW => exec_sub _ _ _ _ rfl ((M209 : Int)) 1 (by kernel_rfl) (by kernel_rfl) (((M209 - 1 : Nat) : Int)) (by omega) (by omega) (by omega) _) ?_
              refine pR_v 18 (some 255) (eAt A2 ((((M209 - 1))) * 18 + 0)) 507903 rfl hs286 ⟨h286.at_ 0 rfl, h286.at_ 7 rfl, trivial⟩ (fun W hW => e_idxN (OV.rvn (h286.at_ 7 rfl)).2 (((M209 - 1))) nb (OV.rvn (h286.at_ 7 rfl)).1 (by omega) 62 (.tmp 252) (.tmp 254) (by kernel_rfl) .i64 (by kernel_rfl) (by kernel_rfl) 56 (by kernel_rfl) (by kernel_rfl) _) ?_
              refine pR_v 19 (some 256) (eAt A2 ((((M209 - 1))) * 18 + 0)) 1032191 rfl hs286 ⟨h286.at_ 0 rfl, h286.at_ 7 rfl, trivial⟩ (fun W hW => e_fldN (OV.rvn (h286.at_ 7 rfl)).2 (((M209 - 1))) 0 0 (vb (kl Kb) ++ [(Value.int .i64 ub_), (Value.slice Ab lb.length cb)]) (zip_get sealCells hbx hbvx) (.tmp 255) (by kernel_rfl) (fun _ _ => by kernel_rfl) (fun _ => rfl) _) ?_
              refine pR_v 14 (some 251) (Value.agg (vb (kl Kb)).toArray) 1048575 rfl hs286 ⟨h286.at_ 0 rfl, h286.at_ 7 rfl, trivial⟩ (fun W hW => e_loads hW.1 42 (.tmp 250) (by kernel_rfl) 0 (vb (kl Kb)) (by kernel_rfl) (by kernel_rfl) (by kernel_rfl)) ?_
              refine pR_v 20 (some 257) (Value.agg (vb (kl Kb)).toArray) 2097151 rfl hs286 ⟨h286.at_ 0 rfl, h286.at_ 7 rfl, trivial⟩ (fun W hW => e_elemsN (OV.rvn hW.2.1).2 (((M209 - 1))) 0 (vb (kl Kb) ++ [(Value.int .i64 ub_), (Value.slice Ab lb.length cb)]) (zip_get sealCells hbx hbvx) 42 (.tmp 256) (by kernel_rfl) (vb (kl Kb)) (by kernel_rfl) (by kernel_rfl) (by kernel_rfl)) ?_
              refine pR_v 21 (some 258) (Value.bool false) 4194303 rfl hs286 ⟨h286.at_ 0 rfl, h286.at_ 7 rfl, trivial⟩ (fun W hW => e_kne Kb Kb 42 42 (.tmp 251) (.tmp 257) (by kernel_rfl) (by kernel_rfl) (by kernel_rfl) (by kernel_rfl) (by kernel_rfl) false (by simp) _) ?_
              refine pR_p 21 [22, 23, 25, 26] [(263, (Value.int .i64 ((M209 : Int)))), (262, (Value.slice A2 nb c2)), (260, (pt g283 16)), (259, (Value.bool false))] 117440511 hs286 ⟨h286.at_ 0 rfl, h286.at_ 7 rfl, trivial⟩ ?_
              refine pR_v 27 (some 264) (Value.int .i64 (((M209 - 1 : Nat) : Int))) 251658239 rfl hs286 ⟨h286.at_ 0 rfl, h286.at_ 7 rfl, trivial⟩ (fun W hW => exec_sub _ _ _ _ rfl ((M209 : Int)) 1 (by kernel_rfl) (by kernel_rfl) (((M209 - 1 : Nat) : Int)) (by omega) (by omega) (by omega) _) ?_
              refine pR_v 28 (some 265) (eAt A2 ((((M209 - 1))) * 18 + 0)) 520093695 rfl hs286 ⟨h286.at_ 0 rfl, h286.at_ 7 rfl, trivial⟩ (fun W hW => e_idxN (OV.rvn (h286.at_ 7 rfl)).2 (((M209 - 1))) nb (OV.rvn (h286.at_ 7 rfl)).1 (by omega) 62 (.tmp 262) (.tmp 264) (by kernel_rfl) .i64 (by kernel_rfl) (by kernel_rfl) 56 (by kernel_rfl) (by kernel_rfl) _) ?_
              refine pR_v 29 (some 266) (eAt A2 ((((M209 - 1))) * 18 + 16)) 1056964607 rfl hs286 ⟨h286.at_ 0 rfl, h286.at_ 7 rfl, trivial⟩ (fun W hW => e_fldN (OV.rvn (h286.at_ 7 rfl)).2 (((M209 - 1))) 0 16 (vb (kl Kb) ++ [(Value.int .i64 ub_), (Value.slice Ab lb.length cb)]) (zip_get sealCells hbx hbvx) (.tmp 265) (by kernel_rfl) (fun _ _ => by kernel_rfl) (fun _ => rfl) _) ?_
              refine pR_v 24 (some 261) (Value.int .i64 ub_) 1073741823 rfl hs286 ⟨h286.at_ 0 rfl, h286.at_ 7 rfl, trivial⟩ (fun W hW => e_load hW.1 3 (.tmp 260) (by kernel_rfl) 16 (Value.int .i64 ub_) (by kernel_rfl) (by kernel_rfl) (by kernel_rfl)) ?_
              refine pR_v 30 (some 267) (Value.int .i64 ub_) 2147483647 rfl hs286 ⟨h286.at_ 0 rfl, h286.at_ 7 rfl, trivial⟩ (fun W hW => e_elemN (OV.rvn hW.2.1).2 (((M209 - 1))) 16 (vb (kl Kb) ++ [(Value.int .i64 ub_), (Value.slice Ab lb.length cb)]) (zip_get sealCells hbx hbvx) 3 (.tmp 266) (by kernel_rfl) (Value.int .i64 ub_) (by kernel_rfl) (by kernel_rfl) (by kernel_rfl)) ?_
              refine pR_v 31 (some 268) (Value.bool false) 4294967295 rfl hs286 ⟨h286.at_ 0 rfl, h286.at_ 7 rfl, trivial⟩ (fun W hW => eq_is (v := (Value.bool (ub_ != ub_))) (by kernel_rfl) (by simp)) ?_
              refine pR_p 10 [32, 33, 34, 36, 37] [(274, (Value.int .i64 ((M209 : Int)))), (273, (Value.slice A2 nb c2)), (271, (pt g283 17)), (270, (Value.bool false)), (269, (Value.bool false))] 240518168575 hs286 ⟨h286.at_ 0 rfl, h286.at_ 7 rfl, trivial⟩ ?_
              refine pR_v 38 (some 275) (Value.int .i64 (((M209 - 1 : Nat) : Int))) 515396075519 rfl hs286 ⟨h286.at_ 0 rfl, h286.at_ 7 rfl, trivial⟩ (fun W hW => exec_sub _ _ _ _ rfl ((M209 : Int)) 1 (by kernel_rfl) (by kernel_rfl) (((M209 - 1 : Nat) : Int)) (by omega) (by omega) (by omega) _) ?_
              refine pR_v 39 (some 276) (eAt A2 ((((M209 - 1))) * 18 + 0)) 1065151889407 rfl hs286 ⟨h286.at_ 0 rfl, h286.at_ 7 rfl, trivial⟩ (fun W hW => e_idxN (OV.rvn (h286.at_ 7 rfl)).2 (((M209 - 1))) nb (OV.rvn (h286.at_ 7 rfl)).1 (by omega) 62 (.tmp 273) (.tmp 275) (by kernel_rfl) .i64 (by kernel_rfl) (by kernel_rfl) 56 (by kernel_rfl) (by kernel_rfl) _) ?_
              refine pR_v 40 (some 277) (eAt A2 ((((M209 - 1))) * 18 + 17)) 2164663517183 rfl hs286 ⟨h286.at_ 0 rfl, h286.at_ 7 rfl, trivial⟩ (fun W hW => e_fldN (OV.rvn (h286.at_ 7 rfl)).2 (((M209 - 1))) 0 17 (vb (kl Kb) ++ [(Value.int .i64 ub_), (Value.slice Ab lb.length cb)]) (zip_get sealCells hbx hbvx) (.tmp 276) (by kernel_rfl) (fun _ _ => by kernel_rfl) (fun _ => rfl) _) ?_
              refine pR_v 35 (some 272) (Value.slice A282 lb.length c282) 2199023255551 rfl hs286 ⟨h286.at_ 0 rfl, h286.at_ 7 rfl, trivial⟩ (fun W hW => e_load hW.1 28 (.tmp 271) (by kernel_rfl) 17 (Value.slice A282 lb.length c282) (by kernel_rfl) (by kernel_rfl) (by kernel_rfl)) ?_
              refine pR_v 41 (some 278) (Value.slice Ab lb.length cb) 4398046511103 rfl hs286 ⟨h286.at_ 0 rfl, h286.at_ 7 rfl, trivial⟩ (fun W hW => e_elemN (OV.rvn hW.2.1).2 (((M209 - 1))) 17 (vb (kl Kb) ++ [(Value.int .i64 ub_), (Value.slice Ab lb.length cb)]) (zip_get sealCells hbx hbvx) 28 (.tmp 277) (by kernel_rfl) (Value.slice Ab lb.length cb) (by kernel_rfl) (by kernel_rfl) (by kernel_rfl)) ?_
              refine pR_to 42 (some 279) 8796093022207 rfl hs286 (x_same h286 lb lb (Value.slice A282 lb.length c282) (Value.slice Ab lb.length cb) (by kernel_rfl) (OB.sb (h286.at_ 1 rfl)) (SBs.at_ (h286.rd 3 rfl) hbvx hlbx) true (by simp)) ?_
              rintro _ w287 ⟨rfl, h287⟩
              refine ⟨fun _ => ⟨h287.at_ 0 rfl, h287.at_ 7 rfl, trivial⟩, ?_⟩
              refine pR_p 0 [43, 44, 45, 46] [(283, (Value.bool false)), (282, (Value.bool false)), (281, (Value.bool false)), (280, (Value.bool false))] 140737488355327 hs286 ⟨h287.at_ 0 rfl, h287.at_ 7 rfl, trivial⟩ ?_
              refine pR_done hs286 ?_ _
              refine seq_n hK285 ?_
              refine wp_cond_false (by kernel_rfl) ?_
              refine wp_skip ?_
              refine blk_n ?_
              refine seq_n hK37 ?_
              refine wp_seq_k ?_
              intro K288 hK288
              have hI2 : Inv (ks) s := hI
              have hB2 : s.boxes = bx := hB
              have hS2 : s.sums = ss := hS
              have hkl2 := hI2.len
              have hbl2 : s.boxes.length = (bx : List SSealed).length := by rw [hB2]
              refine reg_lit ?_
              refine wq_p 1 [(320, (pt tb10 0))] ?_
              refine wq_to (some 321) (x_nkeys h287 9 rfl (by kernel_rfl)) ?_
              rintro _ w289 ⟨rfl, h289⟩
              refine wq_p 2 [(323, (Value.int .i64 ((nk : Int)))), (322, (Value.slice A1 nk c1))] ?_
              refine wq_v (some 324) (.bool false) (eq_is (v := (Value.bool (((s.keys.length : Int)) != ((nk : Int))))) (by kernel_rfl) (by simp; omega)) ?_
              refine wq_p 2 [(326, (pt tb10 0)), (325, (Value.bool false))] ?_
              refine wq_to (some 327) (x_nboxes h289 9 rfl (by kernel_rfl)) ?_
              rintro _ w290 ⟨rfl, h290⟩
              refine wq_p 2 [(329, (Value.int .i64 ((nb : Int)))), (328, (Value.slice A2 nb c2))] ?_
              refine wq_v (some 330) (.bool false) (eq_is (v := (Value.bool (((s.boxes.length : Int)) != ((nb : Int))))) (by kernel_rfl) (by simp; omega)) ?_
              refine wq_p 1 [(331, (Value.bool false))] ?_
              refine wl_end rfl ?_
              refine seq_n hK288 ?_
              refine wp_cond_false (by kernel_rfl) ?_
              refine wp_skip ?_
              refine blk_n ?_
              refine seq_n hK24 ?_
              refine wp_reset 399 [(0, (Value.slice A st.length c)), (3, (pt tb10 0)), (4, (Value.slice A1 nk c1)), (5, (Value.slice A2 nb c2)), (6, (Value.slice A3 ns c3)), (8, (pt g26 0)), (9, (pt g35 0)), (16, (pt g211 0)), (17, (Value.slice A274 0 c274)), (18, (Value.bool false)), (19, (Value.int .i64 ((M209 : Int)))), (20, (Value.bool false)), (21, (pt g283 0)), (22, (Value.bool true)), (34, (Value.bool false)), (37, (Value.bool (decide ((st.length : Int) > 60)))), (42, (Value.slice A st.length c)), (43, (Value.int .i64 ((st.length : Int)))), (44, (Value.int .i64 ((n : Int)))), (45, (Value.bool (decide ((n : Int) < (st.length : Int))))), (57, (Value.bool false)), (63, (Value.int .i64 xk)), (64, (Value.bool (xk == 0))), (76, (Value.bool (xk == 2))), (130, (Value.bool (xk == 3))), (156, (Value.bool (xk == 4))), (230, (Value.bool false)), (283, (Value.bool false)), (331, (Value.bool false))] (fun x291 => ?_)
              refine reg_lit ?_
              refine wq_v (some 332) (Value.int .i64 ((n : Int) + 1)) (exec_add _ _ _ _ rfl ((n : Int)) 1 (by kernel_rfl) (by kernel_rfl) ((n : Int) + 1) rfl (by omega) (by omega) _) ?_
              refine wq_p 1 [(44, (Value.int .i64 ((n : Int) + 1)))] ?_
              refine wl_end rfl ?_
              refine ⟨st.length - (n + 1), (by omega), (n + 1), ks, bx, bv, ss, sv, s, F, A1, c1, A2, c2, A3, c3, nk, nb, ns, hI2, hB2, hS2, hbv, hsv, (by omega), (by omega), (by omega), (by omega), hbb, hnd, (by first | omega | (simp; omega)), (by first | omega | (simp; omega)), (by first | omega | (simp; omega)), rfl, (patch_eq _ 399 _ (by kernel_rfl) (by kernel_rfl) (by kernel_rfl)), h290.sel [6, 7, 8, 9] [1, 2, 3, 4] (by kernel_rfl) rfl rfl⟩
            ·
             refine wp_reset 399 [(0, (Value.slice A st.length c)), (3, (pt tb10 0)), (4, (Value.slice A1 nk c1)), (5, (Value.slice A2 nb c2)), (6, (Value.slice A3 ns c3)), (8, (pt g26 0)), (9, (pt g35 0)), (16, (pt g211 0)), (34, (Value.bool false)), (37, (Value.bool (decide ((st.length : Int) > 60)))), (42, (Value.slice A st.length c)), (43, (Value.int .i64 ((st.length : Int)))), (44, (Value.int .i64 ((n : Int)))), (45, (Value.bool (decide ((n : Int) < (st.length : Int))))), (57, (Value.bool false)), (63, (Value.int .i64 xk)), (64, (Value.bool (xk == 0))), (76, (Value.bool (xk == 2))), (130, (Value.bool (xk == 3))), (156, (Value.bool (xk == 4)))] (fun x292 => ?_)
             have hbox : s.box (mkB 98 M209) = some ⟨kl Kb, ub_, lb⟩ := box_there (by rw [hB]; exact hbx) hM2 (by omega)
             refine pR_go h212 11 (fun W => (rBlk g35 22 (vb (kl K34))).Φ W ∧ (rBlk g26 65 ([(Value.int .i64 xk), (Value.int .i64 xa), (Value.int .i64 xb), (Value.string xt), (Value.slice Ax xl.length cx)])).Φ W ∧ True) [(164, [3], 0), (165, [9], 0), (166, [8], 0), (167, [165], 4), (168, [166], 8), (169, [16], 0), (170, [163, 164, 167, 168], 51), (163, [169], 64), (171, [162], 128), (172, [162], 128), (18, [170], 511), (19, [171], 2047)] rfl (fun _ d _ _ _ h => by cases d <;> exact h) ?_
             intro hs293 w293 h293
             refine pR_p 9 [0, 2, 5] [(168, (Value.slice (some ⟨g211, 0, none⟩) 16 16)), (165, (pt g26 3)), (163, (pt tb10 0))] 37 hs293 ⟨h293.at_ 1 rfl, h293.at_ 2 rfl, trivial⟩ ?_
             refine pR_v 1 (some 164) (Value.agg (vb (kl K34)).toArray) 39 rfl hs293 ⟨h293.at_ 1 rfl, h293.at_ 2 rfl, trivial⟩ (fun W hW => e_loads hW.1 22 (.tmp 9) (by kernel_rfl) 0 (vb (kl K34)) (by kernel_rfl) (by kernel_rfl) (by kernel_rfl)) ?_
             refine pR_v 3 (some 166) (Value.string xt) 47 rfl hs293 ⟨h293.at_ 1 rfl, h293.at_ 2 rfl, trivial⟩ (fun W hW => e_load hW.2.1 9 (.tmp 165) (by kernel_rfl) 3 (Value.string xt) (by kernel_rfl) (by kernel_rfl) (by kernel_rfl)) ?_
             refine pR_p 6 [4] [(167, (Value.int .i64 (((xt).size : Int))))] 63 hs293 ⟨h293.at_ 1 rfl, h293.at_ 2 rfl, trivial⟩ ?_
             refine pR_to 6 (some 169) 127 rfl hs293 (x_open h293 6 rfl K34 (((xt).size : Int)) (kl K210) (Value.slice (some ⟨g211, 0, none⟩) 16 16) none (by kernel_rfl) (SB.blk16 (K := K210) (h293.at_ 0 rfl)) (by rw [hB]; exact hbb) (h293.tabW 6 rfl).1 (by omega) (open_other (by rw [hK210]; exact hbox) (fun hh => hKb hh.1))) ?_
             rintro _ w294 ⟨A294, c294, rfl, h294⟩
             refine ⟨fun _ => ⟨h294.at_ 2 rfl, h294.at_ 3 rfl, trivial⟩, ?_⟩
             refine pR_p 1 [7, 8, 9, 10] [(17, (Value.slice A294 0 c294)), (171, (Value.bool false)), (170, (Value.slice A294 0 c294)), (162, (Value.tuple #[(Value.slice A294 0 c294), (Value.bool false)]))] 2047 hs293 ⟨h294.at_ 2 rfl, h294.at_ 3 rfl, trivial⟩ ?_
             refine pR_to 11 (some 18) 4095 rfl hs293 (OpTo.run (Value.bool false) (pureOp_run (by kernel_rfl) _) (R := fun v w => v = (Value.bool false) ∧ w = w294) ⟨rfl, rfl⟩) ?_
             rintro _ _ ⟨rfl, rfl⟩
             refine ⟨fun h => absurd h (by decide), ?_⟩
             refine pR_done hs293 ?_ _
             refine seq_n hK213 ?_
             refine wp_seq_k ?_
             intro K295 hK295
             refine reg_lit ?_
             refine wq_p 1 [(172, (pt g26 2))] ?_
             refine wq_v (some 173) (Value.int .i64 xb) (e_load (h294.at_ 3 rfl) 3 (.tmp 172) (by kernel_rfl) 2 (Value.int .i64 xb) (by kernel_rfl) (by kernel_rfl) (by kernel_rfl)) ?_
             refine wq_v (some 174) (Value.int .i64 ((M209 : Int))) (eq_is (v := Value.int .i64 (bits .and .i64 xb 31)) (by kernel_rfl) (congrArg (Value.int .i64) hM209)) ?_
             refine wq_p 1 [(19, (Value.int .i64 ((M209 : Int))))] ?_
             refine wl_end rfl ?_
             refine seq_n hK295 ?_
             refine wp_seq_k ?_
             intro K296 hK296
             refine pR_go h294 30 (fun W => (rOV 56 18 ((Value.slice A2 nb c2)) (List.zipWith sealCells bx bv)).Φ W ∧ (rBlk g35 22 (vb (kl K34))).Φ W ∧ True) [(176, [19], 0), (177, [175], 1), (178, [176], 2), (179, [19, 177], 4), (180, [5, 177], 4), (181, [179, 177], 20), (182, [178, 180, 177], 44), (183, [177, 181], 68), (184, [182], 132), (185, [5, 183], 256), (186, [19, 183], 256), (187, [185, 183], 1280), (188, [184, 186, 183], 2816), (189, [187, 183], 4352), (190, [188, 183], 8448), (191, [9, 183], 256), (192, [189, 190, 183], 49408), (193, [183, 191], 65792), (194, [192], 131328), (195, [5, 193], 262144), (196, [19, 193], 262144), (197, [195, 193], 1310720), (198, [194, 196, 193], 2883584), (199, [197, 193], 4456448), (200, [198, 193], 8650752), (201, [8, 193], 262144), (202, [200, 193], 33816576), (203, [201, 193], 67371008), (204, [199, 202, 193], 151257088), (205, [193, 203], 268697600), (21, [204], 1073741823)] rfl (fun _ d _ _ _ h => by cases d <;> exact h) ?_
             intro hs297 w297 h297
             refine pR_p 30 [0] [(175, (Value.int .i64 ((M209 : Int))))] 1 hs297 ⟨h297.at_ 5 rfl, h297.at_ 2 rfl, trivial⟩ ?_
             refine pR_v 1 (some 176) (Value.bool true) 3 rfl hs297 ⟨h297.at_ 5 rfl, h297.at_ 2 rfl, trivial⟩ (fun W hW => eq_is (v := (Value.bool (decide ((M209 : Int) ≥ 1)))) (by kernel_rfl) (by simp; omega)) ?_
             refine pR_p 25 [2, 3, 4, 5] [(180, (Value.int .i64 ((nb : Int)))), (179, (Value.slice A2 nb c2)), (178, (Value.int .i64 ((M209 : Int)))), (177, (Value.bool true))] 63 hs297 ⟨h297.at_ 5 rfl, h297.at_ 2 rfl, trivial⟩ ?_
             refine pR_v 6 (some 181) (Value.bool true) 127 rfl hs297 ⟨h297.at_ 5 rfl, h297.at_ 2 rfl, trivial⟩ (fun W hW => eq_is (v := (Value.bool (decide ((M209 : Int) ≤ (nb : Int))))) (by kernel_rfl) (by simp; omega)) ?_
             refine pR_p 20 [7, 8, 9, 10] [(185, (Value.int .i64 ((M209 : Int)))), (184, (Value.slice A2 nb c2)), (183, (Value.bool true)), (182, (Value.bool true))] 2047 hs297 ⟨h297.at_ 5 rfl, h297.at_ 2 rfl, trivial⟩ ?_
             refine pR_v 11 (some 186) (Value.int .i64 (((M209 - 1 : Nat) : Int))) 4095 rfl hs297 ⟨h297.at_ 5 rfl, h297.at_ 2 rfl, trivial⟩ (fun W hW => exec_sub _ _ _ _ rfl ((M209 : Int)) 1 (by kernel_rfl) (by kernel_rfl) (((M209 - 1 : Nat) : Int)) (by omega) (by omega) (by omega) _) ?_
             refine pR_v 12 (some 187) (eAt A2 ((((M209 - 1))) * 18 + 0)) 8191 rfl hs297 ⟨h297.at_ 5 rfl, h297.at_ 2 rfl, trivial⟩ (fun W hW => e_idxN (OV.rvn (h297.at_ 5 rfl)).2 (((M209 - 1))) nb (OV.rvn (h297.at_ 5 rfl)).1 (by omega) 62 (.tmp 184) (.tmp 186) (by kernel_rfl) .i64 (by kernel_rfl) (by kernel_rfl) 56 (by kernel_rfl) (by kernel_rfl) _) ?_
             refine pR_v 13 (some 188) (eAt A2 ((((M209 - 1))) * 18 + 0)) 16383 rfl hs297 ⟨h297.at_ 5 rfl, h297.at_ 2 rfl, trivial⟩ (fun W hW => e_fldN (OV.rvn (h297.at_ 5 rfl)).2 (((M209 - 1))) 0 0 (vb (kl Kb) ++ [(Value.int .i64 ub_), (Value.slice Ab lb.length cb)]) (zip_get sealCells hbx hbvx) (.tmp 187) (by kernel_rfl) (fun _ _ => by kernel_rfl) (fun _ => rfl) _) ?_
             refine pR_v 14 (some 189) (Value.agg (vb (kl Kb)).toArray) 32767 rfl hs297 ⟨h297.at_ 5 rfl, h297.at_ 2 rfl, trivial⟩ (fun W hW => e_elemsN (OV.rvn hW.1).2 (((M209 - 1))) 0 (vb (kl Kb) ++ [(Value.int .i64 ub_), (Value.slice Ab lb.length cb)]) (zip_get sealCells hbx hbvx) 42 (.tmp 188) (by kernel_rfl) (vb (kl Kb)) (by kernel_rfl) (by kernel_rfl) (by kernel_rfl)) ?_
             refine pR_v 15 (some 190) (Value.agg (vb (kl K34)).toArray) 65535 rfl hs297 ⟨h297.at_ 5 rfl, h297.at_ 2 rfl, trivial⟩ (fun W hW => e_loads hW.2.1 22 (.tmp 9) (by kernel_rfl) 0 (vb (kl K34)) (by kernel_rfl) (by kernel_rfl) (by kernel_rfl)) ?_
             refine pR_v 16 (some 191) (Value.bool false) 131071 rfl hs297 ⟨h297.at_ 5 rfl, h297.at_ 2 rfl, trivial⟩ (fun W hW => e_keq Kb K34 42 42 (.tmp 189) (.tmp 190) (by kernel_rfl) (by kernel_rfl) (by kernel_rfl) (by kernel_rfl) (by kernel_rfl) false (decide_eq_false hKb) _) ?_
             refine pR_p 1 [17, 18, 19, 20, 21, 22, 23, 24, 25, 26, 27, 28, 29] [(204, (Value.bool false)), (203, undef), (202, undef), (201, undef), (200, undef), (199, undef), (198, undef), (197, undef), (196, undef), (195, undef), (194, undef), (193, (Value.bool false)), (192, (Value.bool false))] 1073741823 hs297 ⟨h297.at_ 5 rfl, h297.at_ 2 rfl, trivial⟩ ?_
             refine pR_to 30 (some 20) 2147483647 rfl hs297 (OpTo.run (Value.bool false) (pureOp_run (by kernel_rfl) _) (R := fun v w => v = (Value.bool false) ∧ w = w297) ⟨rfl, rfl⟩) ?_
             rintro _ _ ⟨rfl, rfl⟩
             refine ⟨fun h => absurd h (by decide), ?_⟩
             refine pR_done hs297 ?_ _
             refine seq_n hK296 ?_
             refine wp_seq_k ?_
             intro K298 hK298
             refine wp_seq_k ?_
             intro K299 hK299
             refine reg_lit ?_
             refine wq_p 26 [(230, (Value.bool false)), (229, (Value.bool false)), (228, (Value.bool false)), (227, (Value.int .i64 0)), (226, (Value.slice A294 0 c294)), (225, (Value.bool true)), (224, (Value.bool true)), (223, (Value.bool false)), (222, (Value.bool false)), (221, (Value.bool false)), (220, (Value.bool false)), (219, undef), (218, undef), (217, undef), (216, undef), (215, undef), (214, undef), (213, undef), (212, undef), (211, undef), (210, (Value.bool false)), (209, (Value.bool false)), (208, (Value.bool false)), (207, (Value.bool false)), (206, (Value.bool false)), (205, (Value.bool false))] ?_
             refine wl_end rfl ?_
             refine seq_n hK299 ?_
             refine wp_cond_false (by kernel_rfl) ?_
             refine wp_skip ?_
             refine seq_n hK298 ?_
             refine wp_seq_k ?_
             intro K300 hK300
             refine reg_lit ?_
             refine wq_p 2 [(233, (Value.slice (some ⟨g211, 0, none⟩) 16 16)), (232, (pt tb10 0))] ?_
             refine wq_to (some 234) (x_boxS h297 7 rfl (kl K210) (Value.slice (some ⟨g211, 0, none⟩) 16 16) Kb ub_ lb (by kernel_rfl) (SB.blk16 (K := K210) (h297.at_ 1 rfl)) (by rw [hB]; exact hbb) (h297.tabW 7 rfl).1 (by omega) (by rw [hK210]; exact hbox)) ?_
             rintro _ w301 ⟨A301, c301, rfl, h301⟩
             refine wq_p 3 [(236, (Value.bool true)), (235, (Value.agg (vb (kl Kb) ++ [(Value.int .i64 ub_), (Value.slice A301 lb.length c301)]).toArray)), (231, (Value.tuple #[(Value.agg (vb (kl Kb) ++ [(Value.int .i64 ub_), (Value.slice A301 lb.length c301)]).toArray), (Value.bool true)]))] ?_
             refine wq_to (some 21) (x_new h301 56 (vb (List.replicate 16 0) ++ [(Value.int .i64 0), (Value.slice none 0 0)]) (fun r => pt r 0) (by kernel_rfl)) ?_
             rintro _ w302 ⟨g302, rfl, h302⟩
             refine wq_to none (x_stores h302 0 rfl 56 (.tmp 21) (.tmp 235) (by kernel_rfl) 0 (vb (kl Kb) ++ [(Value.int .i64 ub_), (Value.slice A301 lb.length c301)]) (vb (kl Kb) ++ [(Value.int .i64 ub_), (Value.slice A301 lb.length c301)]) (by kernel_rfl) (by kernel_rfl) (by kernel_rfl) (by kernel_rfl) (by kernel_rfl) (by kernel_rfl)) ?_
             rintro _ w303 h303
             refine wq_p 1 [(22, (Value.bool true))] ?_
             refine wl_end rfl ?_
             refine seq_n hK300 ?_
             refine wp_seq_k ?_
             intro K304 hK304
             refine wp_reset 399 [(0, (Value.slice A st.length c)), (3, (pt tb10 0)), (4, (Value.slice A1 nk c1)), (5, (Value.slice A2 nb c2)), (6, (Value.slice A3 ns c3)), (8, (pt g26 0)), (9, (pt g35 0)), (16, (pt g211 0)), (17, (Value.slice A294 0 c294)), (18, (Value.bool false)), (19, (Value.int .i64 ((M209 : Int)))), (20, (Value.bool false)), (21, (pt g302 0)), (22, (Value.bool true)), (34, (Value.bool false)), (37, (Value.bool (decide ((st.length : Int) > 60)))), (42, (Value.slice A st.length c)), (43, (Value.int .i64 ((st.length : Int)))), (44, (Value.int .i64 ((n : Int)))), (45, (Value.bool (decide ((n : Int) < (st.length : Int))))), (57, (Value.bool false)), (63, (Value.int .i64 xk)), (64, (Value.bool (xk == 0))), (76, (Value.bool (xk == 2))), (130, (Value.bool (xk == 3))), (156, (Value.bool (xk == 4))), (230, (Value.bool false))] (fun x305 => ?_)
             refine pR_go h303 47 (fun W => (rBlk g302 56 (vb (kl Kb) ++ [(Value.int .i64 ub_), (Value.slice A301 lb.length c301)])).Φ W ∧ (rOV 56 18 ((Value.slice A2 nb c2)) (List.zipWith sealCells bx bv)).Φ W ∧ True) [(238, [22], 0), (239, [19], 0), (240, [238], 2), (241, [239], 4), (242, [19, 240], 8), (243, [5, 240], 8), (244, [242, 240], 40), (245, [241, 243, 240], 88), (246, [240, 244], 136), (247, [237, 245], 257), (248, [246], 520), (249, [22, 247], 1024), (250, [248, 247], 3072), (251, [21, 249], 4096), (252, [250, 249], 12288), (253, [5, 249], 4096), (254, [19, 249], 4096), (255, [253, 249], 69632), (256, [252, 254, 249], 167936), (257, [255, 249], 266240), (258, [256, 249], 528384), (259, [251, 257, 249], 1069056), (260, [258, 249], 2101248), (261, [21, 259], 4194304), (262, [260, 259], 12582912), (263, [5, 259], 4194304), (264, [19, 259], 4194304), (265, [263, 259], 71303168), (266, [262, 264, 259], 171966464), (267, [265, 259], 272629760), (268, [266, 259], 541065216), (269, [261, 267, 259], 1094713344), (270, [259, 268, 249], 2151682048), (271, [269, 249], 4299165696), (272, [21, 270], 8589934592), (273, [271, 270], 25769803776), (274, [5, 270], 8589934592), (275, [19, 270], 8589934592), (276, [274, 270], 146028888064), (277, [273, 275, 270], 352187318272), (278, [276, 270], 558345748480), (279, [277, 270], 1108101562368), (280, [272, 278, 270], 2241972928512), (281, [279, 270], 4406636445696), (282, [270, 280, 249], 8804682960896), (283, [249, 281, 247], 17592186049536), (284, [247, 282], 35184372089856)] rfl (fun _ d _ _ _ h => by cases d <;> exact h) ?_
             intro hs306 w306 h306
             refine pR_p 45 [0, 1] [(238, (Value.int .i64 ((M209 : Int)))), (237, (Value.bool true))] 3 hs306 ⟨h306.at_ 0 rfl, h306.at_ 7 rfl, trivial⟩ ?_
             refine pR_v 2 (some 239) (Value.bool true) 7 rfl hs306 ⟨h306.at_ 0 rfl, h306.at_ 7 rfl, trivial⟩ (fun W hW => eq_is (v := (Value.bool (decide ((M209 : Int) ≥ 1)))) (by kernel_rfl) (by simp; omega)) ?_
             refine pR_p 40 [3, 4, 5, 6] [(243, (Value.int .i64 ((nb : Int)))), (242, (Value.slice A2 nb c2)), (241, (Value.int .i64 ((M209 : Int)))), (240, (Value.bool true))] 127 hs306 ⟨h306.at_ 0 rfl, h306.at_ 7 rfl, trivial⟩ ?_
             refine pR_v 7 (some 244) (Value.bool true) 255 rfl hs306 ⟨h306.at_ 0 rfl, h306.at_ 7 rfl, trivial⟩ (fun W hW => eq_is (v := (Value.bool (decide ((M209 : Int) ≤ (nb : Int))))) (by kernel_rfl) (by simp; omega)) ?_
             refine pR_p 31 [8, 9, 10, 11, 12, 13, 15, 16] [(253, (Value.int .i64 ((M209 : Int)))), (252, (Value.slice A2 nb c2)), (250, (pt g302 0)), (249, (Value.bool true)), (248, (Value.bool true)), (247, (Value.bool false)), (246, (Value.bool false)), (245, (Value.bool true))] 114687 hs306 ⟨h306.at_ 0 rfl, h306.at_ 7 rfl, trivial⟩ ?_
             refine pR_v 17 (some 254) (Value.int .i64 (((M209 - 1 : Nat) : Int))) 245759 rfl hs306 ⟨h306.at_ 0 rfl, h306.at_ 7 rfl, trivial⟩ (fun W hW => exec_sub _ _ _ _ rfl ((M209 : Int)) 1 (by kernel_rfl) (by kernel_rfl) (((M209 - 1 : Nat) : Int)) (by omega) (by omega) (by omega) _) ?_
             refine pR_v 18 (some 255) (eAt A2 ((((M209 - 1))) * 18 + 0)) 507903 rfl hs306 ⟨h306.at_ 0 rfl, h306.at_ 7 rfl, trivial⟩ (fun W hW => e_idxN (OV.rvn (h306.at_ 7 rfl)).2 (((M209 - 1))) nb (OV.rvn (h306.at_ 7 rfl)).1 (by omega) 62 (.tmp 252) (.tmp 254) (by kernel_rfl) .i64 (by kernel_rfl) (by kernel_rfl) 56 (by kernel_rfl) (by kernel_rfl) _) ?_
             refine pR_v 19 (some 256) (eAt A2 ((((M209 - 1))) * 18 + 0)) 1032191 rfl hs306 ⟨h306.at_ 0 rfl, h306.at_ 7 rfl, trivial⟩ (fun W hW => e_fldN (OV.rvn (h306.at_ 7 rfl)).2 (((M209 - 1))) 0 0 (vb (kl Kb) ++ [(Value.int .i64 ub_), (Value.slice Ab lb.length cb)]) (zip_get sealCells hbx hbvx) (.tmp 255) (by kernel_rfl) (fun _ _ => by kernel_rfl) (fun _ => rfl) _) ?_
             refine pR_v 14 (some 251) (Value.agg (vb (kl Kb)).toArray) 1048575 rfl hs306 ⟨h306.at_ 0 rfl, h306.at_ 7 rfl, trivial⟩ (fun W hW => e_loads hW.1 42 (.tmp 250) (by kernel_rfl) 0 (vb (kl Kb)) (by kernel_rfl) (by kernel_rfl) (by kernel_rfl)) ?_
             refine pR_v 20 (some 257) (Value.agg (vb (kl Kb)).toArray) 2097151 rfl hs306 ⟨h306.at_ 0 rfl, h306.at_ 7 rfl, trivial⟩ (fun W hW => e_elemsN (OV.rvn hW.2.1).2 (((M209 - 1))) 0 (vb (kl Kb) ++ [(Value.int .i64 ub_), (Value.slice Ab lb.length cb)]) (zip_get sealCells hbx hbvx) 42 (.tmp 256) (by kernel_rfl) (vb (kl Kb)) (by kernel_rfl) (by kernel_rfl) (by kernel_rfl)) ?_
             refine pR_v 21 (some 258) (Value.bool false) 4194303 rfl hs306 ⟨h306.at_ 0 rfl, h306.at_ 7 rfl, trivial⟩ (fun W hW => e_kne Kb Kb 42 42 (.tmp 251) (.tmp 257) (by kernel_rfl) (by kernel_rfl) (by kernel_rfl) (by kernel_rfl) (by kernel_rfl) false (by simp) _) ?_
             refine pR_p 21 [22, 23, 25, 26] [(263, (Value.int .i64 ((M209 : Int)))), (262, (Value.slice A2 nb c2)), (260, (pt g302 16)), (259, (Value.bool false))] 117440511 hs306 ⟨h306.at_ 0 rfl, h306.at_ 7 rfl, trivial⟩ ?_
             refine pR_v 27 (some 264) (Value.int .i64 (((M209 - 1 : Nat) : Int))) 251658239 rfl hs306 ⟨h306.at_ 0 rfl, h306.at_ 7 rfl, trivial⟩ (fun W hW => exec_sub _ _ _ _ rfl ((M209 : Int)) 1 (by kernel_rfl) (by kernel_rfl) (((M209 - 1 : Nat) : Int)) (by omega) (by omega) (by omega) _) ?_
             refine pR_v 28 (some 265) (eAt A2 ((((M209 - 1))) * 18 + 0)) 520093695 rfl hs306 ⟨h306.at_ 0 rfl, h306.at_ 7 rfl, trivial⟩ (fun W hW => e_idxN (OV.rvn (h306.at_ 7 rfl)).2 (((M209 - 1))) nb (OV.rvn (h306.at_ 7 rfl)).1 (by omega) 62 (.tmp 262) (.tmp 264) (by kernel_rfl) .i64 (by kernel_rfl) (by kernel_rfl) 56 (by kernel_rfl) (by kernel_rfl) _) ?_
             refine pR_v 29 (some 266) (eAt A2 ((((M209 - 1))) * 18 + 16)) 1056964607 rfl hs306 ⟨h306.at_ 0 rfl, h306.at_ 7 rfl, trivial⟩ (fun W hW => e_fldN (OV.rvn (h306.at_ 7 rfl)).2 (((M209 - 1))) 0 16 (vb (kl Kb) ++ [(Value.int .i64 ub_), (Value.slice Ab lb.length cb)]) (zip_get sealCells hbx hbvx) (.tmp 265) (by kernel_rfl) (fun _ _ => by kernel_rfl) (fun _ => rfl) _) ?_
             refine pR_v 24 (some 261) (Value.int .i64 ub_) 1073741823 rfl hs306 ⟨h306.at_ 0 rfl, h306.at_ 7 rfl, trivial⟩ (fun W hW => e_load hW.1 3 (.tmp 260) (by kernel_rfl) 16 (Value.int .i64 ub_) (by kernel_rfl) (by kernel_rfl) (by kernel_rfl)) ?_
             refine pR_v 30 (some 267) (Value.int .i64 ub_) 2147483647 rfl hs306 ⟨h306.at_ 0 rfl, h306.at_ 7 rfl, trivial⟩ (fun W hW => e_elemN (OV.rvn hW.2.1).2 (((M209 - 1))) 16 (vb (kl Kb) ++ [(Value.int .i64 ub_), (Value.slice Ab lb.length cb)]) (zip_get sealCells hbx hbvx) 3 (.tmp 266) (by kernel_rfl) (Value.int .i64 ub_) (by kernel_rfl) (by kernel_rfl) (by kernel_rfl)) ?_
             refine pR_v 31 (some 268) (Value.bool false) 4294967295 rfl hs306 ⟨h306.at_ 0 rfl, h306.at_ 7 rfl, trivial⟩ (fun W hW => eq_is (v := (Value.bool (ub_ != ub_))) (by kernel_rfl) (by simp)) ?_
             refine pR_p 10 [32, 33, 34, 36, 37] [(274, (Value.int .i64 ((M209 : Int)))), (273, (Value.slice A2 nb c2)), (271, (pt g302 17)), (270, (Value.bool false)), (269, (Value.bool false))] 240518168575 hs306 ⟨h306.at_ 0 rfl, h306.at_ 7 rfl, trivial⟩ ?_
             refine pR_v 38 (some 275) (Value.int .i64 (((M209 - 1 : Nat) : Int))) 515396075519 rfl hs306 ⟨h306.at_ 0 rfl, h306.at_ 7 rfl, trivial⟩ (fun W hW => exec_sub _ _ _ _ rfl ((M209 : Int)) 1 (by kernel_rfl) (by kernel_rfl) (((M209 - 1 : Nat) : Int)) (by omega) (by omega) (by omega) _) ?_
             refine pR_v 39 (some 276) (eAt A2 ((((M209 - 1))) * 18 + 0)) 1065151889407 rfl hs306 ⟨h306.at_ 0 rfl, h306.at_ 7 rfl, trivial⟩ (fun W hW => e_idxN (OV.rvn (h306.at_ 7 rfl)).2 (((M209 - 1))) nb (OV.rvn (h306.at_ 7 rfl)).1 (by omega) 62 (.tmp 273) (.tmp 275) (by kernel_rfl) .i64 (by kernel_rfl) (by kernel_rfl) 56 (by kernel_rfl) (by kernel_rfl) _) ?_
             refine pR_v 40 (some 277) (eAt A2 ((((M209 - 1))) * 18 + 17)) 2164663517183 rfl hs306 ⟨h306.at_ 0 rfl, h306.at_ 7 rfl, trivial⟩ (fun W hW => e_fldN (OV.rvn (h306.at_ 7 rfl)).2 (((M209 - 1))) 0 17 (vb (kl Kb) ++ [(Value.int .i64 ub_), (Value.slice Ab lb.length cb)]) (zip_get sealCells hbx hbvx) (.tmp 276) (by kernel_rfl) (fun _ _ => by kernel_rfl) (fun _ => rfl) _) ?_
             refine pR_v 35 (some 272) (Value.slice A301 lb.length c301) 2199023255551 rfl hs306 ⟨h306.at_ 0 rfl, h306.at_ 7 rfl, trivial⟩ (fun W hW => e_load hW.1 28 (.tmp 271) (by kernel_rfl) 17 (Value.slice A301 lb.length c301) (by kernel_rfl) (by kernel_rfl) (by kernel_rfl)) ?_
             refine pR_v 41 (some 278) (Value.slice Ab lb.length cb) 4398046511103 rfl hs306 ⟨h306.at_ 0 rfl, h306.at_ 7 rfl, trivial⟩ (fun W hW => e_elemN (OV.rvn hW.2.1).2 (((M209 - 1))) 17 (vb (kl Kb) ++ [(Value.int .i64 ub_), (Value.slice Ab lb.length cb)]) (zip_get sealCells hbx hbvx) 28 (.tmp 277) (by kernel_rfl) (Value.slice Ab lb.length cb) (by kernel_rfl) (by kernel_rfl) (by kernel_rfl)) ?_
             refine pR_to 42 (some 279) 8796093022207 rfl hs306 (x_same h306 lb lb (Value.slice A301 lb.length c301) (Value.slice Ab lb.length cb) (by kernel_rfl) (OB.sb (h306.at_ 1 rfl)) (SBs.at_ (h306.rd 3 rfl) hbvx hlbx) true (by simp)) ?_
             rintro _ w307 ⟨rfl, h307⟩
             refine ⟨fun _ => ⟨h307.at_ 0 rfl, h307.at_ 7 rfl, trivial⟩, ?_⟩
             refine pR_p 0 [43, 44, 45, 46] [(283, (Value.bool false)), (282, (Value.bool false)), (281, (Value.bool false)), (280, (Value.bool false))] 140737488355327 hs306 ⟨h307.at_ 0 rfl, h307.at_ 7 rfl, trivial⟩ ?_
             refine pR_done hs306 ?_ _
             refine seq_n hK304 ?_
             refine wp_cond_false (by kernel_rfl) ?_
             refine wp_skip ?_
             refine blk_n ?_
             refine seq_n hK37 ?_
             refine wp_seq_k ?_
             intro K308 hK308
             have hI2 : Inv (ks) s := hI
             have hB2 : s.boxes = bx := hB
             have hS2 : s.sums = ss := hS
             have hkl2 := hI2.len
             have hbl2 : s.boxes.length = (bx : List SSealed).length := by rw [hB2]
             refine reg_lit ?_
             refine wq_p 1 [(320, (pt tb10 0))] ?_
             refine wq_to (some 321) (x_nkeys h307 9 rfl (by kernel_rfl)) ?_
             rintro _ w309 ⟨rfl, h309⟩
             refine wq_p 2 [(323, (Value.int .i64 ((nk : Int)))), (322, (Value.slice A1 nk c1))] ?_
             refine wq_v (some 324) (.bool false) (eq_is (v := (Value.bool (((s.keys.length : Int)) != ((nk : Int))))) (by kernel_rfl) (by simp; omega)) ?_
             refine wq_p 2 [(326, (pt tb10 0)), (325, (Value.bool false))] ?_
             refine wq_to (some 327) (x_nboxes h309 9 rfl (by kernel_rfl)) ?_
             rintro _ w310 ⟨rfl, h310⟩
             refine wq_p 2 [(329, (Value.int .i64 ((nb : Int)))), (328, (Value.slice A2 nb c2))] ?_
             refine wq_v (some 330) (.bool false) (eq_is (v := (Value.bool (((s.boxes.length : Int)) != ((nb : Int))))) (by kernel_rfl) (by simp; omega)) ?_
             refine wq_p 1 [(331, (Value.bool false))] ?_
             refine wl_end rfl ?_
             refine seq_n hK308 ?_
             refine wp_cond_false (by kernel_rfl) ?_
             refine wp_skip ?_
             refine blk_n ?_
             refine seq_n hK24 ?_
             refine wp_reset 399 [(0, (Value.slice A st.length c)), (3, (pt tb10 0)), (4, (Value.slice A1 nk c1)), (5, (Value.slice A2 nb c2)), (6, (Value.slice A3 ns c3)), (8, (pt g26 0)), (9, (pt g35 0)), (16, (pt g211 0)), (17, (Value.slice A294 0 c294)), (18, (Value.bool false)), (19, (Value.int .i64 ((M209 : Int)))), (20, (Value.bool false)), (21, (pt g302 0)), (22, (Value.bool true)), (34, (Value.bool false)), (37, (Value.bool (decide ((st.length : Int) > 60)))), (42, (Value.slice A st.length c)), (43, (Value.int .i64 ((st.length : Int)))), (44, (Value.int .i64 ((n : Int)))), (45, (Value.bool (decide ((n : Int) < (st.length : Int))))), (57, (Value.bool false)), (63, (Value.int .i64 xk)), (64, (Value.bool (xk == 0))), (76, (Value.bool (xk == 2))), (130, (Value.bool (xk == 3))), (156, (Value.bool (xk == 4))), (230, (Value.bool false)), (283, (Value.bool false)), (331, (Value.bool false))] (fun x311 => ?_)
             refine reg_lit ?_
             refine wq_v (some 332) (Value.int .i64 ((n : Int) + 1)) (exec_add _ _ _ _ rfl ((n : Int)) 1 (by kernel_rfl) (by kernel_rfl) ((n : Int) + 1) rfl (by omega) (by omega) _) ?_
             refine wq_p 1 [(44, (Value.int .i64 ((n : Int) + 1)))] ?_
             refine wl_end rfl ?_
             refine ⟨st.length - (n + 1), (by omega), (n + 1), ks, bx, bv, ss, sv, s, F, A1, c1, A2, c2, A3, c3, nk, nb, ns, hI2, hB2, hS2, hbv, hsv, (by omega), (by omega), (by omega), (by omega), hbb, hnd, (by first | omega | (simp; omega)), (by first | omega | (simp; omega)), (by first | omega | (simp; omega)), rfl, (patch_eq _ 399 _ (by kernel_rfl) (by kernel_rfl) (by kernel_rfl)), h310.sel [6, 7, 8, 9] [1, 2, 3, 4] (by kernel_rfl) rfl rfl⟩
          ·
           refine wp_seq_k ?_
           intro K312 hK312
           refine reg_lit ?_
           refine wq_p 2 [(284, (Value.bool (xk == 5))), (285, (Value.bool (xk == 5)))] ?_
           refine wl_end rfl ?_
           refine seq_n hK312 ?_
           refine wp_ifeq xk 5 (by kernel_rfl) (fun b313 => ?_) (fun b313 => ?_)
           ·
            refine wp_seq_k ?_
            intro K314 hK314
            refine reg_lit ?_
            refine wq_p 1 [(23, (Value.int .i64 0))] ?_
            refine wl_end rfl ?_
            refine seq_n hK314 ?_
            refine wp_seq_k ?_
            intro K315 hK315
            refine wp_seq_k ?_
            intro K316 hK316
            refine wp_reset 399 [(0, (Value.slice A st.length c)), (3, (pt tb10 0)), (4, (Value.slice A1 nk c1)), (5, (Value.slice A2 nb c2)), (6, (Value.slice A3 ns c3)), (8, (pt g26 0)), (9, (pt g35 0)), (23, (Value.int .i64 0)), (34, (Value.bool false)), (37, (Value.bool (decide ((st.length : Int) > 60)))), (42, (Value.slice A st.length c)), (43, (Value.int .i64 ((st.length : Int)))), (44, (Value.int .i64 ((n : Int)))), (45, (Value.bool (decide ((n : Int) < (st.length : Int))))), (57, (Value.bool false)), (63, (Value.int .i64 xk)), (64, (Value.bool (xk == 0))), (76, (Value.bool (xk == 2))), (130, (Value.bool (xk == 3))), (156, (Value.bool (xk == 4))), (284, (Value.bool (xk == 5)))] (fun x317 => ?_)
            refine reg_lit ?_
            refine wq_p 3 [(288, (Value.int .i64 0)), (287, (Value.int .i64 ((ns : Int)))), (286, (Value.slice A3 ns c3))] ?_
            refine wl_end rfl ?_
            refine seq_n hK316 ?_
            refine wp_block ?_
            refine wp_loopm (fun mM xX aA wL => ∃ (i : Nat) (z : Nat), ((z = 0 ∧ ∀ j : Nat, j < i → ss[j]? ≠ some xl) ∨ (1 ≤ z ∧ ss[z - 1]? = some xl)) ∧ (i ≤ ss.length) ∧ (z ≤ ss.length) ∧ mM = ss.length - (i) ∧ aA = patch xX 399 [(0, (Value.slice A st.length c)), (3, (pt tb10 0)), (4, (Value.slice A1 nk c1)), (5, (Value.slice A2 nb c2)), (6, (Value.slice A3 ns c3)), (8, (pt g26 0)), (9, (pt g35 0)), (23, (Value.int .i64 ((z : Int)))), (34, (Value.bool false)), (37, (Value.bool (decide ((st.length : Int) > 60)))), (42, (Value.slice A st.length c)), (43, (Value.int .i64 ((st.length : Int)))), (44, (Value.int .i64 ((n : Int)))), (45, (Value.bool (decide ((n : Int) < (st.length : Int))))), (57, (Value.bool false)), (63, (Value.int .i64 xk)), (64, (Value.bool (xk == 0))), (76, (Value.bool (xk == 2))), (130, (Value.bool (xk == 3))), (156, (Value.bool (xk == 4))), (284, (Value.bool (xk == 5))), (286, (Value.slice A3 ns c3)), (287, (Value.int .i64 ((ns : Int)))), (288, (Value.int .i64 ((i : Int))))] ∧ Hp (fun _ => False) w wL [rSB ((Value.slice Ax xl.length cx)) xl, rRV 5 A c (st.map stCells), rSBs (st.map (·.v)) (st.map (·.body)), rSBs bv (bx.map (·.body)), rSBs sv ss] [rBlk g35 22 (vb (kl K34)), rBlk g26 65 ([(Value.int .i64 xk), (Value.int .i64 xa), (Value.int .i64 xb), (Value.string xt), (Value.slice Ax xl.length cx)]), rOV 67 19 ((Value.slice A1 nk c1)) (ks.map lfCells), rOV 56 18 ((Value.slice A2 nb c2)) (List.zipWith sealCells bx bv), rOV 28 1 ((Value.slice A3 ns c3)) (sv.map fun v => [v]), rTab F tb10 s]) ⟨_, 0, 0, (.inl ⟨rfl, fun j hj => absurd hj (by omega)⟩), (by omega), (by omega), rfl, (patch_eq _ 399 _ (by kernel_rfl) (by kernel_rfl) (by kernel_rfl)), h36.sel [0, 1, 2, 3, 4, 5] [0, 1, 2, 3, 4] (by kernel_rfl) rfl rfl⟩ ?_
            rintro _ x318 _ w318 ⟨i, z, hz, hi, hzl, rfl, rfl, h318⟩
            refine wp_seq_k ?_
            intro K319 hK319
            refine reg_lit ?_
            refine wq_p 1 [(289, (Value.bool (decide ((i : Int) < (ns : Int)))))] ?_
            refine wl_end rfl ?_
            refine seq_n hK319 ?_
            refine wp_seq_k ?_
            intro K320 hK320
            refine wp_if ((i : Int) < (ns : Int)) (by kernel_rfl) (fun b321 => ?_) (fun b321 => ?_)
            ·
             refine wp_skip ?_
             refine seq_n hK320 ?_
             refine wp_seq_k ?_
             intro K322 hK322
             refine wp_block ?_
             refine wp_seq_k ?_
             intro K323 hK323
             obtain ⟨Ay, cy, y, hy1, hy2⟩ := sbs_get (h318.rd 4 rfl) hsv i (by omega)
             have h318y := h318.subSBs (v := Value.slice Ay y.length cy) (l := y) 4 rfl i hy1 hy2
             refine reg_lit ?_
             refine wq_p 1 [(290, (Value.int .i64 ((i : Int))))] ?_
             refine wq_v (some 291) (eAt A3 (i * 1 + 0)) (e_idxN (OV.rvn (h318y.at_ 4 rfl)).2 i ns (OV.rvn (h318y.at_ 4 rfl)).1 (by omega) 63 (.tmp 286) (.tmp 288) (by kernel_rfl) .i64 (by kernel_rfl) (by kernel_rfl) 28 (by kernel_rfl) (by kernel_rfl) _) ?_
             refine wq_v (some 292) (Value.slice Ay y.length cy) (e_elemN (OV.rvn (h318y.at_ 4 rfl)).2 i 0 ([(Value.slice Ay y.length cy)]) (map_get (fun v => [v]) hy1) 28 (.tmp 291) (by kernel_rfl) (Value.slice Ay y.length cy) (by kernel_rfl) (by kernel_rfl) (by kernel_rfl)) ?_
             refine wq_p 2 [(25, (Value.slice Ay y.length cy)), (24, (Value.int .i64 ((i : Int))))] ?_
             refine wl_end rfl ?_
             refine seq_n hK323 ?_
             refine wp_seq_k ?_
             intro K324 hK324
             by_cases hxy : y = xl
             ·
              refine reg_lit ?_
              refine wq_p 2 [(294, (pt g26 4)), (293, (Value.slice Ay y.length cy))] ?_
              refine wq_v (some 295) (Value.slice Ax xl.length cx) (e_load (h318y.at_ 1 rfl) 28 (.tmp 294) (by kernel_rfl) 4 (Value.slice Ax xl.length cx) (by kernel_rfl) (by kernel_rfl) (by kernel_rfl)) ?_
              refine wq_to (some 296) (x_same h318y y xl (Value.slice Ay y.length cy) (Value.slice Ax xl.length cx) (by kernel_rfl) (h318y.rd 0 rfl) (h318y.rd 1 rfl) true (decide_eq_true hxy)) ?_
              rintro _ w326 ⟨rfl, h326⟩
              refine wl_end rfl ?_
              refine seq_n hK324 ?_
              refine wp_cond_true (by kernel_rfl) ?_
              refine reg_lit ?_
              refine wq_p 1 [(297, (Value.int .i64 ((i : Int))))] ?_
              refine wq_v (some 298) (Value.int .i64 ((i : Int) + 1)) (exec_add _ _ _ _ rfl ((i : Int)) 1 (by kernel_rfl) (by kernel_rfl) ((i : Int) + 1) rfl (by omega) (by omega) _) ?_
              refine wq_p 1 [(23, (Value.int .i64 ((i : Int) + 1)))] ?_
              refine wl_end rfl ?_
              refine blk_n ?_
              refine seq_n hK322 ?_
              refine reg_lit ?_
              refine wq_v (some 299) (Value.int .i64 ((i : Int) + 1)) (exec_add _ _ _ _ rfl ((i : Int)) 1 (by kernel_rfl) (by kernel_rfl) ((i : Int) + 1) rfl (by omega) (by omega) _) ?_
              refine wq_p 1 [(288, (Value.int .i64 ((i : Int) + 1)))] ?_
              refine wl_end rfl ?_
              refine ⟨ss.length - (i + 1), (by omega), (i + 1), ((i) + 1), (.inr ⟨by omega, by rw [← hxy]; simpa using hy2⟩), (by omega), (by omega), rfl, (patch_eq _ 399 _ (by kernel_rfl) (by kernel_rfl) (by kernel_rfl)), h326.sel [0, 1, 2, 3, 4, 5] [1, 2, 3, 4, 5] (by kernel_rfl) rfl rfl⟩
             ·
              refine reg_lit ?_
              refine wq_p 2 [(294, (pt g26 4)), (293, (Value.slice Ay y.length cy))] ?_
              refine wq_v (some 295) (Value.slice Ax xl.length cx) (e_load (h318y.at_ 1 rfl) 28 (.tmp 294) (by kernel_rfl) 4 (Value.slice Ax xl.length cx) (by kernel_rfl) (by kernel_rfl) (by kernel_rfl)) ?_
              refine wq_to (some 296) (x_same h318y y xl (Value.slice Ay y.length cy) (Value.slice Ax xl.length cx) (by kernel_rfl) (h318y.rd 0 rfl) (h318y.rd 1 rfl) false (decide_eq_false hxy)) ?_
              rintro _ w327 ⟨rfl, h327⟩
              refine wl_end rfl ?_
              refine seq_n hK324 ?_
              refine wp_cond_false (by kernel_rfl) ?_
              refine wp_skip ?_
              refine blk_n ?_
              refine seq_n hK322 ?_
              refine reg_lit ?_
              refine wq_v (some 299) (Value.int .i64 ((i : Int) + 1)) (exec_add _ _ _ _ rfl ((i : Int)) 1 (by kernel_rfl) (by kernel_rfl) ((i : Int) + 1) rfl (by omega) (by omega) _) ?_
              refine wq_p 1 [(288, (Value.int .i64 ((i : Int) + 1)))] ?_
              refine wl_end rfl ?_
              refine ⟨ss.length - (i + 1), (by omega), (i + 1), z, (hz.imp (fun hh => ⟨hh.1, fun j hj => (by rcases Nat.lt_or_ge j i with h1 | h1; exact hh.2 j h1; have : j = i := (by omega); subst this; rw [hy2]; intro e; exact hxy (Option.some.inj e))⟩) id), (by omega), (by omega), rfl, (patch_eq _ 399 _ (by kernel_rfl) (by kernel_rfl) (by kernel_rfl)), h327.sel [0, 1, 2, 3, 4, 5] [1, 2, 3, 4, 5] (by kernel_rfl) rfl rfl⟩
            ·
             refine wp_exit ?_
             refine seq_e ?_
             refine seq_e ?_
             refine blk_e ?_
             refine seq_n hK315 ?_
             refine wp_seq_k ?_
             intro K328 hK328
             refine wp_seq_k ?_
             intro K329 hK329
             refine reg_lit ?_
             refine wq_p 2 [(301, (Value.bool (((z : Int)) == 0))), (300, (Value.int .i64 ((z : Int))))] ?_
             refine wl_end rfl ?_
             refine seq_n hK329 ?_
             refine wp_ifeq ((z : Int)) 0 (by kernel_rfl) (fun b330 => ?_) (fun b330 => ?_)
             ·
              refine wp_seq_k ?_
              intro K331 hK331
              have hnone : ∀ j : Nat, s.sums[j]? ≠ some xl := by
                intro j
                rw [hS]
                rcases hz with ⟨_, hz⟩ | ⟨hz, _⟩
                · by_cases hj : j < i
                  · exact hz j hj
                  · rw [List.getElem?_eq_none (by omega)]; simp
                · omega
              refine reg_lit ?_
              refine wq_p 1 [(302, (Value.slice A3 ns c3))] ?_
              refine wq_to (some 303) (x_bs0B h318 (by kernel_rfl)) ?_
              rintro _ w332 ⟨A332, rfl, h332⟩
              refine wq_p 1 [(304, (pt g26 4))] ?_
              refine wq_v (some 305) (Value.slice Ax xl.length cx) (e_load (h332.at_ 2 rfl) 28 (.tmp 304) (by kernel_rfl) 4 (Value.slice Ax xl.length cx) (by kernel_rfl) (by kernel_rfl) (by kernel_rfl)) ?_
              refine wq_to (some 306) (x_appG h332 0 rfl (.tmp 303) (.tmp 305) (by kernel_rfl) (Value.slice Ax xl.length cx) (by kernel_rfl) (by kernel_rfl) (h332.rd 0 rfl) (by simp; omega) (xl) (xl.length) (by simp) rfl) ?_
              rintro _ w333 ⟨A333, c333, rfl, h333⟩
              refine wq_to (some 307) (x_bs h333 28 ([(Value.slice A333 xl.length c333)]) 1 (by kernel_rfl)) ?_
              rintro _ w334 ⟨g334, rfl, h334⟩
              refine wq_to (some 308) (x_pushG h334 6 0 rfl rfl (by kernel_rfl) (.tmp 302) (.tmp 307) 63 (by kernel_rfl) 24 (Value.slice none 0 0) (by kernel_rfl) (by kernel_rfl) (by kernel_rfl) (by kernel_rfl) (by kernel_rfl) 1 (by kernel_rfl) (by kernel_rfl) (by kernel_rfl) (by simp; omega) (by unfold maxLen; simp; omega) ((sv ++ [(Value.slice A333 xl.length c333)]).map fun v => [v]) (ns + 1) (by rw [List.map_append]; rfl) (by simp [hsv]; omega)) ?_
              rintro _ w335 ⟨A335, c335, rfl, h335⟩
              refine wq_p 1 [(6, (Value.slice A335 (ns + 1) c335))] ?_
              refine wl_end rfl ?_
              refine seq_n hK331 ?_
              have h335s := (h335.shareOB 1 rfl)
              have h335ss := h335s.snocSBs 5 0 rfl rfl hsv
              refine reg_lit ?_
              refine wq_p 3 [(23, (Value.int .i64 ((ns + 1 : Int)))), (310, (Value.int .i64 ((ns + 1 : Int)))), (309, (Value.slice A335 (ns + 1) c335))] ?_
              refine wl_end rfl ?_
              refine seq_n hK328 ?_
              refine wp_seq_k ?_
              intro K336 hK336
              have hsum0 := sum_new hnone
              have hsum : s.sumAt xl + 1 = ns + 1 ∧ s.digest xl = { s with sums := s.sums ++ [xl] } := ⟨by rw [hsum0.1, hS]; omega, hsum0.2⟩
              refine reg_lit ?_
              refine wq_p 1 [(311, (Value.int .i64 ((ns + 1 : Int))))] ?_
              refine wq_to (some 312) (x_lmark h335ss 100 (ns + 1) (by kernel_rfl) (by omega)) ?_
              rintro _ w337 ⟨K337, rfl, hK337, h337⟩
              refine wq_to (some 26) (x_new h337 22 (vb (List.replicate 16 0)) (fun r => pt r 0) (by kernel_rfl)) ?_
              rintro _ w338 ⟨g338, rfl, h338⟩
              refine wq_to none (x_stores h338 0 rfl 22 (.tmp 26) (.tmp 312) (by kernel_rfl) 0 (vb (kl K337)) (vb (kl K337)) (by kernel_rfl) (by kernel_rfl) (by kernel_rfl) (by kernel_rfl) (by kernel_rfl) (by kernel_rfl)) ?_
              rintro _ w339 h339
              refine wl_end rfl ?_
              refine seq_n hK336 ?_
              refine wp_seq_k ?_
              intro K340 hK340
              refine wp_reset 399 [(0, (Value.slice A st.length c)), (3, (pt tb10 0)), (4, (Value.slice A1 nk c1)), (5, (Value.slice A2 nb c2)), (6, (Value.slice A335 (ns + 1) c335)), (8, (pt g26 0)), (9, (pt g35 0)), (23, (Value.int .i64 ((ns + 1 : Int)))), (26, (pt g338 0)), (34, (Value.bool false)), (37, (Value.bool (decide ((st.length : Int) > 60)))), (42, (Value.slice A st.length c)), (43, (Value.int .i64 ((st.length : Int)))), (44, (Value.int .i64 ((n : Int)))), (45, (Value.bool (decide ((n : Int) < (st.length : Int))))), (57, (Value.bool false)), (63, (Value.int .i64 xk)), (64, (Value.bool (xk == 0))), (76, (Value.bool (xk == 2))), (130, (Value.bool (xk == 3))), (156, (Value.bool (xk == 4))), (284, (Value.bool (xk == 5))), (286, (Value.slice A3 ns c3)), (287, (Value.int .i64 ((ns : Int)))), (288, (Value.int .i64 ((i : Int)))), (289, (Value.bool (decide ((i : Int) < (ns : Int))))), (301, (Value.bool (((z : Int)) == 0)))] (fun x341 => ?_)
              refine pR_go h339 7 (fun W => (rBlk g26 65 ([(Value.int .i64 xk), (Value.int .i64 xa), (Value.int .i64 xb), (Value.string xt), (Value.slice Ax xl.length cx)])).Φ W ∧ True) [(314, [3], 0), (315, [8], 0), (316, [314], 2), (317, [313, 315], 5), (318, [26], 0), (319, [316, 317], 24), (320, [318], 32)] rfl (fun _ d _ _ _ h => by cases d <;> exact h) ?_
              intro hs342 w342 h342
              refine pR_p 4 [0, 1, 4] [(317, (Value.slice (some ⟨g338, 0, none⟩) 16 16)), (314, (pt g26 4)), (313, (pt tb10 0))] 19 hs342 ⟨h342.at_ 3 rfl, trivial⟩ ?_
              refine pR_v 2 (some 315) (Value.slice Ax xl.length cx) 23 rfl hs342 ⟨h342.at_ 3 rfl, trivial⟩ (fun W hW => e_load hW.1 28 (.tmp 314) (by kernel_rfl) 4 (Value.slice Ax xl.length cx) (by kernel_rfl) (by kernel_rfl) (by kernel_rfl)) ?_
              refine pR_to 3 (some 316) 31 rfl hs342 (x_digest h342 7 rfl xl (Value.slice Ax xl.length cx) (by kernel_rfl) (h342.rd 2 rfl) (by omega) (by omega)) ?_
              rintro _ w343 ⟨A343, c343, F343, s343, rfl, hs343, h343⟩
              refine ⟨fun _ => ⟨h343.at_ 3 rfl, trivial⟩, ?_⟩
              have e343 := digest_all hs343
              have hx343 : s343.boxes.length = s.boxes.length := by rw [e343.1]
              have hu343 := e343.2.2.2
              have hk343 : s343.keys.length = s.keys.length := by rw [e343.2.1]
              refine pR_to 5 (some 318) 63 rfl hs342 (x_same h343 (mkB 100 (s.sumAt xl + 1)) (kl K337) (Value.slice A343 16 c343) (Value.slice (some ⟨g338, 0, none⟩) 16 16) (by kernel_rfl) (h343.rd 0 rfl) (SB.blk16 (K := K337) (h343.at_ 0 rfl)) true (by rw [hK337, hsum.1]; simp)) ?_
              rintro _ w344 ⟨rfl, h344⟩
              refine ⟨fun _ => ⟨h344.at_ 3 rfl, trivial⟩, ?_⟩
              refine pR_p 0 [6] [(319, (Value.bool false))] 127 hs342 ⟨h344.at_ 3 rfl, trivial⟩ ?_
              refine pR_done hs342 ?_ _
              refine seq_n hK340 ?_
              refine wp_cond_false (by kernel_rfl) ?_
              refine wp_skip ?_
              refine blk_n ?_
              refine seq_n hK37 ?_
              refine wp_seq_k ?_
              intro K345 hK345
              have hI2 : Inv (ks) s343 := (hI.same e343.2.1 e343.2.2.1)
              have hB2 : s343.boxes = bx := (e343.1.trans hB)
              have hS2 : s343.sums = ss ++ [xl] := (by rw [hs343, hsum.2]; show s.sums ++ [xl] = _; rw [hS])
              have hkl2 := hI2.len
              have hbl2 : s343.boxes.length = (bx : List SSealed).length := by rw [hB2]
              refine reg_lit ?_
              refine wq_p 1 [(320, (pt tb10 0))] ?_
              refine wq_to (some 321) (x_nkeys h344 7 rfl (by kernel_rfl)) ?_
              rintro _ w346 ⟨rfl, h346⟩
              refine wq_p 2 [(323, (Value.int .i64 ((nk : Int)))), (322, (Value.slice A1 nk c1))] ?_
              refine wq_v (some 324) (.bool false) (eq_is (v := (Value.bool (((s343.keys.length : Int)) != ((nk : Int))))) (by kernel_rfl) (by simp; omega)) ?_
              refine wq_p 2 [(326, (pt tb10 0)), (325, (Value.bool false))] ?_
              refine wq_to (some 327) (x_nboxes h346 7 rfl (by kernel_rfl)) ?_
              rintro _ w347 ⟨rfl, h347⟩
              refine wq_p 2 [(329, (Value.int .i64 ((nb : Int)))), (328, (Value.slice A2 nb c2))] ?_
              refine wq_v (some 330) (.bool false) (eq_is (v := (Value.bool (((s343.boxes.length : Int)) != ((nb : Int))))) (by kernel_rfl) (by simp; omega)) ?_
              refine wq_p 1 [(331, (Value.bool false))] ?_
              refine wl_end rfl ?_
              refine seq_n hK345 ?_
              refine wp_cond_false (by kernel_rfl) ?_
              refine wp_skip ?_
              refine blk_n ?_
              refine seq_n hK24 ?_
              refine reg_lit ?_
              refine wq_v (some 332) (Value.int .i64 ((n : Int) + 1)) (exec_add _ _ _ _ rfl ((n : Int)) 1 (by kernel_rfl) (by kernel_rfl) ((n : Int) + 1) rfl (by omega) (by omega) _) ?_
              refine wq_p 1 [(44, (Value.int .i64 ((n : Int) + 1)))] ?_
              refine wl_end rfl ?_
              refine ⟨st.length - (n + 1), (by omega), (n + 1), ks, bx, bv, (ss ++ [xl]), (sv ++ [(Value.slice A333 xl.length c333)]), s343, F343, A1, c1, A2, c2, A335, c335, nk, nb, (ns + 1), hI2, hB2, hS2, hbv, (by simp [hsv]), (by omega), (by omega), (by simp; omega), (by omega), hbb, (nodup_snoc hnd (hS ▸ hnone)), (by first | omega | (simp; omega)), (by first | omega | (simp; omega)), (by first | omega | (simp; omega)), rfl, (patch_eq _ 399 _ (by kernel_rfl) (by kernel_rfl) (by kernel_rfl)), h347.sel [4, 5, 6, 7] [4, 5, 6, 1] (by kernel_rfl) rfl rfl⟩
             ·
              refine wp_skip ?_
              refine seq_n hK328 ?_
              refine wp_seq_k ?_
              intro K348 hK348
              have hold : 1 ≤ z ∧ ss[z - 1]? = some xl := by rcases hz with ⟨hz, _⟩ | hz; omega; exact hz
              have hsum0 := sum_old (s := s) (by rw [hS]; exact hnd) hold.1 (by rw [hS]; exact hold.2)
              have hsum : s.sumAt xl + 1 = z ∧ s.digest xl = s := ⟨by rw [hsum0.1]; omega, hsum0.2⟩
              refine reg_lit ?_
              refine wq_p 1 [(311, (Value.int .i64 ((z : Int))))] ?_
              refine wq_to (some 312) (x_lmark h318 100 (z) (by kernel_rfl) (by omega)) ?_
              rintro _ w349 ⟨K349, rfl, hK349, h349⟩
              refine wq_to (some 26) (x_new h349 22 (vb (List.replicate 16 0)) (fun r => pt r 0) (by kernel_rfl)) ?_
              rintro _ w350 ⟨g350, rfl, h350⟩
              refine wq_to none (x_stores h350 0 rfl 22 (.tmp 26) (.tmp 312) (by kernel_rfl) 0 (vb (kl K349)) (vb (kl K349)) (by kernel_rfl) (by kernel_rfl) (by kernel_rfl) (by kernel_rfl) (by kernel_rfl) (by kernel_rfl)) ?_
              rintro _ w351 h351
              refine wl_end rfl ?_
              refine seq_n hK348 ?_
              refine wp_seq_k ?_
              intro K352 hK352
              refine pR_go h351 7 (fun W => (rBlk g26 65 ([(Value.int .i64 xk), (Value.int .i64 xa), (Value.int .i64 xb), (Value.string xt), (Value.slice Ax xl.length cx)])).Φ W ∧ True) [(314, [3], 0), (315, [8], 0), (316, [314], 2), (317, [313, 315], 5), (318, [26], 0), (319, [316, 317], 24), (320, [318], 32)] rfl (fun _ d _ _ _ h => by cases d <;> exact h) ?_
              intro hs353 w353 h353
              refine pR_p 4 [0, 1, 4] [(317, (Value.slice (some ⟨g350, 0, none⟩) 16 16)), (314, (pt g26 4)), (313, (pt tb10 0))] 19 hs353 ⟨h353.at_ 2 rfl, trivial⟩ ?_
              refine pR_v 2 (some 315) (Value.slice Ax xl.length cx) 23 rfl hs353 ⟨h353.at_ 2 rfl, trivial⟩ (fun W hW => e_load hW.1 28 (.tmp 314) (by kernel_rfl) 4 (Value.slice Ax xl.length cx) (by kernel_rfl) (by kernel_rfl) (by kernel_rfl)) ?_
              refine pR_to 3 (some 316) 31 rfl hs353 (x_digest h353 6 rfl xl (Value.slice Ax xl.length cx) (by kernel_rfl) (h353.rd 0 rfl) (by omega) (by omega)) ?_
              rintro _ w354 ⟨A354, c354, F354, s354, rfl, hs354, h354⟩
              refine ⟨fun _ => ⟨h354.at_ 2 rfl, trivial⟩, ?_⟩
              have e354 := digest_all hs354
              have hx354 : s354.boxes.length = s.boxes.length := by rw [e354.1]
              have hu354 := e354.2.2.2
              have hk354 : s354.keys.length = s.keys.length := by rw [e354.2.1]
              refine pR_to 5 (some 318) 63 rfl hs353 (x_same h354 (mkB 100 (s.sumAt xl + 1)) (kl K349) (Value.slice A354 16 c354) (Value.slice (some ⟨g350, 0, none⟩) 16 16) (by kernel_rfl) (h354.rd 0 rfl) (SB.blk16 (K := K349) (h354.at_ 0 rfl)) true (by rw [hK349, hsum.1]; simp)) ?_
              rintro _ w355 ⟨rfl, h355⟩
              refine ⟨fun _ => ⟨h355.at_ 2 rfl, trivial⟩, ?_⟩
              refine pR_p 0 [6] [(319, (Value.bool false))] 127 hs353 ⟨h355.at_ 2 rfl, trivial⟩ ?_
              refine pR_done hs353 ?_ _
              refine seq_n hK352 ?_
              refine wp_cond_false (by kernel_rfl) ?_
              refine wp_skip ?_
              refine blk_n ?_
              refine seq_n hK37 ?_
              refine wp_seq_k ?_
              intro K356 hK356
              refine wp_reset 399 [(0, (Value.slice A st.length c)), (3, (pt tb10 0)), (4, (Value.slice A1 nk c1)), (5, (Value.slice A2 nb c2)), (6, (Value.slice A3 ns c3)), (8, (pt g26 0)), (9, (pt g35 0)), (23, (Value.int .i64 ((z : Int)))), (26, (pt g350 0)), (34, (Value.bool false)), (37, (Value.bool (decide ((st.length : Int) > 60)))), (42, (Value.slice A st.length c)), (43, (Value.int .i64 ((st.length : Int)))), (44, (Value.int .i64 ((n : Int)))), (45, (Value.bool (decide ((n : Int) < (st.length : Int))))), (57, (Value.bool false)), (63, (Value.int .i64 xk)), (64, (Value.bool (xk == 0))), (76, (Value.bool (xk == 2))), (130, (Value.bool (xk == 3))), (156, (Value.bool (xk == 4))), (284, (Value.bool (xk == 5))), (286, (Value.slice A3 ns c3)), (287, (Value.int .i64 ((ns : Int)))), (288, (Value.int .i64 ((i : Int)))), (289, (Value.bool (decide ((i : Int) < (ns : Int))))), (301, (Value.bool (((z : Int)) == 0))), (319, (Value.bool false))] (fun x357 => ?_)
              have hI2 : Inv (ks) s354 := (hI.same e354.2.1 e354.2.2.1)
              have hB2 : s354.boxes = bx := (e354.1.trans hB)
              have hS2 : s354.sums = ss := (by rw [hs354, hsum.2]; exact hS)
              have hkl2 := hI2.len
              have hbl2 : s354.boxes.length = (bx : List SSealed).length := by rw [hB2]
              refine reg_lit ?_
              refine wq_p 1 [(320, (pt tb10 0))] ?_
              refine wq_to (some 321) (x_nkeys h355 6 rfl (by kernel_rfl)) ?_
              rintro _ w358 ⟨rfl, h358⟩
              refine wq_p 2 [(323, (Value.int .i64 ((nk : Int)))), (322, (Value.slice A1 nk c1))] ?_
              refine wq_v (some 324) (.bool false) (eq_is (v := (Value.bool (((s354.keys.length : Int)) != ((nk : Int))))) (by kernel_rfl) (by simp; omega)) ?_
              refine wq_p 2 [(326, (pt tb10 0)), (325, (Value.bool false))] ?_
              refine wq_to (some 327) (x_nboxes h358 6 rfl (by kernel_rfl)) ?_
              rintro _ w359 ⟨rfl, h359⟩
              refine wq_p 2 [(329, (Value.int .i64 ((nb : Int)))), (328, (Value.slice A2 nb c2))] ?_
              refine wq_v (some 330) (.bool false) (eq_is (v := (Value.bool (((s354.boxes.length : Int)) != ((nb : Int))))) (by kernel_rfl) (by simp; omega)) ?_
              refine wq_p 1 [(331, (Value.bool false))] ?_
              refine wl_end rfl ?_
              refine seq_n hK356 ?_
              refine wp_cond_false (by kernel_rfl) ?_
              refine wp_skip ?_
              refine blk_n ?_
              refine seq_n hK24 ?_
              refine reg_lit ?_
              refine wq_v (some 332) (Value.int .i64 ((n : Int) + 1)) (exec_add _ _ _ _ rfl ((n : Int)) 1 (by kernel_rfl) (by kernel_rfl) ((n : Int) + 1) rfl (by omega) (by omega) _) ?_
              refine wq_p 1 [(44, (Value.int .i64 ((n : Int) + 1)))] ?_
              refine wl_end rfl ?_
              refine ⟨st.length - (n + 1), (by omega), (n + 1), ks, bx, bv, ss, sv, s354, F354, A1, c1, A2, c2, A3, c3, nk, nb, ns, hI2, hB2, hS2, hbv, hsv, (by omega), (by omega), (by omega), (by omega), hbb, hnd, (by first | omega | (simp; omega)), (by first | omega | (simp; omega)), (by first | omega | (simp; omega)), rfl, (patch_eq _ 399 _ (by kernel_rfl) (by kernel_rfl) (by kernel_rfl)), h359.sel [3, 4, 5, 6] [2, 3, 4, 5] (by kernel_rfl) rfl rfl⟩
           ·
            refine wp_skip ?_
            refine blk_n ?_
            refine seq_n hK37 ?_
            refine wp_seq_k ?_
            intro K360 hK360
            have hI2 : Inv (ks) s := hI
            have hB2 : s.boxes = bx := hB
            have hS2 : s.sums = ss := hS
            have hkl2 := hI2.len
            have hbl2 : s.boxes.length = (bx : List SSealed).length := by rw [hB2]
            refine reg_lit ?_
            refine wq_p 1 [(320, (pt tb10 0))] ?_
            refine wq_to (some 321) (x_nkeys h36 5 rfl (by kernel_rfl)) ?_
            rintro _ w361 ⟨rfl, h361⟩
            refine wq_p 2 [(323, (Value.int .i64 ((nk : Int)))), (322, (Value.slice A1 nk c1))] ?_
            refine wq_v (some 324) (.bool false) (eq_is (v := (Value.bool (((s.keys.length : Int)) != ((nk : Int))))) (by kernel_rfl) (by simp; omega)) ?_
            refine wq_p 2 [(326, (pt tb10 0)), (325, (Value.bool false))] ?_
            refine wq_to (some 327) (x_nboxes h361 5 rfl (by kernel_rfl)) ?_
            rintro _ w362 ⟨rfl, h362⟩
            refine wq_p 2 [(329, (Value.int .i64 ((nb : Int)))), (328, (Value.slice A2 nb c2))] ?_
            refine wq_v (some 330) (.bool false) (eq_is (v := (Value.bool (((s.boxes.length : Int)) != ((nb : Int))))) (by kernel_rfl) (by simp; omega)) ?_
            refine wq_p 1 [(331, (Value.bool false))] ?_
            refine wl_end rfl ?_
            refine seq_n hK360 ?_
            refine wp_cond_false (by kernel_rfl) ?_
            refine wp_skip ?_
            refine blk_n ?_
            refine seq_n hK24 ?_
            refine wp_reset 399 [(0, (Value.slice A st.length c)), (3, (pt tb10 0)), (4, (Value.slice A1 nk c1)), (5, (Value.slice A2 nb c2)), (6, (Value.slice A3 ns c3)), (8, (pt g26 0)), (9, (pt g35 0)), (34, (Value.bool false)), (37, (Value.bool (decide ((st.length : Int) > 60)))), (42, (Value.slice A st.length c)), (43, (Value.int .i64 ((st.length : Int)))), (44, (Value.int .i64 ((n : Int)))), (45, (Value.bool (decide ((n : Int) < (st.length : Int))))), (57, (Value.bool false)), (63, (Value.int .i64 xk)), (64, (Value.bool (xk == 0))), (76, (Value.bool (xk == 2))), (130, (Value.bool (xk == 3))), (156, (Value.bool (xk == 4))), (284, (Value.bool (xk == 5))), (331, (Value.bool false))] (fun x363 => ?_)
            refine reg_lit ?_
            refine wq_v (some 332) (Value.int .i64 ((n : Int) + 1)) (exec_add _ _ _ _ rfl ((n : Int)) 1 (by kernel_rfl) (by kernel_rfl) ((n : Int) + 1) rfl (by omega) (by omega) _) ?_
            refine wq_p 1 [(44, (Value.int .i64 ((n : Int) + 1)))] ?_
            refine wl_end rfl ?_
            refine ⟨st.length - (n + 1), (by omega), (n + 1), ks, bx, bv, ss, sv, s, F, A1, c1, A2, c2, A3, c3, nk, nb, ns, hI2, hB2, hS2, hbv, hsv, (by omega), (by omega), (by omega), (by omega), hbb, hnd, (by first | omega | (simp; omega)), (by first | omega | (simp; omega)), (by first | omega | (simp; omega)), rfl, (patch_eq _ 399 _ (by kernel_rfl) (by kernel_rfl) (by kernel_rfl)), h362.sel [2, 3, 4, 5] [1, 2, 3, 4] (by kernel_rfl) rfl rfl⟩
   ·
    refine wp_exit ?_
    refine seq_e ?_
    refine seq_e ?_
    refine blk_e ?_
    refine seq_n hK18 ?_
    refine wp_seq_k ?_
    intro K364 hK364
    refine wp_seq_k ?_
    intro K365 hK365
    refine reg_lit ?_
    refine wq_p 3 [(335, (Value.int .i64 0)), (334, (Value.int .i64 ((nk : Int)))), (333, (Value.slice A1 nk c1))] ?_
    refine wl_end rfl ?_
    refine seq_n hK365 ?_
    refine wp_block ?_
    refine wp_loopm (fun mM xX aA wL => ∃ (j : Nat), (j ≤ ks.length) ∧ mM = ks.length - (j) ∧ aA = patch xX 399 [(0, (Value.slice A st.length c)), (3, (pt tb10 0)), (4, (Value.slice A1 nk c1)), (5, (Value.slice A2 nb c2)), (6, (Value.slice A3 ns c3)), (34, (Value.bool false)), (37, (Value.bool (decide ((st.length : Int) > 60)))), (42, (Value.slice A st.length c)), (43, (Value.int .i64 ((st.length : Int)))), (44, (Value.int .i64 ((n : Int)))), (45, (Value.bool (decide ((n : Int) < (st.length : Int))))), (333, (Value.slice A1 nk c1)), (334, (Value.int .i64 ((nk : Int)))), (335, (Value.int .i64 ((j : Int))))] ∧ Hp (fun _ => False) w wL [] [rOV 67 19 ((Value.slice A1 nk c1)) (ks.map lfCells), rTab F tb10 s]) ⟨_, 0, (by omega), rfl, (patch_eq _ 399 _ (by kernel_rfl) (by kernel_rfl) (by kernel_rfl)), h20.sel [0, 3] [] (by kernel_rfl) rfl rfl⟩ ?_
    rintro _ x366 _ w366 ⟨j, hj, rfl, rfl, h366⟩
    refine wp_seq_k ?_
    intro K367 hK367
    refine reg_lit ?_
    refine wq_p 1 [(336, (Value.bool (decide ((j : Int) < (nk : Int)))))] ?_
    refine wl_end rfl ?_
    refine seq_n hK367 ?_
    refine wp_seq_k ?_
    intro K368 hK368
    refine wp_if ((j : Int) < (nk : Int)) (by kernel_rfl) (fun b369 => ?_) (fun b369 => ?_)
    ·
     refine wp_skip ?_
     refine seq_n hK368 ?_
     refine wp_seq_k ?_
     intro K370 hK370
     refine wp_block ?_
     refine wp_seq_k ?_
     intro K371 hK371
     have h73 : ks[j]? = some LF.fresh ∨ (∃ a b, ks[j]? = some (LF.text a b)) ∨ (∃ K a, ks[j]? = some (LF.derive (kl K) a)) := lf_kinds hI j (by omega)
     rcases h73 with hf | ⟨fa, fb, hf⟩ | ⟨fK, fa, hf⟩
     ·
      refine reg_lit ?_
      refine wq_p 1 [(337, (Value.int .i64 ((j : Int))))] ?_
      refine wq_v (some 338) (eAt A1 (j * 19 + 0)) (e_idxN (OV.rvn (h366.at_ 0 rfl)).2 j nk (OV.rvn (h366.at_ 0 rfl)).1 (by omega) 61 (.tmp 333) (.tmp 335) (by kernel_rfl) .i64 (by kernel_rfl) (by kernel_rfl) 67 (by kernel_rfl) (by kernel_rfl) _) ?_
      refine wq_v (some 339) (Value.agg ([(Value.int .i64 0)] ++ vb zKey ++ [(Value.string ByteArray.empty), (Value.string ByteArray.empty)]).toArray) (e_elemsN (OV.rvn (h366.at_ 0 rfl)).2 j 0 ([(Value.int .i64 0)] ++ vb zKey ++ [(Value.string ByteArray.empty), (Value.string ByteArray.empty)]) (map_get lfCells hf) 67 (.tmp 338) (by kernel_rfl) ([(Value.int .i64 0)] ++ vb zKey ++ [(Value.string ByteArray.empty), (Value.string ByteArray.empty)]) (by kernel_rfl) (by kernel_rfl) (by kernel_rfl)) ?_
      refine wq_to (some 28) (x_new h366 67 ([(Value.int .i64 0)] ++ vb (List.replicate 16 0) ++ [(Value.string ByteArray.empty), (Value.string ByteArray.empty)]) (fun r => pt r 0) (by kernel_rfl)) ?_
      rintro _ w373 ⟨g373, rfl, h373⟩
      refine wq_p 1 [(27, (Value.int .i64 ((j : Int))))] ?_
      refine wq_to none (x_stores h373 0 rfl 67 (.tmp 28) (.tmp 339) (by kernel_rfl) 0 ([(Value.int .i64 0)] ++ vb zKey ++ [(Value.string ByteArray.empty), (Value.string ByteArray.empty)]) ([(Value.int .i64 0)] ++ vb zKey ++ [(Value.string ByteArray.empty), (Value.string ByteArray.empty)]) (by kernel_rfl) (by kernel_rfl) (by kernel_rfl) (by kernel_rfl) (by kernel_rfl) (by kernel_rfl)) ?_
      rintro _ w374 h374
      refine wl_end rfl ?_
      refine seq_n hK371 ?_
      refine wp_seq_k ?_
      intro K375 hK375
      refine reg_lit ?_
      refine wq_p 2 [(342, (Value.int .i64 ((j : Int)))), (341, (pt tb10 0))] ?_
      refine wq_v (some 343) (Value.int .i64 ((j : Int) + 1)) (exec_add _ _ _ _ rfl ((j : Int)) 1 (by kernel_rfl) (by kernel_rfl) ((j : Int) + 1) rfl (by omega) (by omega) _) ?_
      refine wq_to (some 344) (x_lmark h374 107 ((j) + 1) (by kernel_rfl) (by omega)) ?_
      rintro _ w376 ⟨K376, rfl, hK376, h376⟩
      refine wq_to (some 345) (x_cameS h376 2 rfl K376 zKey ByteArray.empty false (by kernel_rfl) (h376.tabW 2 rfl).2.1 (by omega) (by rw [hK376]; exact came_there (by rw [hI.keys]; exact map_get LF.toS hf) (by omega))) ?_
      rintro _ w377 ⟨rfl, h377⟩
      refine wq_p 3 [(347, (Value.bool true)), (346, (Value.agg (vb zKey ++ [(Value.string ByteArray.empty), (Value.bool false)]).toArray)), (340, (Value.tuple #[(Value.agg (vb zKey ++ [(Value.string ByteArray.empty), (Value.bool false)]).toArray), (Value.bool true)]))] ?_
      refine wq_to (some 29) (x_new h377 70 (vb (List.replicate 16 0) ++ [(Value.string ByteArray.empty), (Value.bool false)]) (fun r => pt r 0) (by kernel_rfl)) ?_
      rintro _ w378 ⟨g378, rfl, h378⟩
      refine wq_to none (x_stores h378 0 rfl 70 (.tmp 29) (.tmp 346) (by kernel_rfl) 0 (vb zKey ++ [(Value.string ByteArray.empty), (Value.bool false)]) (vb zKey ++ [(Value.string ByteArray.empty), (Value.bool false)]) (by kernel_rfl) (by kernel_rfl) (by kernel_rfl) (by kernel_rfl) (by kernel_rfl) (by kernel_rfl)) ?_
      rintro _ w379 h379
      refine wq_p 1 [(30, (Value.bool true))] ?_
      refine wl_end rfl ?_
      refine seq_n hK375 ?_
      refine wp_seq_k ?_
      intro K380 hK380
      refine reg_lit ?_
      refine wq_p 4 [(351, (pt g378 17)), (350, (Value.bool false)), (349, (Value.bool false)), (348, (Value.bool true))] ?_
      refine wq_v (some 352) (Value.bool false) (e_load (h379.at_ 0 rfl) 4 (.tmp 351) (by kernel_rfl) 17 (Value.bool false) (by kernel_rfl) (by kernel_rfl) (by kernel_rfl)) ?_
      refine wq_p 1 [(353, (pt g373 0))] ?_
      refine wq_v (some 354) (Value.int .i64 0) (e_load (h379.at_ 1 rfl) 3 (.tmp 353) (by kernel_rfl) 0 (Value.int .i64 0) (by kernel_rfl) (by kernel_rfl) (by kernel_rfl)) ?_
      refine wq_p 5 [(359, (pt g373 0)), (358, (Value.bool false)), (357, (Value.bool false)), (356, (Value.bool false)), (355, (Value.bool false))] ?_
      refine wq_v (some 360) (Value.int .i64 0) (e_load (h379.at_ 1 rfl) 3 (.tmp 359) (by kernel_rfl) 0 (Value.int .i64 0) (by kernel_rfl) (by kernel_rfl) (by kernel_rfl)) ?_
      refine wq_p 6 [(366, undef), (365, undef), (364, undef), (363, undef), (362, (Value.bool false)), (361, (Value.bool false))] ?_
      refine wq_p 1 [(367, undef)] ?_
      refine wq_p 12 [(379, (Value.int .i64 ((j : Int)))), (378, (pt tb10 0)), (377, (Value.bool false)), (376, (Value.bool false)), (375, (Value.bool false)), (374, undef), (373, undef), (372, undef), (371, undef), (370, undef), (369, undef), (368, undef)] ?_
      refine wq_v (some 380) (Value.int .i64 ((j : Int) + 1)) (exec_add _ _ _ _ rfl ((j : Int)) 1 (by kernel_rfl) (by kernel_rfl) ((j : Int) + 1) rfl (by omega) (by omega) _) ?_
      refine wq_to (some 381) (x_nth (tb := tb10) h379 ((j) + 1) (by kernel_rfl) (by omega)) ?_
      rintro _ w381 ⟨K381, rfl, hK381, h381⟩
      refine wq_p 1 [(382, (Value.int .i64 ((j : Int))))] ?_
      refine wq_v (some 383) (Value.int .i64 ((j : Int) + 1)) (exec_add _ _ _ _ rfl ((j : Int)) 1 (by kernel_rfl) (by kernel_rfl) ((j : Int) + 1) rfl (by omega) (by omega) _) ?_
      refine wq_to (some 384) (x_lmark h381 107 ((j) + 1) (by kernel_rfl) (by omega)) ?_
      rintro _ w382 ⟨K382, rfl, hK382, h382⟩
      refine wq_v (some 385) (Value.bool false) (e_kne K381 K382 42 42 (.tmp 381) (.tmp 384) (by kernel_rfl) (by kernel_rfl) (by kernel_rfl) (by kernel_rfl) (by kernel_rfl) false (by rw [hK381, hK382]; simp) _) ?_
      refine wq_p 1 [(386, (Value.bool false))] ?_
      refine wl_end rfl ?_
      refine seq_n hK380 ?_
      refine wp_cond_false (by kernel_rfl) ?_
      refine wp_skip ?_
      refine blk_n ?_
      refine seq_n hK370 ?_
      refine wp_reset 399 [(0, (Value.slice A st.length c)), (3, (pt tb10 0)), (4, (Value.slice A1 nk c1)), (5, (Value.slice A2 nb c2)), (6, (Value.slice A3 ns c3)), (27, (Value.int .i64 ((j : Int)))), (28, (pt g373 0)), (29, (pt g378 0)), (30, (Value.bool true)), (34, (Value.bool false)), (37, (Value.bool (decide ((st.length : Int) > 60)))), (42, (Value.slice A st.length c)), (43, (Value.int .i64 ((st.length : Int)))), (44, (Value.int .i64 ((n : Int)))), (45, (Value.bool (decide ((n : Int) < (st.length : Int))))), (333, (Value.slice A1 nk c1)), (334, (Value.int .i64 ((nk : Int)))), (335, (Value.int .i64 ((j : Int)))), (336, (Value.bool (decide ((j : Int) < (nk : Int))))), (386, (Value.bool false))] (fun x383 => ?_)
      refine reg_lit ?_
      refine wq_v (some 387) (Value.int .i64 ((j : Int) + 1)) (exec_add _ _ _ _ rfl ((j : Int)) 1 (by kernel_rfl) (by kernel_rfl) ((j : Int) + 1) rfl (by omega) (by omega) _) ?_
      refine wq_p 1 [(335, (Value.int .i64 ((j : Int) + 1)))] ?_
      refine wl_end rfl ?_
      refine ⟨ks.length - (j + 1), (by omega), (j + 1), (by omega), rfl, (patch_eq _ 399 _ (by kernel_rfl) (by kernel_rfl) (by kernel_rfl)), h382.sel [2, 3] [] (by kernel_rfl) rfl rfl⟩
     ·
      refine reg_lit ?_
      refine wq_p 1 [(337, (Value.int .i64 ((j : Int))))] ?_
      refine wq_v (some 338) (eAt A1 (j * 19 + 0)) (e_idxN (OV.rvn (h366.at_ 0 rfl)).2 j nk (OV.rvn (h366.at_ 0 rfl)).1 (by omega) 61 (.tmp 333) (.tmp 335) (by kernel_rfl) .i64 (by kernel_rfl) (by kernel_rfl) 67 (by kernel_rfl) (by kernel_rfl) _) ?_
      refine wq_v (some 339) (Value.agg ([(Value.int .i64 1)] ++ vb zKey ++ [(Value.string fa), (Value.string fb)]).toArray) (e_elemsN (OV.rvn (h366.at_ 0 rfl)).2 j 0 ([(Value.int .i64 1)] ++ vb zKey ++ [(Value.string fa), (Value.string fb)]) (map_get lfCells hf) 67 (.tmp 338) (by kernel_rfl) ([(Value.int .i64 1)] ++ vb zKey ++ [(Value.string fa), (Value.string fb)]) (by kernel_rfl) (by kernel_rfl) (by kernel_rfl)) ?_
      refine wq_to (some 28) (x_new h366 67 ([(Value.int .i64 0)] ++ vb (List.replicate 16 0) ++ [(Value.string ByteArray.empty), (Value.string ByteArray.empty)]) (fun r => pt r 0) (by kernel_rfl)) ?_
      rintro _ w384 ⟨g384, rfl, h384⟩
      refine wq_p 1 [(27, (Value.int .i64 ((j : Int))))] ?_
      refine wq_to none (x_stores h384 0 rfl 67 (.tmp 28) (.tmp 339) (by kernel_rfl) 0 ([(Value.int .i64 1)] ++ vb zKey ++ [(Value.string fa), (Value.string fb)]) ([(Value.int .i64 1)] ++ vb zKey ++ [(Value.string fa), (Value.string fb)]) (by kernel_rfl) (by kernel_rfl) (by kernel_rfl) (by kernel_rfl) (by kernel_rfl) (by kernel_rfl)) ?_
      rintro _ w385 h385
      refine wl_end rfl ?_
      refine seq_n hK371 ?_
      refine wp_seq_k ?_
      intro K386 hK386
      refine reg_lit ?_
      refine wq_p 2 [(342, (Value.int .i64 ((j : Int)))), (341, (pt tb10 0))] ?_
      refine wq_v (some 343) (Value.int .i64 ((j : Int) + 1)) (exec_add _ _ _ _ rfl ((j : Int)) 1 (by kernel_rfl) (by kernel_rfl) ((j : Int) + 1) rfl (by omega) (by omega) _) ?_
      refine wq_to (some 344) (x_lmark h385 107 ((j) + 1) (by kernel_rfl) (by omega)) ?_
      rintro _ w387 ⟨K387, rfl, hK387, h387⟩
      refine wq_to (some 345) (x_cameS h387 2 rfl K387 zKey ((textF fa fb).label) true (by kernel_rfl) (h387.tabW 2 rfl).2.1 (by omega) (by rw [hK387]; exact came_there (by rw [hI.keys]; exact map_get LF.toS hf) (by omega))) ?_
      rintro _ w388 ⟨rfl, h388⟩
      refine wq_p 3 [(347, (Value.bool true)), (346, (Value.agg (vb zKey ++ [(Value.string ((textF fa fb).label)), (Value.bool true)]).toArray)), (340, (Value.tuple #[(Value.agg (vb zKey ++ [(Value.string ((textF fa fb).label)), (Value.bool true)]).toArray), (Value.bool true)]))] ?_
      refine wq_to (some 29) (x_new h388 70 (vb (List.replicate 16 0) ++ [(Value.string ByteArray.empty), (Value.bool false)]) (fun r => pt r 0) (by kernel_rfl)) ?_
      rintro _ w389 ⟨g389, rfl, h389⟩
      refine wq_to none (x_stores h389 0 rfl 70 (.tmp 29) (.tmp 346) (by kernel_rfl) 0 (vb zKey ++ [(Value.string ((textF fa fb).label)), (Value.bool true)]) (vb zKey ++ [(Value.string ((textF fa fb).label)), (Value.bool true)]) (by kernel_rfl) (by kernel_rfl) (by kernel_rfl) (by kernel_rfl) (by kernel_rfl) (by kernel_rfl)) ?_
      rintro _ w390 h390
      refine wq_p 1 [(30, (Value.bool true))] ?_
      refine wl_end rfl ?_
      refine seq_n hK386 ?_
      refine wp_seq_k ?_
      intro K391 hK391
      refine reg_lit ?_
      refine wq_p 4 [(351, (pt g389 17)), (350, (Value.bool false)), (349, (Value.bool false)), (348, (Value.bool true))] ?_
      refine wq_v (some 352) (Value.bool true) (e_load (h390.at_ 0 rfl) 4 (.tmp 351) (by kernel_rfl) 17 (Value.bool true) (by kernel_rfl) (by kernel_rfl) (by kernel_rfl)) ?_
      refine wq_p 1 [(353, (pt g384 0))] ?_
      refine wq_v (some 354) (Value.int .i64 1) (e_load (h390.at_ 1 rfl) 3 (.tmp 353) (by kernel_rfl) 0 (Value.int .i64 1) (by kernel_rfl) (by kernel_rfl) (by kernel_rfl)) ?_
      refine wq_p 5 [(359, (pt g384 0)), (358, (Value.bool false)), (357, (Value.bool false)), (356, (Value.bool false)), (355, (Value.bool true))] ?_
      refine wq_v (some 360) (Value.int .i64 1) (e_load (h390.at_ 1 rfl) 3 (.tmp 359) (by kernel_rfl) 0 (Value.int .i64 1) (by kernel_rfl) (by kernel_rfl) (by kernel_rfl)) ?_
      refine wq_p 6 [(366, undef), (365, undef), (364, undef), (363, undef), (362, (Value.bool false)), (361, (Value.bool false))] ?_
      refine wq_p 1 [(367, undef)] ?_
      refine wq_p 12 [(379, (Value.int .i64 ((j : Int)))), (378, (pt tb10 0)), (377, (Value.bool false)), (376, (Value.bool false)), (375, (Value.bool false)), (374, undef), (373, undef), (372, undef), (371, undef), (370, undef), (369, undef), (368, undef)] ?_
      refine wq_v (some 380) (Value.int .i64 ((j : Int) + 1)) (exec_add _ _ _ _ rfl ((j : Int)) 1 (by kernel_rfl) (by kernel_rfl) ((j : Int) + 1) rfl (by omega) (by omega) _) ?_
      refine wq_to (some 381) (x_nth (tb := tb10) h390 ((j) + 1) (by kernel_rfl) (by omega)) ?_
      rintro _ w392 ⟨K392, rfl, hK392, h392⟩
      refine wq_p 1 [(382, (Value.int .i64 ((j : Int))))] ?_
      refine wq_v (some 383) (Value.int .i64 ((j : Int) + 1)) (exec_add _ _ _ _ rfl ((j : Int)) 1 (by kernel_rfl) (by kernel_rfl) ((j : Int) + 1) rfl (by omega) (by omega) _) ?_
      refine wq_to (some 384) (x_lmark h392 107 ((j) + 1) (by kernel_rfl) (by omega)) ?_
      rintro _ w393 ⟨K393, rfl, hK393, h393⟩
      refine wq_v (some 385) (Value.bool false) (e_kne K392 K393 42 42 (.tmp 381) (.tmp 384) (by kernel_rfl) (by kernel_rfl) (by kernel_rfl) (by kernel_rfl) (by kernel_rfl) false (by rw [hK392, hK393]; simp) _) ?_
      refine wq_p 1 [(386, (Value.bool false))] ?_
      refine wl_end rfl ?_
      refine seq_n hK391 ?_
      refine wp_cond_false (by kernel_rfl) ?_
      refine wp_skip ?_
      refine blk_n ?_
      refine seq_n hK370 ?_
      refine wp_reset 399 [(0, (Value.slice A st.length c)), (3, (pt tb10 0)), (4, (Value.slice A1 nk c1)), (5, (Value.slice A2 nb c2)), (6, (Value.slice A3 ns c3)), (27, (Value.int .i64 ((j : Int)))), (28, (pt g384 0)), (29, (pt g389 0)), (30, (Value.bool true)), (34, (Value.bool false)), (37, (Value.bool (decide ((st.length : Int) > 60)))), (42, (Value.slice A st.length c)), (43, (Value.int .i64 ((st.length : Int)))), (44, (Value.int .i64 ((n : Int)))), (45, (Value.bool (decide ((n : Int) < (st.length : Int))))), (333, (Value.slice A1 nk c1)), (334, (Value.int .i64 ((nk : Int)))), (335, (Value.int .i64 ((j : Int)))), (336, (Value.bool (decide ((j : Int) < (nk : Int))))), (386, (Value.bool false))] (fun x394 => ?_)
      refine reg_lit ?_
      refine wq_v (some 387) (Value.int .i64 ((j : Int) + 1)) (exec_add _ _ _ _ rfl ((j : Int)) 1 (by kernel_rfl) (by kernel_rfl) ((j : Int) + 1) rfl (by omega) (by omega) _) ?_
      refine wq_p 1 [(335, (Value.int .i64 ((j : Int) + 1)))] ?_
      refine wl_end rfl ?_
      refine ⟨ks.length - (j + 1), (by omega), (j + 1), (by omega), rfl, (patch_eq _ 399 _ (by kernel_rfl) (by kernel_rfl) (by kernel_rfl)), h393.sel [2, 3] [] (by kernel_rfl) rfl rfl⟩
     ·
      refine reg_lit ?_
      refine wq_p 1 [(337, (Value.int .i64 ((j : Int))))] ?_
      refine wq_v (some 338) (eAt A1 (j * 19 + 0)) (e_idxN (OV.rvn (h366.at_ 0 rfl)).2 j nk (OV.rvn (h366.at_ 0 rfl)).1 (by omega) 61 (.tmp 333) (.tmp 335) (by kernel_rfl) .i64 (by kernel_rfl) (by kernel_rfl) 67 (by kernel_rfl) (by kernel_rfl) _) ?_
      refine wq_v (some 339) (Value.agg ([(Value.int .i64 2)] ++ vb (kl fK) ++ [(Value.string fa), (Value.string ByteArray.empty)]).toArray) (e_elemsN (OV.rvn (h366.at_ 0 rfl)).2 j 0 ([(Value.int .i64 2)] ++ vb (kl fK) ++ [(Value.string fa), (Value.string ByteArray.empty)]) (map_get lfCells hf) 67 (.tmp 338) (by kernel_rfl) ([(Value.int .i64 2)] ++ vb (kl fK) ++ [(Value.string fa), (Value.string ByteArray.empty)]) (by kernel_rfl) (by kernel_rfl) (by kernel_rfl)) ?_
      refine wq_to (some 28) (x_new h366 67 ([(Value.int .i64 0)] ++ vb (List.replicate 16 0) ++ [(Value.string ByteArray.empty), (Value.string ByteArray.empty)]) (fun r => pt r 0) (by kernel_rfl)) ?_
      rintro _ w395 ⟨g395, rfl, h395⟩
      refine wq_p 1 [(27, (Value.int .i64 ((j : Int))))] ?_
      refine wq_to none (x_stores h395 0 rfl 67 (.tmp 28) (.tmp 339) (by kernel_rfl) 0 ([(Value.int .i64 2)] ++ vb (kl fK) ++ [(Value.string fa), (Value.string ByteArray.empty)]) ([(Value.int .i64 2)] ++ vb (kl fK) ++ [(Value.string fa), (Value.string ByteArray.empty)]) (by kernel_rfl) (by kernel_rfl) (by kernel_rfl) (by kernel_rfl) (by kernel_rfl) (by kernel_rfl)) ?_
      rintro _ w396 h396
      refine wl_end rfl ?_
      refine seq_n hK371 ?_
      refine wp_seq_k ?_
      intro K397 hK397
      refine reg_lit ?_
      refine wq_p 2 [(342, (Value.int .i64 ((j : Int)))), (341, (pt tb10 0))] ?_
      refine wq_v (some 343) (Value.int .i64 ((j : Int) + 1)) (exec_add _ _ _ _ rfl ((j : Int)) 1 (by kernel_rfl) (by kernel_rfl) ((j : Int) + 1) rfl (by omega) (by omega) _) ?_
      refine wq_to (some 344) (x_lmark h396 107 ((j) + 1) (by kernel_rfl) (by omega)) ?_
      rintro _ w398 ⟨K398, rfl, hK398, h398⟩
      refine wq_to (some 345) (x_cameS h398 2 rfl K398 (kl fK) fa false (by kernel_rfl) (h398.tabW 2 rfl).2.1 (by omega) (by rw [hK398]; exact came_there (by rw [hI.keys]; exact map_get LF.toS hf) (by omega))) ?_
      rintro _ w399 ⟨rfl, h399⟩
      refine wq_p 3 [(347, (Value.bool true)), (346, (Value.agg (vb (kl fK) ++ [(Value.string fa), (Value.bool false)]).toArray)), (340, (Value.tuple #[(Value.agg (vb (kl fK) ++ [(Value.string fa), (Value.bool false)]).toArray), (Value.bool true)]))] ?_
      refine wq_to (some 29) (x_new h399 70 (vb (List.replicate 16 0) ++ [(Value.string ByteArray.empty), (Value.bool false)]) (fun r => pt r 0) (by kernel_rfl)) ?_
      rintro _ w400 ⟨g400, rfl, h400⟩
      refine wq_to none (x_stores h400 0 rfl 70 (.tmp 29) (.tmp 346) (by kernel_rfl) 0 (vb (kl fK) ++ [(Value.string fa), (Value.bool false)]) (vb (kl fK) ++ [(Value.string fa), (Value.bool false)]) (by kernel_rfl) (by kernel_rfl) (by kernel_rfl) (by kernel_rfl) (by kernel_rfl) (by kernel_rfl)) ?_
      rintro _ w401 h401
      refine wq_p 1 [(30, (Value.bool true))] ?_
      refine wl_end rfl ?_
      refine seq_n hK397 ?_
      refine wp_seq_k ?_
      intro K402 hK402
      refine reg_lit ?_
      refine wq_p 4 [(351, (pt g400 17)), (350, (Value.bool false)), (349, (Value.bool false)), (348, (Value.bool true))] ?_
      refine wq_v (some 352) (Value.bool false) (e_load (h401.at_ 0 rfl) 4 (.tmp 351) (by kernel_rfl) 17 (Value.bool false) (by kernel_rfl) (by kernel_rfl) (by kernel_rfl)) ?_
      refine wq_p 1 [(353, (pt g395 0))] ?_
      refine wq_v (some 354) (Value.int .i64 2) (e_load (h401.at_ 1 rfl) 3 (.tmp 353) (by kernel_rfl) 0 (Value.int .i64 2) (by kernel_rfl) (by kernel_rfl) (by kernel_rfl)) ?_
      refine wq_p 5 [(359, (pt g395 0)), (358, (Value.bool false)), (357, (Value.bool false)), (356, (Value.bool false)), (355, (Value.bool false))] ?_
      refine wq_v (some 360) (Value.int .i64 2) (e_load (h401.at_ 1 rfl) 3 (.tmp 359) (by kernel_rfl) 0 (Value.int .i64 2) (by kernel_rfl) (by kernel_rfl) (by kernel_rfl)) ?_
      refine wq_p 3 [(363, (pt g400 0)), (362, (Value.bool true)), (361, (Value.bool true))] ?_
      refine wq_v (some 364) (Value.agg (vb (kl fK)).toArray) (e_loads (h401.at_ 0 rfl) 42 (.tmp 363) (by kernel_rfl) 0 (vb (kl fK)) (by kernel_rfl) (by kernel_rfl) (by kernel_rfl)) ?_
      refine wq_p 1 [(365, (pt g395 1))] ?_
      refine wq_v (some 366) (Value.agg (vb (kl fK)).toArray) (e_loads (h401.at_ 1 rfl) 22 (.tmp 365) (by kernel_rfl) 1 (vb (kl fK)) (by kernel_rfl) (by kernel_rfl) (by kernel_rfl)) ?_
      refine wq_v (some 367) (Value.bool false) (e_kne fK fK 42 42 (.tmp 364) (.tmp 366) (by kernel_rfl) (by kernel_rfl) (by kernel_rfl) (by kernel_rfl) (by kernel_rfl) false (by simp) _) ?_
      refine wq_p 2 [(369, (pt g400 16)), (368, (Value.bool false))] ?_
      refine wq_v (some 370) (Value.string fa) (e_load (h401.at_ 0 rfl) 9 (.tmp 369) (by kernel_rfl) 16 (Value.string fa) (by kernel_rfl) (by kernel_rfl) (by kernel_rfl)) ?_
      refine wq_p 1 [(371, (pt g395 17))] ?_
      refine wq_v (some 372) (Value.string fa) (e_load (h401.at_ 1 rfl) 9 (.tmp 371) (by kernel_rfl) 17 (Value.string fa) (by kernel_rfl) (by kernel_rfl) (by kernel_rfl)) ?_
      refine wq_v (some 373) (Value.bool false) (eq_is (v := (Value.bool (!((fa).toList == (fa).toList)))) (by kernel_rfl) (by simp)) ?_
      refine wq_p 6 [(379, (Value.int .i64 ((j : Int)))), (378, (pt tb10 0)), (377, (Value.bool false)), (376, (Value.bool false)), (375, (Value.bool false)), (374, (Value.bool false))] ?_
      refine wq_v (some 380) (Value.int .i64 ((j : Int) + 1)) (exec_add _ _ _ _ rfl ((j : Int)) 1 (by kernel_rfl) (by kernel_rfl) ((j : Int) + 1) rfl (by omega) (by omega) _) ?_
      refine wq_to (some 381) (x_nth (tb := tb10) h401 ((j) + 1) (by kernel_rfl) (by omega)) ?_
      rintro _ w403 ⟨K403, rfl, hK403, h403⟩
      refine wq_p 1 [(382, (Value.int .i64 ((j : Int))))] ?_
      refine wq_v (some 383) (Value.int .i64 ((j : Int) + 1)) (exec_add _ _ _ _ rfl ((j : Int)) 1 (by kernel_rfl) (by kernel_rfl) ((j : Int) + 1) rfl (by omega) (by omega) _) ?_
      refine wq_to (some 384) (x_lmark h403 107 ((j) + 1) (by kernel_rfl) (by omega)) ?_
      rintro _ w404 ⟨K404, rfl, hK404, h404⟩
      refine wq_v (some 385) (Value.bool false) (e_kne K403 K404 42 42 (.tmp 381) (.tmp 384) (by kernel_rfl) (by kernel_rfl) (by kernel_rfl) (by kernel_rfl) (by kernel_rfl) false (by rw [hK403, hK404]; simp) _) ?_
      refine wq_p 1 [(386, (Value.bool false))] ?_
      refine wl_end rfl ?_
      refine seq_n hK402 ?_
      refine wp_cond_false (by kernel_rfl) ?_
      refine wp_skip ?_
      refine blk_n ?_
      refine seq_n hK370 ?_
      refine wp_reset 399 [(0, (Value.slice A st.length c)), (3, (pt tb10 0)), (4, (Value.slice A1 nk c1)), (5, (Value.slice A2 nb c2)), (6, (Value.slice A3 ns c3)), (27, (Value.int .i64 ((j : Int)))), (28, (pt g395 0)), (29, (pt g400 0)), (30, (Value.bool true)), (34, (Value.bool false)), (37, (Value.bool (decide ((st.length : Int) > 60)))), (42, (Value.slice A st.length c)), (43, (Value.int .i64 ((st.length : Int)))), (44, (Value.int .i64 ((n : Int)))), (45, (Value.bool (decide ((n : Int) < (st.length : Int))))), (333, (Value.slice A1 nk c1)), (334, (Value.int .i64 ((nk : Int)))), (335, (Value.int .i64 ((j : Int)))), (336, (Value.bool (decide ((j : Int) < (nk : Int))))), (386, (Value.bool false))] (fun x405 => ?_)
      refine reg_lit ?_
      refine wq_v (some 387) (Value.int .i64 ((j : Int) + 1)) (exec_add _ _ _ _ rfl ((j : Int)) 1 (by kernel_rfl) (by kernel_rfl) ((j : Int) + 1) rfl (by omega) (by omega) _) ?_
      refine wq_p 1 [(335, (Value.int .i64 ((j : Int) + 1)))] ?_
      refine wl_end rfl ?_
      refine ⟨ks.length - (j + 1), (by omega), (j + 1), (by omega), rfl, (patch_eq _ 399 _ (by kernel_rfl) (by kernel_rfl) (by kernel_rfl)), h404.sel [2, 3] [] (by kernel_rfl) rfl rfl⟩
    ·
     refine wp_exit ?_
     refine seq_e ?_
     refine seq_e ?_
     refine blk_e ?_
     refine seq_n hK364 ?_
     refine wp_seq_k ?_
     intro K406 hK406
     refine reg_lit ?_
     refine wq_p 3 [(391, (Value.int .i64 ((nk : Int)))), (390, (Value.slice A1 nk c1)), (389, (pt tb10 0))] ?_
     refine wq_v (some 392) (Value.int .i64 ((nk : Int) + 1)) (exec_add _ _ _ _ rfl ((nk : Int)) 1 (by kernel_rfl) (by kernel_rfl) ((nk : Int) + 1) rfl (by omega) (by omega) _) ?_
     refine wq_to (some 393) (x_lmark h366 107 ((nk) + 1) (by kernel_rfl) (by omega)) ?_
     rintro _ w407 ⟨K407, rfl, hK407, h407⟩
     refine wq_to (some 394) (x_cameN h407 1 rfl K407 (by kernel_rfl) (h407.tabW 1 rfl).2.1 (by omega) (by rw [hK407, hnk, ← hI.len]; exact came_behind (by rw [hI.len]; omega))) ?_
     rintro _ w408 ⟨rfl, h408⟩
     refine wq_p 3 [(396, (Value.bool false)), (395, (Value.agg (vb zKey ++ [(Value.string ByteArray.empty), (Value.bool false)]).toArray)), (388, (Value.tuple #[(Value.agg (vb zKey ++ [(Value.string ByteArray.empty), (Value.bool false)]).toArray), (Value.bool false)]))] ?_
     refine wq_to (some 31) (x_new h408 70 (vb (List.replicate 16 0) ++ [(Value.string ByteArray.empty), (Value.bool false)]) (fun r => pt r 0) (by kernel_rfl)) ?_
     rintro _ w409 ⟨g409, rfl, h409⟩
     refine wq_to none (x_stores h409 0 rfl 70 (.tmp 31) (.tmp 395) (by kernel_rfl) 0 (vb zKey ++ [(Value.string ByteArray.empty), (Value.bool false)]) (vb zKey ++ [(Value.string ByteArray.empty), (Value.bool false)]) (by kernel_rfl) (by kernel_rfl) (by kernel_rfl) (by kernel_rfl) (by kernel_rfl) (by kernel_rfl)) ?_
     rintro _ w410 h410
     refine wq_p 1 [(32, (Value.bool false))] ?_
     refine wl_end rfl ?_
     refine seq_n hK406 ?_
     refine wp_seq_k ?_
     intro K411 hK411
     refine reg_lit ?_
     refine wq_p 3 [(2, (Value.bool true)), (398, (Value.bool true)), (397, (Value.bool false))] ?_
     refine wl_end rfl ?_
     refine seq_n hK411 ?_
     refine wp_ret ?_
     refine post_1 rfl (by kernel_rfl) (rtmp (v := (Value.bool true)) (by kernel_rfl)) ?_
     exact ⟨rfl, h410.below0⟩
end Go.Proofs.Ytjjcnijdjhhdoaa
end
/-! The row of SymPlays: for every input the law returns true and what came in reads as it did. -/
section
namespace Go.Proofs.Ytjjcnijdjhhdoaa
open Go.ChangeShapes Go.WideShapes Go.ChangeAt Go.RowKit
set_option maxRecDepth 100000 in
theorem symPlays_lifted (os : Os) (started : os.Started) (H : Type) (enc : TypeId × Value → H) :
    ReturnsInHanded {} Try.checked os 9 .any (Rows.symPlaysSpec.pre6 enc Try.prog Try.f9 Rows.symPlaysRow.domain false) (Rows.symPlaysSpec.post enc Try.prog Try.f9 false true false false) := by
  refine returnsInHanded_of_change (C := Try.checked) Try.own started (by kernel_rfl) Try.func9
    (ChangeSpec.witness6 (enc := enc) (C := Try.checked) false ⟨#[], #[.slice none 0 0], []⟩ 8 (by kernel_rfl) (by kernel_rfl) (by kernel_rfl) (by kernel_rfl)) ?_
  intro W base args ds gs before hval0 hW hcnd _
  have hval : ∀ (j : Nat) t v, Try.f9.params[j]? = some t → args[j]? = some v → Value.okWide Try.prog W .any base t v := hval0
  have hpost : ∀ W', Below W.heap.size W W' → Rows.symPlaysSpec.post enc Try.prog Try.f9 false true false false W args (.bool true) W' := fun W' hb =>
    law_post Try.laidOut (by kernel_rfl) Try.underlying4 rfl rfl (fun ds hds => by
      have hn : ds.length = 1 := hds
      match ds, hn with
      | [_], _ => rfl) hW hb
  obtain ⟨p, q, hA0, hV, rfl, hfz, hnd⟩ := hW
  have hA : DataW.TrodAll enc Try.prog W 0 (fun _ => true) true Try.f9.params.toList args.toList ds p := hA0
  rw [Try.params9] at hA hval
  clear hA0 hval0
  obtain ⟨v0, d0, rfl, rfl, h0⟩ := trodAll_one hA
  obtain ⟨A0, c0, st0, rfl, hr0, hb0⟩ := open_steps (hval 0 60 v0 rfl rfl) h0
  refine (symPlays_any A0 c0 st0 W hr0 hb0).mono fun e W' ⟨he, hw⟩ => ?_
  subst he
  exact ⟨_, rfl, hpost W' hw⟩
theorem symPlays_holds : Rows.SymPlaysSaid :=
  OpenClaim.holds_of_wide 9 Try.f9 rfl rfl rfl rfl rfl rfl rfl ⟨rfl, rfl, rfl, rfl, rfl⟩ rfl rfl rfl rfl rfl (by kernel_rfl) Try.func9 (by kernel_rfl)
    (of_decide_eq_true (by kernel_rfl)) (by unfold Func.isWrapper; first | (rw [if_pos (by decide +kernel)]; kernel_rfl) | (rw [if_neg (by decide +kernel)]; exact ⟨rfl, rfl⟩))
    (fun os started H enc _ => symPlays_lifted os started H enc)
end Go.Proofs.Ytjjcnijdjhhdoaa
end
