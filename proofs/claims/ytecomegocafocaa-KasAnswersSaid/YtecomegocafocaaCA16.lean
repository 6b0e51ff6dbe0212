/- The walks of kas: New, Enrol. -/
import Derived.Test.YtecomegocafocaaCA15
set_option maxRecDepth 100000
set_option maxHeartbeats 4000000
namespace Go.Proofs.Ytecomegocafocaa
section
open Go.Value renaming int -> iV, slice -> lV, string -> sV, bool -> bV, agg -> aV
open Go.RowKit Go.QT
/-- cache.Near. -/
def nearF (now t : Int) : Bool := decide (0 <= t /\ t <= 1099511627776 /\ 0 <= now /\ now <= 1099511627776 /\ now - t <= 30 /\ t - now <= 30)
theorem place_any {G : Nat -> Prop} {bb : Nat} {us : List User} {w : World} (hB : (rBs G bb us).Φ w) (h32 : us.length <= 1000000) (s : ByteArray) : Calls Try.prog 47 #[(pt bb 0), (sV s)] w (DPost w (.tuple #[.int .i64 (placeI us s : Int), .bool (placeB us s)])) := by
 obtain ⟨A, c, hb, hov, _, _⟩ := bs_open hB
 have hx := (OV.rvn (n := us.length) hov).2
 have h0 := (Hp.ro1 (rRV 20 A c (us.map uC)) hx).addR (rBlk bb 129 _) hb (by simp)
 refine enter 12 Try.func47 rfl rfl ?_
 refine wp_reset 14 [(0, (pt bb 0)), (1, (sV s))] (fun x0 => ?_)
 refine wR fun K1 hK1 => ?_
 refine wq_p 2 [(5, V), (4, O)] ?_
 refine wE hK1 (wR fun K2 hK2 => ?_)
 refine wq_p 3 [(8, (pt bb 0)), (7, (pt bb 0)), (6, (pt bb 0))] (wV 9 (lV A us.length c) (eL (h0.rd 0 rfl) 127 (.tmp 8) 0 _) (wq_p 1 [(10, (sV s))] ?_))
 refine wT 11 (x_dp h0 70 [(lV A us.length c), (sV s), (Value.func (.func 71) #[] #[])] (by kernel_rfl) (search_any (h0.rd 1 rfl) h32)) ?_
 rintro _ w3 ⟨rfl, h3⟩
 refine wq_p 4 [(5, (bV (placeB us s))), (4, (D ((placeI us s : Int)))), (13, (bV (placeB us s))), (12, (D ((placeI us s : Int))))] ?_
 refine wE hK2 (wp_ret ?_)
 refine post_2 rfl (by kernel_rfl) (rtm (D ((placeI us s : Int)))) (rtm (bV (placeB us s))) ?_
 exact ⟨rfl, h3.below0⟩
theorem x_place {o : Oper} {a : Act} {F0 : Nat -> Prop} {w0 w : World} {ro rs : List Res} {G : Nat -> Prop} {bb : Nat} {us : List User} (h : Hp F0 w0 w ro rs) (hB : (rBs G bb us).Φ w) (h32 : us.length <= 1000000) (s : ByteArray) (hp : pureVal Try.prog (execOp a.eval o) = some (.enter 47 #[pt bb 0, .string s])) {i : Nat} {b : Bool} (hi : placeI us s = i) (hb : placeB us s = b) :
   OpTo Try.prog o a w (fun u w' => u = .tuple #[.int .i64 (i : Int), .bool b] /\ Hp F0 w0 w' ro rs) := by
 subst hi; subst hb
 exact x_dp h 47 [pt bb 0, .string s] hp (place_any hB h32 s)
theorem get_yes {G : Nat -> Prop} {bb : Nat} {us : List User} {w : World} (hB : (rBs G bb us).Φ w) (h32 : us.length <= 1000000) {s : ByteArray} {u : User} (hb2 : placeB us s = true) (hu : us[placeI us s]? = some u) : Calls Try.prog 38 #[(pt bb 0), (sV s)] w (DPost w (.tuple #[(aV ([(sV u.name)] ++ vb (kl u.key) ++ [(iV .i64 u.life), (iV .i64 u.renew), (bV u.mesh)]).toArray), .int .i64 0])) := by
 obtain ⟨A, c, hb, hov, _, _⟩ := bs_open hB
 have hx := (OV.rvn (n := us.length) hov).2
 have hlt := (List.getElem?_eq_some_iff.1 hu).1
 have h0 := ((Hp.ro1 (rRV 20 A c (us.map uC)) hx).addR (rBlk bb 129 _) hb (by simp)).addR (rBs G bb us) hB (by simp)
 refine enter 22 Try.func38 rfl rfl ?_
 refine wp_reset 24 [(0, (pt bb 0)), (1, (sV s))] (fun x0 => ?_)
 refine wR fun K1 hK1 => ?_
 refine wT 4 (xN h0 95 ([eS] ++ vb (List.replicate 16 0) ++ [O, O, V])) ?_
 rintro _ w2 ⟨g2, rfl, h2⟩
 refine wq_p 1 [(5, O)] ?_
 refine wE hK1 (wR fun K3 hK3 => ?_)
 refine wq_p 2 [(10, (sV s)), (9, (pt bb 0))] ?_
 refine wT 11 (x_place h2 (h2.rd 0 rfl) h32 s (by kernel_rfl) rfl hb2) ?_
 rintro _ w4 ⟨rfl, h4⟩
 refine wq_p 5 [(7, I), (6, (D ((placeI us s : Int)))), (13, I), (12, (D ((placeI us s : Int)))), (8, (Value.tuple #[(D ((placeI us s : Int))), I]))] ?_
 refine wE hK3 (wp_seq_k fun K5 hK5 => wR fun K6 hK6 => ?_)
 refine wq_p 2 [(15, V), (14, I)] ?_
 refine wE hK6 (cF (wp_skip (seq_n hK5 (wR fun K7 hK7 => ?_))))
 refine wq_p 3 [(19, (pt bb 0)), (18, (pt bb 0)), (17, (pt bb 0))] (wV 20 (lV A us.length c) (eL (h4.rd 1 rfl) 127 (.tmp 19) 0 _) (wq_p 1 [(21, (D ((placeI us s : Int))))] (wV 22 (eAt A (((placeI us s)) * 20 + 0)) (eIx (RV.lenIs (n := us.length) (h4.rd 2 rfl) (List.length_map _)).2 ((placeI us s)) us.length (RV.lenIs (n := us.length) (h4.rd 2 rfl) (List.length_map _)).1 hlt 127 (.tmp 20) (.tmp 21) .i64 95) ?_)))
 refine wV 23 (aV ([(sV u.name)] ++ vb (kl u.key) ++ [(D u.life), (D u.renew), (bV u.mesh)]).toArray) (e_elemsN (RV.lenIs (n := us.length) (h4.rd 2 rfl) (List.length_map _)).2 ((placeI us s)) 0 ([(sV u.name)] ++ vb (kl u.key) ++ [(D u.life), (D u.renew), (bV u.mesh)]) (us_at hu) 95 (.tmp 22) (by kernel_rfl) ([(sV u.name)] ++ vb (kl u.key) ++ [(D u.life), (D u.renew), (bV u.mesh)]) (by kernel_rfl) (by kernel_rfl) (by kernel_rfl)) ?_
 refine wq_to none (xSs h4 0 95 (.tmp 4) (.tmp 23) 0 ([(sV u.name)] ++ vb (kl u.key) ++ [(D u.life), (D u.renew), (bV u.mesh)]) ([(sV u.name)] ++ vb (kl u.key) ++ [(D u.life), (D u.renew), (bV u.mesh)])) ?_
 rintro _ w8 h8
 refine wq_p 1 [(5, O)] ?_
 refine wE hK7 (wp_ret ?_)
 refine post_2 rfl (by kernel_rfl) (rce (h8.at_ 0 rfl)) (rtm O) ?_
 exact ⟨rfl, h8.below0⟩
theorem get_no {G : Nat -> Prop} {bb : Nat} {us : List User} {w : World} (hB : (rBs G bb us).Φ w) (h32 : us.length <= 1000000) {s : ByteArray} (hb2 : placeB us s = false) : Calls Try.prog 38 #[(pt bb 0), (sV s)] w (DPost w (.tuple #[(aV ([(sV ByteArray.empty)] ++ vb (List.replicate 16 0) ++ [(iV .i64 0), (iV .i64 0), (bV false)]).toArray), .int .i64 9])) := by
 obtain ⟨A, c, hb, hov, _, _⟩ := bs_open hB
 have hx := (OV.rvn (n := us.length) hov).2
 have h0 := ((Hp.ro1 (rRV 20 A c (us.map uC)) hx).addR (rBlk bb 129 _) hb (by simp)).addR (rBs G bb us) hB (by simp)
 refine enter 22 Try.func38 rfl rfl ?_
 refine wp_reset 24 [(0, (pt bb 0)), (1, (sV s))] (fun x0 => ?_)
 refine wR fun K1 hK1 => ?_
 refine wT 4 (xN h0 95 ([eS] ++ vb (List.replicate 16 0) ++ [O, O, V])) ?_
 rintro _ w2 ⟨g2, rfl, h2⟩
 refine wq_p 1 [(5, O)] ?_
 refine wE hK1 (wR fun K3 hK3 => ?_)
 refine wq_p 2 [(10, (sV s)), (9, (pt bb 0))] ?_
 refine wT 11 (x_place h2 (h2.rd 0 rfl) h32 s (by kernel_rfl) rfl hb2) ?_
 rintro _ w4 ⟨rfl, h4⟩
 refine wq_p 5 [(7, V), (6, (D ((placeI us s : Int)))), (13, V), (12, (D ((placeI us s : Int)))), (8, (Value.tuple #[(D ((placeI us s : Int))), V]))] ?_
 refine wE hK3 (wp_seq_k fun K5 hK5 => wR fun K6 hK6 => ?_)
 refine wq_p 2 [(15, I), (14, V)] ?_
 refine wE hK6 (cT (wR fun K7 hK7 => ?_))
 refine wq_p 1 [(16, (aV ([eS] ++ vb (List.replicate 16 0) ++ [O, O, V]).toArray))] ?_
 refine wq_to none (xSs h4 0 95 (.tmp 4) (.tmp 16) 0 ([eS] ++ vb (List.replicate 16 0) ++ [O, O, V]) ([eS] ++ vb (List.replicate 16 0) ++ [O, O, V])) ?_
 rintro _ w8 h8
 refine wq_p 1 [(5, (D 9))] ?_
 refine wE hK7 (wp_ret (seq_r ?_))
 refine post_2 rfl (by kernel_rfl) (rce (h8.at_ 0 rfl)) (rtm (D 9)) ?_
 exact ⟨rfl, h8.below0⟩
theorem near_ways (now t : Int) : t < 0 ∨ (0 <= t /\ 1099511627776 < t) ∨ (0 <= t /\ t <= 1099511627776 /\ now < 0) ∨ (0 <= t /\ t <= 1099511627776 /\ 0 <= now /\ 1099511627776 < now) ∨ (0 <= t /\ t <= 1099511627776 /\ 0 <= now /\ now <= 1099511627776) := by omega
theorem near_any (now t : Int) (w : World) : Calls Try.prog 40 #[(iV .i64 now), (iV .i64 t)] w (DPost w (.bool (nearF now t))) := by
 have h0 := Hp.nil (fun _ => False) w
 refine enter 27 Try.func40 rfl rfl ?_
 refine wp_reset 29 [(0, (D now)), (1, (D t))] (fun x0 => ?_)
 refine wR fun K1 hK1 => ?_
 refine wq_p 1 [(4, V)] ?_
 refine wE hK1 (wp_seq_k fun K2 hK2 => wp_seq_k fun K3 hK3 => ?_)
 rcases near_ways now t with hq | ⟨q1, hq⟩ | ⟨q1, q2, hq⟩ | ⟨q1, q2, q3, hq⟩ | ⟨q1, q2, q3, q4⟩
 ·
  refine reg_lit ?_
  refine wq_p 1 [(5, (D t))] (wV 6 (.bool true) (eqI (bV (decide (t < 0))) (by simp; omega)) (wq_p 2 [(8, undef), (7, I)] (wq_p 1 [(9, undef)] ?_)))
  refine wq_p 3 [(12, undef), (11, I), (10, I)] (wq_p 1 [(13, undef)] (wq_p 3 [(16, undef), (15, I), (14, I)] (wq_p 1 [(17, undef)] ?_)))
  refine wq_p 1 [(18, I)] ?_
  refine wE hK3 (cT (wR fun K5 hK5 => ?_))
  refine wq_p 1 [(4, V)] ?_
  refine wE hK5 (wp_ret (seq_r ?_))
  refine post_1 rfl (by kernel_rfl) (rtm V) ?_
  exact ⟨by rw [show nearF now t = false from decide_eq_false (by omega)], h0.below0⟩
 ·
  refine reg_lit ?_
  refine wq_p 1 [(5, (D t))] (wV 6 (.bool false) (eqI (bV (decide (t < 0))) (by simp; omega)) (wq_p 2 [(8, (D t)), (7, V)] (wV 9 (.bool true) (eqI (bV (decide (t > 1099511627776))) (by simp; omega)) ?_)))
  refine wq_p 3 [(12, undef), (11, I), (10, I)] (wq_p 1 [(13, undef)] (wq_p 3 [(16, undef), (15, I), (14, I)] (wq_p 1 [(17, undef)] ?_)))
  refine wq_p 1 [(18, I)] ?_
  refine wE hK3 (cT (wR fun K6 hK6 => ?_))
  refine wq_p 1 [(4, V)] ?_
  refine wE hK6 (wp_ret (seq_r ?_))
  refine post_1 rfl (by kernel_rfl) (rtm V) ?_
  exact ⟨by rw [show nearF now t = false from decide_eq_false (by omega)], h0.below0⟩
 ·
  refine reg_lit ?_
  refine wq_p 1 [(5, (D t))] (wV 6 (.bool false) (eqI (bV (decide (t < 0))) (by simp; omega)) (wq_p 2 [(8, (D t)), (7, V)] (wV 9 (.bool false) (eqI (bV (decide (t > 1099511627776))) (by simp; omega)) ?_)))
  refine wq_p 3 [(12, (D now)), (11, V), (10, V)] (wV 13 (.bool true) (eqI (bV (decide (now < 0))) (by simp; omega)) (wq_p 3 [(16, undef), (15, I), (14, I)] (wq_p 1 [(17, undef)] ?_)))
  refine wq_p 1 [(18, I)] ?_
  refine wE hK3 (cT (wR fun K7 hK7 => ?_))
  refine wq_p 1 [(4, V)] ?_
  refine wE hK7 (wp_ret (seq_r ?_))
  refine post_1 rfl (by kernel_rfl) (rtm V) ?_
  exact ⟨by rw [show nearF now t = false from decide_eq_false (by omega)], h0.below0⟩
 ·
  refine reg_lit ?_
  refine wq_p 1 [(5, (D t))] (wV 6 (.bool false) (eqI (bV (decide (t < 0))) (by simp; omega)) (wq_p 2 [(8, (D t)), (7, V)] (wV 9 (.bool false) (eqI (bV (decide (t > 1099511627776))) (by simp; omega)) ?_)))
  refine wq_p 3 [(12, (D now)), (11, V), (10, V)] (wV 13 (.bool false) (eqI (bV (decide (now < 0))) (by simp; omega)) (wq_p 3 [(16, (D now)), (15, V), (14, V)] (wV 17 (.bool true) (eqI (bV (decide (now > 1099511627776))) (by simp; omega)) ?_)))
  refine wq_p 1 [(18, I)] ?_
  refine wE hK3 (cT (wR fun K8 hK8 => ?_))
  refine wq_p 1 [(4, V)] ?_
  refine wE hK8 (wp_ret (seq_r ?_))
  refine post_1 rfl (by kernel_rfl) (rtm V) ?_
  exact ⟨by rw [show nearF now t = false from decide_eq_false (by omega)], h0.below0⟩
 ·
  refine reg_lit ?_
  refine wq_p 1 [(5, (D t))] (wV 6 (.bool false) (eqI (bV (decide (t < 0))) (by simp; omega)) (wq_p 2 [(8, (D t)), (7, V)] (wV 9 (.bool false) (eqI (bV (decide (t > 1099511627776))) (by simp; omega)) ?_)))
  refine wq_p 3 [(12, (D now)), (11, V), (10, V)] (wV 13 (.bool false) (eqI (bV (decide (now < 0))) (by simp; omega)) (wq_p 3 [(16, (D now)), (15, V), (14, V)] (wV 17 (.bool false) (eqI (bV (decide (now > 1099511627776))) (by simp; omega)) ?_)))
  refine wq_p 1 [(18, V)] ?_
  refine wE hK3 (cF (wp_skip (seq_n hK2 (wp_seq_k fun K9 hK9 => ?_))))
  rcases (by omega : now - t <= 30 ∨ 30 < now - t) with q5 | q5
  ·
   refine reg_lit ?_
   refine wq_p 2 [(20, (D t)), (19, (D now))] (wV 21 (D (now - t)) (exec_sub _ _ _ _ rfl now t (by kernel_rfl) (by kernel_rfl) (now - t) rfl (by omega) (by omega) _) (wV 22 (.bool true) (eqI (bV (decide (now - t <= 30))) (by simp; omega)) (wq_p 3 [(25, (D now)), (24, (D t)), (23, I)] ?_)))
   refine wV 26 (D (t - now)) (exec_sub _ _ _ _ rfl t now (by kernel_rfl) (by kernel_rfl) (t - now) rfl (by omega) (by omega) _) (wq_p 3 [(4, (bV (decide (t - now <= 30)))), (28, (bV (decide (t - now <= 30)))), (27, (bV (decide (t - now <= 30))))] ?_)
   refine wE hK9 (wp_ret ?_)
   refine post_1 rfl (by kernel_rfl) (rtm (bV (decide (t - now <= 30)))) ?_
   exact ⟨by rw [show nearF now t = decide (t - now <= 30) from by unfold nearF; by_cases h : t - now <= 30 <;> simp [h] <;> omega], h0.below0⟩
  ·
   refine reg_lit ?_
   refine wq_p 2 [(20, (D t)), (19, (D now))] (wV 21 (D (now - t)) (exec_sub _ _ _ _ rfl now t (by kernel_rfl) (by kernel_rfl) (now - t) rfl (by omega) (by omega) _) (wV 22 (.bool false) (eqI (bV (decide (now - t <= 30))) (by simp; omega)) (wq_p 3 [(25, undef), (24, undef), (23, V)] ?_)))
   refine wq_p 1 [(26, undef)] (wq_p 3 [(4, V), (28, V), (27, undef)] ?_)
   refine wE hK9 (wp_ret ?_)
   refine post_1 rfl (by kernel_rfl) (rtm V) ?_
   exact ⟨by rw [show nearF now t = false from decide_eq_false (by omega)], h0.below0⟩
theorem bnew_any (w : World) : Calls Try.prog 29 #[] w (fun e w' => ∃ G bb, e = .returned (pt bb 0) /\ Hp (fun _ => False) w w' [] [rBs G bb []]) := by
 have h0 := Hp.nil (fun _ => False) w
 refine enter 3 Try.func29 rfl rfl ?_
 refine wp_reset 3 [] (fun x0 => ?_)
 refine wR fun K1 hK1 => ?_
 refine wq_p 1 [(0, (Value.pointer none))] ?_
 refine wE hK1 (wR fun K2 hK2 => ?_)
 refine wq_p 1 [(1, (aV ([nS]).toArray))] ?_
 refine wT 2 (xN h0 129 ([nS])) ?_
 rintro _ w3 ⟨g3, rfl, h3⟩
 refine wq_p 1 [(0, (pt g3 0))] ?_
 refine wE hK2 (wp_ret ?_)
 refine post_1 rfl (by kernel_rfl) (rtm (pt g3 0)) ?_
 have h4 := h3.ovNil 95 20
 exact ⟨_, _, rfl, (show Hp _ _ _ _ (lBs _ none 0 [] ++ []) from h4.sel [1, 0] [] rfl rfl rfl).closeB⟩
theorem names_nil {G : Nat -> Prop} {bb : Nat} {w : World} (hB : (rBs G bb []).Φ w) : Calls Try.prog 25 #[(pt bb 0)] w (DPost w (.slice none 0 0)) := by
 obtain ⟨A, c, hb, hov, _, _⟩ := bs_open hB
 have h0 := Hp.ro1 (rBlk bb 129 _) hb
 refine enter 21 Try.func25 rfl rfl ?_
 refine wp_reset 22 [(0, (pt bb 0))] (fun x0 => ?_)
 refine wR fun K1 hK1 => ?_
 refine wq_p 1 [(2, nS)] ?_
 refine wE hK1 (wR fun K2 hK2 => ?_)
 refine wq_p 1 [(3, nS)] ?_
 refine wE hK2 (wp_seq_k fun K3 hK3 => wR fun K4 hK4 => ?_)
 refine wq_p 3 [(8, (pt bb 0)), (7, (pt bb 0)), (6, (pt bb 0))] (wV 9 (lV A 0 c) (eL (h0.rd 0 rfl) 127 (.tmp 8) 0 _) (wq_p 2 [(11, O), (10, O)] ?_))
 refine wE hK4 (wp_block ?_)
 refine wp_loopm (fun mM xX aA wL => ∃ (zz : Nat), mM = zz /\ aA = patch xX 22 [(0, (pt bb 0)), (2, (lV none 0 0)), (3, (lV none 0 0)), (9, (lV A 0 c)), (10, (iV .i64 0)), (11, (iV .i64 0))] /\ Hp (fun _ => False) w wL [rBlk bb 129 ([(lV A 0 c)])] []) ⟨_, 0, rfl, (pEq 22), h0.sel [] [0] (by kernel_rfl) rfl rfl⟩ ?_
 rintro _ x5 _ w5 ⟨zz, rfl, rfl, h5⟩
 refine wR fun K6 hK6 => ?_
 refine wq_p 1 [(12, V)] ?_
 refine wE hK6 (wp_seq_k fun K7 hK7 => cF (wp_exit (seq_e (seq_e (blk_e (seq_n hK3 (wR fun K8 hK8 => ?_)))))))
 refine wq_p 2 [(2, nS), (21, nS)] ?_
 refine wE hK8 (wp_ret ?_)
 refine post_1 rfl (by kernel_rfl) (rtm nS) ?_
 exact ⟨rfl, h5.below0⟩
end
section
open Go.Value renaming int -> iV, slice -> lV, string -> sV, bool -> bV, agg -> aV
open Go.RowKit Go.QT
section
variable {P : Program} {o : Oper} {a : Act}
/-- v[i:]. -/
theorem e_cutA {A : Option Addr} {sz n c i : Nat} (hi : i <= n) (t : TypeId) (x lo : Operand) (ho : o.op = .slice t x (some lo) none none) (hx : a.eval x = .slice A n c) (k : IntKind) (hlo : a.eval lo = .int k (i : Int)) (ht : P.underlying t = some (.slice (P.elem t))) (hE : pureVal P (sizeOf (P.elem t)) = some sz) (W : World) :
   (execOp a.eval o).run P W = .ok (.value (sliced A i n c sz)) W := by
 have hsz := pureVal_run hE W
 have hr : (Instr.sliceAt t (.slice A n c) (some (.int k (i : Int))) none none).run P W = .ok (sliced A i n c sz) W := by
   rw [run_sliceAt_slice W t _ _ _ _ ht, run_slice_l W t A _ c ht k i (by omega) (by omega), hsz]
   rfl
 unfold execOp
 simp only [ho, hx, hlo, Option.map_some, Option.map_none, Sem.run_bind, hr, Result.andThen_ok, Sem.run_pure]
/-- append of one element that is only read. -/
theorem x_pushR {F0 : Nat -> Prop} {w0 w : World} {ro rs : List Res} {sz : Nat} {xs : List (List Value)} (h : Hp F0 w0 w ro rs) (i j : Nat) {E : TypeId} {v : Value} {g : Nat} {T : TypeId} {news : List Value} (hi : rs[i]? = some (rOV E sz v xs)) (hj : ro[j]? = some (rBlk g T news))
   (s x : Operand) (t : TypeId) (ho : o.op = .call { callee := .builtin .append, args := #[s, x], argTypes := #[t, t] }) (bytes : Nat) (z : Value) (ht : P.underlying t = some (.slice E)) (hinf : (P.info? E).map (fun i => (i.zero, i.size, i.bytes)) = some (some z, sz, bytes))
   (hzs : z.cells.size = sz) (hsz : decide (0 < sz) = true) (hs : a.eval s = v) (c : Nat) (hx : a.eval x = .slice (some ⟨g, 0, none⟩) 1 c) (hn : news.length = sz) (h1 : news.all (·.oneCell') = true)
   (hlen : (xs.length + 1) * bytes <= 140737488355328) (hlen2 : xs.length < maxLen) (ys : List (List Value)) (n : Nat) (hys : ys = xs ++ [news]) (hyn : ys.length = n) :
   OpTo P o a w (fun u w' => ∃ A cc, u = .slice A n cc /\ Hp F0 w0 w' ro (rs.set i (rOV E sz (.slice A n cc) ys))) := by
 subst hys; subst hyn
 have hv : OV w 0 E sz v xs := h.own i _ hi
 have hb : Blk w g T news := h.red j _ hj
 obtain ⟨v', w', hrun, h2, h3, h4⟩ := OV.push (P := P) s x t ho 0 E sz bytes z ht hinf hzs (of_decide_eq_true hsz) v xs hs hv g T news c hx hb hn (by simpa using h1) hlen hlen2 (Nat.zero_le _)
 obtain ⟨A, cc, e, _, _⟩ := h2.form
 refine OpTo.run v' hrun ⟨A, cc, e, ?_⟩
 rw [← e]
 refine h.upd i hi (Fr.of_grown h3 (fun q hq => .inl hq)) (rOV E sz v' (xs ++ [news])) h2 (fun q hq => ?_)
 rcases h4 with h4 | h4
 · left; show v.ownBlock = some q; rw [← h4]; exact hq
 · right
   have : v'.ownBlock = some q := hq
   rw [h4] at this
   injection this with this
   omega
end
def InsPost (w : World) (v : Value) (xs : List (List Value)) (e : Ending) (w' : World) : Prop := ∃ A c, e = .returned (.slice A xs.length c) /\ Hp (rOV 95 20 v []).F w w' [] [rOV 95 20 (.slice A xs.length c) xs]
theorem x_ins {o : Oper} {a : Act} {F0 : Nat -> Prop} {w0 w : World} {ro rs : List Res} {v : Value} {xs ys : List (List Value)} (h : Hp F0 w0 w ro rs) (i : Nat) (hi : rs[i]? = some (rOV 95 20 v xs)) (fn : FuncId) (al : List Value) (hp : pureVal Try.prog (execOp a.eval o) = some (.enter fn al.toArray)) (n : Nat) (hn : ys.length = n) (hc : Calls Try.prog fn al.toArray w (InsPost w v ys)) :
   OpTo Try.prog o a w (fun u w' => ∃ A c, u = .slice A n c /\ Hp F0 w0 w' ro (rOV 95 20 (.slice A n c) ys :: rs.eraseIdx i)) := by
 subst hn
 exact OpTo.enter fn al hp hc fun e w' ⟨A, c, he, hh⟩ => ⟨_, he, A, c, rfl, h.call1 i hi hh⟩
theorem ins_end {A : Option Addr} {n c g : Nat} {xs : List (List Value)} {u : User} {w : World} (hv : (rOV 95 20 (.slice A n c) xs).Φ w) (hb : Blk w g 95 ([(sV u.name)] ++ vb (kl u.key) ++ [(iV .i64 u.life), (iV .i64 u.renew), (bV u.mesh)])) (hd : ¬ (rOV 95 20 (.slice A n c) xs).F g) (hn : xs.length = n) (h32 : n <= 1000000) : Calls Try.prog 49 #[.slice A n c, .int .i64 (n : Int), .slice (some ⟨g, 0, none⟩) 1 1] w (InsPost w (.slice A n c) (xs ++ [uC u])) := by
 have h0 := ((Hp.one (rOV 95 20 (.slice A n c) xs) hv).weaken (F := (rOV 95 20 (.slice A n c) []).F) (fun q hq => hq)).addR (rBlk g 95 _) hb (fun j s hj q h1 h2 => by have h3 := sel1 hj; injection h3 with h3; subst h3; exact hd (by rw [show q = g from h1] at h2; exact h2))
 refine enter 92 Try.func49 rfl rfl ?_
 refine wp_reset 95 [(0, (lV A n c)), (1, (D ((n : Int)))), (2, (lV (some ⟨g, 0, none⟩) 1 1))] (fun x0 => ?_)
 refine wR fun K1 hK1 => ?_
 refine wq_p 1 [(6, nS)] ?_
 refine wE hK1 (wR fun K2 hK2 => ?_)
 refine wq_p 2 [(11, (D ((n : Int)))), (10, (lV A n c))] (wV 12 (sliced A n n c 20) (e_cutA (A := A) (n := n) (c := c) (i := n) (by omega) 127 (.tmp 10) (.tmp 11) (by kernel_rfl) (by kernel_rfl) .i64 (by kernel_rfl) (by kernel_rfl) (by kernel_rfl) _) ?_)
 refine wE hK2 (wR fun K3 hK3 => ?_)
 refine wq_p 3 [(7, (D 1)), (14, (D 1)), (13, (lV (some ⟨g, 0, none⟩) 1 1))] ?_
 refine wE hK3 (wp_seq_k fun K4 hK4 => wR fun K5 hK5 => ?_)
 refine wq_p 2 [(16, V), (15, (D 1))] ?_
 refine wE hK5 (cF (wp_skip (seq_n hK4 (wR fun K6 hK6 => ?_))))
 refine wq_p 3 [(8, (D ((n : Int)))), (19, (D ((n : Int)))), (18, (lV A n c))] ?_
 refine wE hK6 (wp_seq_k fun K7 hK7 => wR fun K8 hK8 => ?_)
 refine wq_p 2 [(21, (D ((n : Int)))), (20, (D ((n : Int))))] (wV 22 (.bool true) (eqI (bV (((n : Int)) == ((n : Int)))) (by simp)) ?_)
 refine wE hK8 (cT (wR fun K9 hK9 => ?_))
 refine wq_p 2 [(24, (lV (some ⟨g, 0, none⟩) 1 1)), (23, (lV A n c))] ?_
 refine wT 25 (x_pushR h0 0 0 rfl rfl (.tmp 23) (.tmp 24) 127 (by kernel_rfl) 56 (aV ([eS] ++ vb (List.replicate 16 0) ++ [O, O, V]).toArray) (by kernel_rfl) (by kernel_rfl) (by kernel_rfl) (by kernel_rfl) (by kernel_rfl) 1 (by kernel_rfl) (by kernel_rfl) (by kernel_rfl) (by omega) (by unfold maxLen; omega) (xs ++ [uC u]) ((xs ++ [uC u]).length) rfl rfl) ?_
 rintro _ w10 ⟨A10, c10, rfl, h10⟩
 refine wq_p 1 [(6, (lV A10 ((xs ++ [uC u]).length) c10))] ?_
 refine wE hK9 (wp_ret (seq_r ?_))
 refine post_1 rfl (by kernel_rfl) (rtm (lV A10 ((xs ++ [uC u]).length) c10)) ?_
 exact ⟨_, _, rfl, h10.sel [0] [] rfl rfl rfl⟩
theorem add_name {G : Nat -> Prop} {bb : Nat} {us : List User} {u : User} {w : World} (hB : (rBs G bb us).Φ w) (h32 : us.length <= 1000000) (hsz : u.name.size <= 1000000000) (hr : rightN u.name = false) : Calls Try.prog 30 #[(pt bb 0), (aV ([(sV u.name)] ++ vb (kl u.key) ++ [(iV .i64 u.life), (iV .i64 u.renew), (bV u.mesh)]).toArray)] w (DPost w (.int .i64 6)) := by
 obtain ⟨A, c, hb, hov, _, _⟩ := bs_open hB
 have h0 := (Hp.ro1 (rBlk bb 129 _) hb).addR (rBs G bb us) hB (by simp)
 refine enter 56 Try.func30 rfl rfl ?_
 refine wp_reset 58 [(0, (pt bb 0)), (1, (aV ([(sV u.name)] ++ vb (kl u.key) ++ [(D u.life), (D u.renew), (bV u.mesh)]).toArray))] (fun x0 => ?_)
 refine wR fun K1 hK1 => ?_
 refine wT 3 (xN h0 95 ([(sV u.name)] ++ vb (kl u.key) ++ [(D u.life), (D u.renew), (bV u.mesh)])) ?_
 rintro _ w2 ⟨g2, rfl, h2⟩
 refine wq_p 1 [(4, O)] ?_
 refine wE hK1 (wR fun K3 hK3 => ?_)
 refine wq_p 2 [(9, (pt g2 0)), (8, (pt bb 0))] (wV 10 (sV u.name) (eL (h2.at_ 0 rfl) 9 (.tmp 9) 0 _) ?_)
 refine wT 11 (x_place h2 (h2.rd 0 rfl) h32 u.name (by kernel_rfl) rfl rfl) ?_
 rintro _ w4 ⟨rfl, h4⟩
 refine wq_p 5 [(6, (bV (placeB us u.name))), (5, (D ((placeI us u.name : Int)))), (13, (bV (placeB us u.name))), (12, (D ((placeI us u.name : Int)))), (7, (Value.tuple #[(D ((placeI us u.name : Int))), (bV (placeB us u.name))]))] ?_
 refine wE hK3 (wp_seq_k fun K5 hK5 => wp_block (wR fun K6 hK6 => ?_))
 refine wq_p 1 [(15, (pt g2 0))] (wV 16 (sV u.name) (eL (h4.at_ 0 rfl) 9 (.tmp 15) 0 _) ?_)
 refine wT 17 (x_nright h4 u.name hsz (by kernel_rfl)) ?_
 rintro _ w7 ⟨rfl, h7⟩
 refine wV 18 I (eqI (bV (!(rightN u.name))) (congrArg bV (by rw [hr]; rfl))) (wq_p 1 [(14, I)] ?_)
 refine wE hK6 (cT (wR fun K8 hK8 => ?_))
 refine wq_p 1 [(4, (D 6))] ?_
 refine wE hK8 (wp_ret (blk_r (seq_r ?_)))
 refine post_1 rfl (by kernel_rfl) (rtm (D 6)) ?_
 exact ⟨rfl, h7.below0⟩
theorem add_arg {G : Nat -> Prop} {bb : Nat} {us : List User} {u : User} {w : World} (hB : (rBs G bb us).Φ w) (h32 : us.length <= 1000000) (hsz : u.name.size <= 1000000000) (hr : rightN u.name = true) (ha : u.life < 1 ∨ 600 < u.life ∨ u.renew < 0 ∨ 6000 < u.renew) : Calls Try.prog 30 #[(pt bb 0), (aV ([(sV u.name)] ++ vb (kl u.key) ++ [(iV .i64 u.life), (iV .i64 u.renew), (bV u.mesh)]).toArray)] w (DPost w (.int .i64 7)) := by
 obtain ⟨A, c, hb, hov, _, _⟩ := bs_open hB
 have h0 := (Hp.ro1 (rBlk bb 129 _) hb).addR (rBs G bb us) hB (by simp)
 refine enter 56 Try.func30 rfl rfl ?_
 refine wp_reset 58 [(0, (pt bb 0)), (1, (aV ([(sV u.name)] ++ vb (kl u.key) ++ [(D u.life), (D u.renew), (bV u.mesh)]).toArray))] (fun x0 => ?_)
 refine wR fun K1 hK1 => ?_
 refine wT 3 (xN h0 95 ([(sV u.name)] ++ vb (kl u.key) ++ [(D u.life), (D u.renew), (bV u.mesh)])) ?_
 rintro _ w2 ⟨g2, rfl, h2⟩
 refine wq_p 1 [(4, O)] ?_
 refine wE hK1 (wR fun K3 hK3 => ?_)
 refine wq_p 2 [(9, (pt g2 0)), (8, (pt bb 0))] (wV 10 (sV u.name) (eL (h2.at_ 0 rfl) 9 (.tmp 9) 0 _) ?_)
 refine wT 11 (x_place h2 (h2.rd 0 rfl) h32 u.name (by kernel_rfl) rfl rfl) ?_
 rintro _ w4 ⟨rfl, h4⟩
 refine wq_p 5 [(6, (bV (placeB us u.name))), (5, (D ((placeI us u.name : Int)))), (13, (bV (placeB us u.name))), (12, (D ((placeI us u.name : Int)))), (7, (Value.tuple #[(D ((placeI us u.name : Int))), (bV (placeB us u.name))]))] ?_
 refine wE hK3 (wp_seq_k fun K5 hK5 => wp_block (wR fun K6 hK6 => ?_))
 refine wq_p 1 [(15, (pt g2 0))] (wV 16 (sV u.name) (eL (h4.at_ 0 rfl) 9 (.tmp 15) 0 _) ?_)
 refine wT 17 (x_nright h4 u.name hsz (by kernel_rfl)) ?_
 rintro _ w7 ⟨rfl, h7⟩
 refine wV 18 V (eqI (bV (!(rightN u.name))) (congrArg bV (by rw [hr]; rfl))) (wq_p 1 [(14, V)] ?_)
 refine wE hK6 (cF (wp_seq_k fun K8 hK8 => ?_))
 rcases (by omega : u.life < 1 ∨ (1 <= u.life /\ 600 < u.life) ∨ (1 <= u.life /\ u.life <= 600 /\ u.renew < 0) ∨ (1 <= u.life /\ u.life <= 600 /\ 0 <= u.renew /\ 6000 < u.renew)) with q1 | ⟨q1, q2⟩ | ⟨q1, q2, q3⟩ | ⟨q1, q2, q3, q4⟩
 ·
  refine reg_lit ?_
  refine wq_p 1 [(20, (pt g2 17))] (wV 21 (D u.life) (eL (h7.at_ 0 rfl) 2 (.tmp 20) 17 _) (wV 22 (.bool true) (eqI (bV (decide (u.life < 1))) (by simp; omega)) (wq_p 3 [(25, undef), (24, undef), (23, I)] ?_)))
  refine wq_p 1 [(26, undef)] (wq_p 4 [(30, undef), (29, undef), (28, I), (27, I)] (wq_p 1 [(31, undef)] (wq_p 4 [(35, undef), (34, undef), (33, I), (32, I)] ?_)))
  refine wq_p 1 [(36, undef)] (wq_p 2 [(19, I), (37, I)] ?_)
  refine wE hK8 (cT (wR fun K10 hK10 => ?_))
  refine wq_p 1 [(4, (D 7))] ?_
  refine wE hK10 (wp_ret (blk_r (seq_r ?_)))
  refine post_1 rfl (by kernel_rfl) (rtm (D 7)) ?_
  exact ⟨rfl, h7.below0⟩
 ·
  refine reg_lit ?_
  refine wq_p 1 [(20, (pt g2 17))] (wV 21 (D u.life) (eL (h7.at_ 0 rfl) 2 (.tmp 20) 17 _) (wV 22 (.bool false) (eqI (bV (decide (u.life < 1))) (by simp; omega)) (wq_p 2 [(24, (pt g2 17)), (23, V)] ?_)))
  refine wV 25 (D u.life) (eL (h7.at_ 0 rfl) 2 (.tmp 24) 17 _) (wV 26 (.bool true) (eqI (bV (decide (u.life > 600))) (by simp; omega)) (wq_p 4 [(30, undef), (29, undef), (28, I), (27, I)] (wq_p 1 [(31, undef)] ?_)))
  refine wq_p 4 [(35, undef), (34, undef), (33, I), (32, I)] (wq_p 1 [(36, undef)] (wq_p 2 [(19, I), (37, I)] ?_))
  refine wE hK8 (cT (wR fun K11 hK11 => ?_))
  refine wq_p 1 [(4, (D 7))] ?_
  refine wE hK11 (wp_ret (blk_r (seq_r ?_)))
  refine post_1 rfl (by kernel_rfl) (rtm (D 7)) ?_
  exact ⟨rfl, h7.below0⟩
 ·
  refine reg_lit ?_
  refine wq_p 1 [(20, (pt g2 17))] (wV 21 (D u.life) (eL (h7.at_ 0 rfl) 2 (.tmp 20) 17 _) (wV 22 (.bool false) (eqI (bV (decide (u.life < 1))) (by simp; omega)) (wq_p 2 [(24, (pt g2 17)), (23, V)] ?_)))
  refine wV 25 (D u.life) (eL (h7.at_ 0 rfl) 2 (.tmp 24) 17 _) (wV 26 (.bool false) (eqI (bV (decide (u.life > 600))) (by simp; omega)) (wq_p 3 [(29, (pt g2 18)), (28, V), (27, V)] (wV 30 (D u.renew) (eL (h7.at_ 0 rfl) 2 (.tmp 29) 18 _) ?_)))
  refine wV 31 (.bool true) (eqI (bV (decide (u.renew < 0))) (by simp; omega)) (wq_p 4 [(35, undef), (34, undef), (33, I), (32, I)] (wq_p 1 [(36, undef)] (wq_p 2 [(19, I), (37, I)] ?_)))
  refine wE hK8 (cT (wR fun K12 hK12 => ?_))
  refine wq_p 1 [(4, (D 7))] ?_
  refine wE hK12 (wp_ret (blk_r (seq_r ?_)))
  refine post_1 rfl (by kernel_rfl) (rtm (D 7)) ?_
  exact ⟨rfl, h7.below0⟩
 ·
  refine reg_lit ?_
  refine wq_p 1 [(20, (pt g2 17))] (wV 21 (D u.life) (eL (h7.at_ 0 rfl) 2 (.tmp 20) 17 _) (wV 22 (.bool false) (eqI (bV (decide (u.life < 1))) (by simp; omega)) (wq_p 2 [(24, (pt g2 17)), (23, V)] ?_)))
  refine wV 25 (D u.life) (eL (h7.at_ 0 rfl) 2 (.tmp 24) 17 _) (wV 26 (.bool false) (eqI (bV (decide (u.life > 600))) (by simp; omega)) (wq_p 3 [(29, (pt g2 18)), (28, V), (27, V)] (wV 30 (D u.renew) (eL (h7.at_ 0 rfl) 2 (.tmp 29) 18 _) ?_)))
  refine wV 31 (.bool false) (eqI (bV (decide (u.renew < 0))) (by simp; omega)) (wq_p 3 [(34, (pt g2 18)), (33, V), (32, V)] (wV 35 (D u.renew) (eL (h7.at_ 0 rfl) 2 (.tmp 34) 18 _) (wV 36 (.bool true) (eqI (bV (decide (u.renew > 6000))) (by simp; omega)) ?_)))
  refine wq_p 2 [(19, I), (37, I)] ?_
  refine wE hK8 (cT (wR fun K13 hK13 => ?_))
  refine wq_p 1 [(4, (D 7))] ?_
  refine wE hK13 (wp_ret (blk_r (seq_r ?_)))
  refine post_1 rfl (by kernel_rfl) (rtm (D 7)) ?_
  exact ⟨rfl, h7.below0⟩
theorem add_twice {G : Nat -> Prop} {bb : Nat} {us : List User} {u : User} {w : World} (hB : (rBs G bb us).Φ w) (h32 : us.length <= 1000000) (hsz : u.name.size <= 1000000000) (hr : rightN u.name = true) (ha : 1 <= u.life /\ u.life <= 600 /\ 0 <= u.renew /\ u.renew <= 6000) (ht : placeB us u.name = true) : Calls Try.prog 30 #[(pt bb 0), (aV ([(sV u.name)] ++ vb (kl u.key) ++ [(iV .i64 u.life), (iV .i64 u.renew), (bV u.mesh)]).toArray)] w (DPost w (.int .i64 10)) := by
 obtain ⟨A, c, hb, hov, _, _⟩ := bs_open hB
 have h0 := (Hp.ro1 (rBlk bb 129 _) hb).addR (rBs G bb us) hB (by simp)
 refine enter 56 Try.func30 rfl rfl ?_
 refine wp_reset 58 [(0, (pt bb 0)), (1, (aV ([(sV u.name)] ++ vb (kl u.key) ++ [(D u.life), (D u.renew), (bV u.mesh)]).toArray))] (fun x0 => ?_)
 refine wR fun K1 hK1 => ?_
 refine wT 3 (xN h0 95 ([(sV u.name)] ++ vb (kl u.key) ++ [(D u.life), (D u.renew), (bV u.mesh)])) ?_
 rintro _ w2 ⟨g2, rfl, h2⟩
 refine wq_p 1 [(4, O)] ?_
 refine wE hK1 (wR fun K3 hK3 => ?_)
 refine wq_p 2 [(9, (pt g2 0)), (8, (pt bb 0))] (wV 10 (sV u.name) (eL (h2.at_ 0 rfl) 9 (.tmp 9) 0 _) ?_)
 refine wT 11 (x_place h2 (h2.rd 0 rfl) h32 u.name (by kernel_rfl) rfl rfl) ?_
 rintro _ w4 ⟨rfl, h4⟩
 refine wq_p 5 [(6, (bV (placeB us u.name))), (5, (D ((placeI us u.name : Int)))), (13, (bV (placeB us u.name))), (12, (D ((placeI us u.name : Int)))), (7, (Value.tuple #[(D ((placeI us u.name : Int))), (bV (placeB us u.name))]))] ?_
 refine wE hK3 (wp_seq_k fun K5 hK5 => wp_block (wR fun K6 hK6 => ?_))
 refine wq_p 1 [(15, (pt g2 0))] (wV 16 (sV u.name) (eL (h4.at_ 0 rfl) 9 (.tmp 15) 0 _) ?_)
 refine wT 17 (x_nright h4 u.name hsz (by kernel_rfl)) ?_
 rintro _ w7 ⟨rfl, h7⟩
 refine wV 18 V (eqI (bV (!(rightN u.name))) (congrArg bV (by rw [hr]; rfl))) (wq_p 1 [(14, V)] ?_)
 refine wE hK6 (cF (wR fun K8 hK8 => ?_))
 refine wq_p 1 [(20, (pt g2 17))] (wV 21 (D u.life) (eL (h7.at_ 0 rfl) 2 (.tmp 20) 17 _) (wV 22 (.bool false) (eqI (bV (decide (u.life < 1))) (by simp; omega)) (wq_p 2 [(24, (pt g2 17)), (23, V)] ?_)))
 refine wV 25 (D u.life) (eL (h7.at_ 0 rfl) 2 (.tmp 24) 17 _) (wV 26 (.bool false) (eqI (bV (decide (u.life > 600))) (by simp; omega)) (wq_p 3 [(29, (pt g2 18)), (28, V), (27, V)] (wV 30 (D u.renew) (eL (h7.at_ 0 rfl) 2 (.tmp 29) 18 _) ?_)))
 refine wV 31 (.bool false) (eqI (bV (decide (u.renew < 0))) (by simp; omega)) (wq_p 3 [(34, (pt g2 18)), (33, V), (32, V)] (wV 35 (D u.renew) (eL (h7.at_ 0 rfl) 2 (.tmp 34) 18 _) (wV 36 (.bool false) (eqI (bV (decide (u.renew > 6000))) (by simp; omega)) ?_)))
 refine wq_p 2 [(19, V), (37, V)] ?_
 refine wE hK8 (cF (wR fun K9 hK9 => ?_))
 refine wq_p 1 [(39, (bV (placeB us u.name)))] (wV 38 I (eqI (bV (placeB us u.name)) (congrArg bV ht)) ?_)
 refine wE hK9 (cT (wp_seq_k fun K10 hK10 => ?_))
 refine wp_reset 58 [(0, (pt bb 0)), (1, (aV ([(sV u.name)] ++ vb (kl u.key) ++ [(D u.life), (D u.renew), (bV u.mesh)]).toArray)), (3, (pt g2 0)), (4, O), (5, (D ((placeI us u.name : Int)))), (6, (bV (placeB us u.name))), (14, V), (19, V), (38, I)] (fun x11 => ?_)
 refine reg_lit ?_
 refine wq_p 1 [(4, (D 10))] ?_
 refine wE hK10 (wp_ret (blk_r (seq_r ?_)))
 refine post_1 rfl (by kernel_rfl) (rtm (D 10)) ?_
 exact ⟨rfl, h7.below0⟩
theorem bs_of {bb : Nat} {A : Option Addr} {c : Nat} {us : List User} {w : World} (hb : Blk w bb 129 [.slice A us.length c]) (ho : (rOV 95 20 (.slice A us.length c) (us.map uC)).Φ w) (hd : (rBlk bb 129 [.slice A us.length c]).dj (rOV 95 20 (.slice A us.length c) (us.map uC))) : (rBs (rStar (lBs bb A c us)).F bb us).Φ w := by
 refine ⟨A, c, rfl, fun i r hi => ?_, fun i j r s hi hj hij => ?_⟩
 · match i, hi with
   | 0, hi => injection hi with hi; subst hi; exact hb
   | 1, hi => injection hi with hi; subst hi; exact ho
   | n + 2, hi => simp [lBs] at hi
 · match i, j, hi, hj with
   | 0, 0, _, _ => exact absurd rfl hij
   | 0, 1, hi, hj => injection hi with hi; injection hj with hj; subst hi; subst hj; exact hd
   | 1, 0, hi, hj => injection hi with hi; injection hj with hj; subst hi; subst hj; exact hd.symm
   | 1, 1, _, _ => exact absurd rfl hij
   | n + 2, _, hi, _ => simp [lBs] at hi
   | 0, n + 2, _, hj => simp [lBs] at hj
   | 1, n + 2, _, hj => simp [lBs] at hj
theorem lBs_snoc (bb : Nat) (A : Option Addr) (c : Nat) (us : List User) (u : User) : lBs bb A c (us ++ [u]) = [rBlk bb 129 [.slice A (us ++ [u]).length c], rOV 95 20 (.slice A (us ++ [u]).length c) (us.map uC ++ [uC u])] := by
 rw [lBs, List.map_append]; rfl
theorem ins_len (us : List User) (u : User) : (us.map uC ++ [uC u]).length = (us ++ [u]).length := by simp
theorem add_ok {G : Nat -> Prop} {bb : Nat} {us : List User} {u : User} {w : World} (hB : (rBs G bb us).Φ w) (h32 : us.length <= 1000000) (hsz : u.name.size <= 1000000000) (hr : rightN u.name = true) (ha : 1 <= u.life /\ u.life <= 600 /\ 0 <= u.renew /\ u.renew <= 6000) (ht : placeB us u.name = false) (hf : us.length < 32) (hi : placeI us u.name = us.length) : Calls Try.prog 30 #[(pt bb 0), (aV ([(sV u.name)] ++ vb (kl u.key) ++ [(iV .i64 u.life), (iV .i64 u.renew), (bV u.mesh)]).toArray)] w (fun e w' => e = .returned (.int .i64 0) /\ ∃ G', Hp G w w' [] [rBs G' bb (us ++ [u])]) := by
 obtain ⟨A, c, rfl, h2⟩ := hB
 have h0 := Hp.oneStar h2
 refine enter 56 Try.func30 rfl rfl ?_
 refine wp_reset 58 [(0, (pt bb 0)), (1, (aV ([(sV u.name)] ++ vb (kl u.key) ++ [(D u.life), (D u.renew), (bV u.mesh)]).toArray))] (fun x0 => ?_)
 refine wR fun K1 hK1 => ?_
 refine wT 3 (xN h0 95 ([(sV u.name)] ++ vb (kl u.key) ++ [(D u.life), (D u.renew), (bV u.mesh)])) ?_
 rintro _ w2 ⟨g2, rfl, h2⟩
 refine wq_p 1 [(4, O)] ?_
 refine wE hK1 (wR fun K3 hK3 => ?_)
 refine wq_p 2 [(9, (pt g2 0)), (8, (pt bb 0))] (wV 10 (sV u.name) (eL (h2.at_ 0 rfl) 9 (.tmp 9) 0 _) ?_)
 refine wT 11 (x_place h2 (bs_of (h2.at_ 1 rfl) (h2.at_ 2 rfl) (h2.dis 1 2 _ _ rfl rfl (by decide))) h32 u.name (by kernel_rfl) hi ht) ?_
 rintro _ w5 ⟨rfl, h5⟩
 refine wq_p 5 [(6, V), (5, (D ((us.length : Int)))), (13, V), (12, (D ((us.length : Int)))), (7, (Value.tuple #[(D ((us.length : Int))), V]))] ?_
 refine wE hK3 (wp_seq_k fun K6 hK6 => wp_block (wR fun K7 hK7 => ?_))
 refine wq_p 1 [(15, (pt g2 0))] (wV 16 (sV u.name) (eL (h5.at_ 0 rfl) 9 (.tmp 15) 0 _) ?_)
 refine wT 17 (x_nright h5 u.name hsz (by kernel_rfl)) ?_
 rintro _ w8 ⟨rfl, h8⟩
 refine wV 18 V (eqI (bV (!(rightN u.name))) (congrArg bV (by rw [hr]; rfl))) (wq_p 1 [(14, V)] ?_)
 refine wE hK7 (cF (wR fun K9 hK9 => ?_))
 refine wq_p 1 [(20, (pt g2 17))] (wV 21 (D u.life) (eL (h8.at_ 0 rfl) 2 (.tmp 20) 17 _) (wV 22 (.bool false) (eqI (bV (decide (u.life < 1))) (by simp; omega)) (wq_p 2 [(24, (pt g2 17)), (23, V)] ?_)))
 refine wV 25 (D u.life) (eL (h8.at_ 0 rfl) 2 (.tmp 24) 17 _) (wV 26 (.bool false) (eqI (bV (decide (u.life > 600))) (by simp; omega)) (wq_p 3 [(29, (pt g2 18)), (28, V), (27, V)] (wV 30 (D u.renew) (eL (h8.at_ 0 rfl) 2 (.tmp 29) 18 _) ?_)))
 refine wV 31 (.bool false) (eqI (bV (decide (u.renew < 0))) (by simp; omega)) (wq_p 3 [(34, (pt g2 18)), (33, V), (32, V)] (wV 35 (D u.renew) (eL (h8.at_ 0 rfl) 2 (.tmp 34) 18 _) (wV 36 (.bool false) (eqI (bV (decide (u.renew > 6000))) (by simp; omega)) ?_)))
 refine wq_p 2 [(19, V), (37, V)] ?_
 refine wE hK9 (cF (wR fun K10 hK10 => ?_))
 refine wq_p 2 [(38, V), (39, V)] ?_
 refine wE hK10 (cF (wp_seq_k fun K11 hK11 => ?_))
 refine wp_reset 58 [(0, (pt bb 0)), (1, (aV ([(sV u.name)] ++ vb (kl u.key) ++ [(D u.life), (D u.renew), (bV u.mesh)]).toArray)), (3, (pt g2 0)), (4, O), (5, (D ((us.length : Int)))), (6, V), (14, V), (19, V), (38, V)] (fun x12 => ?_)
 refine reg_lit ?_
 refine wq_p 3 [(43, (pt bb 0)), (42, (pt bb 0)), (41, (pt bb 0))] (wV 44 (lV A us.length c) (eL (h8.at_ 1 rfl) 127 (.tmp 43) 0 _) (wq_p 1 [(45, (D ((us.length : Int))))] (wV 46 (.bool false) (eqI (bV (((us.length : Int)) == 32)) (by simp; omega)) ?_)))
 refine wq_p 1 [(40, V)] ?_
 refine wE hK11 (cF (wp_skip (blk_n (seq_n hK6 (wp_seq_k fun K13 hK13 => ?_)))))
 refine pR_go h8 9 (fun W => (rBlk bb 129 ([(lV A us.length c)])).Φ W /\ (rBlk g2 95 ([(sV u.name)] ++ vb (kl u.key) ++ [(D u.life), (D u.renew), (bV u.mesh)])).Φ W /\ True) [(48, [0], 0), (49, [0], 0), (50, [48], 2), (51, [49], 4), (52, [50], 8), (53, [5], 0), (54, [3], 0), (55, [53], 64), (56, [51, 52, 54], 176), (57, [47], 511), (58, [56], 1023), (0, [57, 55], 1535)] rfl (fun _ d _ _ _ h => by cases d <;> exact h) ?_
 intro hs14 w14 h14
 refine pR_p 7 [0, 1, 2, 3, 5] [(52, (D ((us.length : Int)))), (50, (pt bb 0)), (49, (pt bb 0)), (48, (pt bb 0)), (47, (pt bb 0))] 47 hs14 ⟨h14.at_ 1 rfl, h14.at_ 0 rfl, trivial⟩ ?_
 refine pR_v 4 (some 51) (lV A us.length c) 63 rfl hs14 ⟨h14.at_ 1 rfl, h14.at_ 0 rfl, trivial⟩ (fun W hW => eL hW.1 127 (.tmp 50) 0 _) ?_
 refine pR_v 6 (some 53) (aV ([(sV u.name)] ++ vb (kl u.key) ++ [(D u.life), (D u.renew), (bV u.mesh)]).toArray) 127 rfl hs14 ⟨h14.at_ 1 rfl, h14.at_ 0 rfl, trivial⟩ (fun W hW => eLs hW.2.1 95 (.tmp 3) 0 ([(sV u.name)] ++ vb (kl u.key) ++ [(D u.life), (D u.renew), (bV u.mesh)])) ?_
 refine pR_to 7 (some 54) 255 rfl hs14 (x_bs h14 95 ([(sV u.name)] ++ vb (kl u.key) ++ [(D u.life), (D u.renew), (bV u.mesh)]) 1 (by kernel_rfl)) ?_
 rintro _ w15 ⟨g15, rfl, h15⟩
 refine ⟨fun _ => ⟨h15.at_ 2 rfl, h15.at_ 1 rfl, trivial⟩, ?_⟩
 refine pR_to 8 (some 55) 511 rfl hs14 (x_ins h15 3 rfl 49 [(lV A us.length c), (D ((us.length : Int))), (lV (some ⟨g15, 0, none⟩) 1 1)] (by kernel_rfl) ((us ++ [u]).length) (ins_len us u) (ins_end (h15.at_ 3 rfl) (h15.at_ 0 rfl) (fun hq => h15.dis 3 0 _ _ rfl rfl (by decide) _ hq rfl) (List.length_map _) h32)) ?_
 rintro _ w16 ⟨A16, c16, rfl, h16⟩
 refine ⟨fun _ => ⟨h16.at_ 3 rfl, h16.at_ 2 rfl, trivial⟩, ?_⟩
 refine pR_to 9 (some 56) 1023 rfl hs14 (OpTo.run (pt bb 0) (pureOp_run (by kernel_rfl) _) (R := fun v w => v = (pt bb 0) /\ w16 = w) ⟨rfl, rfl⟩) ?_
 rintro _ _ ⟨rfl, rfl⟩
 refine ⟨fun h => absurd h (by decide), ?_⟩
 refine pR_to 10 (some 57) 2047 rfl hs14 (OpTo.run (pt bb 0) (pureOp_run (by kernel_rfl) _) (R := fun v w => v = (pt bb 0) /\ w16 = w) ⟨rfl, rfl⟩) ?_
 rintro _ _ ⟨rfl, rfl⟩
 refine ⟨fun h => absurd h (by decide), ?_⟩
 refine pR_to 11 none 4095 rfl hs14 (xSt h16 3 127 (.tmp 57) (.tmp 55) 0 (lV A16 ((us ++ [u]).length) c16) ([(lV A16 ((us ++ [u]).length) c16)])) ?_
 rintro _ w17 h17
 refine ⟨fun h => absurd h (by decide), ?_⟩
 refine pR_done hs14 ?_ _
 refine seq_n hK13 (wR fun K18 hK18 => ?_)
 refine wq_p 1 [(4, O)] ?_
 refine wE hK18 (wp_ret ?_)
 refine post_1 rfl (by kernel_rfl) (rtm O) ?_
 exact ⟨rfl, _, (show Hp _ _ _ _ (lBs bb A16 c16 (us ++ [u]) ++ []) from by rw [lBs_snoc]; exact h17.sel [3, 0] [] rfl rfl rfl).closeB⟩
end
section
open Go.RowKit Go.QT
/-- A table that has room for n more keys and boxes. -/
structure Room (n : Nat) (s : STab) : Prop where
 body : ∀ b ∈ s.boxes, b.body.length <= 1000000
 box : s.boxes.length + n < 1000000
 key : s.keys.length + n < 1000000
theorem Room.ok {n : Nat} {s : STab} (h : Room n s) : TabOk s := ⟨h.body, by have := h.box; omega⟩
theorem Room.less {n m : Nat} {s : STab} (h : Room n s) (hm : m <= n) : Room m s := ⟨h.body, by have := h.box; omega, by have := h.key; omega⟩
theorem Room.keys {n : Nat} {s : STab} (h : Room n s) : s.keys.length < 1000000 := by have := h.key; omega
theorem Room.seal {n : Nat} {s : STab} (h : Room (n + 1) s) (k : Bytes) (u : Int) {b : Bytes} (hb : b.length <= 1000000) : Room n (s.seal k u b) := by
 refine ⟨fun x hx => ?_, ?_, ?_⟩
 · rcases List.mem_append.1 hx with hx | hx
   · exact h.body x hx
   · rw [List.mem_singleton.1 hx]; exact hb
 · have := h.box
   show (s.boxes ++ _).length + n < _
   rw [List.length_append, List.length_singleton]; omega
 · have := h.key
   show s.keys.length + n < _
   omega
theorem Room.add {n : Nat} {s : STab} (h : Room (n + 1) s) (f : SFrom) : Room n (s.add f) := by
 refine ⟨h.body, ?_, ?_⟩
 · have := h.box
   show s.boxes.length + n < _
   omega
 · have := h.key
   show (s.keys ++ [f]).length + n < _
   rw [List.length_append, List.length_singleton]; omega
theorem rTh_inside (w : World) (f : Int) (K : Fin 16 -> UInt8) (s : ByteArray) (a u r : Int) : (rTh (fun _ => False) (.iface 55 (.agg ([Value.int .i64 f] ++ vb (kl K) ++ [Value.string s, .int .i64 a, .int .i64 u, .int .i64 r]).toArray)) (.inside f K s a u r)).Φ w := ⟨fun _ hf => hf.elim, rfl⟩
theorem rTh_reply (w : World) (f : Int) (K : Fin 16 -> UInt8) (n : Int) (s : ByteArray) (a u r : Int) : (rTh (fun _ => False) (.iface 60 (.agg ([Value.int .i64 f] ++ vb (kl K) ++ [Value.int .i64 n, .string s, .int .i64 a, .int .i64 u, .int .i64 r]).toArray)) (.reply f K n s a u r)).Φ w := ⟨fun _ hf => hf.elim, rfl⟩
theorem rTh_stamp (w : World) (t q : Int) : (rTh (fun _ => False) (.iface 49 (.agg #[.int .i64 t, .int .i64 q])) (.stamp t q)).Φ w := ⟨fun _ hf => hf.elim, rfl⟩
def kdcC (tb bb : Nat) (K : Fin 16 -> UInt8) : List Value := [Value.iface 24 (pt tb 0), pt bb 0] ++ vb (kl K)
/-- What Give leaves, where it gives. -/
def GivePost (w : World) (F : Nat -> Prop) (tb : Nat) (s s' : STab) (server : ByteArray) (e : Ending) (w' : World) : Prop :=
 ∃ A1 c1 A2 c2 F', e = .returned (.tuple #[.agg #[.string server, .slice A1 16 c1], .slice A2 16 c2, .int .i64 0]) /\
   Hp F w w' [] [rTab F' tb s', rSB (.slice A1 16 c1) (mkB 98 (s.boxes.length + 1)), rSB (.slice A2 16 c2) (mkB 98 (s.boxes.length + 2))]
/-- What it leaves, where it does not. -/
def GiveNo (w : World) (F : Nat -> Prop) (tb : Nat) (s' : STab) (cc : Nat) (e : Ending) (w' : World) : Prop :=
 e = .returned (.tuple #[.agg #[.string ByteArray.empty, .slice none 0 0], .slice none 0 0, .int .i64 (cc : Int)]) /\ ∃ F', Hp F w w' [] [rTab F' tb s']
end
section
open Go.Value renaming int -> iV, slice -> lV, string -> sV, bool -> bV, agg -> aV
open Go.RowKit Go.QT
theorem give_2 {F : Nat -> Prop} {kb tb bb : Nat} {Kk Kx Ky Ki : Fin 16 -> UInt8} {s : STab} {server s1 : ByteArray} {f a u r nonce us : Int} {w : World} (hT : (rTab F tb s).Φ w) (hs : Room 5 s) (hK : Blk w kb 73 (kdcC tb bb Kk)) (hd : ¬ F kb) (hl : s1.size <= 1000) (hl2 : server.size <= 1000) {b1 : Bytes} {cc : Nat} (hp1 : packB (.inside f Ki s1 a u r) = .inr b1) (hp : packB (.reply f Ki nonce server a u r) = .inl cc) : Calls Try.prog 19 #[(pt kb 0), (sV server), (aV (vb (kl Kx)).toArray), (aV ([(iV .i64 f)] ++ vb (kl Ki) ++ [(sV s1), (iV .i64 a), (iV .i64 u), (iV .i64 r)]).toArray), (iV .i64 nonce), (aV (vb (kl Ky)).toArray), (iV .i64 us)] w (GiveNo w F tb (s.seal (kl Kx) 2 b1) cc) := by
 have h0 := (Hp.one (rTab F tb s) hT).addR (rBlk kb 73 (kdcC tb bb Kk)) hK (fun j s hj q h1 h2 => by have h3 := sel1 hj; injection h3 with h3; subst h3; exact hd (by rw [show q = kb from h1] at h2; exact h2))
 refine enter 62 Try.func19 rfl rfl ?_
 refine wp_reset 69 [(0, (pt kb 0)), (1, (sV server)), (2, (aV (vb (kl Kx)).toArray)), (3, (aV ([(D f)] ++ vb (kl Ki) ++ [(sV s1), (D a), (D u), (D r)]).toArray)), (4, (D nonce)), (5, (aV (vb (kl Ky)).toArray)), (6, (D us))] (fun x0 => ?_)
 refine wR fun K1 hK1 => ?_
 refine wT 9 (xN h0 32 (vb (kl Kx))) ?_
 rintro _ w2 ⟨g2, rfl, h2⟩
 refine wT 10 (xN h2 55 ([(D f)] ++ vb (kl Ki) ++ [(sV s1), (D a), (D u), (D r)])) ?_
 rintro _ w3 ⟨g3, rfl, h3⟩
 refine wT 12 (xN h3 32 (vb (kl Ky))) ?_
 rintro _ w4 ⟨g4, rfl, h4⟩
 refine wT 14 (xN h4 39 ([eS, nS])) ?_
 rintro _ w5 ⟨g5, rfl, h5⟩
 refine wq_p 2 [(16, O), (15, nS)] ?_
 refine wE hK1 (wp_seq_k fun K6 hK6 => ?_)
 refine pR_go h5 12 (fun W => (rBlk kb 73 ([(Value.iface 24 (pt tb 0)), (pt bb 0)] ++ vb (kl Kk))).Φ W /\ (rBlk g2 32 (vb (kl Kx))).Φ W /\ (rBlk g3 55 ([(D f)] ++ vb (kl Ki) ++ [(sV s1), (D a), (D u), (D r)])).Φ W /\ True) [(23, [0], 0), (24, [22], 1), (25, [23], 2), (26, [24], 4), (27, [9], 0), (28, [10], 0), (29, [27], 32), (30, [25, 26, 28], 88), (22, [29], 128), (31, [21], 256), (32, [21], 256), (18, [30], 1023), (19, [31], 4095)] rfl (fun _ d _ _ _ h => by cases d <;> exact h) ?_
 intro hs7 w7 h7
 refine pR_p 10 [0, 1, 2] [(24, (pt kb 0)), (23, (pt kb 0)), (22, (pt kb 0))] 7 hs7 ⟨h7.rd 0 rfl, h7.at_ 3 rfl, h7.at_ 2 rfl, trivial⟩ ?_
 refine pR_v 3 (some 25) (Value.iface 24 (pt tb 0)) 15 rfl hs7 ⟨h7.rd 0 rfl, h7.at_ 3 rfl, h7.at_ 2 rfl, trivial⟩ (fun W hW => eL hW.1 70 (.tmp 24) 0 _) ?_
 refine pR_v 4 (some 26) (aV (vb (kl Kx)).toArray) 31 rfl hs7 ⟨h7.rd 0 rfl, h7.at_ 3 rfl, h7.at_ 2 rfl, trivial⟩ (fun W hW => eLs hW.2.1 32 (.tmp 9) 0 (vb (kl Kx))) ?_
 refine pR_v 5 (some 27) (aV ([(D f)] ++ vb (kl Ki) ++ [(sV s1), (D a), (D u), (D r)]).toArray) 63 rfl hs7 ⟨h7.rd 0 rfl, h7.at_ 3 rfl, h7.at_ 2 rfl, trivial⟩ (fun W hW => eLs hW.2.2.1 55 (.tmp 10) 0 ([(D f)] ++ vb (kl Ki) ++ [(sV s1), (D a), (D u), (D r)])) ?_
 refine pR_p 6 [6] [(28, (Value.iface 55 (aV ([(D f)] ++ vb (kl Ki) ++ [(sV s1), (D a), (D u), (D r)]).toArray)))] 127 hs7 ⟨h7.rd 0 rfl, h7.at_ 3 rfl, h7.at_ 2 rfl, trivial⟩ ?_
 refine pR_to 7 (some 29) 255 rfl hs7 (x_tseal h7 4 rfl Kx 2 hp1 (by kernel_rfl) hs.ok (rTh_inside _ f Ki s1 a u r) (fun _ hf => hf.elim) (show s1.size <= 100000 from by omega)) ?_
 rintro _ w8 ⟨A8, c8, F8, s8, rfl, hs8, h8⟩
 refine ⟨fun _ => ⟨h8.rd 0 rfl, h8.at_ 5 rfl, h8.at_ 4 rfl, trivial⟩, ?_⟩
 have hr8 : Room 4 s8 := by rw [hs8]; exact hs.seal _ _ (by have := pack_le hp1; omega)
 have hx8 : s8.boxes.length = s.boxes.length + 1 := by rw [hs8]; simp [STab.seal]
 refine pR_p 1 [8, 9, 10, 11] [(17, (lV A8 16 c8)), (31, O), (30, (lV A8 16 c8)), (21, (Value.tuple #[(lV A8 16 c8), O]))] 4095 hs7 ⟨h8.rd 0 rfl, h8.at_ 5 rfl, h8.at_ 4 rfl, trivial⟩ ?_
 refine pR_to 12 (some 18) 8191 rfl hs7 (OpTo.run O (pureOp_run (by kernel_rfl) _) (R := fun v w => v = O /\ w8 = w) ⟨rfl, rfl⟩) ?_
 rintro _ _ ⟨rfl, rfl⟩
 refine ⟨fun h => absurd h (by decide), ?_⟩
 refine pR_done hs7 ?_ _
 refine seq_n hK6 (wp_seq_k fun K9 hK9 => wR fun K10 hK10 => ?_)
 refine wq_p 2 [(33, V), (32, O)] ?_
 refine wE hK10 (cF (wp_skip (seq_n hK9 (wR fun K11 hK11 => ?_))))
 refine wq_p 1 [(36, (pt g3 0))] (wV 37 (D f) (eL (h8.at_ 4 rfl) 3 (.tmp 36) 0 _) (wq_p 1 [(38, (pt g3 1))] (wV 39 (aV (vb (kl Ki)).toArray) (eLs (h8.at_ 4 rfl) 32 (.tmp 38) 1 (vb (kl Ki))) ?_)))
 refine wq_p 3 [(42, (pt g3 18)), (41, (sV server)), (40, (D nonce))] (wV 43 (D a) (eL (h8.at_ 4 rfl) 2 (.tmp 42) 18 _) (wq_p 1 [(44, (pt g3 19))] (wV 45 (D u) (eL (h8.at_ 4 rfl) 2 (.tmp 44) 19 _) ?_)))
 refine wq_p 1 [(46, (pt g3 20))] (wV 47 (D r) (eL (h8.at_ 4 rfl) 2 (.tmp 46) 20 _) (wq_p 1 [(48, (aV ([(D f)] ++ vb (kl Ki) ++ [(D nonce), (sV server), (D a), (D u), (D r)]).toArray))] ?_))
 refine wT 19 (xN h8 60 ([O] ++ vb (List.replicate 16 0) ++ [O, eS, O, O, O])) ?_
 rintro _ w12 ⟨g12, rfl, h12⟩
 refine wq_to none (xSs h12 0 60 (.tmp 19) (.tmp 48) 0 ([(D f)] ++ vb (kl Ki) ++ [(D nonce), (sV server), (D a), (D u), (D r)]) ([(D f)] ++ vb (kl Ki) ++ [(D nonce), (sV server), (D a), (D u), (D r)])) ?_
 rintro _ w13 h13
 refine wE hK11 (wp_seq_k fun K14 hK14 => ?_)
 refine wp_reset 69 [(0, (pt kb 0)), (1, (sV server)), (6, (D us)), (12, (pt g4 0)), (14, (pt g5 0)), (15, nS), (16, O), (17, (lV A8 16 c8)), (18, O), (19, (pt g12 0))] (fun x15 => ?_)
 refine pR_go h13 13 (fun W => (rBlk kb 73 ([(Value.iface 24 (pt tb 0)), (pt bb 0)] ++ vb (kl Kk))).Φ W /\ (rBlk g4 32 (vb (kl Ky))).Φ W /\ (rBlk g12 60 ([(D f)] ++ vb (kl Ki) ++ [(D nonce), (sV server), (D a), (D u), (D r)])).Φ W /\ True) [(51, [0], 0), (52, [50], 1), (53, [51], 2), (54, [52], 4), (55, [12], 0), (56, [6], 0), (57, [19], 0), (58, [56], 64), (59, [53, 54, 55, 57], 184), (50, [58], 256), (60, [49], 512), (61, [49], 512), (21, [59], 2047), (19, [60], 8191)] rfl (fun _ d _ _ _ h => by cases d <;> exact h) ?_
 intro hs16 w16 h16
 refine pR_p 10 [0, 1, 2, 5] [(55, (D us)), (52, (pt kb 0)), (51, (pt kb 0)), (50, (pt kb 0))] 39 hs16 ⟨h16.rd 0 rfl, h16.at_ 4 rfl, h16.at_ 0 rfl, trivial⟩ ?_
 refine pR_v 3 (some 53) (Value.iface 24 (pt tb 0)) 47 rfl hs16 ⟨h16.rd 0 rfl, h16.at_ 4 rfl, h16.at_ 0 rfl, trivial⟩ (fun W hW => eL hW.1 70 (.tmp 52) 0 _) ?_
 refine pR_v 4 (some 54) (aV (vb (kl Ky)).toArray) 63 rfl hs16 ⟨h16.rd 0 rfl, h16.at_ 4 rfl, h16.at_ 0 rfl, trivial⟩ (fun W hW => eLs hW.2.1 32 (.tmp 12) 0 (vb (kl Ky))) ?_
 refine pR_v 6 (some 56) (aV ([(D f)] ++ vb (kl Ki) ++ [(D nonce), (sV server), (D a), (D u), (D r)]).toArray) 127 rfl hs16 ⟨h16.rd 0 rfl, h16.at_ 4 rfl, h16.at_ 0 rfl, trivial⟩ (fun W hW => eLs hW.2.2.1 60 (.tmp 19) 0 ([(D f)] ++ vb (kl Ki) ++ [(D nonce), (sV server), (D a), (D u), (D r)])) ?_
 refine pR_p 6 [7] [(57, (Value.iface 60 (aV ([(D f)] ++ vb (kl Ki) ++ [(D nonce), (sV server), (D a), (D u), (D r)]).toArray)))] 255 hs16 ⟨h16.rd 0 rfl, h16.at_ 4 rfl, h16.at_ 0 rfl, trivial⟩ ?_
 refine pR_to 8 (some 58) 511 rfl hs16 (x_tsealN (tb := tb) h16 Ky us hp (by kernel_rfl) (rTh_reply _ f Ki nonce server a u r) (show server.size <= 100000 from by omega)) ?_
 rintro _ w17 ⟨rfl, h17⟩
 refine ⟨fun _ => ⟨h17.rd 0 rfl, h17.at_ 4 rfl, h17.at_ 0 rfl, trivial⟩, ?_⟩
 refine pR_p 1 [9, 10, 11, 12] [(20, nS), (60, (D ((cc : Int)))), (59, nS), (49, (Value.tuple #[nS, (D ((cc : Int)))]))] 8191 hs16 ⟨h17.rd 0 rfl, h17.at_ 4 rfl, h17.at_ 0 rfl, trivial⟩ ?_
 refine pR_to 13 (some 18) 16383 rfl hs16 (OpTo.run (D ((cc : Int))) (pureOp_run (by kernel_rfl) _) (R := fun v w => v = (D ((cc : Int))) /\ w17 = w) ⟨rfl, rfl⟩) ?_
 rintro _ _ ⟨rfl, rfl⟩
 refine ⟨fun h => absurd h (by decide), ?_⟩
 refine pR_done hs16 ?_ _
 refine seq_n hK14 (wp_seq_k fun K18 hK18 => wR fun K19 hK19 => ?_)
 refine wq_p 1 [(61, (D ((cc : Int))))] (wV 62 (.bool true) (eqI (bV (((cc : Int)) != 0)) (ine (b := 0) (pack_er hp))) ?_)
 refine wE hK19 (cT (wR fun K20 hK20 => ?_))
 refine wq_p 2 [(64, (D ((cc : Int)))), (63, (aV ([eS, nS]).toArray))] ?_
 refine wq_to none (xSs h17 3 39 (.tmp 14) (.tmp 63) 0 ([eS, nS]) ([eS, nS])) ?_
 rintro _ w21 h21
 refine wq_p 2 [(16, (D ((cc : Int)))), (15, nS)] ?_
 refine wE hK20 (wp_ret (seq_r ?_))
 refine post_3 rfl (by kernel_rfl) (rce (h21.at_ 3 rfl)) (rtm nS) (rtm (D ((cc : Int)))) ?_
 subst hs8
 exact ⟨rfl, _, h21.sel [1] [] rfl rfl rfl⟩
theorem give_ok {F : Nat -> Prop} {kb tb bb : Nat} {Kk Kx Ky Ki : Fin 16 -> UInt8} {s : STab} {server s1 : ByteArray} {f a u r nonce us : Int} {w : World} (hT : (rTab F tb s).Φ w) (hs : Room 5 s) (hK : Blk w kb 73 (kdcC tb bb Kk)) (hd : ¬ F kb) (hl : s1.size <= 1000) (hl2 : server.size <= 1000) {b1 b2 : Bytes} (hp1 : packB (.inside f Ki s1 a u r) = .inr b1) (hp2 : packB (.reply f Ki nonce server a u r) = .inr b2) : Calls Try.prog 19 #[(pt kb 0), (sV server), (aV (vb (kl Kx)).toArray), (aV ([(iV .i64 f)] ++ vb (kl Ki) ++ [(sV s1), (iV .i64 a), (iV .i64 u), (iV .i64 r)]).toArray), (iV .i64 nonce), (aV (vb (kl Ky)).toArray), (iV .i64 us)] w (GivePost w F tb s ((s.seal (kl Kx) 2 b1).seal (kl Ky) us b2) server) := by
 have h0 := (Hp.one (rTab F tb s) hT).addR (rBlk kb 73 (kdcC tb bb Kk)) hK (fun j s hj q h1 h2 => by have h3 := sel1 hj; injection h3 with h3; subst h3; exact hd (by rw [show q = kb from h1] at h2; exact h2))
 refine enter 62 Try.func19 rfl rfl ?_
 refine wp_reset 69 [(0, (pt kb 0)), (1, (sV server)), (2, (aV (vb (kl Kx)).toArray)), (3, (aV ([(D f)] ++ vb (kl Ki) ++ [(sV s1), (D a), (D u), (D r)]).toArray)), (4, (D nonce)), (5, (aV (vb (kl Ky)).toArray)), (6, (D us))] (fun x0 => ?_)
 refine wR fun K1 hK1 => ?_
 refine wT 9 (xN h0 32 (vb (kl Kx))) ?_
 rintro _ w2 ⟨g2, rfl, h2⟩
 refine wT 10 (xN h2 55 ([(D f)] ++ vb (kl Ki) ++ [(sV s1), (D a), (D u), (D r)])) ?_
 rintro _ w3 ⟨g3, rfl, h3⟩
 refine wT 12 (xN h3 32 (vb (kl Ky))) ?_
 rintro _ w4 ⟨g4, rfl, h4⟩
 refine wT 14 (xN h4 39 ([eS, nS])) ?_
 rintro _ w5 ⟨g5, rfl, h5⟩
 refine wq_p 2 [(16, O), (15, nS)] ?_
 refine wE hK1 (wp_seq_k fun K6 hK6 => ?_)
 refine pR_go h5 12 (fun W => (rBlk kb 73 ([(Value.iface 24 (pt tb 0)), (pt bb 0)] ++ vb (kl Kk))).Φ W /\ (rBlk g2 32 (vb (kl Kx))).Φ W /\ (rBlk g3 55 ([(D f)] ++ vb (kl Ki) ++ [(sV s1), (D a), (D u), (D r)])).Φ W /\ True) [(23, [0], 0), (24, [22], 1), (25, [23], 2), (26, [24], 4), (27, [9], 0), (28, [10], 0), (29, [27], 32), (30, [25, 26, 28], 88), (22, [29], 128), (31, [21], 256), (32, [21], 256), (18, [30], 1023), (19, [31], 4095)] rfl (fun _ d _ _ _ h => by cases d <;> exact h) ?_
 intro hs7 w7 h7
 refine pR_p 10 [0, 1, 2] [(24, (pt kb 0)), (23, (pt kb 0)), (22, (pt kb 0))] 7 hs7 ⟨h7.rd 0 rfl, h7.at_ 3 rfl, h7.at_ 2 rfl, trivial⟩ ?_
 refine pR_v 3 (some 25) (Value.iface 24 (pt tb 0)) 15 rfl hs7 ⟨h7.rd 0 rfl, h7.at_ 3 rfl, h7.at_ 2 rfl, trivial⟩ (fun W hW => eL hW.1 70 (.tmp 24) 0 _) ?_
 refine pR_v 4 (some 26) (aV (vb (kl Kx)).toArray) 31 rfl hs7 ⟨h7.rd 0 rfl, h7.at_ 3 rfl, h7.at_ 2 rfl, trivial⟩ (fun W hW => eLs hW.2.1 32 (.tmp 9) 0 (vb (kl Kx))) ?_
 refine pR_v 5 (some 27) (aV ([(D f)] ++ vb (kl Ki) ++ [(sV s1), (D a), (D u), (D r)]).toArray) 63 rfl hs7 ⟨h7.rd 0 rfl, h7.at_ 3 rfl, h7.at_ 2 rfl, trivial⟩ (fun W hW => eLs hW.2.2.1 55 (.tmp 10) 0 ([(D f)] ++ vb (kl Ki) ++ [(sV s1), (D a), (D u), (D r)])) ?_
 refine pR_p 6 [6] [(28, (Value.iface 55 (aV ([(D f)] ++ vb (kl Ki) ++ [(sV s1), (D a), (D u), (D r)]).toArray)))] 127 hs7 ⟨h7.rd 0 rfl, h7.at_ 3 rfl, h7.at_ 2 rfl, trivial⟩ ?_
 refine pR_to 7 (some 29) 255 rfl hs7 (x_tseal h7 4 rfl Kx 2 hp1 (by kernel_rfl) hs.ok (rTh_inside _ f Ki s1 a u r) (fun _ hf => hf.elim) (show s1.size <= 100000 from by omega)) ?_
 rintro _ w8 ⟨A8, c8, F8, s8, rfl, hs8, h8⟩
 refine ⟨fun _ => ⟨h8.rd 0 rfl, h8.at_ 5 rfl, h8.at_ 4 rfl, trivial⟩, ?_⟩
 have hr8 : Room 4 s8 := by rw [hs8]; exact hs.seal _ _ (by have := pack_le hp1; omega)
 have hx8 : s8.boxes.length = s.boxes.length + 1 := by rw [hs8]; simp [STab.seal]
 refine pR_p 1 [8, 9, 10, 11] [(17, (lV A8 16 c8)), (31, O), (30, (lV A8 16 c8)), (21, (Value.tuple #[(lV A8 16 c8), O]))] 4095 hs7 ⟨h8.rd 0 rfl, h8.at_ 5 rfl, h8.at_ 4 rfl, trivial⟩ ?_
 refine pR_to 12 (some 18) 8191 rfl hs7 (OpTo.run O (pureOp_run (by kernel_rfl) _) (R := fun v w => v = O /\ w8 = w) ⟨rfl, rfl⟩) ?_
 rintro _ _ ⟨rfl, rfl⟩
 refine ⟨fun h => absurd h (by decide), ?_⟩
 refine pR_done hs7 ?_ _
 refine seq_n hK6 (wp_seq_k fun K9 hK9 => wR fun K10 hK10 => ?_)
 refine wq_p 2 [(33, V), (32, O)] ?_
 refine wE hK10 (cF (wp_skip (seq_n hK9 (wR fun K11 hK11 => ?_))))
 refine wq_p 1 [(36, (pt g3 0))] (wV 37 (D f) (eL (h8.at_ 4 rfl) 3 (.tmp 36) 0 _) (wq_p 1 [(38, (pt g3 1))] (wV 39 (aV (vb (kl Ki)).toArray) (eLs (h8.at_ 4 rfl) 32 (.tmp 38) 1 (vb (kl Ki))) ?_)))
 refine wq_p 3 [(42, (pt g3 18)), (41, (sV server)), (40, (D nonce))] (wV 43 (D a) (eL (h8.at_ 4 rfl) 2 (.tmp 42) 18 _) (wq_p 1 [(44, (pt g3 19))] (wV 45 (D u) (eL (h8.at_ 4 rfl) 2 (.tmp 44) 19 _) ?_)))
 refine wq_p 1 [(46, (pt g3 20))] (wV 47 (D r) (eL (h8.at_ 4 rfl) 2 (.tmp 46) 20 _) (wq_p 1 [(48, (aV ([(D f)] ++ vb (kl Ki) ++ [(D nonce), (sV server), (D a), (D u), (D r)]).toArray))] ?_))
 refine wT 19 (xN h8 60 ([O] ++ vb (List.replicate 16 0) ++ [O, eS, O, O, O])) ?_
 rintro _ w12 ⟨g12, rfl, h12⟩
 refine wq_to none (xSs h12 0 60 (.tmp 19) (.tmp 48) 0 ([(D f)] ++ vb (kl Ki) ++ [(D nonce), (sV server), (D a), (D u), (D r)]) ([(D f)] ++ vb (kl Ki) ++ [(D nonce), (sV server), (D a), (D u), (D r)])) ?_
 rintro _ w13 h13
 refine wE hK11 (wp_seq_k fun K14 hK14 => ?_)
 refine wp_reset 69 [(0, (pt kb 0)), (1, (sV server)), (6, (D us)), (12, (pt g4 0)), (14, (pt g5 0)), (15, nS), (16, O), (17, (lV A8 16 c8)), (18, O), (19, (pt g12 0))] (fun x15 => ?_)
 refine pR_go h13 13 (fun W => (rBlk kb 73 ([(Value.iface 24 (pt tb 0)), (pt bb 0)] ++ vb (kl Kk))).Φ W /\ (rBlk g4 32 (vb (kl Ky))).Φ W /\ (rBlk g12 60 ([(D f)] ++ vb (kl Ki) ++ [(D nonce), (sV server), (D a), (D u), (D r)])).Φ W /\ True) [(51, [0], 0), (52, [50], 1), (53, [51], 2), (54, [52], 4), (55, [12], 0), (56, [6], 0), (57, [19], 0), (58, [56], 64), (59, [53, 54, 55, 57], 184), (50, [58], 256), (60, [49], 512), (61, [49], 512), (21, [59], 2047), (19, [60], 8191)] rfl (fun _ d _ _ _ h => by cases d <;> exact h) ?_
 intro hs16 w16 h16
 refine pR_p 10 [0, 1, 2, 5] [(55, (D us)), (52, (pt kb 0)), (51, (pt kb 0)), (50, (pt kb 0))] 39 hs16 ⟨h16.rd 0 rfl, h16.at_ 4 rfl, h16.at_ 0 rfl, trivial⟩ ?_
 refine pR_v 3 (some 53) (Value.iface 24 (pt tb 0)) 47 rfl hs16 ⟨h16.rd 0 rfl, h16.at_ 4 rfl, h16.at_ 0 rfl, trivial⟩ (fun W hW => eL hW.1 70 (.tmp 52) 0 _) ?_
 refine pR_v 4 (some 54) (aV (vb (kl Ky)).toArray) 63 rfl hs16 ⟨h16.rd 0 rfl, h16.at_ 4 rfl, h16.at_ 0 rfl, trivial⟩ (fun W hW => eLs hW.2.1 32 (.tmp 12) 0 (vb (kl Ky))) ?_
 refine pR_v 6 (some 56) (aV ([(D f)] ++ vb (kl Ki) ++ [(D nonce), (sV server), (D a), (D u), (D r)]).toArray) 127 rfl hs16 ⟨h16.rd 0 rfl, h16.at_ 4 rfl, h16.at_ 0 rfl, trivial⟩ (fun W hW => eLs hW.2.2.1 60 (.tmp 19) 0 ([(D f)] ++ vb (kl Ki) ++ [(D nonce), (sV server), (D a), (D u), (D r)])) ?_
 refine pR_p 6 [7] [(57, (Value.iface 60 (aV ([(D f)] ++ vb (kl Ki) ++ [(D nonce), (sV server), (D a), (D u), (D r)]).toArray)))] 255 hs16 ⟨h16.rd 0 rfl, h16.at_ 4 rfl, h16.at_ 0 rfl, trivial⟩ ?_
 refine pR_to 8 (some 58) 511 rfl hs16 (x_tseal h16 1 rfl Ky us hp2 (by kernel_rfl) hr8.ok (rTh_reply _ f Ki nonce server a u r) (fun _ hf => hf.elim) (show server.size <= 100000 from by omega)) ?_
 rintro _ w17 ⟨A17, c17, F17, s17, rfl, hs17, h17⟩
 refine ⟨fun _ => ⟨h17.rd 0 rfl, h17.at_ 5 rfl, h17.at_ 2 rfl, trivial⟩, ?_⟩
 refine pR_p 1 [9, 10, 11, 12] [(20, (lV A17 16 c17)), (60, O), (59, (lV A17 16 c17)), (49, (Value.tuple #[(lV A17 16 c17), O]))] 8191 hs16 ⟨h17.rd 0 rfl, h17.at_ 5 rfl, h17.at_ 2 rfl, trivial⟩ ?_
 refine pR_to 13 (some 18) 16383 rfl hs16 (OpTo.run O (pureOp_run (by kernel_rfl) _) (R := fun v w => v = O /\ w17 = w) ⟨rfl, rfl⟩) ?_
 rintro _ _ ⟨rfl, rfl⟩
 refine ⟨fun h => absurd h (by decide), ?_⟩
 refine pR_done hs16 ?_ _
 refine seq_n hK14 (wp_seq_k fun K18 hK18 => wR fun K19 hK19 => ?_)
 refine wq_p 2 [(62, V), (61, O)] ?_
 refine wE hK19 (cF (wp_skip (seq_n hK18 (wR fun K20 hK20 => ?_))))
 refine wq_p 4 [(68, (lV A17 16 c17)), (67, (aV ([(sV server), (lV A8 16 c8)]).toArray)), (66, (lV A8 16 c8)), (65, (sV server))] ?_
 refine wq_to none (xSs h17 4 39 (.tmp 14) (.tmp 67) 0 ([(sV server), (lV A8 16 c8)]) ([(sV server), (lV A8 16 c8)])) ?_
 rintro _ w21 h21
 refine wq_p 2 [(16, O), (15, (lV A17 16 c17))] ?_
 refine wE hK20 (wp_ret ?_)
 refine post_3 rfl (by kernel_rfl) (rce (h21.at_ 4 rfl)) (rtm (lV A17 16 c17)) (rtm O) ?_
 rw [hx8] at h21
 subst hs17
 subst hs8
 exact ⟨_, _, _, _, _, rfl, h21.sel [0, 3, 1] [] rfl rfl rfl⟩
end
section
open Go.RowKit Go.QT
theorem x_bnew {o : Oper} {a : Act} {F0 : Nat -> Prop} {w0 w : World} {ro rs : List Res} (h : Hp F0 w0 w ro rs) (hp : pureVal Try.prog (execOp a.eval o) = some (.enter 29 #[])) :
   OpTo Try.prog o a w (fun u w' => ∃ G bb, u = pt bb 0 /\ Hp F0 w0 w' ro (rBs G bb [] :: rs)) :=
 OpTo.enter 29 [] hp (bnew_any w) fun _ _ ⟨G, bb, he, hh⟩ => ⟨_, he, G, bb, rfl, h.call0 hh⟩
/-- Add, where it adds. -/
theorem x_badd {o : Oper} {a : Act} {F0 : Nat -> Prop} {w0 w : World} {ro rs : List Res} {G : Nat -> Prop} {bb : Nat} {us us' : List User} (h : Hp F0 w0 w ro rs) (i : Nat) (hi : rs[i]? = some (rBs G bb us)) (al : List Value) (hp : pureVal Try.prog (execOp a.eval o) = some (.enter 30 al.toArray)) (hc : (rBs G bb us).Φ w -> Calls Try.prog 30 al.toArray w (fun e w' => e = .returned (.int .i64 0) /\ ∃ G', Hp G w w' [] [rBs G' bb us'])) :
   OpTo Try.prog o a w (fun u w' => ∃ G', u = .int .i64 0 /\ Hp F0 w0 w' ro (rBs G' bb us' :: rs.eraseIdx i)) :=
 OpTo.enter 30 al hp (hc (h.own i _ hi)) fun _ _ ⟨he, G', hh⟩ => ⟨_, he, G', rfl, h.call1 i hi hh⟩
theorem knew_any {F : Nat -> Prop} {tb : Nat} {s : STab} {w : World} (hT : (rTab F tb s).Φ w) (hs : Room 5 s) : Calls Try.prog 9 #[(Value.iface 24 (pt tb 0))] w (fun e w' => ∃ kb G bb F' K, e = .returned (pt kb 0) /\ kl K = mkB 107 (s.keys.length + 1) /\ Hp F w w' [] [rBlk kb 73 (kdcC tb bb K), rBs G bb [], rTab F' tb (s.add SFrom.fresh)]) := by
 have h0 := Hp.one (rTab F tb s) hT
 refine enter 8 Try.func9 rfl rfl ?_
 refine wp_reset 9 [(0, (Value.iface 24 (pt tb 0)))] (fun x0 => ?_)
 refine wR fun K1 hK1 => ?_
 refine wq_p 1 [(2, (Value.pointer none))] ?_
 refine wE hK1 (wR fun K2 hK2 => ?_)
 refine wq_p 1 [(3, (Value.iface 24 (pt tb 0)))] ?_
 refine wT 4 (x_bnew h0 (by kernel_rfl)) ?_
 rintro _ w3 ⟨G3, bb3, rfl, h3⟩
 refine wq_p 1 [(5, (Value.iface 24 (pt tb 0)))] ?_
 refine wT 6 (x_fresh h3 1 rfl  (by kernel_rfl) hs.keys) ?_
 rintro _ w4 ⟨K4, F4, s4, rfl, hK4, hs4, h4⟩
 refine wq_p 1 [(7, (Value.agg ([(Value.iface 24 (pt tb 0)), (pt bb3 0)] ++ vb (kl K4)).toArray))] ?_
 refine wT 8 (xN h4 73 ([(Value.iface 24 (pt tb 0)), (pt bb3 0)] ++ vb (kl K4))) ?_
 rintro _ w5 ⟨g5, rfl, h5⟩
 refine wq_p 1 [(2, (pt g5 0))] ?_
 refine wE hK2 (wp_ret ?_)
 refine post_1 rfl (by kernel_rfl) (rtm (pt g5 0)) ?_
 subst hs4
 exact ⟨_, _, _, _, _, rfl, hK4, h5.sel [0, 1, 2] [] rfl rfl rfl⟩
theorem enrol_no {F G : Nat -> Prop} {kb tb bb : Nat} {Kk : Fin 16 -> UInt8} {s : STab} {us : List User} {name pw : ByteArray} {life renew : Int} {mesh : Bool} {w : World} (hT : (rTab F tb s).Φ w) (hB : (rBs G bb us).Φ w) (hFG : (rTab F tb s).dj (rBs G bb us)) (hs : Room 5 s) (hK : Blk w kb 73 (kdcC tb bb Kk)) (hd : ¬ F kb) (hd2 : ¬ G kb) (hn : name.size <= 1000) (hpw : pw.size <= 1000) (K : Fin 16 -> UInt8) (hKK : kl K = mkB 107 (s.num (textF pw name))) {er : Int} (hadd : ∀ w, (rBs G bb us).Φ w -> Calls Try.prog 30 #[pt bb 0, (Value.agg ([(Value.string name)] ++ vb (kl K) ++ [(Value.int .i64 life), (Value.int .i64 renew), (Value.bool mesh)]).toArray)] w (DPost w (.int .i64 er))) : Calls Try.prog 10 #[(pt kb 0), (Value.string name), (Value.string pw), (Value.int .i64 life), (Value.int .i64 renew), (Value.bool mesh)] w (fun e w' => e = .returned (.int .i64 er) /\ ∃ F' G', Hp (fun q => F q ∨ G q) w w' [] [rTab F' tb (s.made (textF pw name)), rBs G' bb (us)]) := by
 have h0 := (Hp.two (rTab F tb s) (rBs G bb us) hT hB hFG).addR (rBlk kb 73 (kdcC tb bb Kk)) hK (fun j r hj q h1 h2 => by obtain rfl : q = kb := h1; match j, hj with | 0, hj => (injection hj with hj; subst hj; exact hd h2) | 1, hj => (injection hj with hj; subst hj; exact hd2 h2))
 refine enter 24 Try.func10 rfl rfl ?_
 refine wp_reset 30 [(0, (pt kb 0)), (1, (Value.string name)), (2, (Value.string pw)), (3, (D life)), (4, (D renew)), (5, (Value.bool mesh))] (fun x0 => ?_)
 refine wR fun K1 hK1 => ?_
 refine wq_p 1 [(12, O)] ?_
 refine wE hK1 (wp_seq_k fun K2 hK2 => ?_)
 refine pR_go h0 17 (fun W => (rBlk kb 73 ([(Value.iface 24 (pt tb 0)), (pt bb 0)] ++ vb (kl Kk))).Φ W /\ True) [(14, [0], 0), (15, [13], 1), (16, [14], 2), (17, [15], 4), (18, [1], 0), (19, [0], 0), (20, [18], 32), (21, [19], 64), (22, [20], 128), (23, [2], 0), (24, [1], 0), (25, [21, 22, 23], 1792), (26, [3], 0), (27, [4], 0), (28, [5], 0), (29, [17, 24, 25, 26, 27], 30736), (30, [16, 28], 34824), (13, [29], 131071)] rfl (fun _ d _ _ _ h => by cases d <;> exact h) ?_
 intro hs3 w3 h3
 refine pR_p 6 [0, 1, 2, 4, 5, 6, 7, 9, 10, 12, 13, 14] [(27, (Value.bool mesh)), (26, (D renew)), (25, (D life)), (23, (Value.string name)), (22, (Value.string pw)), (20, (pt kb 0)), (19, (pt kb 0)), (18, (pt kb 0)), (17, (Value.string name)), (15, (pt kb 1)), (14, (pt kb 0)), (13, (pt kb 0))] 30455 hs3 ⟨h3.rd 0 rfl, trivial⟩ ?_
 refine pR_v 3 (some 16) (pt bb 0) 30463 rfl hs3 ⟨h3.rd 0 rfl, trivial⟩ (fun W hW => eL hW.1 71 (.tmp 15) 1 _) ?_
 refine pR_v 8 (some 21) (Value.iface 24 (pt tb 0)) 30719 rfl hs3 ⟨h3.rd 0 rfl, trivial⟩ (fun W hW => eL hW.1 70 (.tmp 20) 0 _) ?_
 refine pR_to 11 (some 24) 32767 rfl hs3 (x_text h3 0 rfl pw name (by kernel_rfl) (by omega) (by omega) hs.keys) ?_
 rintro _ w4 ⟨K4, F4, s4, rfl, hK4, hs4, h4⟩
 refine ⟨fun _ => ⟨h4.rd 0 rfl, trivial⟩, ?_⟩
 obtain rfl : K = K4 := kl_inj (hKK.trans hK4.symm)
 refine pR_p 2 [15] [(28, (Value.agg ([(Value.string name)] ++ vb (kl K) ++ [(D life), (D renew), (Value.bool mesh)]).toArray))] 65535 hs3 ⟨h4.rd 0 rfl, trivial⟩ ?_
 refine pR_to 16 (some 29) 131071 rfl hs3 (x_dp (v := .int .i64 er) h4 30 [(pt bb 0), (Value.agg ([(Value.string name)] ++ vb (kl K) ++ [(D life), (D renew), (Value.bool mesh)]).toArray)] (by kernel_rfl) (hadd _ (h4.at_ 1 rfl))) ?_
 rintro _ w5 ⟨rfl, h5⟩
 refine ⟨fun _ => ⟨h5.rd 0 rfl, trivial⟩, ?_⟩
 refine pR_to 17 (some 12) 262143 rfl hs3 (OpTo.run (D er) (pureOp_run (by kernel_rfl) _) (R := fun v w => v = (D er) /\ w5 = w) ⟨rfl, rfl⟩) ?_
 rintro _ _ ⟨rfl, rfl⟩
 refine ⟨fun h => absurd h (by decide), ?_⟩
 refine pR_done hs3 ?_ _
 refine seq_n hK2 (wp_ret ?_)
 refine post_1 rfl (by kernel_rfl) (rtm (D er)) ?_
 subst hs4
 exact ⟨rfl, _, _, h5.sel [0, 1] [] rfl rfl rfl⟩
theorem enrol_ok {F G : Nat -> Prop} {kb tb bb : Nat} {Kk : Fin 16 -> UInt8} {s : STab} {us : List User} {name pw : ByteArray} {life renew : Int} {mesh : Bool} {w : World} (hT : (rTab F tb s).Φ w) (hB : (rBs G bb us).Φ w) (hFG : (rTab F tb s).dj (rBs G bb us)) (hs : Room 5 s) (hK : Blk w kb 73 (kdcC tb bb Kk)) (hd : ¬ F kb) (hd2 : ¬ G kb) (hn : name.size <= 1000) (hpw : pw.size <= 1000) (K : Fin 16 -> UInt8) (hKK : kl K = mkB 107 (s.num (textF pw name))) (h32 : us.length <= 1000000) (hr : rightN name = true) (ha : 1 <= life /\ life <= 600 /\ 0 <= renew /\ renew <= 6000) (ht : placeB us name = false) (hf : us.length < 32) (hi : placeI us name = us.length) : Calls Try.prog 10 #[(pt kb 0), (Value.string name), (Value.string pw), (Value.int .i64 life), (Value.int .i64 renew), (Value.bool mesh)] w (fun e w' => e = .returned (.int .i64 0) /\ ∃ F' G', Hp (fun q => F q ∨ G q) w w' [] [rTab F' tb (s.made (textF pw name)), rBs G' bb (us ++ [(User.mk name K life renew mesh)])]) := by
 have h0 := (Hp.two (rTab F tb s) (rBs G bb us) hT hB hFG).addR (rBlk kb 73 (kdcC tb bb Kk)) hK (fun j r hj q h1 h2 => by obtain rfl : q = kb := h1; match j, hj with | 0, hj => (injection hj with hj; subst hj; exact hd h2) | 1, hj => (injection hj with hj; subst hj; exact hd2 h2))
 refine enter 24 Try.func10 rfl rfl ?_
 refine wp_reset 30 [(0, (pt kb 0)), (1, (Value.string name)), (2, (Value.string pw)), (3, (D life)), (4, (D renew)), (5, (Value.bool mesh))] (fun x0 => ?_)
 refine wR fun K1 hK1 => ?_
 refine wq_p 1 [(12, O)] ?_
 refine wE hK1 (wp_seq_k fun K2 hK2 => ?_)
 refine pR_go h0 17 (fun W => (rBlk kb 73 ([(Value.iface 24 (pt tb 0)), (pt bb 0)] ++ vb (kl Kk))).Φ W /\ True) [(14, [0], 0), (15, [13], 1), (16, [14], 2), (17, [15], 4), (18, [1], 0), (19, [0], 0), (20, [18], 32), (21, [19], 64), (22, [20], 128), (23, [2], 0), (24, [1], 0), (25, [21, 22, 23], 1792), (26, [3], 0), (27, [4], 0), (28, [5], 0), (29, [17, 24, 25, 26, 27], 30736), (30, [16, 28], 34824), (13, [29], 131071)] rfl (fun _ d _ _ _ h => by cases d <;> exact h) ?_
 intro hs3 w3 h3
 refine pR_p 6 [0, 1, 2, 4, 5, 6, 7, 9, 10, 12, 13, 14] [(27, (Value.bool mesh)), (26, (D renew)), (25, (D life)), (23, (Value.string name)), (22, (Value.string pw)), (20, (pt kb 0)), (19, (pt kb 0)), (18, (pt kb 0)), (17, (Value.string name)), (15, (pt kb 1)), (14, (pt kb 0)), (13, (pt kb 0))] 30455 hs3 ⟨h3.rd 0 rfl, trivial⟩ ?_
 refine pR_v 3 (some 16) (pt bb 0) 30463 rfl hs3 ⟨h3.rd 0 rfl, trivial⟩ (fun W hW => eL hW.1 71 (.tmp 15) 1 _) ?_
 refine pR_v 8 (some 21) (Value.iface 24 (pt tb 0)) 30719 rfl hs3 ⟨h3.rd 0 rfl, trivial⟩ (fun W hW => eL hW.1 70 (.tmp 20) 0 _) ?_
 refine pR_to 11 (some 24) 32767 rfl hs3 (x_text h3 0 rfl pw name (by kernel_rfl) (by omega) (by omega) hs.keys) ?_
 rintro _ w4 ⟨K4, F4, s4, rfl, hK4, hs4, h4⟩
 refine ⟨fun _ => ⟨h4.rd 0 rfl, trivial⟩, ?_⟩
 obtain rfl : K = K4 := kl_inj (hKK.trans hK4.symm)
 refine pR_p 2 [15] [(28, (Value.agg ([(Value.string name)] ++ vb (kl K) ++ [(D life), (D renew), (Value.bool mesh)]).toArray))] 65535 hs3 ⟨h4.rd 0 rfl, trivial⟩ ?_
 refine pR_to 16 (some 29) 131071 rfl hs3 (x_badd (us' := us ++ [(User.mk name K life renew mesh)]) h4 1 rfl [(pt bb 0), (Value.agg ([(Value.string name)] ++ vb (kl K) ++ [(D life), (D renew), (Value.bool mesh)]).toArray)] (by kernel_rfl) (fun hB => add_ok (u := (User.mk name K life renew mesh)) hB h32 (show name.size <= _ by omega) hr ha ht hf hi)) ?_
 rintro _ w5 ⟨G5, rfl, h5⟩
 refine ⟨fun _ => ⟨h5.rd 0 rfl, trivial⟩, ?_⟩
 refine pR_to 17 (some 12) 262143 rfl hs3 (OpTo.run O (pureOp_run (by kernel_rfl) _) (R := fun v w => v = O /\ w5 = w) ⟨rfl, rfl⟩) ?_
 rintro _ _ ⟨rfl, rfl⟩
 refine ⟨fun h => absurd h (by decide), ?_⟩
 refine pR_done hs3 ?_ _
 refine seq_n hK2 (wp_ret ?_)
 refine post_1 rfl (by kernel_rfl) (rtm O) ?_
 subst hs4
 exact ⟨rfl, _, _, h5.sel [1, 0] [] rfl rfl rfl⟩
end
end Go.Proofs.Ytecomegocafocaa
