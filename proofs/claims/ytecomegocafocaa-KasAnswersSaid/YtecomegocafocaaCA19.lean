/- The walks of compeerref09: Letter, Rune. -/
import Derived.Test.YtecomegocafocaaCA18
set_option maxRecDepth 100000
set_option maxHeartbeats 4000000
namespace Go.Proofs.Ytecomegocafocaa
section
open Go.Value renaming int -> iV, slice -> lV, string -> sV, bool -> bV, agg -> aV
open Go.RowKit Go.QT
theorem i64_ubN (x : UInt8) : iV .i64 (IntKind.i64.wrap (ub x)) = iV .i64 (nb x : Int) := by
 have := nb_lt x
 unfold ub nb at *
 congr 1
 rw [IntKind.wrap_i64]
 omega
theorem exec_mulM {P : Program} {o : Oper} {a : Act} (t t' : TypeId) (x y : Operand) (ho : o.op = .binOp .mul t x y t') (m n : Nat) (hx : a.eval x = .int .i64 (m : Int)) (hy : a.eval y = .int .i64 (n : Int)) (p : Nat) (hp : m * n = p) (h2 : p < 9223372036854775808) (w : World) :
   (execOp a.eval o).run P w = .ok (.value (.int .i64 ((p : Nat) : Int))) w := by
 have e : IntKind.i64.wrap ((m : Int) * (n : Int)) = (p : Int) := by rw [← Int.natCast_mul, hp, IntKind.wrap_i64]; omega
 have h3 : (eqGuard .mul t x y (.int .i64 (m : Int)) (.int .i64 (n : Int))).run P w = .ok () w := by simp [eqGuard]
 have h4 : (binOp .mul t (.int .i64 (m : Int)) (.int .i64 (n : Int))).run P w = .ok (.int .i64 (p : Int)) w := by simp [binOp, Op.intArith, e]
 unfold execOp
 simp only [ho, hx, hy, Sem.run_bind, h3, h4, Result.andThen_ok, Sem.run_pure]
theorem rl_none {l : Bytes} (h : 128 <= nb (gb l 0)) (h2 : ¬ (194 <= nb (gb l 0) /\ nb (gb l 0) <= 223 /\ 2 <= l.length /\ 128 <= nb (gb l 1) /\ nb (gb l 1) <= 191)) : runeL l = none := by
 unfold runeL; rw [if_neg (by omega), if_neg h2]
theorem rnp_no {l : Bytes} {r k : Int} (h : 128 <= nb (gb l 0)) (h2 : ¬ (194 <= nb (gb l 0) /\ nb (gb l 0) <= 223 /\ 2 <= l.length /\ 128 <= nb (gb l 1) /\ nb (gb l 1) <= 191)) (hr : (r = -1 ∨ 2048 <= r) /\ r <= 5000000 /\ 1 <= k /\ k <= 4) : RnP l r k := by
 unfold RnP; rw [rl_none h h2]; exact hr
theorem rnp_1 {l : Bytes} (h : nb (gb l 0) < 128) : RnP l (nb (gb l 0) : Int) 1 := by
 unfold RnP runeL; rw [if_pos h]; exact ⟨rfl, rfl⟩
theorem rnp_2 {l : Bytes} {r : Int} (h : 194 <= nb (gb l 0) /\ nb (gb l 0) <= 223 /\ 2 <= l.length /\ 128 <= nb (gb l 1) /\ nb (gb l 1) <= 191) (hr : r = (((nb (gb l 0) - 192) * 64 + (nb (gb l 1) - 128) : Nat) : Int)) : RnP l r 2 := by
 unfold RnP runeL; rw [if_neg (by omega), if_pos h]; exact ⟨hr, rfl⟩
theorem rletter_any (c : Int) (h1 : -1000000000 <= c) (h2 : c <= 1000000000) (w : World) : Calls Try.prog 45 #[.int .i64 c, .int .i64 0] w (DPost w (.bool (letterN c))) := by
 have h0 := Hp.nil (fun _ => False) w
 refine enter 52 Try.func45 rfl rfl ?_
 refine wp_reset 54 [(0, (D c)), (1, O)] (fun x0 => ?_)
 refine wR fun K1 hK1 => ?_
 refine wq_p 1 [(4, V)] ?_
 refine wE hK1 (wR fun K2 hK2 => ?_)
 refine wq_p 2 [(6, O), (5, (D c))] (wV 7 (D c) (exec_add _ _ _ _ rfl c 0 (by kernel_rfl) (by kernel_rfl) (c) (by omega) (by omega) (by omega) _) (wq_p 1 [(0, (D c))] ?_))
 refine wE hK2 (wp_seq_k fun K3 hK3 => ?_)
 rcases (by omega : c < 97 ∨ (97 <= c /\ c <= 122) ∨ (122 < c /\ c < 224) ∨ (224 <= c /\ c <= 246) ∨ (246 < c /\ c < 248) ∨ (248 <= c /\ c <= 254) ∨ (254 < c /\ c < 945) ∨ (945 <= c /\ c <= 961) ∨ (961 < c /\ c < 963) ∨ (963 <= c /\ c <= 969) ∨ (969 < c /\ c < 1072) ∨ (1072 <= c /\ c <= 1103) ∨ 1103 < c) with hq | hq | hq | hq | hq | hq | hq | hq | hq | hq | hq | hq | hq
 ·
  refine reg_lit ?_
  refine wq_p 1 [(8, (D c))] (wV 9 (.bool false) (eqI (bV (decide (c ≥ 97))) (by simp; omega)) (wq_p 1 [(10, V)] (wq_p 1 [(11, undef)] ?_)))
  refine wq_p 1 [(12, undef)] (wq_p 1 [(13, V)] (wq_p 1 [(14, V)] (wq_p 1 [(15, (D c))] ?_)))
  refine wV 16 (.bool false) (eqI (bV (decide (c ≥ 224))) (by simp; omega)) (wq_p 1 [(17, V)] (wq_p 1 [(18, undef)] (wq_p 1 [(19, undef)] ?_)))
  refine wq_p 1 [(20, V)] (wq_p 1 [(21, V)] (wq_p 1 [(22, V)] (wq_p 1 [(23, (D c))] ?_)))
  refine wV 24 (.bool false) (eqI (bV (decide (c ≥ 248))) (by simp; omega)) (wq_p 1 [(25, V)] (wq_p 1 [(26, undef)] (wq_p 1 [(27, undef)] ?_)))
  refine wq_p 1 [(28, V)] (wq_p 1 [(29, V)] (wq_p 1 [(30, V)] (wq_p 1 [(31, (D c))] ?_)))
  refine wV 32 (.bool false) (eqI (bV (decide (c ≥ 945))) (by simp; omega)) (wq_p 1 [(33, V)] (wq_p 1 [(34, undef)] (wq_p 1 [(35, undef)] ?_)))
  refine wq_p 1 [(36, V)] (wq_p 1 [(37, V)] (wq_p 1 [(38, V)] (wq_p 1 [(39, (D c))] ?_)))
  refine wV 40 (.bool false) (eqI (bV (decide (c ≥ 963))) (by simp; omega)) (wq_p 1 [(41, V)] (wq_p 1 [(42, undef)] (wq_p 1 [(43, undef)] ?_)))
  refine wq_p 1 [(44, V)] (wq_p 1 [(45, V)] (wq_p 1 [(46, V)] (wq_p 1 [(47, (D c))] ?_)))
  refine wV 48 (.bool false) (eqI (bV (decide (c ≥ 1072))) (by simp; omega)) (wq_p 1 [(49, V)] (wq_p 1 [(50, undef)] (wq_p 1 [(51, undef)] ?_)))
  refine wq_p 1 [(52, V)] (wq_p 1 [(53, V)] (wq_p 1 [(4, V)] ?_))
  refine wE hK3 (wp_ret ?_)
  refine post_1 rfl (by kernel_rfl) (rtm V) ?_
  exact ⟨by rw [show letterN c = false from by unfold letterN inR ltrL; simp; omega], h0.below0⟩
 ·
  refine reg_lit ?_
  refine wq_p 1 [(8, (D c))] (wV 9 (.bool true) (eqI (bV (decide (c ≥ 97))) (by simp; omega)) (wq_p 1 [(10, I)] (wq_p 1 [(11, (D c))] ?_)))
  refine wV 12 (.bool true) (eqI (bV (decide (c <= 122))) (by simp; omega)) (wq_p 1 [(13, I)] (wq_p 1 [(14, I)] (wq_p 1 [(15, undef)] ?_)))
  refine wq_p 1 [(16, undef)] (wq_p 1 [(17, undef)] (wq_p 1 [(18, undef)] (wq_p 1 [(19, undef)] ?_)))
  refine wq_p 1 [(20, undef)] (wq_p 1 [(21, I)] (wq_p 1 [(22, I)] (wq_p 1 [(23, undef)] ?_)))
  refine wq_p 1 [(24, undef)] (wq_p 1 [(25, undef)] (wq_p 1 [(26, undef)] (wq_p 1 [(27, undef)] ?_)))
  refine wq_p 1 [(28, undef)] (wq_p 1 [(29, I)] (wq_p 1 [(30, I)] (wq_p 1 [(31, undef)] ?_)))
  refine wq_p 1 [(32, undef)] (wq_p 1 [(33, undef)] (wq_p 1 [(34, undef)] (wq_p 1 [(35, undef)] ?_)))
  refine wq_p 1 [(36, undef)] (wq_p 1 [(37, I)] (wq_p 1 [(38, I)] (wq_p 1 [(39, undef)] ?_)))
  refine wq_p 1 [(40, undef)] (wq_p 1 [(41, undef)] (wq_p 1 [(42, undef)] (wq_p 1 [(43, undef)] ?_)))
  refine wq_p 1 [(44, undef)] (wq_p 1 [(45, I)] (wq_p 1 [(46, I)] (wq_p 1 [(47, undef)] ?_)))
  refine wq_p 1 [(48, undef)] (wq_p 1 [(49, undef)] (wq_p 1 [(50, undef)] (wq_p 1 [(51, undef)] ?_)))
  refine wq_p 1 [(52, undef)] (wq_p 1 [(53, I)] (wq_p 1 [(4, I)] ?_))
  refine wE hK3 (wp_ret ?_)
  refine post_1 rfl (by kernel_rfl) (rtm I) ?_
  exact ⟨by rw [show letterN c = true from by unfold letterN inR ltrL; simp; omega], h0.below0⟩
 ·
  refine reg_lit ?_
  refine wq_p 1 [(8, (D c))] (wV 9 (.bool true) (eqI (bV (decide (c ≥ 97))) (by simp; omega)) (wq_p 1 [(10, I)] (wq_p 1 [(11, (D c))] ?_)))
  refine wV 12 (.bool false) (eqI (bV (decide (c <= 122))) (by simp; omega)) (wq_p 1 [(13, V)] (wq_p 1 [(14, V)] (wq_p 1 [(15, (D c))] ?_)))
  refine wV 16 (.bool false) (eqI (bV (decide (c ≥ 224))) (by simp; omega)) (wq_p 1 [(17, V)] (wq_p 1 [(18, undef)] (wq_p 1 [(19, undef)] ?_)))
  refine wq_p 1 [(20, V)] (wq_p 1 [(21, V)] (wq_p 1 [(22, V)] (wq_p 1 [(23, (D c))] ?_)))
  refine wV 24 (.bool false) (eqI (bV (decide (c ≥ 248))) (by simp; omega)) (wq_p 1 [(25, V)] (wq_p 1 [(26, undef)] (wq_p 1 [(27, undef)] ?_)))
  refine wq_p 1 [(28, V)] (wq_p 1 [(29, V)] (wq_p 1 [(30, V)] (wq_p 1 [(31, (D c))] ?_)))
  refine wV 32 (.bool false) (eqI (bV (decide (c ≥ 945))) (by simp; omega)) (wq_p 1 [(33, V)] (wq_p 1 [(34, undef)] (wq_p 1 [(35, undef)] ?_)))
  refine wq_p 1 [(36, V)] (wq_p 1 [(37, V)] (wq_p 1 [(38, V)] (wq_p 1 [(39, (D c))] ?_)))
  refine wV 40 (.bool false) (eqI (bV (decide (c ≥ 963))) (by simp; omega)) (wq_p 1 [(41, V)] (wq_p 1 [(42, undef)] (wq_p 1 [(43, undef)] ?_)))
  refine wq_p 1 [(44, V)] (wq_p 1 [(45, V)] (wq_p 1 [(46, V)] (wq_p 1 [(47, (D c))] ?_)))
  refine wV 48 (.bool false) (eqI (bV (decide (c ≥ 1072))) (by simp; omega)) (wq_p 1 [(49, V)] (wq_p 1 [(50, undef)] (wq_p 1 [(51, undef)] ?_)))
  refine wq_p 1 [(52, V)] (wq_p 1 [(53, V)] (wq_p 1 [(4, V)] ?_))
  refine wE hK3 (wp_ret ?_)
  refine post_1 rfl (by kernel_rfl) (rtm V) ?_
  exact ⟨by rw [show letterN c = false from by unfold letterN inR ltrL; simp; omega], h0.below0⟩
 ·
  refine reg_lit ?_
  refine wq_p 1 [(8, (D c))] (wV 9 (.bool true) (eqI (bV (decide (c ≥ 97))) (by simp; omega)) (wq_p 1 [(10, I)] (wq_p 1 [(11, (D c))] ?_)))
  refine wV 12 (.bool false) (eqI (bV (decide (c <= 122))) (by simp; omega)) (wq_p 1 [(13, V)] (wq_p 1 [(14, V)] (wq_p 1 [(15, (D c))] ?_)))
  refine wV 16 (.bool true) (eqI (bV (decide (c ≥ 224))) (by simp; omega)) (wq_p 1 [(17, I)] (wq_p 1 [(18, (D c))] (wV 19 (.bool true) (eqI (bV (decide (c <= 246))) (by simp; omega)) ?_)))
  refine wq_p 1 [(20, I)] (wq_p 1 [(21, I)] (wq_p 1 [(22, I)] (wq_p 1 [(23, undef)] ?_)))
  refine wq_p 1 [(24, undef)] (wq_p 1 [(25, undef)] (wq_p 1 [(26, undef)] (wq_p 1 [(27, undef)] ?_)))
  refine wq_p 1 [(28, undef)] (wq_p 1 [(29, I)] (wq_p 1 [(30, I)] (wq_p 1 [(31, undef)] ?_)))
  refine wq_p 1 [(32, undef)] (wq_p 1 [(33, undef)] (wq_p 1 [(34, undef)] (wq_p 1 [(35, undef)] ?_)))
  refine wq_p 1 [(36, undef)] (wq_p 1 [(37, I)] (wq_p 1 [(38, I)] (wq_p 1 [(39, undef)] ?_)))
  refine wq_p 1 [(40, undef)] (wq_p 1 [(41, undef)] (wq_p 1 [(42, undef)] (wq_p 1 [(43, undef)] ?_)))
  refine wq_p 1 [(44, undef)] (wq_p 1 [(45, I)] (wq_p 1 [(46, I)] (wq_p 1 [(47, undef)] ?_)))
  refine wq_p 1 [(48, undef)] (wq_p 1 [(49, undef)] (wq_p 1 [(50, undef)] (wq_p 1 [(51, undef)] ?_)))
  refine wq_p 1 [(52, undef)] (wq_p 1 [(53, I)] (wq_p 1 [(4, I)] ?_))
  refine wE hK3 (wp_ret ?_)
  refine post_1 rfl (by kernel_rfl) (rtm I) ?_
  exact ⟨by rw [show letterN c = true from by unfold letterN inR ltrL; simp; omega], h0.below0⟩
 ·
  refine reg_lit ?_
  refine wq_p 1 [(8, (D c))] (wV 9 (.bool true) (eqI (bV (decide (c ≥ 97))) (by simp; omega)) (wq_p 1 [(10, I)] (wq_p 1 [(11, (D c))] ?_)))
  refine wV 12 (.bool false) (eqI (bV (decide (c <= 122))) (by simp; omega)) (wq_p 1 [(13, V)] (wq_p 1 [(14, V)] (wq_p 1 [(15, (D c))] ?_)))
  refine wV 16 (.bool true) (eqI (bV (decide (c ≥ 224))) (by simp; omega)) (wq_p 1 [(17, I)] (wq_p 1 [(18, (D c))] (wV 19 (.bool false) (eqI (bV (decide (c <= 246))) (by simp; omega)) ?_)))
  refine wq_p 1 [(20, V)] (wq_p 1 [(21, V)] (wq_p 1 [(22, V)] (wq_p 1 [(23, (D c))] ?_)))
  refine wV 24 (.bool false) (eqI (bV (decide (c ≥ 248))) (by simp; omega)) (wq_p 1 [(25, V)] (wq_p 1 [(26, undef)] (wq_p 1 [(27, undef)] ?_)))
  refine wq_p 1 [(28, V)] (wq_p 1 [(29, V)] (wq_p 1 [(30, V)] (wq_p 1 [(31, (D c))] ?_)))
  refine wV 32 (.bool false) (eqI (bV (decide (c ≥ 945))) (by simp; omega)) (wq_p 1 [(33, V)] (wq_p 1 [(34, undef)] (wq_p 1 [(35, undef)] ?_)))
  refine wq_p 1 [(36, V)] (wq_p 1 [(37, V)] (wq_p 1 [(38, V)] (wq_p 1 [(39, (D c))] ?_)))
  refine wV 40 (.bool false) (eqI (bV (decide (c ≥ 963))) (by simp; omega)) (wq_p 1 [(41, V)] (wq_p 1 [(42, undef)] (wq_p 1 [(43, undef)] ?_)))
  refine wq_p 1 [(44, V)] (wq_p 1 [(45, V)] (wq_p 1 [(46, V)] (wq_p 1 [(47, (D c))] ?_)))
  refine wV 48 (.bool false) (eqI (bV (decide (c ≥ 1072))) (by simp; omega)) (wq_p 1 [(49, V)] (wq_p 1 [(50, undef)] (wq_p 1 [(51, undef)] ?_)))
  refine wq_p 1 [(52, V)] (wq_p 1 [(53, V)] (wq_p 1 [(4, V)] ?_))
  refine wE hK3 (wp_ret ?_)
  refine post_1 rfl (by kernel_rfl) (rtm V) ?_
  exact ⟨by rw [show letterN c = false from by unfold letterN inR ltrL; simp; omega], h0.below0⟩
 ·
  refine reg_lit ?_
  refine wq_p 1 [(8, (D c))] (wV 9 (.bool true) (eqI (bV (decide (c ≥ 97))) (by simp; omega)) (wq_p 1 [(10, I)] (wq_p 1 [(11, (D c))] ?_)))
  refine wV 12 (.bool false) (eqI (bV (decide (c <= 122))) (by simp; omega)) (wq_p 1 [(13, V)] (wq_p 1 [(14, V)] (wq_p 1 [(15, (D c))] ?_)))
  refine wV 16 (.bool true) (eqI (bV (decide (c ≥ 224))) (by simp; omega)) (wq_p 1 [(17, I)] (wq_p 1 [(18, (D c))] (wV 19 (.bool false) (eqI (bV (decide (c <= 246))) (by simp; omega)) ?_)))
  refine wq_p 1 [(20, V)] (wq_p 1 [(21, V)] (wq_p 1 [(22, V)] (wq_p 1 [(23, (D c))] ?_)))
  refine wV 24 (.bool true) (eqI (bV (decide (c ≥ 248))) (by simp; omega)) (wq_p 1 [(25, I)] (wq_p 1 [(26, (D c))] (wV 27 (.bool true) (eqI (bV (decide (c <= 254))) (by simp; omega)) ?_)))
  refine wq_p 1 [(28, I)] (wq_p 1 [(29, I)] (wq_p 1 [(30, I)] (wq_p 1 [(31, undef)] ?_)))
  refine wq_p 1 [(32, undef)] (wq_p 1 [(33, undef)] (wq_p 1 [(34, undef)] (wq_p 1 [(35, undef)] ?_)))
  refine wq_p 1 [(36, undef)] (wq_p 1 [(37, I)] (wq_p 1 [(38, I)] (wq_p 1 [(39, undef)] ?_)))
  refine wq_p 1 [(40, undef)] (wq_p 1 [(41, undef)] (wq_p 1 [(42, undef)] (wq_p 1 [(43, undef)] ?_)))
  refine wq_p 1 [(44, undef)] (wq_p 1 [(45, I)] (wq_p 1 [(46, I)] (wq_p 1 [(47, undef)] ?_)))
  refine wq_p 1 [(48, undef)] (wq_p 1 [(49, undef)] (wq_p 1 [(50, undef)] (wq_p 1 [(51, undef)] ?_)))
  refine wq_p 1 [(52, undef)] (wq_p 1 [(53, I)] (wq_p 1 [(4, I)] ?_))
  refine wE hK3 (wp_ret ?_)
  refine post_1 rfl (by kernel_rfl) (rtm I) ?_
  exact ⟨by rw [show letterN c = true from by unfold letterN inR ltrL; simp; omega], h0.below0⟩
 ·
  refine reg_lit ?_
  refine wq_p 1 [(8, (D c))] (wV 9 (.bool true) (eqI (bV (decide (c ≥ 97))) (by simp; omega)) (wq_p 1 [(10, I)] (wq_p 1 [(11, (D c))] ?_)))
  refine wV 12 (.bool false) (eqI (bV (decide (c <= 122))) (by simp; omega)) (wq_p 1 [(13, V)] (wq_p 1 [(14, V)] (wq_p 1 [(15, (D c))] ?_)))
  refine wV 16 (.bool true) (eqI (bV (decide (c ≥ 224))) (by simp; omega)) (wq_p 1 [(17, I)] (wq_p 1 [(18, (D c))] (wV 19 (.bool false) (eqI (bV (decide (c <= 246))) (by simp; omega)) ?_)))
  refine wq_p 1 [(20, V)] (wq_p 1 [(21, V)] (wq_p 1 [(22, V)] (wq_p 1 [(23, (D c))] ?_)))
  refine wV 24 (.bool true) (eqI (bV (decide (c ≥ 248))) (by simp; omega)) (wq_p 1 [(25, I)] (wq_p 1 [(26, (D c))] (wV 27 (.bool false) (eqI (bV (decide (c <= 254))) (by simp; omega)) ?_)))
  refine wq_p 1 [(28, V)] (wq_p 1 [(29, V)] (wq_p 1 [(30, V)] (wq_p 1 [(31, (D c))] ?_)))
  refine wV 32 (.bool false) (eqI (bV (decide (c ≥ 945))) (by simp; omega)) (wq_p 1 [(33, V)] (wq_p 1 [(34, undef)] (wq_p 1 [(35, undef)] ?_)))
  refine wq_p 1 [(36, V)] (wq_p 1 [(37, V)] (wq_p 1 [(38, V)] (wq_p 1 [(39, (D c))] ?_)))
  refine wV 40 (.bool false) (eqI (bV (decide (c ≥ 963))) (by simp; omega)) (wq_p 1 [(41, V)] (wq_p 1 [(42, undef)] (wq_p 1 [(43, undef)] ?_)))
  refine wq_p 1 [(44, V)] (wq_p 1 [(45, V)] (wq_p 1 [(46, V)] (wq_p 1 [(47, (D c))] ?_)))
  refine wV 48 (.bool false) (eqI (bV (decide (c ≥ 1072))) (by simp; omega)) (wq_p 1 [(49, V)] (wq_p 1 [(50, undef)] (wq_p 1 [(51, undef)] ?_)))
  refine wq_p 1 [(52, V)] (wq_p 1 [(53, V)] (wq_p 1 [(4, V)] ?_))
  refine wE hK3 (wp_ret ?_)
  refine post_1 rfl (by kernel_rfl) (rtm V) ?_
  exact ⟨by rw [show letterN c = false from by unfold letterN inR ltrL; simp; omega], h0.below0⟩
 ·
  refine reg_lit ?_
  refine wq_p 1 [(8, (D c))] (wV 9 (.bool true) (eqI (bV (decide (c ≥ 97))) (by simp; omega)) (wq_p 1 [(10, I)] (wq_p 1 [(11, (D c))] ?_)))
  refine wV 12 (.bool false) (eqI (bV (decide (c <= 122))) (by simp; omega)) (wq_p 1 [(13, V)] (wq_p 1 [(14, V)] (wq_p 1 [(15, (D c))] ?_)))
  refine wV 16 (.bool true) (eqI (bV (decide (c ≥ 224))) (by simp; omega)) (wq_p 1 [(17, I)] (wq_p 1 [(18, (D c))] (wV 19 (.bool false) (eqI (bV (decide (c <= 246))) (by simp; omega)) ?_)))
  refine wq_p 1 [(20, V)] (wq_p 1 [(21, V)] (wq_p 1 [(22, V)] (wq_p 1 [(23, (D c))] ?_)))
  refine wV 24 (.bool true) (eqI (bV (decide (c ≥ 248))) (by simp; omega)) (wq_p 1 [(25, I)] (wq_p 1 [(26, (D c))] (wV 27 (.bool false) (eqI (bV (decide (c <= 254))) (by simp; omega)) ?_)))
  refine wq_p 1 [(28, V)] (wq_p 1 [(29, V)] (wq_p 1 [(30, V)] (wq_p 1 [(31, (D c))] ?_)))
  refine wV 32 (.bool true) (eqI (bV (decide (c ≥ 945))) (by simp; omega)) (wq_p 1 [(33, I)] (wq_p 1 [(34, (D c))] (wV 35 (.bool true) (eqI (bV (decide (c <= 961))) (by simp; omega)) ?_)))
  refine wq_p 1 [(36, I)] (wq_p 1 [(37, I)] (wq_p 1 [(38, I)] (wq_p 1 [(39, undef)] ?_)))
  refine wq_p 1 [(40, undef)] (wq_p 1 [(41, undef)] (wq_p 1 [(42, undef)] (wq_p 1 [(43, undef)] ?_)))
  refine wq_p 1 [(44, undef)] (wq_p 1 [(45, I)] (wq_p 1 [(46, I)] (wq_p 1 [(47, undef)] ?_)))
  refine wq_p 1 [(48, undef)] (wq_p 1 [(49, undef)] (wq_p 1 [(50, undef)] (wq_p 1 [(51, undef)] ?_)))
  refine wq_p 1 [(52, undef)] (wq_p 1 [(53, I)] (wq_p 1 [(4, I)] ?_))
  refine wE hK3 (wp_ret ?_)
  refine post_1 rfl (by kernel_rfl) (rtm I) ?_
  exact ⟨by rw [show letterN c = true from by unfold letterN inR ltrL; simp; omega], h0.below0⟩
 ·
  refine reg_lit ?_
  refine wq_p 1 [(8, (D c))] (wV 9 (.bool true) (eqI (bV (decide (c ≥ 97))) (by simp; omega)) (wq_p 1 [(10, I)] (wq_p 1 [(11, (D c))] ?_)))
  refine wV 12 (.bool false) (eqI (bV (decide (c <= 122))) (by simp; omega)) (wq_p 1 [(13, V)] (wq_p 1 [(14, V)] (wq_p 1 [(15, (D c))] ?_)))
  refine wV 16 (.bool true) (eqI (bV (decide (c ≥ 224))) (by simp; omega)) (wq_p 1 [(17, I)] (wq_p 1 [(18, (D c))] (wV 19 (.bool false) (eqI (bV (decide (c <= 246))) (by simp; omega)) ?_)))
  refine wq_p 1 [(20, V)] (wq_p 1 [(21, V)] (wq_p 1 [(22, V)] (wq_p 1 [(23, (D c))] ?_)))
  refine wV 24 (.bool true) (eqI (bV (decide (c ≥ 248))) (by simp; omega)) (wq_p 1 [(25, I)] (wq_p 1 [(26, (D c))] (wV 27 (.bool false) (eqI (bV (decide (c <= 254))) (by simp; omega)) ?_)))
  refine wq_p 1 [(28, V)] (wq_p 1 [(29, V)] (wq_p 1 [(30, V)] (wq_p 1 [(31, (D c))] ?_)))
  refine wV 32 (.bool true) (eqI (bV (decide (c ≥ 945))) (by simp; omega)) (wq_p 1 [(33, I)] (wq_p 1 [(34, (D c))] (wV 35 (.bool false) (eqI (bV (decide (c <= 961))) (by simp; omega)) ?_)))
  refine wq_p 1 [(36, V)] (wq_p 1 [(37, V)] (wq_p 1 [(38, V)] (wq_p 1 [(39, (D c))] ?_)))
  refine wV 40 (.bool false) (eqI (bV (decide (c ≥ 963))) (by simp; omega)) (wq_p 1 [(41, V)] (wq_p 1 [(42, undef)] (wq_p 1 [(43, undef)] ?_)))
  refine wq_p 1 [(44, V)] (wq_p 1 [(45, V)] (wq_p 1 [(46, V)] (wq_p 1 [(47, (D c))] ?_)))
  refine wV 48 (.bool false) (eqI (bV (decide (c ≥ 1072))) (by simp; omega)) (wq_p 1 [(49, V)] (wq_p 1 [(50, undef)] (wq_p 1 [(51, undef)] ?_)))
  refine wq_p 1 [(52, V)] (wq_p 1 [(53, V)] (wq_p 1 [(4, V)] ?_))
  refine wE hK3 (wp_ret ?_)
  refine post_1 rfl (by kernel_rfl) (rtm V) ?_
  exact ⟨by rw [show letterN c = false from by unfold letterN inR ltrL; simp; omega], h0.below0⟩
 ·
  refine reg_lit ?_
  refine wq_p 1 [(8, (D c))] (wV 9 (.bool true) (eqI (bV (decide (c ≥ 97))) (by simp; omega)) (wq_p 1 [(10, I)] (wq_p 1 [(11, (D c))] ?_)))
  refine wV 12 (.bool false) (eqI (bV (decide (c <= 122))) (by simp; omega)) (wq_p 1 [(13, V)] (wq_p 1 [(14, V)] (wq_p 1 [(15, (D c))] ?_)))
  refine wV 16 (.bool true) (eqI (bV (decide (c ≥ 224))) (by simp; omega)) (wq_p 1 [(17, I)] (wq_p 1 [(18, (D c))] (wV 19 (.bool false) (eqI (bV (decide (c <= 246))) (by simp; omega)) ?_)))
  refine wq_p 1 [(20, V)] (wq_p 1 [(21, V)] (wq_p 1 [(22, V)] (wq_p 1 [(23, (D c))] ?_)))
  refine wV 24 (.bool true) (eqI (bV (decide (c ≥ 248))) (by simp; omega)) (wq_p 1 [(25, I)] (wq_p 1 [(26, (D c))] (wV 27 (.bool false) (eqI (bV (decide (c <= 254))) (by simp; omega)) ?_)))
  refine wq_p 1 [(28, V)] (wq_p 1 [(29, V)] (wq_p 1 [(30, V)] (wq_p 1 [(31, (D c))] ?_)))
  refine wV 32 (.bool true) (eqI (bV (decide (c ≥ 945))) (by simp; omega)) (wq_p 1 [(33, I)] (wq_p 1 [(34, (D c))] (wV 35 (.bool false) (eqI (bV (decide (c <= 961))) (by simp; omega)) ?_)))
  refine wq_p 1 [(36, V)] (wq_p 1 [(37, V)] (wq_p 1 [(38, V)] (wq_p 1 [(39, (D c))] ?_)))
  refine wV 40 (.bool true) (eqI (bV (decide (c ≥ 963))) (by simp; omega)) (wq_p 1 [(41, I)] (wq_p 1 [(42, (D c))] (wV 43 (.bool true) (eqI (bV (decide (c <= 969))) (by simp; omega)) ?_)))
  refine wq_p 1 [(44, I)] (wq_p 1 [(45, I)] (wq_p 1 [(46, I)] (wq_p 1 [(47, undef)] ?_)))
  refine wq_p 1 [(48, undef)] (wq_p 1 [(49, undef)] (wq_p 1 [(50, undef)] (wq_p 1 [(51, undef)] ?_)))
  refine wq_p 1 [(52, undef)] (wq_p 1 [(53, I)] (wq_p 1 [(4, I)] ?_))
  refine wE hK3 (wp_ret ?_)
  refine post_1 rfl (by kernel_rfl) (rtm I) ?_
  exact ⟨by rw [show letterN c = true from by unfold letterN inR ltrL; simp; omega], h0.below0⟩
 ·
  refine reg_lit ?_
  refine wq_p 1 [(8, (D c))] (wV 9 (.bool true) (eqI (bV (decide (c ≥ 97))) (by simp; omega)) (wq_p 1 [(10, I)] (wq_p 1 [(11, (D c))] ?_)))
  refine wV 12 (.bool false) (eqI (bV (decide (c <= 122))) (by simp; omega)) (wq_p 1 [(13, V)] (wq_p 1 [(14, V)] (wq_p 1 [(15, (D c))] ?_)))
  refine wV 16 (.bool true) (eqI (bV (decide (c ≥ 224))) (by simp; omega)) (wq_p 1 [(17, I)] (wq_p 1 [(18, (D c))] (wV 19 (.bool false) (eqI (bV (decide (c <= 246))) (by simp; omega)) ?_)))
  refine wq_p 1 [(20, V)] (wq_p 1 [(21, V)] (wq_p 1 [(22, V)] (wq_p 1 [(23, (D c))] ?_)))
  refine wV 24 (.bool true) (eqI (bV (decide (c ≥ 248))) (by simp; omega)) (wq_p 1 [(25, I)] (wq_p 1 [(26, (D c))] (wV 27 (.bool false) (eqI (bV (decide (c <= 254))) (by simp; omega)) ?_)))
  refine wq_p 1 [(28, V)] (wq_p 1 [(29, V)] (wq_p 1 [(30, V)] (wq_p 1 [(31, (D c))] ?_)))
  refine wV 32 (.bool true) (eqI (bV (decide (c ≥ 945))) (by simp; omega)) (wq_p 1 [(33, I)] (wq_p 1 [(34, (D c))] (wV 35 (.bool false) (eqI (bV (decide (c <= 961))) (by simp; omega)) ?_)))
  refine wq_p 1 [(36, V)] (wq_p 1 [(37, V)] (wq_p 1 [(38, V)] (wq_p 1 [(39, (D c))] ?_)))
  refine wV 40 (.bool true) (eqI (bV (decide (c ≥ 963))) (by simp; omega)) (wq_p 1 [(41, I)] (wq_p 1 [(42, (D c))] (wV 43 (.bool false) (eqI (bV (decide (c <= 969))) (by simp; omega)) ?_)))
  refine wq_p 1 [(44, V)] (wq_p 1 [(45, V)] (wq_p 1 [(46, V)] (wq_p 1 [(47, (D c))] ?_)))
  refine wV 48 (.bool false) (eqI (bV (decide (c ≥ 1072))) (by simp; omega)) (wq_p 1 [(49, V)] (wq_p 1 [(50, undef)] (wq_p 1 [(51, undef)] ?_)))
  refine wq_p 1 [(52, V)] (wq_p 1 [(53, V)] (wq_p 1 [(4, V)] ?_))
  refine wE hK3 (wp_ret ?_)
  refine post_1 rfl (by kernel_rfl) (rtm V) ?_
  exact ⟨by rw [show letterN c = false from by unfold letterN inR ltrL; simp; omega], h0.below0⟩
 ·
  refine reg_lit ?_
  refine wq_p 1 [(8, (D c))] (wV 9 (.bool true) (eqI (bV (decide (c ≥ 97))) (by simp; omega)) (wq_p 1 [(10, I)] (wq_p 1 [(11, (D c))] ?_)))
  refine wV 12 (.bool false) (eqI (bV (decide (c <= 122))) (by simp; omega)) (wq_p 1 [(13, V)] (wq_p 1 [(14, V)] (wq_p 1 [(15, (D c))] ?_)))
  refine wV 16 (.bool true) (eqI (bV (decide (c ≥ 224))) (by simp; omega)) (wq_p 1 [(17, I)] (wq_p 1 [(18, (D c))] (wV 19 (.bool false) (eqI (bV (decide (c <= 246))) (by simp; omega)) ?_)))
  refine wq_p 1 [(20, V)] (wq_p 1 [(21, V)] (wq_p 1 [(22, V)] (wq_p 1 [(23, (D c))] ?_)))
  refine wV 24 (.bool true) (eqI (bV (decide (c ≥ 248))) (by simp; omega)) (wq_p 1 [(25, I)] (wq_p 1 [(26, (D c))] (wV 27 (.bool false) (eqI (bV (decide (c <= 254))) (by simp; omega)) ?_)))
  refine wq_p 1 [(28, V)] (wq_p 1 [(29, V)] (wq_p 1 [(30, V)] (wq_p 1 [(31, (D c))] ?_)))
  refine wV 32 (.bool true) (eqI (bV (decide (c ≥ 945))) (by simp; omega)) (wq_p 1 [(33, I)] (wq_p 1 [(34, (D c))] (wV 35 (.bool false) (eqI (bV (decide (c <= 961))) (by simp; omega)) ?_)))
  refine wq_p 1 [(36, V)] (wq_p 1 [(37, V)] (wq_p 1 [(38, V)] (wq_p 1 [(39, (D c))] ?_)))
  refine wV 40 (.bool true) (eqI (bV (decide (c ≥ 963))) (by simp; omega)) (wq_p 1 [(41, I)] (wq_p 1 [(42, (D c))] (wV 43 (.bool false) (eqI (bV (decide (c <= 969))) (by simp; omega)) ?_)))
  refine wq_p 1 [(44, V)] (wq_p 1 [(45, V)] (wq_p 1 [(46, V)] (wq_p 1 [(47, (D c))] ?_)))
  refine wV 48 (.bool true) (eqI (bV (decide (c ≥ 1072))) (by simp; omega)) (wq_p 1 [(49, I)] (wq_p 1 [(50, (D c))] (wV 51 (.bool true) (eqI (bV (decide (c <= 1103))) (by simp; omega)) ?_)))
  refine wq_p 1 [(52, I)] (wq_p 1 [(53, I)] (wq_p 1 [(4, I)] ?_))
  refine wE hK3 (wp_ret ?_)
  refine post_1 rfl (by kernel_rfl) (rtm I) ?_
  exact ⟨by rw [show letterN c = true from by unfold letterN inR ltrL; simp; omega], h0.below0⟩
 ·
  refine reg_lit ?_
  refine wq_p 1 [(8, (D c))] (wV 9 (.bool true) (eqI (bV (decide (c ≥ 97))) (by simp; omega)) (wq_p 1 [(10, I)] (wq_p 1 [(11, (D c))] ?_)))
  refine wV 12 (.bool false) (eqI (bV (decide (c <= 122))) (by simp; omega)) (wq_p 1 [(13, V)] (wq_p 1 [(14, V)] (wq_p 1 [(15, (D c))] ?_)))
  refine wV 16 (.bool true) (eqI (bV (decide (c ≥ 224))) (by simp; omega)) (wq_p 1 [(17, I)] (wq_p 1 [(18, (D c))] (wV 19 (.bool false) (eqI (bV (decide (c <= 246))) (by simp; omega)) ?_)))
  refine wq_p 1 [(20, V)] (wq_p 1 [(21, V)] (wq_p 1 [(22, V)] (wq_p 1 [(23, (D c))] ?_)))
  refine wV 24 (.bool true) (eqI (bV (decide (c ≥ 248))) (by simp; omega)) (wq_p 1 [(25, I)] (wq_p 1 [(26, (D c))] (wV 27 (.bool false) (eqI (bV (decide (c <= 254))) (by simp; omega)) ?_)))
  refine wq_p 1 [(28, V)] (wq_p 1 [(29, V)] (wq_p 1 [(30, V)] (wq_p 1 [(31, (D c))] ?_)))
  refine wV 32 (.bool true) (eqI (bV (decide (c ≥ 945))) (by simp; omega)) (wq_p 1 [(33, I)] (wq_p 1 [(34, (D c))] (wV 35 (.bool false) (eqI (bV (decide (c <= 961))) (by simp; omega)) ?_)))
  refine wq_p 1 [(36, V)] (wq_p 1 [(37, V)] (wq_p 1 [(38, V)] (wq_p 1 [(39, (D c))] ?_)))
  refine wV 40 (.bool true) (eqI (bV (decide (c ≥ 963))) (by simp; omega)) (wq_p 1 [(41, I)] (wq_p 1 [(42, (D c))] (wV 43 (.bool false) (eqI (bV (decide (c <= 969))) (by simp; omega)) ?_)))
  refine wq_p 1 [(44, V)] (wq_p 1 [(45, V)] (wq_p 1 [(46, V)] (wq_p 1 [(47, (D c))] ?_)))
  refine wV 48 (.bool true) (eqI (bV (decide (c ≥ 1072))) (by simp; omega)) (wq_p 1 [(49, I)] (wq_p 1 [(50, (D c))] (wV 51 (.bool false) (eqI (bV (decide (c <= 1103))) (by simp; omega)) ?_)))
  refine wq_p 1 [(52, V)] (wq_p 1 [(53, V)] (wq_p 1 [(4, V)] ?_))
  refine wE hK3 (wp_ret ?_)
  refine post_1 rfl (by kernel_rfl) (rtm V) ?_
  exact ⟨by rw [show letterN c = false from by unfold letterN inR ltrL; simp; omega], h0.below0⟩
theorem rune_1 (s : ByteArray) (hs0 : 0 < s.size) (hx : nb (gb s.data.toList 0) < 128) (w : World) : Calls Try.prog 44 #[.string s] w (RnPost w s.data.toList) := by
 have hb0 := nb_lt (gb s.data.toList 0)
 have hsl : s.data.toList.length = s.size := by simp
 have h0 := Hp.nil (fun _ => False) w
 refine enter 82 Try.func44 rfl rfl ?_
 refine wp_reset 83 [(0, (sV s))] (fun x0 => ?_)
 refine wR fun K1 hK1 => ?_
 refine wq_p 2 [(3, O), (2, O)] ?_
 refine wE hK1 (wR fun K2 hK2 => ?_)
 refine wq_p 1 [(9, (sV s))] (wV 10 (iV .u8 (ub (gb s.data.toList 0))) (e_sidx 9 (.tmp 9) (.const O) (by kernel_rfl) s .i64 0 (by kernel_rfl) (by kernel_rfl) (by kernel_rfl) (by omega) _) (wV 11 (D ((nb (gb s.data.toList 0) : Int))) (eqI (D (IntKind.i64.wrap (ub (gb s.data.toList 0)))) (i64_ubN _)) (wq_p 1 [(4, (D ((nb (gb s.data.toList 0) : Int))))] ?_)))
 refine wE hK2 (wp_seq_k fun K3 hK3 => wR fun K4 hK4 => ?_)
 refine wq_p 1 [(12, (D ((nb (gb s.data.toList 0) : Int))))] (wV 13 (.bool true) (eqI (bV (decide ((nb (gb s.data.toList 0) : Int) < 128))) (by simp; omega)) ?_)
 refine wE hK4 (cT (wR fun K5 hK5 => ?_))
 refine wq_p 3 [(3, (D 1)), (2, (D ((nb (gb s.data.toList 0) : Int)))), (14, (D ((nb (gb s.data.toList 0) : Int))))] ?_
 refine wE hK5 (wp_ret (seq_r ?_))
 refine post_2 rfl (by kernel_rfl) (rtm (D ((nb (gb s.data.toList 0) : Int)))) (rtm (D 1)) ?_
 exact ⟨_, _, rfl, rnp_1 hx, h0.below0⟩
theorem rune_2 (s : ByteArray) (hs0 : 0 < s.size) (hs : s.size <= 1000000000) (hx : 194 <= nb (gb s.data.toList 0) /\ nb (gb s.data.toList 0) <= 223) (w : World) : Calls Try.prog 44 #[.string s] w (RnPost w s.data.toList) := by
 have hb0 := nb_lt (gb s.data.toList 0)
 have hsl : s.data.toList.length = s.size := by simp
 have h0 := Hp.nil (fun _ => False) w
 refine enter 82 Try.func44 rfl rfl ?_
 refine wp_reset 83 [(0, (sV s))] (fun x0 => ?_)
 refine wR fun K1 hK1 => ?_
 refine wq_p 2 [(3, O), (2, O)] ?_
 refine wE hK1 (wR fun K2 hK2 => ?_)
 refine wq_p 1 [(9, (sV s))] (wV 10 (iV .u8 (ub (gb s.data.toList 0))) (e_sidx 9 (.tmp 9) (.const O) (by kernel_rfl) s .i64 0 (by kernel_rfl) (by kernel_rfl) (by kernel_rfl) (by omega) _) (wV 11 (D ((nb (gb s.data.toList 0) : Int))) (eqI (D (IntKind.i64.wrap (ub (gb s.data.toList 0)))) (i64_ubN _)) (wq_p 1 [(4, (D ((nb (gb s.data.toList 0) : Int))))] ?_)))
 refine wE hK2 (wp_seq_k fun K3 hK3 => wR fun K4 hK4 => ?_)
 refine wq_p 1 [(12, (D ((nb (gb s.data.toList 0) : Int))))] (wV 13 (.bool false) (eqI (bV (decide ((nb (gb s.data.toList 0) : Int) < 128))) (by simp; omega)) ?_)
 refine wE hK4 (cF (wp_skip (seq_n hK3 (wR fun K5 hK5 => ?_))))
 refine wq_p 1 [(5, O)] ?_
 refine wE hK5 (wR fun K6 hK6 => ?_)
 refine wq_p 1 [(6, O)] ?_
 refine wE hK6 (wp_seq_k fun K7 hK7 => wp_block (wR fun K8 hK8 => ?_))
 refine wq_p 1 [(16, (D ((nb (gb s.data.toList 0) : Int))))] (wV 17 (.bool true) (eqI (bV (decide ((nb (gb s.data.toList 0) : Int) ≥ 194))) (by simp; omega)) (wq_p 2 [(19, (D ((nb (gb s.data.toList 0) : Int)))), (18, I)] (wV 20 (.bool true) (eqI (bV (decide ((nb (gb s.data.toList 0) : Int) <= 223))) (by simp; omega)) ?_)))
 refine wq_p 2 [(15, I), (21, I)] ?_
 refine wE hK8 (cT (reg_lit ?_))
 refine wq_p 1 [(22, (D ((nb (gb s.data.toList 0) : Int))))] (wV 23 (D (((nb (gb s.data.toList 0) - 192 : Nat) : Int))) (exec_sub _ _ _ _ rfl ((nb (gb s.data.toList 0) : Int)) 192 (by kernel_rfl) (by kernel_rfl) (((nb (gb s.data.toList 0) - 192 : Nat) : Int)) (by omega) (by omega) (by omega) _) (wq_p 3 [(4, (D (((nb (gb s.data.toList 0) - 192 : Nat) : Int)))), (6, (D 128)), (5, (D 2))] ?_))
 refine wl_end rfl (blk_n (seq_n hK7 (wp_seq_k fun K9 hK9 => wp_seq_k fun K10 hK10 => ?_)))
 refine wp_reset 83 [(0, (sV s)), (2, O), (3, O), (4, (D (((nb (gb s.data.toList 0) - 192 : Nat) : Int)))), (5, (D 2)), (6, (D 128)), (13, V), (15, I)] (fun x11 => ?_)
 refine reg_lit ?_
 refine wq_p 4 [(45, (bV (decide (((s).size : Int) < 2)))), (44, (D 2)), (43, (D (((s).size : Int)))), (42, (sV s))] ?_
 refine wE hK10 ?_
 refine wp_if (((s).size : Int) < 2) (by kernel_rfl) (fun b12 => ?_) (fun b12 => ?_)
 ·
  refine wR fun K13 hK13 => ?_
  refine wq_p 2 [(3, (D 1)), (2, (D (-1)))] ?_
  refine wE hK13 (wp_ret (seq_r ?_))
  refine post_2 rfl (by kernel_rfl) (rtm (D (-1))) (rtm (D 1)) ?_
  exact ⟨_, _, rfl, rnp_no (by omega) (by omega) (by omega), h0.below0⟩
 ·
  refine wp_skip (seq_n hK9 (wp_seq_k fun K14 hK14 => wR fun K15 hK15 => ?_))
  refine wq_p 1 [(7, (D 1))] ?_
  refine wE hK15 (wp_block ?_)
  refine wp_loopm (fun mM xX aA wL => ∃ (k : Nat) (a : Nat), (1 <= k /\ k <= 2) /\ (k = 1 -> a = nb (gb s.data.toList 0) - 192) /\ (k = 2 -> a = (nb (gb s.data.toList 0) - 192) * 64 + (nb (gb s.data.toList 1) - 128) /\ 128 <= nb (gb s.data.toList 1) /\ nb (gb s.data.toList 1) <= 191) /\ mM = 2 - k /\ aA = patch xX 83 [(0, (sV s)), (4, (iV .i64 ((a : Int)))), (5, (iV .i64 2)), (6, (iV .i64 128)), (7, (iV .i64 ((k : Int)))), (13, (bV false)), (15, (bV true)), (45, (bV (decide (((s).size : Int) < 2))))] /\ Hp (fun _ => False) w wL [] []) ⟨_, 1, ((nb (gb s.data.toList 0) - 192)), (by omega), (fun _ => rfl), (fun h => absurd h (by decide)), rfl, (pEq 83), h0.sel [] [] (by kernel_rfl) rfl rfl⟩ ?_
  rintro _ x16 _ w16 ⟨k, a, hk, ha, ha2, rfl, rfl, h16⟩
  refine wp_seq_k fun K17 hK17 => wR fun K18 hK18 => ?_
  refine wq_p 3 [(48, (bV (decide ((k : Int) < 2)))), (47, (D 2)), (46, (D ((k : Int))))] ?_
  refine wE hK18 ?_
  refine wp_if ((k : Int) < 2) (by kernel_rfl) (fun b19 => ?_) (fun b19 => ?_)
  ·
   refine wp_skip (seq_n hK17 (wp_seq_k fun K20 hK20 => wp_block (wp_seq_k fun K21 hK21 => ?_)))
   have hkn : k < 2 := by omega
   have hku : k < s.size := by omega
   have hu := nb_lt (gb s.data.toList k)
   refine reg_lit ?_
   refine wq_p 2 [(52, (D ((k : Int)))), (51, (sV s))] (wV 53 (iV .u8 (ub (gb s.data.toList k))) (e_sidx 9 (.tmp 51) (.tmp 52) (by kernel_rfl) s .i64 k (by kernel_rfl) (by kernel_rfl) (by kernel_rfl) (by omega) _) (wV 54 (D ((nb (gb s.data.toList k) : Int))) (eqI (D (IntKind.i64.wrap (ub (gb s.data.toList k)))) (i64_ubN _)) (wq_p 1 [(8, (D ((nb (gb s.data.toList k) : Int))))] ?_)))
   refine wE hK21 (wp_seq_k fun K22 hK22 => wp_seq_k fun K23 hK23 => ?_)
   rcases (by omega : nb (gb s.data.toList k) < 128 ∨ (128 <= nb (gb s.data.toList k) /\ 191 < nb (gb s.data.toList k)) ∨ (128 <= nb (gb s.data.toList k) /\ nb (gb s.data.toList k) <= 191)) with hq | hq | hq
   ·
    refine reg_lit ?_
    refine wq_p 1 [(55, (D ((nb (gb s.data.toList k) : Int))))] (wV 56 (.bool true) (eqI (bV (decide ((nb (gb s.data.toList k) : Int) < 128))) (by simp; omega)) (wq_p 2 [(58, undef), (57, I)] (wq_p 1 [(59, undef)] ?_)))
    refine wq_p 1 [(60, I)] ?_
    refine wE hK23 (cT (wR fun K25 hK25 => ?_))
    refine wq_p 2 [(3, (D 1)), (2, (D (-1)))] ?_
    refine wE hK25 (wp_ret (seq_r (blk_r (seq_r (seq_r (blk_r (seq_r ?_)))))))
    refine post_2 rfl (by kernel_rfl) (rtm (D (-1))) (rtm (D 1)) ?_
    obtain rfl : k = 1 := by omega
    exact ⟨_, _, rfl, rnp_no (by omega) (by omega) (by omega), h16.below0⟩
   ·
    refine reg_lit ?_
    refine wq_p 1 [(55, (D ((nb (gb s.data.toList k) : Int))))] (wV 56 (.bool false) (eqI (bV (decide ((nb (gb s.data.toList k) : Int) < 128))) (by simp; omega)) (wq_p 2 [(58, (D ((nb (gb s.data.toList k) : Int)))), (57, V)] (wV 59 (.bool true) (eqI (bV (decide ((nb (gb s.data.toList k) : Int) > 191))) (by simp; omega)) ?_)))
    refine wq_p 1 [(60, I)] ?_
    refine wE hK23 (cT (wR fun K26 hK26 => ?_))
    refine wq_p 2 [(3, (D 1)), (2, (D (-1)))] ?_
    refine wE hK26 (wp_ret (seq_r (blk_r (seq_r (seq_r (blk_r (seq_r ?_)))))))
    refine post_2 rfl (by kernel_rfl) (rtm (D (-1))) (rtm (D 1)) ?_
    obtain rfl : k = 1 := by omega
    exact ⟨_, _, rfl, rnp_no (by omega) (by omega) (by omega), h16.below0⟩
   ·
    refine reg_lit ?_
    refine wq_p 1 [(55, (D ((nb (gb s.data.toList k) : Int))))] (wV 56 (.bool false) (eqI (bV (decide ((nb (gb s.data.toList k) : Int) < 128))) (by simp; omega)) (wq_p 2 [(58, (D ((nb (gb s.data.toList k) : Int)))), (57, V)] (wV 59 (.bool false) (eqI (bV (decide ((nb (gb s.data.toList k) : Int) > 191))) (by simp; omega)) ?_)))
    refine wq_p 1 [(60, V)] ?_
    refine wE hK23 (cF (wp_skip (seq_n hK22 ?_)))
    have hsmall : a <= 65535 := by omega
    obtain ⟨u, hu2⟩ : ∃ u, u = nb (gb s.data.toList k) := ⟨_, rfl⟩
    refine reg_lit ?_
    refine wq_p 1 [(61, (D ((a : Int))))] (wV 62 (D (((a * 64 : Nat) : Int))) (exec_mulM _ _ _ _ rfl a 64 (by kernel_rfl) (by kernel_rfl) (a * 64) rfl (by omega) _) (wq_p 1 [(63, (D ((nb (gb s.data.toList k) : Int))))] (wV 64 (D (((a * 64 + u : Nat) : Int))) (exec_add _ _ _ _ rfl (((a * 64 : Nat) : Int)) ((nb (gb s.data.toList k) : Int)) (by kernel_rfl) (by kernel_rfl) (((a * 64 + u : Nat) : Int)) (by omega) (by omega) (by omega) _) ?_)))
    refine wV 65 (D (((a * 64 + u - 128 : Nat) : Int))) (exec_sub _ _ _ _ rfl (((a * 64 + u : Nat) : Int)) 128 (by kernel_rfl) (by kernel_rfl) (((a * 64 + u - 128 : Nat) : Int)) (by omega) (by omega) (by omega) _) (wq_p 1 [(4, (D (((a * 64 + u - 128 : Nat) : Int))))] ?_)
    refine wl_end rfl (blk_n (seq_n hK20 (reg_lit ?_)))
    refine wq_p 1 [(49, (D ((k : Int))))] (wV 50 (D (((k + 1 : Nat) : Int))) (exec_add _ _ _ _ rfl ((k : Int)) 1 (by kernel_rfl) (by kernel_rfl) (((k + 1 : Nat) : Int)) (by omega) (by omega) (by omega) _) (wq_p 1 [(7, (D (((k + 1 : Nat) : Int))))] ?_))
    refine wl_end rfl ?_
    refine ⟨2 - (k + 1), (by omega), ((k + 1)), ((a * 64 + u - 128)), (by omega), (by omega), (by intro _; have e : k = 1 := (by omega); subst e; have := ha rfl; omega), rfl, (pEq 83), h16.sel [] [] (by kernel_rfl) rfl rfl⟩
  ·
   refine wp_exit (seq_e (seq_e (blk_e (seq_n hK14 (wp_seq_k fun K27 hK27 => wp_seq_k fun K28 hK28 => ?_)))))
   rcases (by omega : a < 128 ∨ (128 <= a /\ 1114111 < a) ∨ (128 <= a /\ a <= 1114111 /\ a < 55296) ∨ (128 <= a /\ a <= 1114111 /\ 55296 <= a /\ a <= 57343) ∨ (128 <= a /\ a <= 1114111 /\ 57343 < a)) with hz | hz | hz | hz | hz
   ·
    refine reg_lit ?_
    refine wq_p 2 [(67, (D 128)), (66, (D ((a : Int))))] (wV 68 (.bool true) (eqI (bV (decide ((a : Int) < 128))) (by simp; omega)) (wq_p 2 [(70, undef), (69, I)] (wq_p 1 [(71, undef)] ?_)))
    refine wq_p 3 [(74, undef), (73, I), (72, I)] (wq_p 1 [(75, undef)] (wq_p 2 [(77, undef), (76, undef)] (wq_p 1 [(78, undef)] ?_)))
    refine wq_p 2 [(80, I), (79, undef)] ?_
    refine wE hK28 (cT (wR fun K30 hK30 => ?_))
    refine wq_p 2 [(3, (D 1)), (2, (D (-1)))] ?_
    refine wE hK30 (wp_ret (seq_r ?_))
    refine post_2 rfl (by kernel_rfl) (rtm (D (-1))) (rtm (D 1)) ?_
    obtain rfl : k = 2 := by omega
    obtain ⟨h5, h6, h7⟩ := ha2 rfl
    exfalso
    omega
   ·
    refine reg_lit ?_
    refine wq_p 2 [(67, (D 128)), (66, (D ((a : Int))))] (wV 68 (.bool false) (eqI (bV (decide ((a : Int) < 128))) (by simp; omega)) (wq_p 2 [(70, (D ((a : Int)))), (69, V)] (wV 71 (.bool true) (eqI (bV (decide ((a : Int) > 1114111))) (by simp; omega)) ?_)))
    refine wq_p 3 [(74, undef), (73, I), (72, I)] (wq_p 1 [(75, undef)] (wq_p 2 [(77, undef), (76, undef)] (wq_p 1 [(78, undef)] ?_)))
    refine wq_p 2 [(80, I), (79, undef)] ?_
    refine wE hK28 (cT (wR fun K31 hK31 => ?_))
    refine wq_p 2 [(3, (D 1)), (2, (D (-1)))] ?_
    refine wE hK31 (wp_ret (seq_r ?_))
    refine post_2 rfl (by kernel_rfl) (rtm (D (-1))) (rtm (D 1)) ?_
    obtain rfl : k = 2 := by omega
    obtain ⟨h5, h6, h7⟩ := ha2 rfl
    exfalso
    omega
   ·
    refine reg_lit ?_
    refine wq_p 2 [(67, (D 128)), (66, (D ((a : Int))))] (wV 68 (.bool false) (eqI (bV (decide ((a : Int) < 128))) (by simp; omega)) (wq_p 2 [(70, (D ((a : Int)))), (69, V)] (wV 71 (.bool false) (eqI (bV (decide ((a : Int) > 1114111))) (by simp; omega)) ?_)))
    refine wq_p 3 [(74, (D ((a : Int)))), (73, V), (72, V)] (wV 75 (.bool false) (eqI (bV (decide ((a : Int) ≥ 55296))) (by simp; omega)) (wq_p 2 [(77, undef), (76, V)] (wq_p 1 [(78, undef)] ?_)))
    refine wq_p 2 [(80, V), (79, V)] ?_
    refine wE hK28 (cF (wp_skip (seq_n hK27 (wR fun K32 hK32 => ?_))))
    refine wq_p 4 [(3, (D 2)), (2, (D ((a : Int)))), (82, (D 2)), (81, (D ((a : Int))))] ?_
    refine wE hK32 (wp_ret ?_)
    refine post_2 rfl (by kernel_rfl) (rtm (D ((a : Int)))) (rtm (D 2)) ?_
    obtain rfl : k = 2 := by omega
    obtain ⟨h5, h6, h7⟩ := ha2 rfl
    exact ⟨_, _, rfl, rnp_2 ⟨by omega, by omega, by omega, h6, h7⟩ (by omega), h16.below0⟩
   ·
    refine reg_lit ?_
    refine wq_p 2 [(67, (D 128)), (66, (D ((a : Int))))] (wV 68 (.bool false) (eqI (bV (decide ((a : Int) < 128))) (by simp; omega)) (wq_p 2 [(70, (D ((a : Int)))), (69, V)] (wV 71 (.bool false) (eqI (bV (decide ((a : Int) > 1114111))) (by simp; omega)) ?_)))
    refine wq_p 3 [(74, (D ((a : Int)))), (73, V), (72, V)] (wV 75 (.bool true) (eqI (bV (decide ((a : Int) ≥ 55296))) (by simp; omega)) (wq_p 2 [(77, (D ((a : Int)))), (76, I)] (wV 78 (.bool true) (eqI (bV (decide ((a : Int) <= 57343))) (by simp; omega)) ?_)))
    refine wq_p 2 [(80, I), (79, I)] ?_
    refine wE hK28 (cT (wR fun K33 hK33 => ?_))
    refine wq_p 2 [(3, (D 1)), (2, (D (-1)))] ?_
    refine wE hK33 (wp_ret (seq_r ?_))
    refine post_2 rfl (by kernel_rfl) (rtm (D (-1))) (rtm (D 1)) ?_
    obtain rfl : k = 2 := by omega
    obtain ⟨h5, h6, h7⟩ := ha2 rfl
    exfalso
    omega
   ·
    refine reg_lit ?_
    refine wq_p 2 [(67, (D 128)), (66, (D ((a : Int))))] (wV 68 (.bool false) (eqI (bV (decide ((a : Int) < 128))) (by simp; omega)) (wq_p 2 [(70, (D ((a : Int)))), (69, V)] (wV 71 (.bool false) (eqI (bV (decide ((a : Int) > 1114111))) (by simp; omega)) ?_)))
    refine wq_p 3 [(74, (D ((a : Int)))), (73, V), (72, V)] (wV 75 (.bool true) (eqI (bV (decide ((a : Int) ≥ 55296))) (by simp; omega)) (wq_p 2 [(77, (D ((a : Int)))), (76, I)] (wV 78 (.bool false) (eqI (bV (decide ((a : Int) <= 57343))) (by simp; omega)) ?_)))
    refine wq_p 2 [(80, V), (79, V)] ?_
    refine wE hK28 (cF (wp_skip (seq_n hK27 (wR fun K34 hK34 => ?_))))
    refine wq_p 4 [(3, (D 2)), (2, (D ((a : Int)))), (82, (D 2)), (81, (D ((a : Int))))] ?_
    refine wE hK34 (wp_ret ?_)
    refine post_2 rfl (by kernel_rfl) (rtm (D ((a : Int)))) (rtm (D 2)) ?_
    obtain rfl : k = 2 := by omega
    obtain ⟨h5, h6, h7⟩ := ha2 rfl
    exact ⟨_, _, rfl, rnp_2 ⟨by omega, by omega, by omega, h6, h7⟩ (by omega), h16.below0⟩
theorem rune_3 (s : ByteArray) (hs0 : 0 < s.size) (hs : s.size <= 1000000000) (hx : 224 <= nb (gb s.data.toList 0) /\ nb (gb s.data.toList 0) <= 239) (w : World) : Calls Try.prog 44 #[.string s] w (RnPost w s.data.toList) := by
 have hb0 := nb_lt (gb s.data.toList 0)
 have hsl : s.data.toList.length = s.size := by simp
 have h0 := Hp.nil (fun _ => False) w
 refine enter 82 Try.func44 rfl rfl ?_
 refine wp_reset 83 [(0, (sV s))] (fun x0 => ?_)
 refine wR fun K1 hK1 => ?_
 refine wq_p 2 [(3, O), (2, O)] ?_
 refine wE hK1 (wR fun K2 hK2 => ?_)
 refine wq_p 1 [(9, (sV s))] (wV 10 (iV .u8 (ub (gb s.data.toList 0))) (e_sidx 9 (.tmp 9) (.const O) (by kernel_rfl) s .i64 0 (by kernel_rfl) (by kernel_rfl) (by kernel_rfl) (by omega) _) (wV 11 (D ((nb (gb s.data.toList 0) : Int))) (eqI (D (IntKind.i64.wrap (ub (gb s.data.toList 0)))) (i64_ubN _)) (wq_p 1 [(4, (D ((nb (gb s.data.toList 0) : Int))))] ?_)))
 refine wE hK2 (wp_seq_k fun K3 hK3 => wR fun K4 hK4 => ?_)
 refine wq_p 1 [(12, (D ((nb (gb s.data.toList 0) : Int))))] (wV 13 (.bool false) (eqI (bV (decide ((nb (gb s.data.toList 0) : Int) < 128))) (by simp; omega)) ?_)
 refine wE hK4 (cF (wp_skip (seq_n hK3 (wR fun K5 hK5 => ?_))))
 refine wq_p 1 [(5, O)] ?_
 refine wE hK5 (wR fun K6 hK6 => ?_)
 refine wq_p 1 [(6, O)] ?_
 refine wE hK6 (wp_seq_k fun K7 hK7 => wp_block (wR fun K8 hK8 => ?_))
 refine wq_p 1 [(16, (D ((nb (gb s.data.toList 0) : Int))))] (wV 17 (.bool true) (eqI (bV (decide ((nb (gb s.data.toList 0) : Int) ≥ 194))) (by simp; omega)) (wq_p 2 [(19, (D ((nb (gb s.data.toList 0) : Int)))), (18, I)] (wV 20 (.bool false) (eqI (bV (decide ((nb (gb s.data.toList 0) : Int) <= 223))) (by simp; omega)) ?_)))
 refine wq_p 2 [(15, V), (21, V)] ?_
 refine wE hK8 (cF (wR fun K9 hK9 => ?_))
 refine wq_p 1 [(25, (D ((nb (gb s.data.toList 0) : Int))))] (wV 26 (.bool true) (eqI (bV (decide ((nb (gb s.data.toList 0) : Int) ≥ 224))) (by simp; omega)) (wq_p 2 [(28, (D ((nb (gb s.data.toList 0) : Int)))), (27, I)] (wV 29 (.bool true) (eqI (bV (decide ((nb (gb s.data.toList 0) : Int) <= 239))) (by simp; omega)) ?_)))
 refine wq_p 2 [(24, I), (30, I)] ?_
 refine wE hK9 (cT ?_)
 refine wp_reset 83 [(0, (sV s)), (2, O), (3, O), (4, (D ((nb (gb s.data.toList 0) : Int)))), (5, O), (6, O), (13, V), (15, V), (24, I)] (fun x10 => ?_)
 refine reg_lit ?_
 refine wq_p 1 [(31, (D ((nb (gb s.data.toList 0) : Int))))] (wV 32 (D (((nb (gb s.data.toList 0) - 224 : Nat) : Int))) (exec_sub _ _ _ _ rfl ((nb (gb s.data.toList 0) : Int)) 224 (by kernel_rfl) (by kernel_rfl) (((nb (gb s.data.toList 0) - 224 : Nat) : Int)) (by omega) (by omega) (by omega) _) (wq_p 3 [(4, (D (((nb (gb s.data.toList 0) - 224 : Nat) : Int)))), (6, (D 2048)), (5, (D 3))] ?_))
 refine wl_end rfl (blk_n (seq_n hK7 (wp_seq_k fun K11 hK11 => wR fun K12 hK12 => ?_)))
 refine wq_p 4 [(45, (bV (decide (((s).size : Int) < 3)))), (44, (D 3)), (43, (D (((s).size : Int)))), (42, (sV s))] ?_
 refine wE hK12 ?_
 refine wp_if (((s).size : Int) < 3) (by kernel_rfl) (fun b13 => ?_) (fun b13 => ?_)
 ·
  refine wR fun K14 hK14 => ?_
  refine wq_p 2 [(3, (D 1)), (2, (D (-1)))] ?_
  refine wE hK14 (wp_ret (seq_r ?_))
  refine post_2 rfl (by kernel_rfl) (rtm (D (-1))) (rtm (D 1)) ?_
  exact ⟨_, _, rfl, rnp_no (by omega) (by omega) (by omega), h0.below0⟩
 ·
  refine wp_skip (seq_n hK11 (wp_seq_k fun K15 hK15 => wR fun K16 hK16 => ?_))
  refine wq_p 1 [(7, (D 1))] ?_
  refine wE hK16 (wp_block ?_)
  refine wp_loopm (fun mM xX aA wL => ∃ (k : Nat) (a : Nat), (1 <= k /\ k <= 3) /\ ((k = 1 -> a <= 15) /\ (k = 2 -> a <= 1023) /\ (k = 3 -> a <= 65535) /\ a <= 4194303) /\ mM = 3 - k /\ aA = patch xX 83 [(0, (sV s)), (4, (iV .i64 ((a : Int)))), (5, (iV .i64 3)), (6, (iV .i64 2048)), (7, (iV .i64 ((k : Int)))), (13, (bV false)), (15, (bV false)), (24, (bV true)), (45, (bV (decide (((s).size : Int) < 3))))] /\ Hp (fun _ => False) w wL [] []) ⟨_, 1, ((nb (gb s.data.toList 0) - 224)), (by omega), (by omega), rfl, (pEq 83), h0.sel [] [] (by kernel_rfl) rfl rfl⟩ ?_
  rintro _ x17 _ w17 ⟨k, a, hk, ha, rfl, rfl, h17⟩
  refine wp_seq_k fun K18 hK18 => wR fun K19 hK19 => ?_
  refine wq_p 3 [(48, (bV (decide ((k : Int) < 3)))), (47, (D 3)), (46, (D ((k : Int))))] ?_
  refine wE hK19 ?_
  refine wp_if ((k : Int) < 3) (by kernel_rfl) (fun b20 => ?_) (fun b20 => ?_)
  ·
   refine wp_skip (seq_n hK18 (wp_seq_k fun K21 hK21 => wp_block (wp_seq_k fun K22 hK22 => ?_)))
   have hkn : k < 3 := by omega
   have hku : k < s.size := by omega
   have hu := nb_lt (gb s.data.toList k)
   refine reg_lit ?_
   refine wq_p 2 [(52, (D ((k : Int)))), (51, (sV s))] (wV 53 (iV .u8 (ub (gb s.data.toList k))) (e_sidx 9 (.tmp 51) (.tmp 52) (by kernel_rfl) s .i64 k (by kernel_rfl) (by kernel_rfl) (by kernel_rfl) (by omega) _) (wV 54 (D ((nb (gb s.data.toList k) : Int))) (eqI (D (IntKind.i64.wrap (ub (gb s.data.toList k)))) (i64_ubN _)) (wq_p 1 [(8, (D ((nb (gb s.data.toList k) : Int))))] ?_)))
   refine wE hK22 (wp_seq_k fun K23 hK23 => wp_seq_k fun K24 hK24 => ?_)
   rcases (by omega : nb (gb s.data.toList k) < 128 ∨ (128 <= nb (gb s.data.toList k) /\ 191 < nb (gb s.data.toList k)) ∨ (128 <= nb (gb s.data.toList k) /\ nb (gb s.data.toList k) <= 191)) with hq | hq | hq
   ·
    refine reg_lit ?_
    refine wq_p 1 [(55, (D ((nb (gb s.data.toList k) : Int))))] (wV 56 (.bool true) (eqI (bV (decide ((nb (gb s.data.toList k) : Int) < 128))) (by simp; omega)) (wq_p 2 [(58, undef), (57, I)] (wq_p 1 [(59, undef)] ?_)))
    refine wq_p 1 [(60, I)] ?_
    refine wE hK24 (cT (wR fun K26 hK26 => ?_))
    refine wq_p 2 [(3, (D 1)), (2, (D (-1)))] ?_
    refine wE hK26 (wp_ret (seq_r (blk_r (seq_r (seq_r (blk_r (seq_r ?_)))))))
    refine post_2 rfl (by kernel_rfl) (rtm (D (-1))) (rtm (D 1)) ?_
    exact ⟨_, _, rfl, rnp_no (by omega) (by omega) (by omega), h17.below0⟩
   ·
    refine reg_lit ?_
    refine wq_p 1 [(55, (D ((nb (gb s.data.toList k) : Int))))] (wV 56 (.bool false) (eqI (bV (decide ((nb (gb s.data.toList k) : Int) < 128))) (by simp; omega)) (wq_p 2 [(58, (D ((nb (gb s.data.toList k) : Int)))), (57, V)] (wV 59 (.bool true) (eqI (bV (decide ((nb (gb s.data.toList k) : Int) > 191))) (by simp; omega)) ?_)))
    refine wq_p 1 [(60, I)] ?_
    refine wE hK24 (cT (wR fun K27 hK27 => ?_))
    refine wq_p 2 [(3, (D 1)), (2, (D (-1)))] ?_
    refine wE hK27 (wp_ret (seq_r (blk_r (seq_r (seq_r (blk_r (seq_r ?_)))))))
    refine post_2 rfl (by kernel_rfl) (rtm (D (-1))) (rtm (D 1)) ?_
    exact ⟨_, _, rfl, rnp_no (by omega) (by omega) (by omega), h17.below0⟩
   ·
    refine reg_lit ?_
    refine wq_p 1 [(55, (D ((nb (gb s.data.toList k) : Int))))] (wV 56 (.bool false) (eqI (bV (decide ((nb (gb s.data.toList k) : Int) < 128))) (by simp; omega)) (wq_p 2 [(58, (D ((nb (gb s.data.toList k) : Int)))), (57, V)] (wV 59 (.bool false) (eqI (bV (decide ((nb (gb s.data.toList k) : Int) > 191))) (by simp; omega)) ?_)))
    refine wq_p 1 [(60, V)] ?_
    refine wE hK24 (cF (wp_skip (seq_n hK23 ?_)))
    have hsmall : a <= 65535 := by omega
    obtain ⟨u, hu2⟩ : ∃ u, u = nb (gb s.data.toList k) := ⟨_, rfl⟩
    refine reg_lit ?_
    refine wq_p 1 [(61, (D ((a : Int))))] (wV 62 (D (((a * 64 : Nat) : Int))) (exec_mulM _ _ _ _ rfl a 64 (by kernel_rfl) (by kernel_rfl) (a * 64) rfl (by omega) _) (wq_p 1 [(63, (D ((nb (gb s.data.toList k) : Int))))] (wV 64 (D (((a * 64 + u : Nat) : Int))) (exec_add _ _ _ _ rfl (((a * 64 : Nat) : Int)) ((nb (gb s.data.toList k) : Int)) (by kernel_rfl) (by kernel_rfl) (((a * 64 + u : Nat) : Int)) (by omega) (by omega) (by omega) _) ?_)))
    refine wV 65 (D (((a * 64 + u - 128 : Nat) : Int))) (exec_sub _ _ _ _ rfl (((a * 64 + u : Nat) : Int)) 128 (by kernel_rfl) (by kernel_rfl) (((a * 64 + u - 128 : Nat) : Int)) (by omega) (by omega) (by omega) _) (wq_p 1 [(4, (D (((a * 64 + u - 128 : Nat) : Int))))] ?_)
    refine wl_end rfl (blk_n (seq_n hK21 (reg_lit ?_)))
    refine wq_p 1 [(49, (D ((k : Int))))] (wV 50 (D (((k + 1 : Nat) : Int))) (exec_add _ _ _ _ rfl ((k : Int)) 1 (by kernel_rfl) (by kernel_rfl) (((k + 1 : Nat) : Int)) (by omega) (by omega) (by omega) _) (wq_p 1 [(7, (D (((k + 1 : Nat) : Int))))] ?_))
    refine wl_end rfl ?_
    refine ⟨3 - (k + 1), (by omega), ((k + 1)), ((a * 64 + u - 128)), (by omega), (by omega), rfl, (pEq 83), h17.sel [] [] (by kernel_rfl) rfl rfl⟩
  ·
   refine wp_exit (seq_e (seq_e (blk_e (seq_n hK15 (wp_seq_k fun K28 hK28 => wp_seq_k fun K29 hK29 => ?_)))))
   rcases (by omega : a < 2048 ∨ (2048 <= a /\ 1114111 < a) ∨ (2048 <= a /\ a <= 1114111 /\ a < 55296) ∨ (2048 <= a /\ a <= 1114111 /\ 55296 <= a /\ a <= 57343) ∨ (2048 <= a /\ a <= 1114111 /\ 57343 < a)) with hz | hz | hz | hz | hz
   ·
    refine reg_lit ?_
    refine wq_p 2 [(67, (D 2048)), (66, (D ((a : Int))))] (wV 68 (.bool true) (eqI (bV (decide ((a : Int) < 2048))) (by simp; omega)) (wq_p 2 [(70, undef), (69, I)] (wq_p 1 [(71, undef)] ?_)))
    refine wq_p 3 [(74, undef), (73, I), (72, I)] (wq_p 1 [(75, undef)] (wq_p 2 [(77, undef), (76, undef)] (wq_p 1 [(78, undef)] ?_)))
    refine wq_p 2 [(80, I), (79, undef)] ?_
    refine wE hK29 (cT (wR fun K31 hK31 => ?_))
    refine wq_p 2 [(3, (D 1)), (2, (D (-1)))] ?_
    refine wE hK31 (wp_ret (seq_r ?_))
    refine post_2 rfl (by kernel_rfl) (rtm (D (-1))) (rtm (D 1)) ?_
    exact ⟨_, _, rfl, rnp_no (by omega) (by omega) (by omega), h17.below0⟩
   ·
    refine reg_lit ?_
    refine wq_p 2 [(67, (D 2048)), (66, (D ((a : Int))))] (wV 68 (.bool false) (eqI (bV (decide ((a : Int) < 2048))) (by simp; omega)) (wq_p 2 [(70, (D ((a : Int)))), (69, V)] (wV 71 (.bool true) (eqI (bV (decide ((a : Int) > 1114111))) (by simp; omega)) ?_)))
    refine wq_p 3 [(74, undef), (73, I), (72, I)] (wq_p 1 [(75, undef)] (wq_p 2 [(77, undef), (76, undef)] (wq_p 1 [(78, undef)] ?_)))
    refine wq_p 2 [(80, I), (79, undef)] ?_
    refine wE hK29 (cT (wR fun K32 hK32 => ?_))
    refine wq_p 2 [(3, (D 1)), (2, (D (-1)))] ?_
    refine wE hK32 (wp_ret (seq_r ?_))
    refine post_2 rfl (by kernel_rfl) (rtm (D (-1))) (rtm (D 1)) ?_
    exact ⟨_, _, rfl, rnp_no (by omega) (by omega) (by omega), h17.below0⟩
   ·
    refine reg_lit ?_
    refine wq_p 2 [(67, (D 2048)), (66, (D ((a : Int))))] (wV 68 (.bool false) (eqI (bV (decide ((a : Int) < 2048))) (by simp; omega)) (wq_p 2 [(70, (D ((a : Int)))), (69, V)] (wV 71 (.bool false) (eqI (bV (decide ((a : Int) > 1114111))) (by simp; omega)) ?_)))
    refine wq_p 3 [(74, (D ((a : Int)))), (73, V), (72, V)] (wV 75 (.bool false) (eqI (bV (decide ((a : Int) ≥ 55296))) (by simp; omega)) (wq_p 2 [(77, undef), (76, V)] (wq_p 1 [(78, undef)] ?_)))
    refine wq_p 2 [(80, V), (79, V)] ?_
    refine wE hK29 (cF (wp_skip (seq_n hK28 (wR fun K33 hK33 => ?_))))
    refine wq_p 4 [(3, (D 3)), (2, (D ((a : Int)))), (82, (D 3)), (81, (D ((a : Int))))] ?_
    refine wE hK33 (wp_ret ?_)
    refine post_2 rfl (by kernel_rfl) (rtm (D ((a : Int)))) (rtm (D 3)) ?_
    exact ⟨_, _, rfl, rnp_no (by omega) (by omega) (by omega), h17.below0⟩
   ·
    refine reg_lit ?_
    refine wq_p 2 [(67, (D 2048)), (66, (D ((a : Int))))] (wV 68 (.bool false) (eqI (bV (decide ((a : Int) < 2048))) (by simp; omega)) (wq_p 2 [(70, (D ((a : Int)))), (69, V)] (wV 71 (.bool false) (eqI (bV (decide ((a : Int) > 1114111))) (by simp; omega)) ?_)))
    refine wq_p 3 [(74, (D ((a : Int)))), (73, V), (72, V)] (wV 75 (.bool true) (eqI (bV (decide ((a : Int) ≥ 55296))) (by simp; omega)) (wq_p 2 [(77, (D ((a : Int)))), (76, I)] (wV 78 (.bool true) (eqI (bV (decide ((a : Int) <= 57343))) (by simp; omega)) ?_)))
    refine wq_p 2 [(80, I), (79, I)] ?_
    refine wE hK29 (cT (wR fun K34 hK34 => ?_))
    refine wq_p 2 [(3, (D 1)), (2, (D (-1)))] ?_
    refine wE hK34 (wp_ret (seq_r ?_))
    refine post_2 rfl (by kernel_rfl) (rtm (D (-1))) (rtm (D 1)) ?_
    exact ⟨_, _, rfl, rnp_no (by omega) (by omega) (by omega), h17.below0⟩
   ·
    refine reg_lit ?_
    refine wq_p 2 [(67, (D 2048)), (66, (D ((a : Int))))] (wV 68 (.bool false) (eqI (bV (decide ((a : Int) < 2048))) (by simp; omega)) (wq_p 2 [(70, (D ((a : Int)))), (69, V)] (wV 71 (.bool false) (eqI (bV (decide ((a : Int) > 1114111))) (by simp; omega)) ?_)))
    refine wq_p 3 [(74, (D ((a : Int)))), (73, V), (72, V)] (wV 75 (.bool true) (eqI (bV (decide ((a : Int) ≥ 55296))) (by simp; omega)) (wq_p 2 [(77, (D ((a : Int)))), (76, I)] (wV 78 (.bool false) (eqI (bV (decide ((a : Int) <= 57343))) (by simp; omega)) ?_)))
    refine wq_p 2 [(80, V), (79, V)] ?_
    refine wE hK29 (cF (wp_skip (seq_n hK28 (wR fun K35 hK35 => ?_))))
    refine wq_p 4 [(3, (D 3)), (2, (D ((a : Int)))), (82, (D 3)), (81, (D ((a : Int))))] ?_
    refine wE hK35 (wp_ret ?_)
    refine post_2 rfl (by kernel_rfl) (rtm (D ((a : Int)))) (rtm (D 3)) ?_
    exact ⟨_, _, rfl, rnp_no (by omega) (by omega) (by omega), h17.below0⟩
theorem rune_4 (s : ByteArray) (hs0 : 0 < s.size) (hs : s.size <= 1000000000) (hx : 240 <= nb (gb s.data.toList 0) /\ nb (gb s.data.toList 0) <= 244) (w : World) : Calls Try.prog 44 #[.string s] w (RnPost w s.data.toList) := by
 have hb0 := nb_lt (gb s.data.toList 0)
 have hsl : s.data.toList.length = s.size := by simp
 have h0 := Hp.nil (fun _ => False) w
 refine enter 82 Try.func44 rfl rfl ?_
 refine wp_reset 83 [(0, (sV s))] (fun x0 => ?_)
 refine wR fun K1 hK1 => ?_
 refine wq_p 2 [(3, O), (2, O)] ?_
 refine wE hK1 (wR fun K2 hK2 => ?_)
 refine wq_p 1 [(9, (sV s))] (wV 10 (iV .u8 (ub (gb s.data.toList 0))) (e_sidx 9 (.tmp 9) (.const O) (by kernel_rfl) s .i64 0 (by kernel_rfl) (by kernel_rfl) (by kernel_rfl) (by omega) _) (wV 11 (D ((nb (gb s.data.toList 0) : Int))) (eqI (D (IntKind.i64.wrap (ub (gb s.data.toList 0)))) (i64_ubN _)) (wq_p 1 [(4, (D ((nb (gb s.data.toList 0) : Int))))] ?_)))
 refine wE hK2 (wp_seq_k fun K3 hK3 => wR fun K4 hK4 => ?_)
 refine wq_p 1 [(12, (D ((nb (gb s.data.toList 0) : Int))))] (wV 13 (.bool false) (eqI (bV (decide ((nb (gb s.data.toList 0) : Int) < 128))) (by simp; omega)) ?_)
 refine wE hK4 (cF (wp_skip (seq_n hK3 (wR fun K5 hK5 => ?_))))
 refine wq_p 1 [(5, O)] ?_
 refine wE hK5 (wR fun K6 hK6 => ?_)
 refine wq_p 1 [(6, O)] ?_
 refine wE hK6 (wp_seq_k fun K7 hK7 => wp_block (wR fun K8 hK8 => ?_))
 refine wq_p 1 [(16, (D ((nb (gb s.data.toList 0) : Int))))] (wV 17 (.bool true) (eqI (bV (decide ((nb (gb s.data.toList 0) : Int) ≥ 194))) (by simp; omega)) (wq_p 2 [(19, (D ((nb (gb s.data.toList 0) : Int)))), (18, I)] (wV 20 (.bool false) (eqI (bV (decide ((nb (gb s.data.toList 0) : Int) <= 223))) (by simp; omega)) ?_)))
 refine wq_p 2 [(15, V), (21, V)] ?_
 refine wE hK8 (cF (wR fun K9 hK9 => ?_))
 refine wq_p 1 [(25, (D ((nb (gb s.data.toList 0) : Int))))] (wV 26 (.bool true) (eqI (bV (decide ((nb (gb s.data.toList 0) : Int) ≥ 224))) (by simp; omega)) (wq_p 2 [(28, (D ((nb (gb s.data.toList 0) : Int)))), (27, I)] (wV 29 (.bool false) (eqI (bV (decide ((nb (gb s.data.toList 0) : Int) <= 239))) (by simp; omega)) ?_)))
 refine wq_p 2 [(24, V), (30, V)] ?_
 refine wE hK9 (cF (wp_seq_k fun K10 hK10 => ?_))
 refine wp_reset 83 [(0, (sV s)), (2, O), (3, O), (4, (D ((nb (gb s.data.toList 0) : Int)))), (5, O), (6, O), (13, V), (15, V), (24, V)] (fun x11 => ?_)
 refine reg_lit ?_
 refine wq_p 1 [(34, (D ((nb (gb s.data.toList 0) : Int))))] (wV 35 (.bool true) (eqI (bV (decide ((nb (gb s.data.toList 0) : Int) ≥ 240))) (by simp; omega)) (wq_p 2 [(37, (D ((nb (gb s.data.toList 0) : Int)))), (36, I)] (wV 38 (.bool true) (eqI (bV (decide ((nb (gb s.data.toList 0) : Int) <= 244))) (by simp; omega)) ?_)))
 refine wq_p 2 [(33, I), (39, I)] ?_
 refine wE hK10 (cT (reg_lit ?_))
 refine wq_p 1 [(40, (D ((nb (gb s.data.toList 0) : Int))))] (wV 41 (D (((nb (gb s.data.toList 0) - 240 : Nat) : Int))) (exec_sub _ _ _ _ rfl ((nb (gb s.data.toList 0) : Int)) 240 (by kernel_rfl) (by kernel_rfl) (((nb (gb s.data.toList 0) - 240 : Nat) : Int)) (by omega) (by omega) (by omega) _) (wq_p 3 [(4, (D (((nb (gb s.data.toList 0) - 240 : Nat) : Int)))), (6, (D 65536)), (5, (D 4))] ?_))
 refine wl_end rfl (blk_n (seq_n hK7 (wp_seq_k fun K12 hK12 => wR fun K13 hK13 => ?_)))
 refine wq_p 4 [(45, (bV (decide (((s).size : Int) < 4)))), (44, (D 4)), (43, (D (((s).size : Int)))), (42, (sV s))] ?_
 refine wE hK13 ?_
 refine wp_if (((s).size : Int) < 4) (by kernel_rfl) (fun b14 => ?_) (fun b14 => ?_)
 ·
  refine wR fun K15 hK15 => ?_
  refine wq_p 2 [(3, (D 1)), (2, (D (-1)))] ?_
  refine wE hK15 (wp_ret (seq_r ?_))
  refine post_2 rfl (by kernel_rfl) (rtm (D (-1))) (rtm (D 1)) ?_
  exact ⟨_, _, rfl, rnp_no (by omega) (by omega) (by omega), h0.below0⟩
 ·
  refine wp_skip (seq_n hK12 (wp_seq_k fun K16 hK16 => wR fun K17 hK17 => ?_))
  refine wq_p 1 [(7, (D 1))] ?_
  refine wE hK17 (wp_block ?_)
  refine wp_loopm (fun mM xX aA wL => ∃ (k : Nat) (a : Nat), (1 <= k /\ k <= 4) /\ ((k = 1 -> a <= 15) /\ (k = 2 -> a <= 1023) /\ (k = 3 -> a <= 65535) /\ a <= 4194303) /\ mM = 4 - k /\ aA = patch xX 83 [(0, (sV s)), (4, (iV .i64 ((a : Int)))), (5, (iV .i64 4)), (6, (iV .i64 65536)), (7, (iV .i64 ((k : Int)))), (13, (bV false)), (15, (bV false)), (24, (bV false)), (33, (bV true)), (45, (bV (decide (((s).size : Int) < 4))))] /\ Hp (fun _ => False) w wL [] []) ⟨_, 1, ((nb (gb s.data.toList 0) - 240)), (by omega), (by omega), rfl, (pEq 83), h0.sel [] [] (by kernel_rfl) rfl rfl⟩ ?_
  rintro _ x18 _ w18 ⟨k, a, hk, ha, rfl, rfl, h18⟩
  refine wp_seq_k fun K19 hK19 => wR fun K20 hK20 => ?_
  refine wq_p 3 [(48, (bV (decide ((k : Int) < 4)))), (47, (D 4)), (46, (D ((k : Int))))] ?_
  refine wE hK20 ?_
  refine wp_if ((k : Int) < 4) (by kernel_rfl) (fun b21 => ?_) (fun b21 => ?_)
  ·
   refine wp_skip (seq_n hK19 (wp_seq_k fun K22 hK22 => wp_block (wp_seq_k fun K23 hK23 => ?_)))
   have hkn : k < 4 := by omega
   have hku : k < s.size := by omega
   have hu := nb_lt (gb s.data.toList k)
   refine reg_lit ?_
   refine wq_p 2 [(52, (D ((k : Int)))), (51, (sV s))] (wV 53 (iV .u8 (ub (gb s.data.toList k))) (e_sidx 9 (.tmp 51) (.tmp 52) (by kernel_rfl) s .i64 k (by kernel_rfl) (by kernel_rfl) (by kernel_rfl) (by omega) _) (wV 54 (D ((nb (gb s.data.toList k) : Int))) (eqI (D (IntKind.i64.wrap (ub (gb s.data.toList k)))) (i64_ubN _)) (wq_p 1 [(8, (D ((nb (gb s.data.toList k) : Int))))] ?_)))
   refine wE hK23 (wp_seq_k fun K24 hK24 => wp_seq_k fun K25 hK25 => ?_)
   rcases (by omega : nb (gb s.data.toList k) < 128 ∨ (128 <= nb (gb s.data.toList k) /\ 191 < nb (gb s.data.toList k)) ∨ (128 <= nb (gb s.data.toList k) /\ nb (gb s.data.toList k) <= 191)) with hq | hq | hq
   ·
    refine reg_lit ?_
    refine wq_p 1 [(55, (D ((nb (gb s.data.toList k) : Int))))] (wV 56 (.bool true) (eqI (bV (decide ((nb (gb s.data.toList k) : Int) < 128))) (by simp; omega)) (wq_p 2 [(58, undef), (57, I)] (wq_p 1 [(59, undef)] ?_)))
    refine wq_p 1 [(60, I)] ?_
    refine wE hK25 (cT (wR fun K27 hK27 => ?_))
    refine wq_p 2 [(3, (D 1)), (2, (D (-1)))] ?_
    refine wE hK27 (wp_ret (seq_r (blk_r (seq_r (seq_r (blk_r (seq_r ?_)))))))
    refine post_2 rfl (by kernel_rfl) (rtm (D (-1))) (rtm (D 1)) ?_
    exact ⟨_, _, rfl, rnp_no (by omega) (by omega) (by omega), h18.below0⟩
   ·
    refine reg_lit ?_
    refine wq_p 1 [(55, (D ((nb (gb s.data.toList k) : Int))))] (wV 56 (.bool false) (eqI (bV (decide ((nb (gb s.data.toList k) : Int) < 128))) (by simp; omega)) (wq_p 2 [(58, (D ((nb (gb s.data.toList k) : Int)))), (57, V)] (wV 59 (.bool true) (eqI (bV (decide ((nb (gb s.data.toList k) : Int) > 191))) (by simp; omega)) ?_)))
    refine wq_p 1 [(60, I)] ?_
    refine wE hK25 (cT (wR fun K28 hK28 => ?_))
    refine wq_p 2 [(3, (D 1)), (2, (D (-1)))] ?_
    refine wE hK28 (wp_ret (seq_r (blk_r (seq_r (seq_r (blk_r (seq_r ?_)))))))
    refine post_2 rfl (by kernel_rfl) (rtm (D (-1))) (rtm (D 1)) ?_
    exact ⟨_, _, rfl, rnp_no (by omega) (by omega) (by omega), h18.below0⟩
   ·
    refine reg_lit ?_
    refine wq_p 1 [(55, (D ((nb (gb s.data.toList k) : Int))))] (wV 56 (.bool false) (eqI (bV (decide ((nb (gb s.data.toList k) : Int) < 128))) (by simp; omega)) (wq_p 2 [(58, (D ((nb (gb s.data.toList k) : Int)))), (57, V)] (wV 59 (.bool false) (eqI (bV (decide ((nb (gb s.data.toList k) : Int) > 191))) (by simp; omega)) ?_)))
    refine wq_p 1 [(60, V)] ?_
    refine wE hK25 (cF (wp_skip (seq_n hK24 ?_)))
    have hsmall : a <= 65535 := by omega
    obtain ⟨u, hu2⟩ : ∃ u, u = nb (gb s.data.toList k) := ⟨_, rfl⟩
    refine reg_lit ?_
    refine wq_p 1 [(61, (D ((a : Int))))] (wV 62 (D (((a * 64 : Nat) : Int))) (exec_mulM _ _ _ _ rfl a 64 (by kernel_rfl) (by kernel_rfl) (a * 64) rfl (by omega) _) (wq_p 1 [(63, (D ((nb (gb s.data.toList k) : Int))))] (wV 64 (D (((a * 64 + u : Nat) : Int))) (exec_add _ _ _ _ rfl (((a * 64 : Nat) : Int)) ((nb (gb s.data.toList k) : Int)) (by kernel_rfl) (by kernel_rfl) (((a * 64 + u : Nat) : Int)) (by omega) (by omega) (by omega) _) ?_)))
    refine wV 65 (D (((a * 64 + u - 128 : Nat) : Int))) (exec_sub _ _ _ _ rfl (((a * 64 + u : Nat) : Int)) 128 (by kernel_rfl) (by kernel_rfl) (((a * 64 + u - 128 : Nat) : Int)) (by omega) (by omega) (by omega) _) (wq_p 1 [(4, (D (((a * 64 + u - 128 : Nat) : Int))))] ?_)
    refine wl_end rfl (blk_n (seq_n hK22 (reg_lit ?_)))
    refine wq_p 1 [(49, (D ((k : Int))))] (wV 50 (D (((k + 1 : Nat) : Int))) (exec_add _ _ _ _ rfl ((k : Int)) 1 (by kernel_rfl) (by kernel_rfl) (((k + 1 : Nat) : Int)) (by omega) (by omega) (by omega) _) (wq_p 1 [(7, (D (((k + 1 : Nat) : Int))))] ?_))
    refine wl_end rfl ?_
    refine ⟨4 - (k + 1), (by omega), ((k + 1)), ((a * 64 + u - 128)), (by omega), (by omega), rfl, (pEq 83), h18.sel [] [] (by kernel_rfl) rfl rfl⟩
  ·
   refine wp_exit (seq_e (seq_e (blk_e (seq_n hK16 (wp_seq_k fun K29 hK29 => wp_seq_k fun K30 hK30 => ?_)))))
   rcases (by omega : a < 65536 ∨ (65536 <= a /\ 1114111 < a) ∨ (65536 <= a /\ a <= 1114111 /\ a < 55296) ∨ (65536 <= a /\ a <= 1114111 /\ 55296 <= a /\ a <= 57343) ∨ (65536 <= a /\ a <= 1114111 /\ 57343 < a)) with hz | hz | hz | hz | hz
   ·
    refine reg_lit ?_
    refine wq_p 2 [(67, (D 65536)), (66, (D ((a : Int))))] (wV 68 (.bool true) (eqI (bV (decide ((a : Int) < 65536))) (by simp; omega)) (wq_p 2 [(70, undef), (69, I)] (wq_p 1 [(71, undef)] ?_)))
    refine wq_p 3 [(74, undef), (73, I), (72, I)] (wq_p 1 [(75, undef)] (wq_p 2 [(77, undef), (76, undef)] (wq_p 1 [(78, undef)] ?_)))
    refine wq_p 2 [(80, I), (79, undef)] ?_
    refine wE hK30 (cT (wR fun K32 hK32 => ?_))
    refine wq_p 2 [(3, (D 1)), (2, (D (-1)))] ?_
    refine wE hK32 (wp_ret (seq_r ?_))
    refine post_2 rfl (by kernel_rfl) (rtm (D (-1))) (rtm (D 1)) ?_
    exact ⟨_, _, rfl, rnp_no (by omega) (by omega) (by omega), h18.below0⟩
   ·
    refine reg_lit ?_
    refine wq_p 2 [(67, (D 65536)), (66, (D ((a : Int))))] (wV 68 (.bool false) (eqI (bV (decide ((a : Int) < 65536))) (by simp; omega)) (wq_p 2 [(70, (D ((a : Int)))), (69, V)] (wV 71 (.bool true) (eqI (bV (decide ((a : Int) > 1114111))) (by simp; omega)) ?_)))
    refine wq_p 3 [(74, undef), (73, I), (72, I)] (wq_p 1 [(75, undef)] (wq_p 2 [(77, undef), (76, undef)] (wq_p 1 [(78, undef)] ?_)))
    refine wq_p 2 [(80, I), (79, undef)] ?_
    refine wE hK30 (cT (wR fun K33 hK33 => ?_))
    refine wq_p 2 [(3, (D 1)), (2, (D (-1)))] ?_
    refine wE hK33 (wp_ret (seq_r ?_))
    refine post_2 rfl (by kernel_rfl) (rtm (D (-1))) (rtm (D 1)) ?_
    exact ⟨_, _, rfl, rnp_no (by omega) (by omega) (by omega), h18.below0⟩
   ·
    refine reg_lit ?_
    refine wq_p 2 [(67, (D 65536)), (66, (D ((a : Int))))] (wV 68 (.bool false) (eqI (bV (decide ((a : Int) < 65536))) (by simp; omega)) (wq_p 2 [(70, (D ((a : Int)))), (69, V)] (wV 71 (.bool false) (eqI (bV (decide ((a : Int) > 1114111))) (by simp; omega)) ?_)))
    refine wq_p 3 [(74, (D ((a : Int)))), (73, V), (72, V)] (wV 75 (.bool false) (eqI (bV (decide ((a : Int) ≥ 55296))) (by simp; omega)) (wq_p 2 [(77, undef), (76, V)] (wq_p 1 [(78, undef)] ?_)))
    refine wq_p 2 [(80, V), (79, V)] ?_
    refine wE hK30 (cF (wp_skip (seq_n hK29 (wR fun K34 hK34 => ?_))))
    refine wq_p 4 [(3, (D 4)), (2, (D ((a : Int)))), (82, (D 4)), (81, (D ((a : Int))))] ?_
    refine wE hK34 (wp_ret ?_)
    refine post_2 rfl (by kernel_rfl) (rtm (D ((a : Int)))) (rtm (D 4)) ?_
    exact ⟨_, _, rfl, rnp_no (by omega) (by omega) (by omega), h18.below0⟩
   ·
    refine reg_lit ?_
    refine wq_p 2 [(67, (D 65536)), (66, (D ((a : Int))))] (wV 68 (.bool false) (eqI (bV (decide ((a : Int) < 65536))) (by simp; omega)) (wq_p 2 [(70, (D ((a : Int)))), (69, V)] (wV 71 (.bool false) (eqI (bV (decide ((a : Int) > 1114111))) (by simp; omega)) ?_)))
    refine wq_p 3 [(74, (D ((a : Int)))), (73, V), (72, V)] (wV 75 (.bool true) (eqI (bV (decide ((a : Int) ≥ 55296))) (by simp; omega)) (wq_p 2 [(77, (D ((a : Int)))), (76, I)] (wV 78 (.bool true) (eqI (bV (decide ((a : Int) <= 57343))) (by simp; omega)) ?_)))
    refine wq_p 2 [(80, I), (79, I)] ?_
    refine wE hK30 (cT (wR fun K35 hK35 => ?_))
    refine wq_p 2 [(3, (D 1)), (2, (D (-1)))] ?_
    refine wE hK35 (wp_ret (seq_r ?_))
    refine post_2 rfl (by kernel_rfl) (rtm (D (-1))) (rtm (D 1)) ?_
    exact ⟨_, _, rfl, rnp_no (by omega) (by omega) (by omega), h18.below0⟩
   ·
    refine reg_lit ?_
    refine wq_p 2 [(67, (D 65536)), (66, (D ((a : Int))))] (wV 68 (.bool false) (eqI (bV (decide ((a : Int) < 65536))) (by simp; omega)) (wq_p 2 [(70, (D ((a : Int)))), (69, V)] (wV 71 (.bool false) (eqI (bV (decide ((a : Int) > 1114111))) (by simp; omega)) ?_)))
    refine wq_p 3 [(74, (D ((a : Int)))), (73, V), (72, V)] (wV 75 (.bool true) (eqI (bV (decide ((a : Int) ≥ 55296))) (by simp; omega)) (wq_p 2 [(77, (D ((a : Int)))), (76, I)] (wV 78 (.bool false) (eqI (bV (decide ((a : Int) <= 57343))) (by simp; omega)) ?_)))
    refine wq_p 2 [(80, V), (79, V)] ?_
    refine wE hK30 (cF (wp_skip (seq_n hK29 (wR fun K36 hK36 => ?_))))
    refine wq_p 4 [(3, (D 4)), (2, (D ((a : Int)))), (82, (D 4)), (81, (D ((a : Int))))] ?_
    refine wE hK36 (wp_ret ?_)
    refine post_2 rfl (by kernel_rfl) (rtm (D ((a : Int)))) (rtm (D 4)) ?_
    exact ⟨_, _, rfl, rnp_no (by omega) (by omega) (by omega), h18.below0⟩
theorem rune_0 (s : ByteArray) (hs0 : 0 < s.size) (hx0 : (128 <= nb (gb s.data.toList 0) /\ nb (gb s.data.toList 0) <= 193) ∨ 245 <= nb (gb s.data.toList 0)) (w : World) : Calls Try.prog 44 #[.string s] w (RnPost w s.data.toList) := by
 have hb0 := nb_lt (gb s.data.toList 0)
 have hsl : s.data.toList.length = s.size := by simp
 have h0 := Hp.nil (fun _ => False) w
 refine enter 82 Try.func44 rfl rfl ?_
 refine wp_reset 83 [(0, (sV s))] (fun x0 => ?_)
 refine wR fun K1 hK1 => ?_
 refine wq_p 2 [(3, O), (2, O)] ?_
 refine wE hK1 (wR fun K2 hK2 => ?_)
 refine wq_p 1 [(9, (sV s))] (wV 10 (iV .u8 (ub (gb s.data.toList 0))) (e_sidx 9 (.tmp 9) (.const O) (by kernel_rfl) s .i64 0 (by kernel_rfl) (by kernel_rfl) (by kernel_rfl) (by omega) _) (wV 11 (D ((nb (gb s.data.toList 0) : Int))) (eqI (D (IntKind.i64.wrap (ub (gb s.data.toList 0)))) (i64_ubN _)) (wq_p 1 [(4, (D ((nb (gb s.data.toList 0) : Int))))] ?_)))
 refine wE hK2 (wp_seq_k fun K3 hK3 => wR fun K4 hK4 => ?_)
 refine wq_p 1 [(12, (D ((nb (gb s.data.toList 0) : Int))))] (wV 13 (.bool false) (eqI (bV (decide ((nb (gb s.data.toList 0) : Int) < 128))) (by simp; omega)) ?_)
 refine wE hK4 (cF (wp_skip (seq_n hK3 (wR fun K5 hK5 => ?_))))
 refine wq_p 1 [(5, O)] ?_
 refine wE hK5 (wR fun K6 hK6 => ?_)
 refine wq_p 1 [(6, O)] ?_
 refine wE hK6 (wp_seq_k fun K7 hK7 => wp_block (wp_seq_k fun K8 hK8 => ?_))
 rcases hx0 with hx1 | hx1
 ·
  refine reg_lit ?_
  refine wq_p 1 [(16, (D ((nb (gb s.data.toList 0) : Int))))] (wV 17 (.bool false) (eqI (bV (decide ((nb (gb s.data.toList 0) : Int) ≥ 194))) (by simp; omega)) (wq_p 2 [(19, undef), (18, V)] (wq_p 1 [(20, undef)] ?_)))
  refine wq_p 2 [(15, V), (21, V)] ?_
  refine wE hK8 (cF (wp_seq_k fun K10 hK10 => ?_))
  refine wp_reset 83 [(0, (sV s)), (2, O), (3, O), (4, (D ((nb (gb s.data.toList 0) : Int)))), (5, O), (6, O), (13, V), (15, V)] (fun x11 => ?_)
  refine reg_lit ?_
  refine wq_p 1 [(25, (D ((nb (gb s.data.toList 0) : Int))))] (wV 26 (.bool false) (eqI (bV (decide ((nb (gb s.data.toList 0) : Int) ≥ 224))) (by simp; omega)) (wq_p 2 [(28, undef), (27, V)] (wq_p 1 [(29, undef)] ?_)))
  refine wq_p 2 [(24, V), (30, V)] ?_
  refine wE hK10 (cF (wR fun K12 hK12 => ?_))
  refine wq_p 1 [(34, (D ((nb (gb s.data.toList 0) : Int))))] (wV 35 (.bool false) (eqI (bV (decide ((nb (gb s.data.toList 0) : Int) ≥ 240))) (by simp; omega)) (wq_p 2 [(37, undef), (36, V)] (wq_p 1 [(38, undef)] ?_)))
  refine wq_p 2 [(33, V), (39, V)] ?_
  refine wE hK12 (cF (wR fun K13 hK13 => ?_))
  refine wq_p 2 [(3, (D 1)), (2, (D (-1)))] ?_
  refine wE hK13 (wp_ret (blk_r (seq_r ?_)))
  refine post_2 rfl (by kernel_rfl) (rtm (D (-1))) (rtm (D 1)) ?_
  exact ⟨_, _, rfl, rnp_no (by omega) (by omega) (by omega), h0.below0⟩
 ·
  refine reg_lit ?_
  refine wq_p 1 [(16, (D ((nb (gb s.data.toList 0) : Int))))] (wV 17 (.bool true) (eqI (bV (decide ((nb (gb s.data.toList 0) : Int) ≥ 194))) (by simp; omega)) (wq_p 2 [(19, (D ((nb (gb s.data.toList 0) : Int)))), (18, I)] (wV 20 (.bool false) (eqI (bV (decide ((nb (gb s.data.toList 0) : Int) <= 223))) (by simp; omega)) ?_)))
  refine wq_p 2 [(15, V), (21, V)] ?_
  refine wE hK8 (cF (wp_seq_k fun K14 hK14 => ?_))
  refine wp_reset 83 [(0, (sV s)), (2, O), (3, O), (4, (D ((nb (gb s.data.toList 0) : Int)))), (5, O), (6, O), (13, V), (15, V)] (fun x15 => ?_)
  refine reg_lit ?_
  refine wq_p 1 [(25, (D ((nb (gb s.data.toList 0) : Int))))] (wV 26 (.bool true) (eqI (bV (decide ((nb (gb s.data.toList 0) : Int) ≥ 224))) (by simp; omega)) (wq_p 2 [(28, (D ((nb (gb s.data.toList 0) : Int)))), (27, I)] (wV 29 (.bool false) (eqI (bV (decide ((nb (gb s.data.toList 0) : Int) <= 239))) (by simp; omega)) ?_)))
  refine wq_p 2 [(24, V), (30, V)] ?_
  refine wE hK14 (cF (wR fun K16 hK16 => ?_))
  refine wq_p 1 [(34, (D ((nb (gb s.data.toList 0) : Int))))] (wV 35 (.bool true) (eqI (bV (decide ((nb (gb s.data.toList 0) : Int) ≥ 240))) (by simp; omega)) (wq_p 2 [(37, (D ((nb (gb s.data.toList 0) : Int)))), (36, I)] (wV 38 (.bool false) (eqI (bV (decide ((nb (gb s.data.toList 0) : Int) <= 244))) (by simp; omega)) ?_)))
  refine wq_p 2 [(33, V), (39, V)] ?_
  refine wE hK16 (cF (wR fun K17 hK17 => ?_))
  refine wq_p 2 [(3, (D 1)), (2, (D (-1)))] ?_
  refine wE hK17 (wp_ret (blk_r (seq_r ?_)))
  refine post_2 rfl (by kernel_rfl) (rtm (D (-1))) (rtm (D 1)) ?_
  exact ⟨_, _, rfl, rnp_no (by omega) (by omega) (by omega), h0.below0⟩
theorem rune_any (s : ByteArray) (hs0 : 0 < s.size) (hs : s.size <= 1000000000) (w : World) : Calls Try.prog 44 #[.string s] w (RnPost w s.data.toList) := by
 have hb0 := nb_lt (gb s.data.toList 0)
 rcases (by omega : nb (gb s.data.toList 0) < 128 ∨ (194 <= nb (gb s.data.toList 0) /\ nb (gb s.data.toList 0) <= 223) ∨ (224 <= nb (gb s.data.toList 0) /\ nb (gb s.data.toList 0) <= 239) ∨ (240 <= nb (gb s.data.toList 0) /\ nb (gb s.data.toList 0) <= 244) ∨ ((128 <= nb (gb s.data.toList 0) /\ nb (gb s.data.toList 0) <= 193) ∨ 245 <= nb (gb s.data.toList 0))) with h | h | h | h | h
 · exact rune_1 s hs0 h w
 · exact rune_2 s hs0 hs h w
 · exact rune_3 s hs0 hs h w
 · exact rune_4 s hs0 hs h w
 · exact rune_0 s hs0 h w
end
end Go.Proofs.Ytecomegocafocaa
