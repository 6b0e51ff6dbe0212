/- The walk of der.size, of any bytes. -/
import Derived.Test.YtecomegocafocaaCA11
set_option maxRecDepth 100000
set_option maxHeartbeats 4000000
namespace Go.Proofs.Ytecomegocafocaa
section
open Go.Value renaming int -> iV, slice -> lV, string -> sV, bool -> bV, agg -> aV
open Go.RowKit Go.QT
theorem wrap_u64n {a : Int} {n : Nat} (h : a = (n : Int)) (hn : n < 18446744073709551616) : iV .u64 (IntKind.u64.wrap a) = iV .u64 (n : Int) := by
 subst h; congr 1; rw [IntKind.wrap_u64]; omega
theorem size_short (L : Bytes) (hs : L.length < 2) (A : Option Addr) (c : Nat) (w : World) (hv : SB w (.slice A L.length c) L) : Calls Try.prog 81 #[.slice A L.length c] w (DPost w (.tuple #[.int .i64 0, .int .i64 0, .int .i64 1])) := by
 have h0 := Hp.ro1 (rSB (.slice A L.length c) L) hv
 refine enter 60 Try.func81 rfl rfl ?_
 refine wp_reset 61 [(0, (lV A L.length c))] (fun x0 => ?_)
 refine wR fun K1 hK1 => ?_
 refine wq_p 3 [(4, O), (3, O), (2, O)] ?_
 refine wE hK1 (wp_seq_k fun K2 hK2 => wR fun K3 hK3 => ?_)
 refine wq_p 2 [(9, (D ((L.length : Int)))), (8, (lV A L.length c))] (wV 10 (.bool true) (eqI (bV (decide ((L.length : Int) < 2))) (by simp; omega)) ?_)
 refine wE hK3 (cT (wR fun K4 hK4 => ?_))
 refine wq_p 3 [(4, (D 1)), (3, O), (2, O)] ?_
 refine wE hK4 (wp_ret (seq_r ?_))
 refine post_3 rfl (by kernel_rfl) (rtm O) (rtm O) (rtm (D 1)) ?_
 exact ⟨rfl, h0.below0⟩
theorem size_over (L : Bytes) (m : Nat) (h1 : nb (gb L 1) = m) (hm : m < 128) (h2 : 2 <= L.length) (hl : L.length < 2 + m) (hx : L.length <= 1000000) (A : Option Addr) (c : Nat) (w : World) (hv : SB w (.slice A L.length c) L) : Calls Try.prog 81 #[.slice A L.length c] w (DPost w (.tuple #[.int .i64 0, .int .i64 0, .int .i64 1])) := by
 have h0 := Hp.ro1 (rSB (.slice A L.length c) L) hv
 refine enter 60 Try.func81 rfl rfl ?_
 refine wp_reset 61 [(0, (lV A L.length c))] (fun x0 => ?_)
 refine wR fun K1 hK1 => ?_
 refine wq_p 3 [(4, O), (3, O), (2, O)] ?_
 refine wE hK1 (wp_seq_k fun K2 hK2 => wR fun K3 hK3 => ?_)
 refine wq_p 2 [(9, (D ((L.length : Int)))), (8, (lV A L.length c))] (wV 10 (.bool false) (eqI (bV (decide ((L.length : Int) < 2))) (by simp; omega)) ?_)
 refine wE hK3 (cF (wp_skip (seq_n hK2 (wR fun K4 hK4 => ?_))))
 refine wq_p 1 [(11, (lV A L.length c))] (wV 12 (eAt A (1 * 1 + 0)) (eIx (SB.rvn (h0.rd 0 rfl)).2 1 L.length (SB.rvn (h0.rd 0 rfl)).1 (by omega) 22 (.tmp 11) (.const (D 1)) .i64 5) (wV 13 (iV .u8 (ub (gb (L) (1)))) (eEl (SB.rvn (h0.rd 0 rfl)).2 1 0 ([(iV .u8 (ub (gb (L) (1))))]) (bx_get _ _ (by omega)) 5 (.tmp 12) (iV .u8 (ub (gb (L) (1))))) (wV 14 (iV .u64 ((m : Int))) (eqI (iV .u64 (IntKind.u64.wrap (ub (gb (L) (1))))) (u64_ub _ h1)) ?_)))
 refine wq_p 2 [(6, (D 2)), (5, (iV .u64 ((m : Int))))] ?_
 refine wE hK4 (wp_seq_k fun K5 hK5 => wR fun K6 hK6 => ?_)
 refine wq_p 1 [(15, (iV .u64 ((m : Int))))] (wV 16 (.bool false) (eqI (bV (decide ((m : Int) ≥ 128))) (by simp; omega)) ?_)
 refine wE hK6 (cF (wp_skip (seq_n hK5 (wp_seq_k fun K7 hK7 => wR fun K8 hK8 => ?_))))
 refine wq_p 4 [(54, (D 2)), (53, (D ((L.length : Int)))), (52, (lV A L.length c)), (51, (iV .u64 ((m : Int))))] (wV 55 (D ((((L.length) - 2 : Nat) : Int))) (exec_sub _ _ _ _ rfl ((L.length : Int)) 2 (by kernel_rfl) (by kernel_rfl) ((((L.length) - 2 : Nat) : Int)) (by omega) (by omega) (by omega) _) (wV 56 (iV .u64 (((L.length - (2) : Nat) : Int))) (eqI (iV .u64 (IntKind.u64.wrap ((((L.length) - 2 : Nat) : Int)))) (wrap_u64n (n := L.length - (2)) (by omega) (by omega))) (wV 57 (.bool true) (eqI (bV (decide ((m : Int) > ((L.length - (2) : Nat) : Int)))) (by simp; omega)) ?_)))
 refine wE hK8 (cT (wR fun K9 hK9 => ?_))
 refine wq_p 3 [(4, (D 1)), (3, O), (2, O)] ?_
 refine wE hK9 (wp_ret (seq_r ?_))
 refine post_3 rfl (by kernel_rfl) (rtm O) (rtm O) (rtm (D 1)) ?_
 exact ⟨rfl, h0.below0⟩
theorem size_k0 (L : Bytes) (K : Nat) (h1 : nb (gb L 1) = 128 + K) (h2 : 2 <= L.length) (hK : K < 1) (hx : L.length <= 1000000) (A : Option Addr) (c : Nat) (w : World) (hv : SB w (.slice A L.length c) L) : Calls Try.prog 81 #[.slice A L.length c] w (DPost w (.tuple #[.int .i64 0, .int .i64 0, .int .i64 3])) := by
 have h0 := Hp.ro1 (rSB (.slice A L.length c) L) hv
 refine enter 60 Try.func81 rfl rfl ?_
 refine wp_reset 61 [(0, (lV A L.length c))] (fun x0 => ?_)
 refine wR fun K1 hK1 => ?_
 refine wq_p 3 [(4, O), (3, O), (2, O)] ?_
 refine wE hK1 (wp_seq_k fun K2 hK2 => wR fun K3 hK3 => ?_)
 refine wq_p 2 [(9, (D ((L.length : Int)))), (8, (lV A L.length c))] (wV 10 (.bool false) (eqI (bV (decide ((L.length : Int) < 2))) (by simp; omega)) ?_)
 refine wE hK3 (cF (wp_skip (seq_n hK2 (wR fun K4 hK4 => ?_))))
 refine wq_p 1 [(11, (lV A L.length c))] (wV 12 (eAt A (1 * 1 + 0)) (eIx (SB.rvn (h0.rd 0 rfl)).2 1 L.length (SB.rvn (h0.rd 0 rfl)).1 (by omega) 22 (.tmp 11) (.const (D 1)) .i64 5) (wV 13 (iV .u8 (ub (gb (L) (1)))) (eEl (SB.rvn (h0.rd 0 rfl)).2 1 0 ([(iV .u8 (ub (gb (L) (1))))]) (bx_get _ _ (by omega)) 5 (.tmp 12) (iV .u8 (ub (gb (L) (1))))) (wV 14 (iV .u64 (((128 + K : Nat) : Int))) (eqI (iV .u64 (IntKind.u64.wrap (ub (gb (L) (1))))) (u64_ub _ h1)) ?_)))
 refine wq_p 2 [(6, (D 2)), (5, (iV .u64 (((128 + K : Nat) : Int))))] ?_
 refine wE hK4 (wp_seq_k fun K5 hK5 => wR fun K6 hK6 => ?_)
 refine wq_p 1 [(15, (iV .u64 (((128 + K : Nat) : Int))))] (wV 16 (.bool true) (eqI (bV (decide (((128 + K : Nat) : Int) ≥ 128))) (by simp; omega)) ?_)
 refine wE hK6 (cT (wR fun K7 hK7 => ?_))
 refine wq_p 1 [(17, (iV .u64 (((128 + K : Nat) : Int))))] (wV 18 (iV .u64 ((K : Int))) (eqI (iV .u64 (IntKind.u64.wrap (((128 + K : Nat) : Int) - 128))) (u64_sub (m := 128 + K) (n := 128) rfl (by omega))) (wV 19 (D ((K : Int))) (eqI (D (IntKind.i64.wrap ((K : Int)))) (i64_nat (by omega))) (wq_p 1 [(7, (D ((K : Int))))] ?_)))
 refine wE hK7 (wp_seq_k fun K8 hK8 => wR fun K9 hK9 => ?_)
 refine wq_p 1 [(20, (D ((K : Int))))] (wV 21 (.bool true) (eqI (bV (decide ((K : Int) < 1))) (by simp; omega)) (wq_p 2 [(23, undef), (22, I)] (wq_p 1 [(24, undef)] ?_)))
 refine wq_p 1 [(25, I)] ?_
 refine wE hK9 (cT (wp_seq_k fun K10 hK10 => ?_))
 refine wp_reset 61 [(0, (lV A L.length c)), (2, O), (3, O), (4, O), (5, (iV .u64 (((128 + K : Nat) : Int)))), (6, (D 2)), (7, (D ((K : Int)))), (25, I)] (fun x11 => ?_)
 refine reg_lit ?_
 refine wq_p 3 [(4, (D 3)), (3, O), (2, O)] ?_
 refine wE hK10 (wp_ret (seq_r (seq_r ?_)))
 refine post_3 rfl (by kernel_rfl) (rtm O) (rtm O) (rtm (D 3)) ?_
 exact ⟨rfl, h0.below0⟩
theorem size_k3 (L : Bytes) (K : Nat) (h1 : nb (gb L 1) = 128 + K) (h2 : 2 <= L.length) (hK : 2 < K) (hK2 : K < 128) (hx : L.length <= 1000000) (A : Option Addr) (c : Nat) (w : World) (hv : SB w (.slice A L.length c) L) : Calls Try.prog 81 #[.slice A L.length c] w (DPost w (.tuple #[.int .i64 0, .int .i64 0, .int .i64 3])) := by
 have h0 := Hp.ro1 (rSB (.slice A L.length c) L) hv
 refine enter 60 Try.func81 rfl rfl ?_
 refine wp_reset 61 [(0, (lV A L.length c))] (fun x0 => ?_)
 refine wR fun K1 hK1 => ?_
 refine wq_p 3 [(4, O), (3, O), (2, O)] ?_
 refine wE hK1 (wp_seq_k fun K2 hK2 => wR fun K3 hK3 => ?_)
 refine wq_p 2 [(9, (D ((L.length : Int)))), (8, (lV A L.length c))] (wV 10 (.bool false) (eqI (bV (decide ((L.length : Int) < 2))) (by simp; omega)) ?_)
 refine wE hK3 (cF (wp_skip (seq_n hK2 (wR fun K4 hK4 => ?_))))
 refine wq_p 1 [(11, (lV A L.length c))] (wV 12 (eAt A (1 * 1 + 0)) (eIx (SB.rvn (h0.rd 0 rfl)).2 1 L.length (SB.rvn (h0.rd 0 rfl)).1 (by omega) 22 (.tmp 11) (.const (D 1)) .i64 5) (wV 13 (iV .u8 (ub (gb (L) (1)))) (eEl (SB.rvn (h0.rd 0 rfl)).2 1 0 ([(iV .u8 (ub (gb (L) (1))))]) (bx_get _ _ (by omega)) 5 (.tmp 12) (iV .u8 (ub (gb (L) (1))))) (wV 14 (iV .u64 (((128 + K : Nat) : Int))) (eqI (iV .u64 (IntKind.u64.wrap (ub (gb (L) (1))))) (u64_ub _ h1)) ?_)))
 refine wq_p 2 [(6, (D 2)), (5, (iV .u64 (((128 + K : Nat) : Int))))] ?_
 refine wE hK4 (wp_seq_k fun K5 hK5 => wR fun K6 hK6 => ?_)
 refine wq_p 1 [(15, (iV .u64 (((128 + K : Nat) : Int))))] (wV 16 (.bool true) (eqI (bV (decide (((128 + K : Nat) : Int) ≥ 128))) (by simp; omega)) ?_)
 refine wE hK6 (cT (wR fun K7 hK7 => ?_))
 refine wq_p 1 [(17, (iV .u64 (((128 + K : Nat) : Int))))] (wV 18 (iV .u64 ((K : Int))) (eqI (iV .u64 (IntKind.u64.wrap (((128 + K : Nat) : Int) - 128))) (u64_sub (m := 128 + K) (n := 128) rfl (by omega))) (wV 19 (D ((K : Int))) (eqI (D (IntKind.i64.wrap ((K : Int)))) (i64_nat (by omega))) (wq_p 1 [(7, (D ((K : Int))))] ?_)))
 refine wE hK7 (wp_seq_k fun K8 hK8 => wR fun K9 hK9 => ?_)
 refine wq_p 1 [(20, (D ((K : Int))))] (wV 21 (.bool false) (eqI (bV (decide ((K : Int) < 1))) (by simp; omega)) (wq_p 2 [(23, (D ((K : Int)))), (22, V)] (wV 24 (.bool true) (eqI (bV (decide ((K : Int) > 2))) (by simp; omega)) ?_)))
 refine wq_p 1 [(25, I)] ?_
 refine wE hK9 (cT (wp_seq_k fun K10 hK10 => ?_))
 refine wp_reset 61 [(0, (lV A L.length c)), (2, O), (3, O), (4, O), (5, (iV .u64 (((128 + K : Nat) : Int)))), (6, (D 2)), (7, (D ((K : Int)))), (25, I)] (fun x11 => ?_)
 refine reg_lit ?_
 refine wq_p 3 [(4, (D 3)), (3, O), (2, O)] ?_
 refine wE hK10 (wp_ret (seq_r (seq_r ?_)))
 refine post_3 rfl (by kernel_rfl) (rtm O) (rtm O) (rtm (D 3)) ?_
 exact ⟨rfl, h0.below0⟩
theorem size_hshort (L : Bytes) (K : Nat) (h1 : nb (gb L 1) = 128 + K) (h2 : 2 <= L.length) (hK : K = 1 ∨ K = 2) (hl : L.length < 2 + K) (hx : L.length <= 1000000) (A : Option Addr) (c : Nat) (w : World) (hv : SB w (.slice A L.length c) L) : Calls Try.prog 81 #[.slice A L.length c] w (DPost w (.tuple #[.int .i64 0, .int .i64 0, .int .i64 1])) := by
 have h0 := Hp.ro1 (rSB (.slice A L.length c) L) hv
 refine enter 60 Try.func81 rfl rfl ?_
 refine wp_reset 61 [(0, (lV A L.length c))] (fun x0 => ?_)
 refine wR fun K1 hK1 => ?_
 refine wq_p 3 [(4, O), (3, O), (2, O)] ?_
 refine wE hK1 (wp_seq_k fun K2 hK2 => wR fun K3 hK3 => ?_)
 refine wq_p 2 [(9, (D ((L.length : Int)))), (8, (lV A L.length c))] (wV 10 (.bool false) (eqI (bV (decide ((L.length : Int) < 2))) (by simp; omega)) ?_)
 refine wE hK3 (cF (wp_skip (seq_n hK2 (wR fun K4 hK4 => ?_))))
 refine wq_p 1 [(11, (lV A L.length c))] (wV 12 (eAt A (1 * 1 + 0)) (eIx (SB.rvn (h0.rd 0 rfl)).2 1 L.length (SB.rvn (h0.rd 0 rfl)).1 (by omega) 22 (.tmp 11) (.const (D 1)) .i64 5) (wV 13 (iV .u8 (ub (gb (L) (1)))) (eEl (SB.rvn (h0.rd 0 rfl)).2 1 0 ([(iV .u8 (ub (gb (L) (1))))]) (bx_get _ _ (by omega)) 5 (.tmp 12) (iV .u8 (ub (gb (L) (1))))) (wV 14 (iV .u64 (((128 + K : Nat) : Int))) (eqI (iV .u64 (IntKind.u64.wrap (ub (gb (L) (1))))) (u64_ub _ h1)) ?_)))
 refine wq_p 2 [(6, (D 2)), (5, (iV .u64 (((128 + K : Nat) : Int))))] ?_
 refine wE hK4 (wp_seq_k fun K5 hK5 => wR fun K6 hK6 => ?_)
 refine wq_p 1 [(15, (iV .u64 (((128 + K : Nat) : Int))))] (wV 16 (.bool true) (eqI (bV (decide (((128 + K : Nat) : Int) ≥ 128))) (by simp; omega)) ?_)
 refine wE hK6 (cT (wR fun K7 hK7 => ?_))
 refine wq_p 1 [(17, (iV .u64 (((128 + K : Nat) : Int))))] (wV 18 (iV .u64 ((K : Int))) (eqI (iV .u64 (IntKind.u64.wrap (((128 + K : Nat) : Int) - 128))) (u64_sub (m := 128 + K) (n := 128) rfl (by omega))) (wV 19 (D ((K : Int))) (eqI (D (IntKind.i64.wrap ((K : Int)))) (i64_nat (by omega))) (wq_p 1 [(7, (D ((K : Int))))] ?_)))
 refine wE hK7 (wp_seq_k fun K8 hK8 => wR fun K9 hK9 => ?_)
 refine wq_p 1 [(20, (D ((K : Int))))] (wV 21 (.bool false) (eqI (bV (decide ((K : Int) < 1))) (by simp; omega)) (wq_p 2 [(23, (D ((K : Int)))), (22, V)] (wV 24 (.bool false) (eqI (bV (decide ((K : Int) > 2))) (by simp; omega)) ?_)))
 refine wq_p 1 [(25, V)] ?_
 refine wE hK9 (cF (wp_skip (seq_n hK8 (wp_seq_k fun K10 hK10 => wp_seq_k fun K11 hK11 => ?_))))
 refine wp_reset 61 [(0, (lV A L.length c)), (2, O), (3, O), (4, O), (5, (iV .u64 (((128 + K : Nat) : Int)))), (6, (D 2)), (7, (D ((K : Int))))] (fun x12 => ?_)
 refine reg_lit ?_
 refine wq_p 3 [(28, (D ((K : Int)))), (27, (D ((L.length : Int)))), (26, (lV A L.length c))] (wV 29 (D (((2 + K : Nat) : Int))) (exec_add _ _ _ _ rfl 2 ((K : Int)) (by kernel_rfl) (by kernel_rfl) (((2 + K : Nat) : Int)) (by omega) (by omega) (by omega) _) (wV 30 (.bool true) (eqI (bV (decide ((L.length : Int) < ((2 + K : Nat) : Int)))) (by simp; omega)) ?_))
 refine wE hK11 (cT (wR fun K13 hK13 => ?_))
 refine wq_p 3 [(4, (D 1)), (3, O), (2, O)] ?_
 refine wE hK13 (wp_ret (seq_r (seq_r ?_)))
 refine post_3 rfl (by kernel_rfl) (rtm O) (rtm O) (rtm (D 1)) ?_
 exact ⟨rfl, h0.below0⟩
theorem size_small (L : Bytes) (S : Bytes) (m K : Nat) (h1 : nb (gb L 1) = 128 + K) (hK : K = 1 ∨ K = 2) (hc : (L.take (2 + K)).drop 2 = S) (hS : getN S = m) (hSl : S.length = K) (h2 : 2 + K <= L.length) (hm : m < 128) (hx : L.length <= 1000000) (A : Option Addr) (c : Nat) (w : World) (hv : SB w (.slice A L.length c) L) : Calls Try.prog 81 #[.slice A L.length c] w (DPost w (.tuple #[.int .i64 0, .int .i64 0, .int .i64 3])) := by
 have h0 := Hp.ro1 (rSB (.slice A L.length c) L) hv
 refine enter 60 Try.func81 rfl rfl ?_
 refine wp_reset 61 [(0, (lV A L.length c))] (fun x0 => ?_)
 refine wR fun K1 hK1 => ?_
 refine wq_p 3 [(4, O), (3, O), (2, O)] ?_
 refine wE hK1 (wp_seq_k fun K2 hK2 => wR fun K3 hK3 => ?_)
 refine wq_p 2 [(9, (D ((L.length : Int)))), (8, (lV A L.length c))] (wV 10 (.bool false) (eqI (bV (decide ((L.length : Int) < 2))) (by simp; omega)) ?_)
 refine wE hK3 (cF (wp_skip (seq_n hK2 (wR fun K4 hK4 => ?_))))
 refine wq_p 1 [(11, (lV A L.length c))] (wV 12 (eAt A (1 * 1 + 0)) (eIx (SB.rvn (h0.rd 0 rfl)).2 1 L.length (SB.rvn (h0.rd 0 rfl)).1 (by omega) 22 (.tmp 11) (.const (D 1)) .i64 5) (wV 13 (iV .u8 (ub (gb (L) (1)))) (eEl (SB.rvn (h0.rd 0 rfl)).2 1 0 ([(iV .u8 (ub (gb (L) (1))))]) (bx_get _ _ (by omega)) 5 (.tmp 12) (iV .u8 (ub (gb (L) (1))))) (wV 14 (iV .u64 (((128 + K : Nat) : Int))) (eqI (iV .u64 (IntKind.u64.wrap (ub (gb (L) (1))))) (u64_ub _ h1)) ?_)))
 refine wq_p 2 [(6, (D 2)), (5, (iV .u64 (((128 + K : Nat) : Int))))] ?_
 refine wE hK4 (wp_seq_k fun K5 hK5 => wR fun K6 hK6 => ?_)
 refine wq_p 1 [(15, (iV .u64 (((128 + K : Nat) : Int))))] (wV 16 (.bool true) (eqI (bV (decide (((128 + K : Nat) : Int) ≥ 128))) (by simp; omega)) ?_)
 refine wE hK6 (cT (wR fun K7 hK7 => ?_))
 refine wq_p 1 [(17, (iV .u64 (((128 + K : Nat) : Int))))] (wV 18 (iV .u64 ((K : Int))) (eqI (iV .u64 (IntKind.u64.wrap (((128 + K : Nat) : Int) - 128))) (u64_sub (m := 128 + K) (n := 128) rfl (by omega))) (wV 19 (D ((K : Int))) (eqI (D (IntKind.i64.wrap ((K : Int)))) (i64_nat (by omega))) (wq_p 1 [(7, (D ((K : Int))))] ?_)))
 refine wE hK7 (wp_seq_k fun K8 hK8 => wR fun K9 hK9 => ?_)
 refine wq_p 1 [(20, (D ((K : Int))))] (wV 21 (.bool false) (eqI (bV (decide ((K : Int) < 1))) (by simp; omega)) (wq_p 2 [(23, (D ((K : Int)))), (22, V)] (wV 24 (.bool false) (eqI (bV (decide ((K : Int) > 2))) (by simp; omega)) ?_)))
 refine wq_p 1 [(25, V)] ?_
 refine wE hK9 (cF (wp_skip (seq_n hK8 (wp_seq_k fun K10 hK10 => wp_seq_k fun K11 hK11 => ?_))))
 refine wp_reset 61 [(0, (lV A L.length c)), (2, O), (3, O), (4, O), (5, (iV .u64 (((128 + K : Nat) : Int)))), (6, (D 2)), (7, (D ((K : Int))))] (fun x12 => ?_)
 refine reg_lit ?_
 refine wq_p 3 [(28, (D ((K : Int)))), (27, (D ((L.length : Int)))), (26, (lV A L.length c))] (wV 29 (D (((2 + K : Nat) : Int))) (exec_add _ _ _ _ rfl 2 ((K : Int)) (by kernel_rfl) (by kernel_rfl) (((2 + K : Nat) : Int)) (by omega) (by omega) (by omega) _) (wV 30 (.bool false) (eqI (bV (decide ((L.length : Int) < ((2 + K : Nat) : Int)))) (by simp; omega)) ?_))
 refine wE hK11 (cF (wp_skip (seq_n hK10 (wR fun K13 hK13 => ?_))))
 refine wq_p 2 [(33, (D ((K : Int)))), (32, (lV A L.length c))] (wV 34 (D (((2 + K : Nat) : Int))) (exec_add _ _ _ _ rfl 2 ((K : Int)) (by kernel_rfl) (by kernel_rfl) (((2 + K : Nat) : Int)) (by omega) (by omega) (by omega) _) (wV 35 (cutS (lV A L.length c) 2 (((2 + K)))) (e_cut_lh (h0.rd 0 rfl) (.tmp 32) (.const (D 2)) (.tmp 34) (by kernel_rfl) (by kernel_rfl) .i64 .i64 2 (((2 + K))) (by kernel_rfl) (by kernel_rfl) (by omega) (by omega) _) ?_))
 refine wT 36 (x_getD h0 (((L).take (((2 + K)))).drop 2) (cutS (lV A L.length c) 2 (((2 + K)))) (by kernel_rfl) (SB.cut (h0.rd 0 rfl) 2 (((2 + K))) (by omega)) (by rw [hc]; omega) (by rw [hc]; omega) m (by rw [hc, hS])) ?_
 rintro _ w14 ⟨rfl, h14⟩
 refine wq_p 4 [(5, (iV .u64 (((m : Nat) : Int)))), (38, I), (37, (iV .u64 (((m : Nat) : Int)))), (31, (Value.tuple #[(iV .u64 (((m : Nat) : Int))), I]))] ?_
 refine wE hK13 (wR fun K15 hK15 => ?_)
 refine wq_p 1 [(39, (D ((K : Int))))] (wV 40 (D (((2 + K : Nat) : Int))) (exec_add _ _ _ _ rfl 2 ((K : Int)) (by kernel_rfl) (by kernel_rfl) (((2 + K : Nat) : Int)) (by omega) (by omega) (by omega) _) (wq_p 1 [(6, (D (((2 + K : Nat) : Int))))] ?_))
 refine wE hK15 (wR fun K16 hK16 => ?_)
 refine wq_p 1 [(41, (iV .u64 (((m : Nat) : Int))))] (wV 42 (.bool true) (eqI (bV (decide (((m : Nat) : Int) < 128))) (by simp; omega)) (wq_p 5 [(47, undef), (46, undef), (45, undef), (44, undef), (43, I)] (wq_p 1 [(48, undef)] ?_)))
 refine wq_p 2 [(50, I), (49, undef)] ?_
 refine wE hK16 (cT (wR fun K17 hK17 => ?_))
 refine wq_p 3 [(4, (D 3)), (3, O), (2, O)] ?_
 refine wE hK17 (wp_ret (seq_r ?_))
 refine post_3 rfl (by kernel_rfl) (rtm O) (rtm O) (rtm (D 3)) ?_
 exact ⟨rfl, h14.below0⟩
theorem size_small2 (L : Bytes) (S : Bytes) (m K : Nat) (h1 : nb (gb L 1) = 128 + K) (hc : (L.take (2 + K)).drop 2 = S) (hS : getN S = m) (hSl : S.length = K) (h2 : 2 + K <= L.length) (hm : 128 <= m) (hKe : K = 2) (hm2 : m < 256) (hx : L.length <= 1000000) (A : Option Addr) (c : Nat) (w : World) (hv : SB w (.slice A L.length c) L) : Calls Try.prog 81 #[.slice A L.length c] w (DPost w (.tuple #[.int .i64 0, .int .i64 0, .int .i64 3])) := by
 have h0 := Hp.ro1 (rSB (.slice A L.length c) L) hv
 refine enter 60 Try.func81 rfl rfl ?_
 refine wp_reset 61 [(0, (lV A L.length c))] (fun x0 => ?_)
 refine wR fun K1 hK1 => ?_
 refine wq_p 3 [(4, O), (3, O), (2, O)] ?_
 refine wE hK1 (wp_seq_k fun K2 hK2 => wR fun K3 hK3 => ?_)
 refine wq_p 2 [(9, (D ((L.length : Int)))), (8, (lV A L.length c))] (wV 10 (.bool false) (eqI (bV (decide ((L.length : Int) < 2))) (by simp; omega)) ?_)
 refine wE hK3 (cF (wp_skip (seq_n hK2 (wR fun K4 hK4 => ?_))))
 refine wq_p 1 [(11, (lV A L.length c))] (wV 12 (eAt A (1 * 1 + 0)) (eIx (SB.rvn (h0.rd 0 rfl)).2 1 L.length (SB.rvn (h0.rd 0 rfl)).1 (by omega) 22 (.tmp 11) (.const (D 1)) .i64 5) (wV 13 (iV .u8 (ub (gb (L) (1)))) (eEl (SB.rvn (h0.rd 0 rfl)).2 1 0 ([(iV .u8 (ub (gb (L) (1))))]) (bx_get _ _ (by omega)) 5 (.tmp 12) (iV .u8 (ub (gb (L) (1))))) (wV 14 (iV .u64 (((128 + K : Nat) : Int))) (eqI (iV .u64 (IntKind.u64.wrap (ub (gb (L) (1))))) (u64_ub _ h1)) ?_)))
 refine wq_p 2 [(6, (D 2)), (5, (iV .u64 (((128 + K : Nat) : Int))))] ?_
 refine wE hK4 (wp_seq_k fun K5 hK5 => wR fun K6 hK6 => ?_)
 refine wq_p 1 [(15, (iV .u64 (((128 + K : Nat) : Int))))] (wV 16 (.bool true) (eqI (bV (decide (((128 + K : Nat) : Int) ≥ 128))) (by simp; omega)) ?_)
 refine wE hK6 (cT (wR fun K7 hK7 => ?_))
 refine wq_p 1 [(17, (iV .u64 (((128 + K : Nat) : Int))))] (wV 18 (iV .u64 ((K : Int))) (eqI (iV .u64 (IntKind.u64.wrap (((128 + K : Nat) : Int) - 128))) (u64_sub (m := 128 + K) (n := 128) rfl (by omega))) (wV 19 (D ((K : Int))) (eqI (D (IntKind.i64.wrap ((K : Int)))) (i64_nat (by omega))) (wq_p 1 [(7, (D ((K : Int))))] ?_)))
 refine wE hK7 (wp_seq_k fun K8 hK8 => wR fun K9 hK9 => ?_)
 refine wq_p 1 [(20, (D ((K : Int))))] (wV 21 (.bool false) (eqI (bV (decide ((K : Int) < 1))) (by simp; omega)) (wq_p 2 [(23, (D ((K : Int)))), (22, V)] (wV 24 (.bool false) (eqI (bV (decide ((K : Int) > 2))) (by simp; omega)) ?_)))
 refine wq_p 1 [(25, V)] ?_
 refine wE hK9 (cF (wp_skip (seq_n hK8 (wp_seq_k fun K10 hK10 => wp_seq_k fun K11 hK11 => ?_))))
 refine wp_reset 61 [(0, (lV A L.length c)), (2, O), (3, O), (4, O), (5, (iV .u64 (((128 + K : Nat) : Int)))), (6, (D 2)), (7, (D ((K : Int))))] (fun x12 => ?_)
 refine reg_lit ?_
 refine wq_p 3 [(28, (D ((K : Int)))), (27, (D ((L.length : Int)))), (26, (lV A L.length c))] (wV 29 (D (((2 + K : Nat) : Int))) (exec_add _ _ _ _ rfl 2 ((K : Int)) (by kernel_rfl) (by kernel_rfl) (((2 + K : Nat) : Int)) (by omega) (by omega) (by omega) _) (wV 30 (.bool false) (eqI (bV (decide ((L.length : Int) < ((2 + K : Nat) : Int)))) (by simp; omega)) ?_))
 refine wE hK11 (cF (wp_skip (seq_n hK10 (wR fun K13 hK13 => ?_))))
 refine wq_p 2 [(33, (D ((K : Int)))), (32, (lV A L.length c))] (wV 34 (D (((2 + K : Nat) : Int))) (exec_add _ _ _ _ rfl 2 ((K : Int)) (by kernel_rfl) (by kernel_rfl) (((2 + K : Nat) : Int)) (by omega) (by omega) (by omega) _) (wV 35 (cutS (lV A L.length c) 2 (((2 + K)))) (e_cut_lh (h0.rd 0 rfl) (.tmp 32) (.const (D 2)) (.tmp 34) (by kernel_rfl) (by kernel_rfl) .i64 .i64 2 (((2 + K))) (by kernel_rfl) (by kernel_rfl) (by omega) (by omega) _) ?_))
 refine wT 36 (x_getD h0 (((L).take (((2 + K)))).drop 2) (cutS (lV A L.length c) 2 (((2 + K)))) (by kernel_rfl) (SB.cut (h0.rd 0 rfl) 2 (((2 + K))) (by omega)) (by rw [hc]; omega) (by rw [hc]; omega) m (by rw [hc, hS])) ?_
 rintro _ w14 ⟨rfl, h14⟩
 refine wq_p 4 [(5, (iV .u64 (((m : Nat) : Int)))), (38, I), (37, (iV .u64 (((m : Nat) : Int)))), (31, (Value.tuple #[(iV .u64 (((m : Nat) : Int))), I]))] ?_
 refine wE hK13 (wR fun K15 hK15 => ?_)
 refine wq_p 1 [(39, (D ((K : Int))))] (wV 40 (D (((2 + K : Nat) : Int))) (exec_add _ _ _ _ rfl 2 ((K : Int)) (by kernel_rfl) (by kernel_rfl) (((2 + K : Nat) : Int)) (by omega) (by omega) (by omega) _) (wq_p 1 [(6, (D (((2 + K : Nat) : Int))))] ?_))
 refine wE hK15 (wR fun K16 hK16 => ?_)
 refine wq_p 1 [(41, (iV .u64 (((m : Nat) : Int))))] (wV 42 (.bool false) (eqI (bV (decide (((m : Nat) : Int) < 128))) (by simp; omega)) (wq_p 2 [(44, (D ((K : Int)))), (43, V)] (wV 45 (.bool true) (eqI (bV (((K : Int)) == 2)) (by rw [hKe]; rfl)) ?_)))
 refine wq_p 2 [(47, (iV .u64 (((m : Nat) : Int)))), (46, I)] (wV 48 (.bool true) (eqI (bV (decide (((m : Nat) : Int) < 256))) (by simp; omega)) (wq_p 2 [(50, I), (49, I)] ?_))
 refine wE hK16 (cT (wR fun K17 hK17 => ?_))
 refine wq_p 3 [(4, (D 3)), (3, O), (2, O)] ?_
 refine wE hK17 (wp_ret (seq_r ?_))
 refine post_3 rfl (by kernel_rfl) (rtm O) (rtm O) (rtm (D 3)) ?_
 exact ⟨rfl, h14.below0⟩
theorem size_hover (L : Bytes) (S : Bytes) (m K : Nat) (h1 : nb (gb L 1) = 128 + K) (hc : (L.take (2 + K)).drop 2 = S) (hS : getN S = m) (hSl : S.length = K) (h2 : 2 + K <= L.length) (hm : 128 <= m) (hm6 : m < 65536) (hKm : (K = 1 /\ m < 256) ∨ (K = 2 /\ 256 <= m)) (hl : L.length < 2 + K + m) (hx : L.length <= 1000000) (A : Option Addr) (c : Nat) (w : World) (hv : SB w (.slice A L.length c) L) : Calls Try.prog 81 #[.slice A L.length c] w (DPost w (.tuple #[.int .i64 0, .int .i64 0, .int .i64 1])) := by
 have h0 := Hp.ro1 (rSB (.slice A L.length c) L) hv
 refine enter 60 Try.func81 rfl rfl ?_
 refine wp_reset 61 [(0, (lV A L.length c))] (fun x0 => ?_)
 refine wR fun K1 hK1 => ?_
 refine wq_p 3 [(4, O), (3, O), (2, O)] ?_
 refine wE hK1 (wp_seq_k fun K2 hK2 => wR fun K3 hK3 => ?_)
 refine wq_p 2 [(9, (D ((L.length : Int)))), (8, (lV A L.length c))] (wV 10 (.bool false) (eqI (bV (decide ((L.length : Int) < 2))) (by simp; omega)) ?_)
 refine wE hK3 (cF (wp_skip (seq_n hK2 (wR fun K4 hK4 => ?_))))
 refine wq_p 1 [(11, (lV A L.length c))] (wV 12 (eAt A (1 * 1 + 0)) (eIx (SB.rvn (h0.rd 0 rfl)).2 1 L.length (SB.rvn (h0.rd 0 rfl)).1 (by omega) 22 (.tmp 11) (.const (D 1)) .i64 5) (wV 13 (iV .u8 (ub (gb (L) (1)))) (eEl (SB.rvn (h0.rd 0 rfl)).2 1 0 ([(iV .u8 (ub (gb (L) (1))))]) (bx_get _ _ (by omega)) 5 (.tmp 12) (iV .u8 (ub (gb (L) (1))))) (wV 14 (iV .u64 (((128 + K : Nat) : Int))) (eqI (iV .u64 (IntKind.u64.wrap (ub (gb (L) (1))))) (u64_ub _ h1)) ?_)))
 refine wq_p 2 [(6, (D 2)), (5, (iV .u64 (((128 + K : Nat) : Int))))] ?_
 refine wE hK4 (wp_seq_k fun K5 hK5 => wR fun K6 hK6 => ?_)
 refine wq_p 1 [(15, (iV .u64 (((128 + K : Nat) : Int))))] (wV 16 (.bool true) (eqI (bV (decide (((128 + K : Nat) : Int) ≥ 128))) (by simp; omega)) ?_)
 refine wE hK6 (cT (wR fun K7 hK7 => ?_))
 refine wq_p 1 [(17, (iV .u64 (((128 + K : Nat) : Int))))] (wV 18 (iV .u64 ((K : Int))) (eqI (iV .u64 (IntKind.u64.wrap (((128 + K : Nat) : Int) - 128))) (u64_sub (m := 128 + K) (n := 128) rfl (by omega))) (wV 19 (D ((K : Int))) (eqI (D (IntKind.i64.wrap ((K : Int)))) (i64_nat (by omega))) (wq_p 1 [(7, (D ((K : Int))))] ?_)))
 refine wE hK7 (wp_seq_k fun K8 hK8 => wR fun K9 hK9 => ?_)
 refine wq_p 1 [(20, (D ((K : Int))))] (wV 21 (.bool false) (eqI (bV (decide ((K : Int) < 1))) (by simp; omega)) (wq_p 2 [(23, (D ((K : Int)))), (22, V)] (wV 24 (.bool false) (eqI (bV (decide ((K : Int) > 2))) (by simp; omega)) ?_)))
 refine wq_p 1 [(25, V)] ?_
 refine wE hK9 (cF (wp_skip (seq_n hK8 (wp_seq_k fun K10 hK10 => wp_seq_k fun K11 hK11 => ?_))))
 refine wp_reset 61 [(0, (lV A L.length c)), (2, O), (3, O), (4, O), (5, (iV .u64 (((128 + K : Nat) : Int)))), (6, (D 2)), (7, (D ((K : Int))))] (fun x12 => ?_)
 refine reg_lit ?_
 refine wq_p 3 [(28, (D ((K : Int)))), (27, (D ((L.length : Int)))), (26, (lV A L.length c))] (wV 29 (D (((2 + K : Nat) : Int))) (exec_add _ _ _ _ rfl 2 ((K : Int)) (by kernel_rfl) (by kernel_rfl) (((2 + K : Nat) : Int)) (by omega) (by omega) (by omega) _) (wV 30 (.bool false) (eqI (bV (decide ((L.length : Int) < ((2 + K : Nat) : Int)))) (by simp; omega)) ?_))
 refine wE hK11 (cF (wp_skip (seq_n hK10 (wR fun K13 hK13 => ?_))))
 refine wq_p 2 [(33, (D ((K : Int)))), (32, (lV A L.length c))] (wV 34 (D (((2 + K : Nat) : Int))) (exec_add _ _ _ _ rfl 2 ((K : Int)) (by kernel_rfl) (by kernel_rfl) (((2 + K : Nat) : Int)) (by omega) (by omega) (by omega) _) (wV 35 (cutS (lV A L.length c) 2 (((2 + K)))) (e_cut_lh (h0.rd 0 rfl) (.tmp 32) (.const (D 2)) (.tmp 34) (by kernel_rfl) (by kernel_rfl) .i64 .i64 2 (((2 + K))) (by kernel_rfl) (by kernel_rfl) (by omega) (by omega) _) ?_))
 refine wT 36 (x_getD h0 (((L).take (((2 + K)))).drop 2) (cutS (lV A L.length c) 2 (((2 + K)))) (by kernel_rfl) (SB.cut (h0.rd 0 rfl) 2 (((2 + K))) (by omega)) (by rw [hc]; omega) (by rw [hc]; omega) m (by rw [hc, hS])) ?_
 rintro _ w14 ⟨rfl, h14⟩
 refine wq_p 4 [(5, (iV .u64 (((m : Nat) : Int)))), (38, I), (37, (iV .u64 (((m : Nat) : Int)))), (31, (Value.tuple #[(iV .u64 (((m : Nat) : Int))), I]))] ?_
 refine wE hK13 (wR fun K15 hK15 => ?_)
 refine wq_p 1 [(39, (D ((K : Int))))] (wV 40 (D (((2 + K : Nat) : Int))) (exec_add _ _ _ _ rfl 2 ((K : Int)) (by kernel_rfl) (by kernel_rfl) (((2 + K : Nat) : Int)) (by omega) (by omega) (by omega) _) (wq_p 1 [(6, (D (((2 + K : Nat) : Int))))] ?_))
 refine wE hK15 (wp_seq_k fun K16 hK16 => ?_)
 rcases hKm with ⟨hq1, hq2⟩ | ⟨hq1, hq2⟩
 ·
  refine reg_lit ?_
  refine wq_p 1 [(41, (iV .u64 (((m : Nat) : Int))))] (wV 42 (.bool false) (eqI (bV (decide (((m : Nat) : Int) < 128))) (by simp; omega)) (wq_p 2 [(44, (D ((K : Int)))), (43, V)] (wV 45 (.bool false) (eqI (bV (((K : Int)) == 2)) (by rw [hq1]; rfl)) ?_)))
  refine wq_p 2 [(47, undef), (46, V)] (wq_p 1 [(48, undef)] (wq_p 2 [(50, V), (49, V)] ?_))
  refine wE hK16 (cF (wp_skip (seq_n hK5 (wp_seq_k fun K18 hK18 => wR fun K19 hK19 => ?_))))
  refine wq_p 4 [(54, (D (((2 + K : Nat) : Int)))), (53, (D ((L.length : Int)))), (52, (lV A L.length c)), (51, (iV .u64 (((m : Nat) : Int))))] (wV 55 (D ((((L.length) - ((2 + K)) : Nat) : Int))) (exec_sub _ _ _ _ rfl ((L.length : Int)) (((2 + K : Nat) : Int)) (by kernel_rfl) (by kernel_rfl) ((((L.length) - ((2 + K)) : Nat) : Int)) (by omega) (by omega) (by omega) _) (wV 56 (iV .u64 (((L.length - (2 + K) : Nat) : Int))) (eqI (iV .u64 (IntKind.u64.wrap ((((L.length) - ((2 + K)) : Nat) : Int)))) (wrap_u64n (n := L.length - (2 + K)) (by omega) (by omega))) (wV 57 (.bool true) (eqI (bV (decide (((m : Nat) : Int) > ((L.length - (2 + K) : Nat) : Int)))) (by simp; omega)) ?_)))
  refine wE hK19 (cT (wR fun K20 hK20 => ?_))
  refine wq_p 3 [(4, (D 1)), (3, O), (2, O)] ?_
  refine wE hK20 (wp_ret (seq_r ?_))
  refine post_3 rfl (by kernel_rfl) (rtm O) (rtm O) (rtm (D 1)) ?_
  exact ⟨rfl, h14.below0⟩
 ·
  refine reg_lit ?_
  refine wq_p 1 [(41, (iV .u64 (((m : Nat) : Int))))] (wV 42 (.bool false) (eqI (bV (decide (((m : Nat) : Int) < 128))) (by simp; omega)) (wq_p 2 [(44, (D ((K : Int)))), (43, V)] (wV 45 (.bool true) (eqI (bV (((K : Int)) == 2)) (by rw [hq1]; rfl)) ?_)))
  refine wq_p 2 [(47, (iV .u64 (((m : Nat) : Int)))), (46, I)] (wV 48 (.bool false) (eqI (bV (decide (((m : Nat) : Int) < 256))) (by simp; omega)) (wq_p 2 [(50, V), (49, V)] ?_))
  refine wE hK16 (cF (wp_skip (seq_n hK5 (wp_seq_k fun K21 hK21 => wR fun K22 hK22 => ?_))))
  refine wq_p 4 [(54, (D (((2 + K : Nat) : Int)))), (53, (D ((L.length : Int)))), (52, (lV A L.length c)), (51, (iV .u64 (((m : Nat) : Int))))] (wV 55 (D ((((L.length) - ((2 + K)) : Nat) : Int))) (exec_sub _ _ _ _ rfl ((L.length : Int)) (((2 + K : Nat) : Int)) (by kernel_rfl) (by kernel_rfl) ((((L.length) - ((2 + K)) : Nat) : Int)) (by omega) (by omega) (by omega) _) (wV 56 (iV .u64 (((L.length - (2 + K) : Nat) : Int))) (eqI (iV .u64 (IntKind.u64.wrap ((((L.length) - ((2 + K)) : Nat) : Int)))) (wrap_u64n (n := L.length - (2 + K)) (by omega) (by omega))) (wV 57 (.bool true) (eqI (bV (decide (((m : Nat) : Int) > ((L.length - (2 + K) : Nat) : Int)))) (by simp; omega)) ?_)))
  refine wE hK22 (cT (wR fun K23 hK23 => ?_))
  refine wq_p 3 [(4, (D 1)), (3, O), (2, O)] ?_
  refine wE hK23 (wp_ret (seq_r ?_))
  refine post_3 rfl (by kernel_rfl) (rtm O) (rtm O) (rtm (D 1)) ?_
  exact ⟨rfl, h14.below0⟩
theorem size_all (L : Bytes) (hx : L.length <= 900000) (A : Option Addr) (c : Nat) (w : World) (hv : SB w (.slice A L.length c) L) : Calls Try.prog 81 #[.slice A L.length c] w (DPost w (.tuple #[.int .i64 ((szB L).2.1 : Int), .int .i64 ((szB L).2.2 : Int), .int .i64 ((szB L).1 : Int)])) := by
 have h256 := nb_lt (gb L 1)
 unfold szB
 split
 · exact size_short L (by omega) A c w hv
 rename_i h1
 split
 · rename_i h2
   split
   · rename_i h3
     exact size_lo L _ rfl h2 h3 (by omega) A c w hv
   · rename_i h3
     exact size_over L _ rfl h2 (by omega) (by omega) (by omega) A c w hv
 rename_i h2
 generalize hK : nb (gb L 1) - 128 = K
 have h3 : nb (gb L 1) = 128 + K := by omega
 split
 · rename_i h4
   rcases h4 with h4 | h4
   · exact size_k0 L K h3 (by omega) h4 (by omega) A c w hv
   · exact size_k3 L K h3 (by omega) h4 (by omega) (by omega) A c w hv
 rename_i h4
 have hK2 : K = 1 ∨ K = 2 := by omega
 split
 · rename_i h5
   exact size_hshort L K h3 (by omega) hK2 h5 (by omega) A c w hv
 rename_i h5
 have hSl : ((L.take (2 + K)).drop 2).length = K := by rw [List.length_drop, List.length_take]; omega
 have h65 : getN ((L.take (2 + K)).drop 2) < 256 ^ K := by
   have := getN_lt ((L.take (2 + K)).drop 2) ((L.take (2 + K)).drop 2).length (Nat.le_refl _)
   rw [List.take_length, hSl] at this; exact this
 have h65' : (K = 1 /\ getN ((L.take (2 + K)).drop 2) < 256) ∨ (K = 2 /\ getN ((L.take (2 + K)).drop 2) < 65536) := by
   rcases hK2 with e | e
   · left; refine ⟨e, ?_⟩; rw [e] at h65 ⊢; simpa using h65
   · right; refine ⟨e, ?_⟩; rw [e] at h65 ⊢; simpa using h65
 generalize hc : (L.take (2 + K)).drop 2 = S at *
 generalize hS : getN S = m at *
 split
 · rename_i h6
   by_cases hm : m < 128
   · exact size_small L S m K h3 hK2 hc hS hSl (by omega) hm (by omega) A c w hv
   · exact size_small2 L S m K h3 hc hS hSl (by omega) (by omega) (by omega) (by omega) (by omega) A c w hv
 rename_i h6
 split
 · rename_i h7
   exact size_hi L S m K h3 (by omega) (by omega) hc hS hSl h7 (by omega) A c w hv
 · rename_i h7
   exact size_hover L S m K h3 hc hS hSl (by omega) (by omega) (by omega) (by omega) (by omega) (by omega) A c w hv
end
end Go.Proofs.Ytecomegocafocaa
