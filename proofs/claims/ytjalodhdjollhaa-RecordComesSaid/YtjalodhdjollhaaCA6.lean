/- The walks of der.Read; read, by the value's depth. -/
import Derived.Test.YtjalodhdjollhaaCA5
set_option maxRecDepth 100000
set_option maxHeartbeats 4000000
namespace Go.Proofs.Ytjalodhdjollhaa
section
open Go.Value renaming int -> iV, slice -> lV, string -> sV, bool -> bV, agg -> aV
open Go.RowKit Go.QT
theorem size_lo (L : Bytes) (m : Nat) (h1 : nb (gb L 1) = m) (hm : m < 128) (hl : 2 + m <= L.length) (hx : L.length <= 1000000) (A : Option Addr) (c : Nat) (w : World) (hv : SB w (.slice A L.length c) L) : Calls Try.prog 55 #[.slice A L.length c] w (DPost w (.tuple #[.int .i64 (m : Int), .int .i64 2, .int .i64 0])) := by
 have h0 := Hp.ro1 (rSB (.slice A L.length c) L) hv
 refine enter 60 Try.func55 rfl rfl ?_
 refine wp_reset 61 [(0, (lV A L.length c))] (fun x0 => ?_)
 refine wp_seq_k fun K1 hK1 => reg_lit ?_
 refine wq_p 3 [(4, (iV .i64 0)), (3, (iV .i64 0)), (2, (iV .i64 0))] ?_
 refine wl_end rfl (seq_n hK1 (wp_seq_k fun K2 hK2 => wp_seq_k fun K3 hK3 => reg_lit ?_))
 refine wq_p 2 [(9, (iV .i64 ((L.length : Int)))), (8, (lV A L.length c))] (wq_v (some 10) (.bool false) (eqI (bV (decide ((L.length : Int) < 2))) (by simp; omega)) ?_)
 refine wl_end rfl (seq_n hK3 (cF (wp_skip (seq_n hK2 (wp_seq_k fun K4 hK4 => reg_lit ?_)))))
 refine wq_p 1 [(11, (lV A L.length c))] (wq_v (some 12) (eAt A (1 * 1 + 0)) (eIx (SB.rvn (h0.rd 0 rfl)).2 1 L.length (SB.rvn (h0.rd 0 rfl)).1 (by omega) 26 (.tmp 11) (.const (iV .i64 1)) .i64 5) (wq_v (some 13) (iV .u8 (ub (gb (L) (1)))) (eEl (SB.rvn (h0.rd 0 rfl)).2 1 0 ([(iV .u8 (ub (gb (L) (1))))]) (bx_get _ _ (by omega)) 5 (.tmp 12) (iV .u8 (ub (gb (L) (1))))) (wq_v (some 14) (iV .u64 ((m : Int))) (eqI (iV .u64 (IntKind.u64.wrap (ub (gb (L) (1))))) (u64_ub _ h1)) ?_)))
 refine wq_p 2 [(6, (iV .i64 2)), (5, (iV .u64 ((m : Int))))] ?_
 refine wl_end rfl (seq_n hK4 (wp_seq_k fun K5 hK5 => wp_seq_k fun K6 hK6 => reg_lit ?_))
 refine wq_p 1 [(15, (iV .u64 ((m : Int))))] (wq_v (some 16) (.bool false) (eqI (bV (decide ((m : Int) ≥ 128))) (by simp; omega)) ?_)
 refine wl_end rfl (seq_n hK6 (cF (wp_skip (seq_n hK5 (wp_seq_k fun K7 hK7 => wp_seq_k fun K8 hK8 => reg_lit ?_)))))
 refine wq_p 4 [(54, (iV .i64 2)), (53, (iV .i64 ((L.length : Int)))), (52, (lV A L.length c)), (51, (iV .u64 ((m : Int))))] (wq_v (some 55) (iV .i64 ((((L.length) - 2 : Nat) : Int))) (exec_sub _ _ _ _ rfl ((L.length : Int)) 2 (by kernel_rfl) (by kernel_rfl) ((((L.length) - 2 : Nat) : Int)) (by omega) (by omega) (by omega) _) (wq_v (some 56) (iV .u64 ((((L.length) - 2 : Nat) : Int))) (eqI (iV .u64 (IntKind.u64.wrap ((((L.length) - 2 : Nat) : Int)))) (wrap_u64_is (by omega) (by omega))) (wq_v (some 57) (.bool false) (eqI (bV (decide ((m : Int) > (((L.length) - 2 : Nat) : Int)))) (by simp; omega)) ?_)))
 refine wl_end rfl (seq_n hK8 (cF (wp_skip (seq_n hK7 (wp_seq_k fun K9 hK9 => reg_lit ?_)))))
 refine wq_p 1 [(58, (iV .u64 ((m : Int))))] (wq_v (some 59) (iV .i64 ((m : Int))) (eqI (iV .i64 (IntKind.i64.wrap ((m : Int)))) (i64_nat (by omega))) (wq_p 4 [(4, (iV .i64 0)), (3, (iV .i64 2)), (2, (iV .i64 ((m : Int)))), (60, (iV .i64 2))] ?_))
 refine wl_end rfl (seq_n hK9 (wp_ret ?_))
 refine post_3 rfl (by kernel_rfl) (rtm (iV .i64 ((m : Int)))) (rtm (iV .i64 2)) (rtm (iV .i64 0)) ?_
 exact ⟨rfl, h0.below0⟩
theorem size_hi (L S : Bytes) (m K : Nat) (h1 : nb (gb L 1) = 128 + K) (hK : (K = 1 /\ m < 256) ∨ (K = 2 /\ 256 <= m)) (hm : 128 <= m) (hc : (L.take (2 + K)).drop 2 = S) (hS : getN S = m) (hSl : S.length = K) (hl : 2 + K + m <= L.length) (hx : L.length <= 1000000) (A : Option Addr) (c : Nat) (w : World) (hv : SB w (.slice A L.length c) L) : Calls Try.prog 55 #[.slice A L.length c] w (DPost w (.tuple #[.int .i64 (m : Int), .int .i64 ((2 + K : Nat) : Int), .int .i64 0])) := by
 have h0 := Hp.ro1 (rSB (.slice A L.length c) L) hv
 refine enter 60 Try.func55 rfl rfl ?_
 refine wp_reset 61 [(0, (lV A L.length c))] (fun x0 => ?_)
 refine wp_seq_k fun K1 hK1 => reg_lit ?_
 refine wq_p 3 [(4, (iV .i64 0)), (3, (iV .i64 0)), (2, (iV .i64 0))] ?_
 refine wl_end rfl (seq_n hK1 (wp_seq_k fun K2 hK2 => wp_seq_k fun K3 hK3 => reg_lit ?_))
 refine wq_p 2 [(9, (iV .i64 ((L.length : Int)))), (8, (lV A L.length c))] (wq_v (some 10) (.bool false) (eqI (bV (decide ((L.length : Int) < 2))) (by simp; omega)) ?_)
 refine wl_end rfl (seq_n hK3 (cF (wp_skip (seq_n hK2 (wp_seq_k fun K4 hK4 => reg_lit ?_)))))
 refine wq_p 1 [(11, (lV A L.length c))] (wq_v (some 12) (eAt A (1 * 1 + 0)) (eIx (SB.rvn (h0.rd 0 rfl)).2 1 L.length (SB.rvn (h0.rd 0 rfl)).1 (by omega) 26 (.tmp 11) (.const (iV .i64 1)) .i64 5) (wq_v (some 13) (iV .u8 (ub (gb (L) (1)))) (eEl (SB.rvn (h0.rd 0 rfl)).2 1 0 ([(iV .u8 (ub (gb (L) (1))))]) (bx_get _ _ (by omega)) 5 (.tmp 12) (iV .u8 (ub (gb (L) (1))))) (wq_v (some 14) (iV .u64 (((128 + K : Nat) : Int))) (eqI (iV .u64 (IntKind.u64.wrap (ub (gb (L) (1))))) (u64_ub _ h1)) ?_)))
 refine wq_p 2 [(6, (iV .i64 2)), (5, (iV .u64 (((128 + K : Nat) : Int))))] ?_
 refine wl_end rfl (seq_n hK4 (wp_seq_k fun K5 hK5 => wp_seq_k fun K6 hK6 => reg_lit ?_))
 refine wq_p 1 [(15, (iV .u64 (((128 + K : Nat) : Int))))] (wq_v (some 16) (.bool true) (eqI (bV (decide (((128 + K : Nat) : Int) ≥ 128))) (by simp; omega)) ?_)
 refine wl_end rfl (seq_n hK6 (cT (wp_seq_k fun K7 hK7 => reg_lit ?_)))
 refine wq_p 1 [(17, (iV .u64 (((128 + K : Nat) : Int))))] (wq_v (some 18) (iV .u64 ((K : Int))) (eqI (iV .u64 (IntKind.u64.wrap (((128 + K : Nat) : Int) - 128))) (u64_sub (m := 128 + K) (n := 128) rfl (by omega))) (wq_v (some 19) (iV .i64 ((K : Int))) (eqI (iV .i64 (IntKind.i64.wrap ((K : Int)))) (i64_nat (by omega))) (wq_p 1 [(7, (iV .i64 ((K : Int))))] ?_)))
 refine wl_end rfl (seq_n hK7 (wp_seq_k fun K8 hK8 => wp_seq_k fun K9 hK9 => reg_lit ?_))
 refine wq_p 1 [(20, (iV .i64 ((K : Int))))] (wq_v (some 21) (.bool false) (eqI (bV (decide ((K : Int) < 1))) (by simp; omega)) (wq_p 2 [(23, (iV .i64 ((K : Int)))), (22, (bV false))] (wq_v (some 24) (.bool false) (eqI (bV (decide ((K : Int) > 2))) (by simp; omega)) ?_)))
 refine wq_p 1 [(25, (bV false))] ?_
 refine wl_end rfl (seq_n hK9 (cF (wp_skip (seq_n hK8 (wp_seq_k fun K10 hK10 => wp_seq_k fun K11 hK11 => ?_)))))
 refine wp_reset 61 [(0, (lV A L.length c)), (2, (iV .i64 0)), (3, (iV .i64 0)), (4, (iV .i64 0)), (5, (iV .u64 (((128 + K : Nat) : Int)))), (6, (iV .i64 2)), (7, (iV .i64 ((K : Int)))), (10, (bV false)), (16, (bV true)), (25, (bV false))] (fun x12 => ?_)
 refine reg_lit ?_
 refine wq_p 3 [(28, (iV .i64 ((K : Int)))), (27, (iV .i64 ((L.length : Int)))), (26, (lV A L.length c))] (wq_v (some 29) (iV .i64 (((2 + K : Nat) : Int))) (exec_add _ _ _ _ rfl 2 ((K : Int)) (by kernel_rfl) (by kernel_rfl) (((2 + K : Nat) : Int)) (by omega) (by omega) (by omega) _) (wq_v (some 30) (.bool false) (eqI (bV (decide ((L.length : Int) < ((2 + K : Nat) : Int)))) (by simp; omega)) ?_))
 refine wl_end rfl (seq_n hK11 (cF (wp_skip (seq_n hK10 (wp_seq_k fun K13 hK13 => reg_lit ?_)))))
 refine wq_p 2 [(33, (iV .i64 ((K : Int)))), (32, (lV A L.length c))] (wq_v (some 34) (iV .i64 (((2 + K : Nat) : Int))) (exec_add _ _ _ _ rfl 2 ((K : Int)) (by kernel_rfl) (by kernel_rfl) (((2 + K : Nat) : Int)) (by omega) (by omega) (by omega) _) (wq_v (some 35) (cutS (lV A L.length c) 2 (((2 + K)))) (e_cut_lh (h0.rd 0 rfl) (.tmp 32) (.const (iV .i64 2)) (.tmp 34) (by kernel_rfl) (by kernel_rfl) .i64 .i64 2 (((2 + K))) (by kernel_rfl) (by kernel_rfl) (by omega) (by omega) _) ?_))
 refine wq_to (some 36) (x_getD h0 (((L).take (((2 + K)))).drop 2) (cutS (lV A L.length c) 2 (((2 + K)))) (by kernel_rfl) (SB.cut (h0.rd 0 rfl) 2 (((2 + K))) (by omega)) (by rw [hc]; omega) (by rw [hc]; omega) m (by rw [hc, hS])) ?_
 rintro _ w14 ⟨rfl, h14⟩
 refine wq_p 4 [(5, (iV .u64 (((m : Nat) : Int)))), (38, (bV true)), (37, (iV .u64 (((m : Nat) : Int)))), (31, (Value.tuple #[(iV .u64 (((m : Nat) : Int))), (bV true)]))] ?_
 refine wl_end rfl (seq_n hK13 (wp_seq_k fun K15 hK15 => reg_lit ?_))
 refine wq_p 1 [(39, (iV .i64 ((K : Int))))] (wq_v (some 40) (iV .i64 (((2 + K : Nat) : Int))) (exec_add _ _ _ _ rfl 2 ((K : Int)) (by kernel_rfl) (by kernel_rfl) (((2 + K : Nat) : Int)) (by omega) (by omega) (by omega) _) (wq_p 1 [(6, (iV .i64 (((2 + K : Nat) : Int))))] ?_))
 refine wl_end rfl (seq_n hK15 (wp_seq_k fun K16 hK16 => ?_))
 rcases hK with ⟨hq1, hq2⟩ | ⟨hq1, hq2⟩
 ·
  refine reg_lit ?_
  refine wq_p 1 [(41, (iV .u64 (((m : Nat) : Int))))] (wq_v (some 42) (.bool false) (eqI (bV (decide (((m : Nat) : Int) < 128))) (by simp; omega)) (wq_p 2 [(44, (iV .i64 ((K : Int)))), (43, (bV false))] (wq_v (some 45) (.bool false) (eqI (bV (((K : Int)) == 2)) (by rw [hq1]; rfl)) ?_)))
  refine wq_p 2 [(47, undef), (46, (bV false))] (wq_p 1 [(48, undef)] (wq_p 2 [(50, (bV false)), (49, (bV false))] ?_))
  refine wl_end rfl (seq_n hK16 (cF (wp_skip (seq_n hK5 (wp_seq_k fun K18 hK18 => wp_seq_k fun K19 hK19 => reg_lit ?_)))))
  refine wq_p 4 [(54, (iV .i64 (((2 + K : Nat) : Int)))), (53, (iV .i64 ((L.length : Int)))), (52, (lV A L.length c)), (51, (iV .u64 (((m : Nat) : Int))))] (wq_v (some 55) (iV .i64 ((((L.length) - ((2 + K)) : Nat) : Int))) (exec_sub _ _ _ _ rfl ((L.length : Int)) (((2 + K : Nat) : Int)) (by kernel_rfl) (by kernel_rfl) ((((L.length) - ((2 + K)) : Nat) : Int)) (by omega) (by omega) (by omega) _) (wq_v (some 56) (iV .u64 ((((L.length) - ((2 + K)) : Nat) : Int))) (eqI (iV .u64 (IntKind.u64.wrap ((((L.length) - ((2 + K)) : Nat) : Int)))) (wrap_u64_is (by omega) (by omega))) (wq_v (some 57) (.bool false) (eqI (bV (decide (((m : Nat) : Int) > (((L.length) - ((2 + K)) : Nat) : Int)))) (by simp; omega)) ?_)))
  refine wl_end rfl (seq_n hK19 (cF (wp_skip (seq_n hK18 (wp_seq_k fun K20 hK20 => ?_)))))
  refine wp_reset 61 [(0, (lV A L.length c)), (2, (iV .i64 0)), (3, (iV .i64 0)), (4, (iV .i64 0)), (5, (iV .u64 (((m : Nat) : Int)))), (6, (iV .i64 (((2 + K : Nat) : Int)))), (7, (iV .i64 ((K : Int)))), (10, (bV false)), (16, (bV true)), (25, (bV false)), (30, (bV false)), (50, (bV false)), (57, (bV false))] (fun x21 => ?_)
  refine reg_lit ?_
  refine wq_p 1 [(58, (iV .u64 (((m : Nat) : Int))))] (wq_v (some 59) (iV .i64 ((m : Int))) (eqI (iV .i64 (IntKind.i64.wrap (((m : Nat) : Int)))) (i64_nat (by omega))) (wq_p 4 [(4, (iV .i64 0)), (3, (iV .i64 (((2 + K : Nat) : Int)))), (2, (iV .i64 ((m : Int)))), (60, (iV .i64 (((2 + K : Nat) : Int))))] ?_))
  refine wl_end rfl (seq_n hK20 (wp_ret ?_))
  refine post_3 rfl (by kernel_rfl) (rtm (iV .i64 ((m : Int)))) (rtm (iV .i64 (((2 + K : Nat) : Int)))) (rtm (iV .i64 0)) ?_
  exact ⟨rfl, h14.below0⟩
 ·
  refine reg_lit ?_
  refine wq_p 1 [(41, (iV .u64 (((m : Nat) : Int))))] (wq_v (some 42) (.bool false) (eqI (bV (decide (((m : Nat) : Int) < 128))) (by simp; omega)) (wq_p 2 [(44, (iV .i64 ((K : Int)))), (43, (bV false))] (wq_v (some 45) (.bool true) (eqI (bV (((K : Int)) == 2)) (by rw [hq1]; rfl)) ?_)))
  refine wq_p 2 [(47, (iV .u64 (((m : Nat) : Int)))), (46, (bV true))] (wq_v (some 48) (.bool false) (eqI (bV (decide (((m : Nat) : Int) < 256))) (by simp; omega)) (wq_p 2 [(50, (bV false)), (49, (bV false))] ?_))
  refine wl_end rfl (seq_n hK16 (cF (wp_skip (seq_n hK5 (wp_seq_k fun K22 hK22 => wp_seq_k fun K23 hK23 => reg_lit ?_)))))
  refine wq_p 4 [(54, (iV .i64 (((2 + K : Nat) : Int)))), (53, (iV .i64 ((L.length : Int)))), (52, (lV A L.length c)), (51, (iV .u64 (((m : Nat) : Int))))] (wq_v (some 55) (iV .i64 ((((L.length) - ((2 + K)) : Nat) : Int))) (exec_sub _ _ _ _ rfl ((L.length : Int)) (((2 + K : Nat) : Int)) (by kernel_rfl) (by kernel_rfl) ((((L.length) - ((2 + K)) : Nat) : Int)) (by omega) (by omega) (by omega) _) (wq_v (some 56) (iV .u64 ((((L.length) - ((2 + K)) : Nat) : Int))) (eqI (iV .u64 (IntKind.u64.wrap ((((L.length) - ((2 + K)) : Nat) : Int)))) (wrap_u64_is (by omega) (by omega))) (wq_v (some 57) (.bool false) (eqI (bV (decide (((m : Nat) : Int) > (((L.length) - ((2 + K)) : Nat) : Int)))) (by simp; omega)) ?_)))
  refine wl_end rfl (seq_n hK23 (cF (wp_skip (seq_n hK22 (wp_seq_k fun K24 hK24 => ?_)))))
  refine wp_reset 61 [(0, (lV A L.length c)), (2, (iV .i64 0)), (3, (iV .i64 0)), (4, (iV .i64 0)), (5, (iV .u64 (((m : Nat) : Int)))), (6, (iV .i64 (((2 + K : Nat) : Int)))), (7, (iV .i64 ((K : Int)))), (10, (bV false)), (16, (bV true)), (25, (bV false)), (30, (bV false)), (50, (bV false)), (57, (bV false))] (fun x25 => ?_)
  refine reg_lit ?_
  refine wq_p 1 [(58, (iV .u64 (((m : Nat) : Int))))] (wq_v (some 59) (iV .i64 ((m : Int))) (eqI (iV .i64 (IntKind.i64.wrap (((m : Nat) : Int)))) (i64_nat (by omega))) (wq_p 4 [(4, (iV .i64 0)), (3, (iV .i64 (((2 + K : Nat) : Int)))), (2, (iV .i64 ((m : Int)))), (60, (iV .i64 (((2 + K : Nat) : Int))))] ?_))
  refine wl_end rfl (seq_n hK24 (wp_ret ?_))
  refine post_3 rfl (by kernel_rfl) (rtm (iV .i64 ((m : Int)))) (rtm (iV .i64 (((2 + K : Nat) : Int)))) (rtm (iV .i64 0)) ?_
  exact ⟨rfl, h14.below0⟩
theorem size_nil (A : Option Addr) (c : Nat) (w : World) : Calls Try.prog 55 #[.slice A 0 c] w (DPost w (.tuple #[.int .i64 0, .int .i64 0, .int .i64 1])) := by
 have h0 := Hp.nil (fun _ => False) w
 refine enter 60 Try.func55 rfl rfl ?_
 refine wp_reset 61 [(0, (lV A 0 c))] (fun x0 => ?_)
 refine wp_seq_k fun K1 hK1 => reg_lit ?_
 refine wq_p 3 [(4, (iV .i64 0)), (3, (iV .i64 0)), (2, (iV .i64 0))] ?_
 refine wl_end rfl (seq_n hK1 (wp_seq_k fun K2 hK2 => wp_seq_k fun K3 hK3 => reg_lit ?_))
 refine wq_p 3 [(10, (bV true)), (9, (iV .i64 0)), (8, (lV A 0 c))] ?_
 refine wl_end rfl (seq_n hK3 (cT (wp_seq_k fun K4 hK4 => reg_lit ?_)))
 refine wq_p 3 [(4, (iV .i64 1)), (3, (iV .i64 0)), (2, (iV .i64 0))] ?_
 refine wl_end rfl (seq_n hK4 (wp_ret (seq_r ?_)))
 refine post_3 rfl (by kernel_rfl) (rtm (iV .i64 0)) (rtm (iV .i64 0)) (rtm (iV .i64 1)) ?_
 exact ⟨rfl, h0.below0⟩
/-- How many bytes a value has behind its first ones, and where they begin. -/
theorem size_any (k t m : Nat) (r : Bytes) (hm : m < 65536) (hr : m <= r.length) (hx : r.length <= 900000) (v : Value) (w : World) (hv : SB w v (headB k t m ++ r)) : Calls Try.prog 55 #[v] w (DPost w (.tuple #[.int .i64 (m : Int), .int .i64 ((headB k t m).length : Int), .int .i64 0])) := by
 obtain ⟨A, c, rfl, _⟩ := id hv
 by_cases h : m < 128
 · have hl := head_loL k t h
   have := size_lo (headB k t m ++ r) m (head_lo1 k t h r) h (by rw [List.length_append, hl]; omega) (by rw [List.length_append, hl]; omega) A c w hv
   rw [hl]; exact this
 · have hl := head_hiL k t h
   have h2 := short_two (m := m) (by omega) hm
   have := size_hi (headB k t m ++ r) (shortB m) m (shortB m).length (head_hi1 k t h r) h2 (by omega) (head_hi2 k t h r) (getN_short (by omega)) rfl (by rw [List.length_append, hl]; omega) (by rw [List.length_append, hl]; omega) A c w hv
   rw [hl]; exact this
end
section
open Go.RowKit Go.QT
mutual
/-- The numbers fit into 64 bits. -/
def numV : DVal -> Bool | .mk _ _ n _ l => decide (n < 18446744073709551616) && numL l
def numL : List DVal -> Bool
 | [] => true
 | x :: r => numV x && numL r
end
theorem numL_at : ∀ (l : List DVal) (i : Nat) (u : DVal), l[i]? = some u -> numL l = true -> numV u = true
 | [], i, u, h, _ => by simp at h
 | y :: r, 0, u, h, hr => by
   have : y = u := by simpa using h
   subst this
   rw [numL, Bool.and_eq_true] at hr; exact hr.1
 | y :: r, i + 1, u, h, hr => by
   rw [numL, Bool.and_eq_true] at hr
   exact numL_at r i u (by simpa using h) hr.2
theorem wrL_drop : ∀ (l : List DVal) (i : Nat) (x : DVal), l[i]? = some x -> wrL (l.drop i) = wrV x ++ wrL (l.drop (i + 1))
 | [], i, x, h => by simp at h
 | y :: r, 0, x, h => by
   have : y = x := by simpa using h
   subst this
   simp [wrL]
 | y :: r, i + 1, x, h => by
   have := wrL_drop r i x (by simpa using h)
   simpa using this
theorem wrL_drop_le : ∀ (l : List DVal) (i : Nat), (wrL (l.drop i)).length <= (wrL l).length
 | [], i => by simp
 | y :: r, 0 => by simp
 | y :: r, i + 1 => by
   have := wrL_drop_le r i
   simp only [List.drop_succ_cons, wrL, List.length_append]; omega
theorem head_pos (k t m : Nat) : 2 <= (headB k t m).length := by
 by_cases h : m < 128
 · rw [head_loL k t h]; omega
 · rw [head_hiL k t h]; omega
theorem wrV_pos (v : DVal) : 2 <= (wrV v).length := by
 rw [wrV_eq, List.length_append]; have := head_pos v.kind v.tag (bodyV v).length; omega
theorem wrL_count : ∀ (l : List DVal), 2 * l.length <= (wrL l).length
 | [] => by simp
 | y :: r => by
   have := wrL_count r
   have := wrV_pos y
   simp only [List.length_cons, wrL, List.length_append]; omega
section
variable {P : Program} {o : Oper} {a : Act} {w w' : World} {F0 : Nat -> Prop} {w0 : World} {ro rs : List Res}
theorem e_shr8 (t t' : TypeId) (x y : Operand) (ho : o.op = .binOp .shr t x y t') (m : Nat) (k : IntKind) (n : Nat) (hn : n <= 8) (hx : a.eval x = .int .u8 (m : Int)) (hy : a.eval y = .int k (n : Int)) (hm : m < 256) (W : World) :
   (execOp a.eval o).run P W = .ok (.value (.int .u8 ((m / 2 ^ n : Nat) : Int))) W := by
 have h3 : (eqGuard .shr t x y (.int .u8 (m : Int)) (.int k (n : Int))).run P W = .ok () W := by simp [eqGuard]
 have e : ((m : Int)).fdiv (2 ^ n) = ((m / 2 ^ n : Nat) : Int) := by
   have h2 : (2 : Int) ^ n = ((2 ^ n : Nat) : Int) := by simp
   rw [h2, Int.fdiv_eq_ediv_of_nonneg _ (Int.natCast_nonneg _), ← Int.natCast_ediv]
 have hlt : m / 2 ^ n < 256 := Nat.lt_of_le_of_lt (Nat.div_le_self _ _) hm
 have e2 : IntKind.u8.wrap ((m / 2 ^ n : Nat) : Int) = ((m / 2 ^ n : Nat) : Int) := by
   rw [IntKind.wrap_u8]
   generalize m / 2 ^ n = q at *
   omega
 have h4 : (binOp .shr t (.int .u8 (m : Int)) (.int k (n : Int))).run P W = .ok (.int .u8 ((m / 2 ^ n : Nat) : Int)) W := by
   have hm : min ((n : Int)).toNat IntKind.u8.bits = n := by
     show min ((n : Int)).toNat 8 = n
     omega
   have h0 : ¬ ((n : Int) < 0) := by omega
   unfold binOp Op.shift
   simp only [if_neg h0, hm, e, Sem.run_pure]
 unfold execOp
 simp only [ho, hx, hy, Sem.run_bind, h3, h4, Result.andThen_ok, Sem.run_pure]
theorem and63 : ((List.range 256).all fun n => decide (bits .and .u8 ((n : Nat) : Int) 63 = ((n % 64 : Nat) : Int))) = true := by decide +kernel
theorem and63' {n : Nat} (h : n < 256) : bits .and .u8 ((n : Nat) : Int) 63 = ((n % 64 : Nat) : Int) :=
 of_decide_eq_true (List.all_eq_true.1 and63 n (List.mem_range.2 h))
/-- A part of bytes that are read, as a slice of its own. -/
theorem Hp.roCut {v : Value} {l : Bytes} (h : Hp F0 w0 w ro rs) (i : Nat) (hi : ro[i]? = some (rSB v l)) (lo hb : Nat) (hh : hb <= l.length) (B : Bytes) (e : (l.take hb).drop lo = B) : ∃ A c, cutS v lo hb = .slice A B.length c /\ Hp F0 w0 w (rSB (.slice A B.length c) B :: ro) rs := by
 have hs := SB.cut (h.red i _ hi) lo hb hh
 rw [e] at hs
 obtain ⟨A, c, e2, _⟩ := id hs
 refine ⟨A, c, e2, ?_⟩
 rw [← e2]
 refine h.sub i hi (rSB _ _) hs (fun q hq => ⟨?_, ?_⟩)
 · rintro rfl; exact hq.1 (by rw [← e]; simp)
 · have h2 : (cutS v lo hb).ownBlock = some q := hq.2
   rw [cutS_block] at h2; exact h2
/-- What der.read leaves: the value, new, and how many bytes it had. -/
def ReadPost (w : World) (v : DVal) (k : Nat) (e : Ending) (w' : World) : Prop := ∃ F cs, e = .returned (.tuple #[.agg cs.toArray, .int .i64 (k : Int), .int .i64 0]) /\ Hp (fun _ => False) w w' [] [rDV F cs v]
theorem x_read (h : Hp F0 w0 w ro rs) {v : DVal} {k : Nat} (fn : FuncId) (al : List Value) (hp : pureVal P (execOp a.eval o) = some (.enter fn al.toArray)) (hc : Calls P fn al.toArray w (ReadPost w v k)) :
   OpTo P o a w (fun u w' => ∃ F cs, u = .tuple #[.agg cs.toArray, .int .i64 (k : Int), .int .i64 0] /\ Hp F0 w0 w' ro (rDV F cs v :: rs)) :=
 OpTo.enter fn al hp hc fun e w' hq => by
   obtain ⟨F, cs, he, h2⟩ := hq
   exact ⟨_, he, F, cs, rfl, h.call0 h2⟩
end
theorem dv_numT (w : World) (t n : Nat) (hn : n < 18446744073709551616) : (rDV (fun _ => False) [.int .i64 0, .int .i64 (t : Int), .int .u64 (n : Int), .slice none 0 0, .slice none 0 0] (.mk 0 t n [] [])).Φ w :=
 ⟨fun _ hf => hf.elim, .mk 0 t n _ [] none 0 [] [] hn (sbf_nil _ _) (rvf_nil _ _ _ _ (by unfold maxLen; omega) _) rfl (by simp)⟩
theorem dv_rawT {w : World} {v : Value} {b : Bytes} (t : Nat) (h : SB w v b) : (rDV (rSB v b).F [.int .i64 1, .int .i64 (t : Int), .int .u64 0, v, .slice none 0 0] (.mk 1 t 0 b [])).Φ w :=
 ⟨fun q hq => (rSB v b).lt h q hq, .mk 1 t 0 v b none 0 [] [] (by omega) ⟨h, fun h1 q hq => ⟨h1, hq⟩⟩ (rvf_nil _ _ _ _ (by unfold maxLen; omega) _) rfl (by simp)⟩
theorem rdl_nil (w : World) : (rDL (fun _ => False) [] []).Φ w := ⟨fun _ hf => hf.elim, by simp⟩
theorem rdl_push {w : World} {G F : Nat -> Prop} {xs : List (List Value)} {ts : List DVal} {cs : List Value} {u : DVal} (hl : xs.length = ts.length) (h : (rDL G xs ts).Φ w) (hu : (rDV F cs u).Φ w) : (rDL (fun q => F q ∨ G q) (xs ++ [cs]) (ts ++ [u])).Φ w := by
 refine ⟨fun q hq => hq.elim (hu.1 q) (h.1 q), fun i x y hx hy => ?_⟩
 by_cases hi : i < xs.length
 · rw [List.getElem?_append_left hi] at hx
   rw [List.getElem?_append_left (by omega)] at hy
   exact (h.2 i x y hx hy).mono fun q hq => .inr hq
 · have e : i = xs.length := by
     have := (List.getElem?_eq_some_iff.1 hx).1
     simp at this; omega
   subst e
   rw [List.getElem?_append_right (Nat.le_refl _), Nat.sub_self] at hx
   rw [hl, List.getElem?_append_right (Nat.le_refl _), Nat.sub_self] at hy
   have hx : cs = x := by simpa using hx
   have hy : u = y := by simpa using hy
   subst hx; subst hy
   exact hu.2.mono fun q hq => .inl hq
theorem dv_seqO {w : World} {G : Nat -> Prop} {A : Option Addr} {n c t : Nat} {xs : List (List Value)} {ts : List DVal} (hl : xs.length = ts.length) (hn : n = ts.length) (hx : (rOV 100 5 (.slice A n c) xs).Φ w) (hs : (rDL G xs ts).Φ w) :
   (rDV (fun q => (rOV 100 5 (.slice A n c) xs).F q ∨ G q) [.int .i64 2, .int .i64 (t : Int), .int .u64 0, .slice none 0 0, .slice A n c] (.mk 2 t 0 [] ts)).Φ w := by
 subst hn
 refine ⟨fun q hq => hq.elim ((rOV 100 5 (.slice A ts.length c) xs).lt hx q) (hs.1 q), .mk 2 t 0 _ [] A c xs ts (by omega) (sbf_nil _ _) ⟨(OV.rvn hx).2, fun _ q hq => .inl ?_⟩ hl (fun i x u h1 h2 => (hs.2 i x u h1 h2).mono fun q hq => .inr hq)⟩
 show (Value.slice A ts.length c).ownBlock = some q
 rw [← hq]; cases A <;> rfl
section
variable {w : World} {w0 : World} {ro rs : List Res}
theorem readpost_0 (h : Hp (fun _ => False) w0 w ro rs) (t n k : Nat) (hn : n < 18446744073709551616) : ReadPost w0 (.mk 0 t n [] []) k (.returned (.tuple #[.agg #[.int .i64 0, .int .i64 (t : Int), .int .u64 (n : Int), .slice none 0 0, .slice none 0 0], .int .i64 (k : Int), .int .i64 0])) w :=
 ⟨_, _, rfl, (h.addS _ (dv_numT w t n hn) (fun _ hf => hf.elim) (fun _ _ _ _ hf => hf.elim) (fun _ _ _ _ hf => hf.elim)).sel [0] [] rfl rfl rfl⟩
theorem readpost_1 (h : Hp (fun _ => False) w0 w ro rs) (i : Nat) {v : Value} {b : Bytes} (hi : rs[i]? = some (rOB v b)) (t k : Nat) : ReadPost w0 (.mk 1 t 0 b []) k (.returned (.tuple #[.agg #[.int .i64 1, .int .i64 (t : Int), .int .u64 0, v, .slice none 0 0], .int .i64 (k : Int), .int .i64 0])) w := by
 have hu := h.upd i hi (Fr.refl _ _) _ (dv_rawT t (OB.sb (h.own i _ hi))) (fun _ hq => .inl hq.2)
 have hi2 := List.getElem?_set_self (a := rDV (rSB v b).F [.int .i64 1, .int .i64 (t : Int), .int .u64 0, v, .slice none 0 0] (.mk 1 t 0 b [])) (List.getElem?_eq_some_iff.1 hi).1
 exact ⟨_, _, rfl, hu.sel (rs' := [rDV (rSB v b).F [.int .i64 1, .int .i64 (t : Int), .int .u64 0, v, .slice none 0 0] (.mk 1 t 0 b [])]) [i] [] rfl rfl (by simp only [List.map_cons, List.map_nil]; rw [hi2])⟩
theorem readpost_2 (h : Hp (fun _ => False) w0 w ro rs) (i j : Nat) (hij : i < j) {G : Nat -> Prop} {A : Option Addr} {n c : Nat} {xs : List (List Value)} {ts : List DVal} (hi : rs[i]? = some (rOV 100 5 (.slice A n c) xs)) (hj : rs[j]? = some (rDL G xs ts)) (hl : xs.length = ts.length) (hn : n = ts.length) (t k : Nat) : ReadPost w0 (.mk 2 t 0 [] ts) k (.returned (.tuple #[.agg #[.int .i64 2, .int .i64 (t : Int), .int .u64 0, .slice none 0 0, .slice A n c], .int .i64 (k : Int), .int .i64 0])) w :=
 ⟨_, _, rfl, (h.join i j hi hj hij _ (dv_seqO hl hn (h.own i _ hi) (h.own j _ hj)) (fun _ hq => hq)).sel [0] [] rfl rfl rfl⟩
end
end
section
open Go.Value renaming int -> iV, slice -> lV, string -> sV, bool -> bV, agg -> aV
open Go.RowKit Go.QT
theorem read_num (d : Nat) (hd : d <= 8) (L : Bytes) (t m H : Nat) (B : Bytes) (ht : t <= 30) (h0 : nb (gb L 0) = 0 * 64 + t) (hcut : (L.take (H + m)).drop H = B) (hB : B.length = m) (hH : 2 <= H) (hlen : H + m <= L.length) (hL : L.length <= 900000) (A : Option Addr) (c : Nat)
   (hsz : ∀ w, SB w (.slice A L.length c) L -> Calls Try.prog 55 #[.slice A L.length c] w (DPost w (.tuple #[.int .i64 (m : Int), .int .i64 (H : Int), .int .i64 0]))) (w : World) (hv : SB w (.slice A L.length c) L)
   (n : Nat) (hn : n < 18446744073709551616) (hm : m = (shortB n).length) (hBs : B = shortB n) : Calls Try.prog 49 #[.slice A L.length c, .int .i64 (d : Int)] w (ReadPost w (.mk 0 t n [] []) (H + m)) := by
 have hL1 : 0 < L.length := by omega
 have h256 := nb_lt (gb L 0)
 have hk0 : nb (gb L 0) / 2 ^ 6 = 0 := by omega
 have ht0 : nb (gb L 0) % 64 = t := by omega
 have hs1 := List.length_pos_iff.2 (shortB_ne n)
 have hs8 := shortB_len n
 have hg : getN B = n := by rw [hBs]; exact getN_short hn
 have hz : 1 < B.length -> gb B 0 ≠ 0 := by rw [hBs]; exact short_lead n
 have h0 := Hp.ro1 (rSB (.slice A L.length c) L) hv
 refine enter 112 Try.func49 rfl rfl ?_
 refine wp_reset 114 [(0, (lV A L.length c)), (1, (iV .i64 ((d : Int))))] (fun x0 => ?_)
 refine wp_seq_k fun K1 hK1 => reg_lit ?_
 refine wq_to (some 4) (xN h0 100 ([(iV .i64 0), (iV .i64 0), (iV .u64 0), (lV none 0 0), (lV none 0 0)])) ?_
 rintro _ w2 ⟨g2, rfl, h2⟩
 refine wq_p 2 [(6, (iV .i64 0)), (5, (iV .i64 0))] ?_
 refine wl_end rfl (seq_n hK1 (wp_seq_k fun K3 hK3 => wp_seq_k fun K4 hK4 => reg_lit ?_))
 refine wq_p 1 [(17, (iV .i64 ((d : Int))))] (wq_v (some 18) (.bool false) (eqI (bV (decide ((d : Int) > 8))) (by simp; omega)) ?_)
 refine wl_end rfl (seq_n hK4 (cF (wp_skip (seq_n hK3 (wp_seq_k fun K5 hK5 => reg_lit ?_)))))
 refine wq_p 1 [(21, (lV A L.length c))] ?_
 refine wq_to (some 22) (x_dp h2 55 [(lV A L.length c)] (by kernel_rfl) (hsz _ (h2.rd 0 rfl))) ?_
 rintro _ w6 ⟨rfl, h6⟩
 refine wq_p 7 [(9, (iV .i64 0)), (8, (iV .i64 ((H : Int)))), (7, (iV .i64 ((m : Int)))), (25, (iV .i64 0)), (24, (iV .i64 ((H : Int)))), (23, (iV .i64 ((m : Int)))), (20, (Value.tuple #[(iV .i64 ((m : Int))), (iV .i64 ((H : Int))), (iV .i64 0)]))] ?_
 refine wl_end rfl (seq_n hK5 (wp_seq_k fun K7 hK7 => wp_seq_k fun K8 hK8 => reg_lit ?_))
 refine wq_p 2 [(27, (bV false)), (26, (iV .i64 0))] ?_
 refine wl_end rfl (seq_n hK8 (cF (wp_skip (seq_n hK7 (wp_seq_k fun K9 hK9 => ?_)))))
 refine pR_go h6 12 (fun W => (rSB ((lV A L.length c)) L).Φ W /\ True) [(31, [0], 0), (32, [30], 1), (33, [31], 2), (34, [32], 4), (35, [33], 8), (36, [0], 0), (37, [35], 32), (38, [36], 64), (39, [37], 128), (40, [38], 256), (41, [34, 39], 528), (11, [], 0), (0, [10, 40], 4095)] rfl (fun _ d _ _ _ h => by cases d <;> exact h) ?_
 intro hs10 w10 h10
 refine pR_p 11 [0, 5] [(35, (lV A L.length c)), (30, (lV A L.length c))] 33 hs10 ⟨h10.rd 0 rfl, trivial⟩ ?_
 refine pR_v 1 (some 31) (eAt A (0 * 1 + 0)) 35 rfl hs10 ⟨h10.rd 0 rfl, trivial⟩ (fun W hW => eIx (SB.rvn (h10.rd 0 rfl)).2 0 L.length (SB.rvn (h10.rd 0 rfl)).1 (by omega) 26 (.tmp 30) (.const (iV .i64 0)) .i64 5) ?_
 refine pR_v 6 (some 36) (eAt A (0 * 1 + 0)) 99 rfl hs10 ⟨h10.rd 0 rfl, trivial⟩ (fun W hW => eIx (SB.rvn (h10.rd 0 rfl)).2 0 L.length (SB.rvn (h10.rd 0 rfl)).1 (by omega) 26 (.tmp 35) (.const (iV .i64 0)) .i64 5) ?_
 refine pR_v 2 (some 32) (iV .u8 (ub (gb (L) (0)))) 103 rfl hs10 ⟨h10.rd 0 rfl, trivial⟩ (fun W hW => eEl (SB.rvn hW.1).2 0 0 ([(iV .u8 (ub (gb (L) (0))))]) (bx_get _ _ (by omega)) 5 (.tmp 31) (iV .u8 (ub (gb (L) (0))))) ?_
 refine pR_v 3 (some 33) (iV .u8 (((nb (gb L 0) / 2 ^ 6 : Nat) : Int))) 111 rfl hs10 ⟨h10.rd 0 rfl, trivial⟩ (fun W hW => e_shr8 5 123 (.tmp 32) (.const (iV .u64 6)) (by kernel_rfl) (nb (gb L 0)) .u64 6 (by decide) (by rw [← ub_nb]; kernel_rfl) (by kernel_rfl) h256 _) ?_
 refine pR_v 4 (some 34) (iV .i64 0) 127 rfl hs10 ⟨h10.rd 0 rfl, trivial⟩ (fun W hW => eqI (iV .i64 (IntKind.i64.wrap (((nb (gb L 0) / 2 ^ 6 : Nat) : Int)))) (by rw [hk0]; rfl)) ?_
 refine pR_v 7 (some 37) (iV .u8 (ub (gb (L) (0)))) 255 rfl hs10 ⟨h10.rd 0 rfl, trivial⟩ (fun W hW => eEl (SB.rvn hW.1).2 0 0 ([(iV .u8 (ub (gb (L) (0))))]) (bx_get _ _ (by omega)) 5 (.tmp 36) (iV .u8 (ub (gb (L) (0))))) ?_
 refine pR_v 8 (some 38) (iV .u8 (((nb (gb L 0) % 64 : Nat) : Int))) 511 rfl hs10 ⟨h10.rd 0 rfl, trivial⟩ (fun W hW => eqI (iV .u8 (bits .and .u8 (ub (gb L 0)) 63)) (by rw [ub_nb, and63' h256])) ?_
 refine pR_v 9 (some 39) (iV .i64 ((t : Int))) 1023 rfl hs10 ⟨h10.rd 0 rfl, trivial⟩ (fun W hW => eqI (iV .i64 (IntKind.i64.wrap (((nb (gb L 0) % 64 : Nat) : Int)))) (by rw [ht0]; exact i64_nat (by omega))) ?_
 refine pR_p 2 [10] [(40, (aV ([(iV .i64 0), (iV .i64 ((t : Int))), (iV .u64 0), (lV none 0 0), (lV none 0 0)]).toArray))] 2047 hs10 ⟨h10.rd 0 rfl, trivial⟩ ?_
 refine pR_to 11 (some 10) 4095 rfl hs10 (xN h10 100 ([(iV .i64 0), (iV .i64 0), (iV .u64 0), (lV none 0 0), (lV none 0 0)])) ?_
 rintro _ w11 ⟨g11, rfl, h11⟩
 refine ⟨fun _ => ⟨h11.rd 0 rfl, trivial⟩, ?_⟩
 refine pR_to 12 none 8191 rfl hs10 (xSs h11 0 100 (.tmp 10) (.tmp 40) 0 ([(iV .i64 0), (iV .i64 ((t : Int))), (iV .u64 0), (lV none 0 0), (lV none 0 0)]) ([(iV .i64 0), (iV .i64 ((t : Int))), (iV .u64 0), (lV none 0 0), (lV none 0 0)])) ?_
 rintro _ w12 h12
 refine ⟨fun h => absurd h (by decide), ?_⟩
 refine pR_done hs10 ?_ _
 refine seq_n hK9 (wp_seq_k fun K13 hK13 => wp_seq_k fun K14 hK14 => ?_)
 refine wp_reset 114 [(0, (lV A L.length c)), (1, (iV .i64 ((d : Int)))), (4, (pt g2 0)), (5, (iV .i64 0)), (6, (iV .i64 0)), (7, (iV .i64 ((m : Int)))), (8, (iV .i64 ((H : Int)))), (9, (iV .i64 0)), (10, (pt g11 0)), (18, (bV false)), (27, (bV false))] (fun x15 => ?_)
 refine reg_lit ?_
 refine wq_p 1 [(41, (pt g11 0))] (wq_v (some 42) (iV .i64 0) (eL (h12.at_ 0 rfl) 3 (.tmp 41) 0 _) (wq_p 3 [(45, (pt g11 1)), (44, (bV false)), (43, (bV false))] (wq_v (some 46) (iV .i64 ((t : Int))) (eL (h12.at_ 0 rfl) 3 (.tmp 45) 1 _) ?_)))
 refine wq_v (some 47) (.bool false) (eqI (bV (decide ((t : Int) > 30))) (by simp; omega)) (wq_p 1 [(48, (bV false))] ?_)
 refine wl_end rfl (seq_n hK14 (cF (wp_skip (seq_n hK13 (wp_seq_k fun K16 hK16 => reg_lit ?_)))))
 refine wq_p 4 [(53, (iV .i64 ((m : Int)))), (52, (iV .i64 ((H : Int)))), (51, (iV .i64 ((H : Int)))), (50, (lV A L.length c))] (wq_v (some 54) (iV .i64 (((H + m : Nat) : Int))) (exec_add _ _ _ _ rfl ((H : Int)) ((m : Int)) (by kernel_rfl) (by kernel_rfl) (((H + m : Nat) : Int)) (by omega) (by omega) (by omega) _) ?_)
 obtain ⟨A17, c17, e17, h17⟩ := h12.roCut 0 rfl H (H + m) (by omega) B hcut
 refine wq_v (some 55) (lV A17 B.length c17) (e17 ▸ e_cut_lh (h12.rd 0 rfl) (.tmp 50) (.tmp 51) (.tmp 54) (by kernel_rfl) (by kernel_rfl) .i64 .i64 H (H + m) (by kernel_rfl) (by kernel_rfl) (by omega) (by omega) _) (wq_p 1 [(11, (lV A17 B.length c17))] ?_)
 refine wl_end rfl (seq_n hK16 (wp_seq_k fun K18 hK18 => wp_seq_k fun K19 hK19 => reg_lit ?_))
 refine wq_p 1 [(56, (pt g11 0))] (wq_v (some 57) (iV .i64 0) (eL (h17.at_ 0 rfl) 3 (.tmp 56) 0 _) ?_)
 refine wl_end rfl (seq_n hK19 (wp_block (wp_seq_k fun K20 hK20 => reg_lit ?_)))
 refine wq_p 2 [(82, (bV true)), (83, (bV true))] ?_
 refine wl_end rfl (seq_n hK20 (cT (wp_seq_k fun K21 hK21 => reg_lit ?_)))
 refine wq_p 1 [(85, (lV A17 B.length c17))] ?_
 refine wq_to (some 86) (x_getD h17 (B) (lV A17 B.length c17) (by kernel_rfl) (h17.rd 0 rfl) (by omega) (by omega) n hg) ?_
 rintro _ w22 ⟨rfl, h22⟩
 refine wq_p 5 [(13, (bV true)), (12, (iV .u64 (((n : Nat) : Int)))), (88, (bV true)), (87, (iV .u64 (((n : Nat) : Int)))), (84, (Value.tuple #[(iV .u64 (((n : Nat) : Int))), (bV true)]))] ?_
 refine wl_end rfl (seq_n hK21 (wp_seq_k fun K23 hK23 => wp_seq_k fun K24 hK24 => ?_))
 rcases Nat.lt_or_ge 1 B.length with hq | hq
 ·
  refine reg_lit ?_
  refine wq_p 5 [(93, (iV .i64 ((B.length : Int)))), (92, (lV A17 B.length c17)), (91, (bV false)), (90, (bV false)), (89, (bV true))] (wq_v (some 94) (.bool true) (eqI (bV (decide ((B.length : Int) > 1))) (by simp; omega)) (wq_p 2 [(96, (lV A17 B.length c17)), (95, (bV true))] (wq_v (some 97) (eAt A17 (0 * 1 + 0)) (eIx (SB.rvn (h22.rd 0 rfl)).2 0 B.length (SB.rvn (h22.rd 0 rfl)).1 (by omega) 26 (.tmp 96) (.const (iV .i64 0)) .i64 5) ?_)))
  refine wq_v (some 98) (iV .u8 (ub (gb (B) (0)))) (eEl (SB.rvn (h22.rd 0 rfl)).2 0 0 ([(iV .u8 (ub (gb (B) (0))))]) (bx_get _ _ (by omega)) 5 (.tmp 97) (iV .u8 (ub (gb (B) (0))))) (wq_v (some 99) (.bool false) (eqI (bV ((ub (gb (B) (0))) == 0)) (congrArg bV (ub0_ne (hz hq)))) (wq_p 2 [(101, (bV false)), (100, (bV false))] ?_))
  refine wl_end rfl (seq_n hK24 (cF (wp_skip (seq_n hK23 ?_))))
  refine wp_reset 114 [(0, (lV A L.length c)), (1, (iV .i64 ((d : Int)))), (4, (pt g2 0)), (5, (iV .i64 0)), (6, (iV .i64 0)), (7, (iV .i64 ((m : Int)))), (8, (iV .i64 ((H : Int)))), (9, (iV .i64 0)), (10, (pt g11 0)), (11, (lV A17 B.length c17)), (12, (iV .u64 (((n : Nat) : Int)))), (13, (bV true)), (18, (bV false)), (27, (bV false)), (48, (bV false)), (57, (iV .i64 0)), (82, (bV true)), (101, (bV false))] (fun x26 => ?_)
  refine reg_lit ?_
  refine wq_p 2 [(104, (pt g11 2)), (103, (iV .u64 (((n : Nat) : Int))))] ?_
  refine wq_to none (xSt h22 0 68 (.tmp 104) (.tmp 103) 2 (iV .u64 (((n : Nat) : Int))) ([(iV .i64 0), (iV .i64 ((t : Int))), (iV .u64 (((n : Nat) : Int))), (lV none 0 0), (lV none 0 0)])) ?_
  rintro _ w27 h27
  refine wl_end rfl (blk_n (seq_n hK18 (wp_seq_k fun K28 hK28 => reg_lit ?_)))
  refine wq_v (some 110) (aV ([(iV .i64 0), (iV .i64 ((t : Int))), (iV .u64 (((n : Nat) : Int))), (lV none 0 0), (lV none 0 0)]).toArray) (eLs (h27.at_ 0 rfl) 100 (.tmp 10) 0 ([(iV .i64 0), (iV .i64 ((t : Int))), (iV .u64 (((n : Nat) : Int))), (lV none 0 0), (lV none 0 0)])) (wq_p 2 [(112, (iV .i64 ((m : Int)))), (111, (iV .i64 ((H : Int))))] (wq_v (some 113) (iV .i64 (((H + m : Nat) : Int))) (exec_add _ _ _ _ rfl ((H : Int)) ((m : Int)) (by kernel_rfl) (by kernel_rfl) (((H + m : Nat) : Int)) (by omega) (by omega) (by omega) _) ?_))
  refine wq_to none (xSs h27 1 100 (.tmp 4) (.tmp 110) 0 ([(iV .i64 0), (iV .i64 ((t : Int))), (iV .u64 (((n : Nat) : Int))), (lV none 0 0), (lV none 0 0)]) ([(iV .i64 0), (iV .i64 ((t : Int))), (iV .u64 (((n : Nat) : Int))), (lV none 0 0), (lV none 0 0)])) ?_
  rintro _ w29 h29
  refine wq_p 2 [(6, (iV .i64 0)), (5, (iV .i64 (((H + m : Nat) : Int))))] ?_
  refine wl_end rfl (seq_n hK28 (wp_ret ?_))
  refine post_3 rfl (by kernel_rfl) (rce (h29.at_ 1 rfl)) (rtm (iV .i64 (((H + m : Nat) : Int)))) (rtm (iV .i64 0)) ?_
  exact readpost_0 h29 t n (H + m) hn
 ·
  refine reg_lit ?_
  refine wq_p 5 [(93, (iV .i64 ((B.length : Int)))), (92, (lV A17 B.length c17)), (91, (bV false)), (90, (bV false)), (89, (bV true))] (wq_v (some 94) (.bool false) (eqI (bV (decide ((B.length : Int) > 1))) (by simp; omega)) (wq_p 4 [(98, undef), (97, undef), (96, undef), (95, (bV false))] (wq_p 1 [(99, undef)] ?_)))
  refine wq_p 2 [(101, (bV false)), (100, (bV false))] ?_
  refine wl_end rfl (seq_n hK24 (cF (wp_skip (seq_n hK23 ?_))))
  refine wp_reset 114 [(0, (lV A L.length c)), (1, (iV .i64 ((d : Int)))), (4, (pt g2 0)), (5, (iV .i64 0)), (6, (iV .i64 0)), (7, (iV .i64 ((m : Int)))), (8, (iV .i64 ((H : Int)))), (9, (iV .i64 0)), (10, (pt g11 0)), (11, (lV A17 B.length c17)), (12, (iV .u64 (((n : Nat) : Int)))), (13, (bV true)), (18, (bV false)), (27, (bV false)), (48, (bV false)), (57, (iV .i64 0)), (82, (bV true)), (101, (bV false))] (fun x30 => ?_)
  refine reg_lit ?_
  refine wq_p 2 [(104, (pt g11 2)), (103, (iV .u64 (((n : Nat) : Int))))] ?_
  refine wq_to none (xSt h22 0 68 (.tmp 104) (.tmp 103) 2 (iV .u64 (((n : Nat) : Int))) ([(iV .i64 0), (iV .i64 ((t : Int))), (iV .u64 (((n : Nat) : Int))), (lV none 0 0), (lV none 0 0)])) ?_
  rintro _ w31 h31
  refine wl_end rfl (blk_n (seq_n hK18 (wp_seq_k fun K32 hK32 => reg_lit ?_)))
  refine wq_v (some 110) (aV ([(iV .i64 0), (iV .i64 ((t : Int))), (iV .u64 (((n : Nat) : Int))), (lV none 0 0), (lV none 0 0)]).toArray) (eLs (h31.at_ 0 rfl) 100 (.tmp 10) 0 ([(iV .i64 0), (iV .i64 ((t : Int))), (iV .u64 (((n : Nat) : Int))), (lV none 0 0), (lV none 0 0)])) (wq_p 2 [(112, (iV .i64 ((m : Int)))), (111, (iV .i64 ((H : Int))))] (wq_v (some 113) (iV .i64 (((H + m : Nat) : Int))) (exec_add _ _ _ _ rfl ((H : Int)) ((m : Int)) (by kernel_rfl) (by kernel_rfl) (((H + m : Nat) : Int)) (by omega) (by omega) (by omega) _) ?_))
  refine wq_to none (xSs h31 1 100 (.tmp 4) (.tmp 110) 0 ([(iV .i64 0), (iV .i64 ((t : Int))), (iV .u64 (((n : Nat) : Int))), (lV none 0 0), (lV none 0 0)]) ([(iV .i64 0), (iV .i64 ((t : Int))), (iV .u64 (((n : Nat) : Int))), (lV none 0 0), (lV none 0 0)])) ?_
  rintro _ w33 h33
  refine wq_p 2 [(6, (iV .i64 0)), (5, (iV .i64 (((H + m : Nat) : Int))))] ?_
  refine wl_end rfl (seq_n hK32 (wp_ret ?_))
  refine post_3 rfl (by kernel_rfl) (rce (h33.at_ 1 rfl)) (rtm (iV .i64 (((H + m : Nat) : Int)))) (rtm (iV .i64 0)) ?_
  exact readpost_0 h33 t n (H + m) hn
theorem read_raw (d : Nat) (hd : d <= 8) (L : Bytes) (t m H : Nat) (B : Bytes) (ht : t <= 30) (h0 : nb (gb L 0) = 1 * 64 + t) (hcut : (L.take (H + m)).drop H = B) (hB : B.length = m) (hH : 2 <= H) (hlen : H + m <= L.length) (hL : L.length <= 900000) (A : Option Addr) (c : Nat)
   (hsz : ∀ w, SB w (.slice A L.length c) L -> Calls Try.prog 55 #[.slice A L.length c] w (DPost w (.tuple #[.int .i64 (m : Int), .int .i64 (H : Int), .int .i64 0]))) (w : World) (hv : SB w (.slice A L.length c) L)
    : Calls Try.prog 49 #[.slice A L.length c, .int .i64 (d : Int)] w (ReadPost w (.mk 1 t 0 B []) (H + m)) := by
 have hL1 : 0 < L.length := by omega
 have h256 := nb_lt (gb L 0)
 have hk0 : nb (gb L 0) / 2 ^ 6 = 1 := by omega
 have ht0 : nb (gb L 0) % 64 = t := by omega
 have h0 := Hp.ro1 (rSB (.slice A L.length c) L) hv
 refine enter 112 Try.func49 rfl rfl ?_
 refine wp_reset 114 [(0, (lV A L.length c)), (1, (iV .i64 ((d : Int))))] (fun x0 => ?_)
 refine wp_seq_k fun K1 hK1 => reg_lit ?_
 refine wq_to (some 4) (xN h0 100 ([(iV .i64 0), (iV .i64 0), (iV .u64 0), (lV none 0 0), (lV none 0 0)])) ?_
 rintro _ w2 ⟨g2, rfl, h2⟩
 refine wq_p 2 [(6, (iV .i64 0)), (5, (iV .i64 0))] ?_
 refine wl_end rfl (seq_n hK1 (wp_seq_k fun K3 hK3 => wp_seq_k fun K4 hK4 => reg_lit ?_))
 refine wq_p 1 [(17, (iV .i64 ((d : Int))))] (wq_v (some 18) (.bool false) (eqI (bV (decide ((d : Int) > 8))) (by simp; omega)) ?_)
 refine wl_end rfl (seq_n hK4 (cF (wp_skip (seq_n hK3 (wp_seq_k fun K5 hK5 => reg_lit ?_)))))
 refine wq_p 1 [(21, (lV A L.length c))] ?_
 refine wq_to (some 22) (x_dp h2 55 [(lV A L.length c)] (by kernel_rfl) (hsz _ (h2.rd 0 rfl))) ?_
 rintro _ w6 ⟨rfl, h6⟩
 refine wq_p 7 [(9, (iV .i64 0)), (8, (iV .i64 ((H : Int)))), (7, (iV .i64 ((m : Int)))), (25, (iV .i64 0)), (24, (iV .i64 ((H : Int)))), (23, (iV .i64 ((m : Int)))), (20, (Value.tuple #[(iV .i64 ((m : Int))), (iV .i64 ((H : Int))), (iV .i64 0)]))] ?_
 refine wl_end rfl (seq_n hK5 (wp_seq_k fun K7 hK7 => wp_seq_k fun K8 hK8 => reg_lit ?_))
 refine wq_p 2 [(27, (bV false)), (26, (iV .i64 0))] ?_
 refine wl_end rfl (seq_n hK8 (cF (wp_skip (seq_n hK7 (wp_seq_k fun K9 hK9 => ?_)))))
 refine pR_go h6 12 (fun W => (rSB ((lV A L.length c)) L).Φ W /\ True) [(31, [0], 0), (32, [30], 1), (33, [31], 2), (34, [32], 4), (35, [33], 8), (36, [0], 0), (37, [35], 32), (38, [36], 64), (39, [37], 128), (40, [38], 256), (41, [34, 39], 528), (11, [], 0), (0, [10, 40], 4095)] rfl (fun _ d _ _ _ h => by cases d <;> exact h) ?_
 intro hs10 w10 h10
 refine pR_p 11 [0, 5] [(35, (lV A L.length c)), (30, (lV A L.length c))] 33 hs10 ⟨h10.rd 0 rfl, trivial⟩ ?_
 refine pR_v 1 (some 31) (eAt A (0 * 1 + 0)) 35 rfl hs10 ⟨h10.rd 0 rfl, trivial⟩ (fun W hW => eIx (SB.rvn (h10.rd 0 rfl)).2 0 L.length (SB.rvn (h10.rd 0 rfl)).1 (by omega) 26 (.tmp 30) (.const (iV .i64 0)) .i64 5) ?_
 refine pR_v 6 (some 36) (eAt A (0 * 1 + 0)) 99 rfl hs10 ⟨h10.rd 0 rfl, trivial⟩ (fun W hW => eIx (SB.rvn (h10.rd 0 rfl)).2 0 L.length (SB.rvn (h10.rd 0 rfl)).1 (by omega) 26 (.tmp 35) (.const (iV .i64 0)) .i64 5) ?_
 refine pR_v 2 (some 32) (iV .u8 (ub (gb (L) (0)))) 103 rfl hs10 ⟨h10.rd 0 rfl, trivial⟩ (fun W hW => eEl (SB.rvn hW.1).2 0 0 ([(iV .u8 (ub (gb (L) (0))))]) (bx_get _ _ (by omega)) 5 (.tmp 31) (iV .u8 (ub (gb (L) (0))))) ?_
 refine pR_v 3 (some 33) (iV .u8 (((nb (gb L 0) / 2 ^ 6 : Nat) : Int))) 111 rfl hs10 ⟨h10.rd 0 rfl, trivial⟩ (fun W hW => e_shr8 5 123 (.tmp 32) (.const (iV .u64 6)) (by kernel_rfl) (nb (gb L 0)) .u64 6 (by decide) (by rw [← ub_nb]; kernel_rfl) (by kernel_rfl) h256 _) ?_
 refine pR_v 4 (some 34) (iV .i64 1) 127 rfl hs10 ⟨h10.rd 0 rfl, trivial⟩ (fun W hW => eqI (iV .i64 (IntKind.i64.wrap (((nb (gb L 0) / 2 ^ 6 : Nat) : Int)))) (by rw [hk0]; rfl)) ?_
 refine pR_v 7 (some 37) (iV .u8 (ub (gb (L) (0)))) 255 rfl hs10 ⟨h10.rd 0 rfl, trivial⟩ (fun W hW => eEl (SB.rvn hW.1).2 0 0 ([(iV .u8 (ub (gb (L) (0))))]) (bx_get _ _ (by omega)) 5 (.tmp 36) (iV .u8 (ub (gb (L) (0))))) ?_
 refine pR_v 8 (some 38) (iV .u8 (((nb (gb L 0) % 64 : Nat) : Int))) 511 rfl hs10 ⟨h10.rd 0 rfl, trivial⟩ (fun W hW => eqI (iV .u8 (bits .and .u8 (ub (gb L 0)) 63)) (by rw [ub_nb, and63' h256])) ?_
 refine pR_v 9 (some 39) (iV .i64 ((t : Int))) 1023 rfl hs10 ⟨h10.rd 0 rfl, trivial⟩ (fun W hW => eqI (iV .i64 (IntKind.i64.wrap (((nb (gb L 0) % 64 : Nat) : Int)))) (by rw [ht0]; exact i64_nat (by omega))) ?_
 refine pR_p 2 [10] [(40, (aV ([(iV .i64 1), (iV .i64 ((t : Int))), (iV .u64 0), (lV none 0 0), (lV none 0 0)]).toArray))] 2047 hs10 ⟨h10.rd 0 rfl, trivial⟩ ?_
 refine pR_to 11 (some 10) 4095 rfl hs10 (xN h10 100 ([(iV .i64 0), (iV .i64 0), (iV .u64 0), (lV none 0 0), (lV none 0 0)])) ?_
 rintro _ w11 ⟨g11, rfl, h11⟩
 refine ⟨fun _ => ⟨h11.rd 0 rfl, trivial⟩, ?_⟩
 refine pR_to 12 none 8191 rfl hs10 (xSs h11 0 100 (.tmp 10) (.tmp 40) 0 ([(iV .i64 1), (iV .i64 ((t : Int))), (iV .u64 0), (lV none 0 0), (lV none 0 0)]) ([(iV .i64 1), (iV .i64 ((t : Int))), (iV .u64 0), (lV none 0 0), (lV none 0 0)])) ?_
 rintro _ w12 h12
 refine ⟨fun h => absurd h (by decide), ?_⟩
 refine pR_done hs10 ?_ _
 refine seq_n hK9 (wp_seq_k fun K13 hK13 => wp_seq_k fun K14 hK14 => ?_)
 refine wp_reset 114 [(0, (lV A L.length c)), (1, (iV .i64 ((d : Int)))), (4, (pt g2 0)), (5, (iV .i64 0)), (6, (iV .i64 0)), (7, (iV .i64 ((m : Int)))), (8, (iV .i64 ((H : Int)))), (9, (iV .i64 0)), (10, (pt g11 0)), (18, (bV false)), (27, (bV false))] (fun x15 => ?_)
 refine reg_lit ?_
 refine wq_p 1 [(41, (pt g11 0))] (wq_v (some 42) (iV .i64 1) (eL (h12.at_ 0 rfl) 3 (.tmp 41) 0 _) (wq_p 3 [(45, (pt g11 1)), (44, (bV false)), (43, (bV false))] (wq_v (some 46) (iV .i64 ((t : Int))) (eL (h12.at_ 0 rfl) 3 (.tmp 45) 1 _) ?_)))
 refine wq_v (some 47) (.bool false) (eqI (bV (decide ((t : Int) > 30))) (by simp; omega)) (wq_p 1 [(48, (bV false))] ?_)
 refine wl_end rfl (seq_n hK14 (cF (wp_skip (seq_n hK13 (wp_seq_k fun K16 hK16 => reg_lit ?_)))))
 refine wq_p 4 [(53, (iV .i64 ((m : Int)))), (52, (iV .i64 ((H : Int)))), (51, (iV .i64 ((H : Int)))), (50, (lV A L.length c))] (wq_v (some 54) (iV .i64 (((H + m : Nat) : Int))) (exec_add _ _ _ _ rfl ((H : Int)) ((m : Int)) (by kernel_rfl) (by kernel_rfl) (((H + m : Nat) : Int)) (by omega) (by omega) (by omega) _) ?_)
 obtain ⟨A17, c17, e17, h17⟩ := h12.roCut 0 rfl H (H + m) (by omega) B hcut
 refine wq_v (some 55) (lV A17 B.length c17) (e17 ▸ e_cut_lh (h12.rd 0 rfl) (.tmp 50) (.tmp 51) (.tmp 54) (by kernel_rfl) (by kernel_rfl) .i64 .i64 H (H + m) (by kernel_rfl) (by kernel_rfl) (by omega) (by omega) _) (wq_p 1 [(11, (lV A17 B.length c17))] ?_)
 refine wl_end rfl (seq_n hK16 (wp_seq_k fun K18 hK18 => wp_seq_k fun K19 hK19 => reg_lit ?_))
 refine wq_p 1 [(56, (pt g11 0))] (wq_v (some 57) (iV .i64 1) (eL (h17.at_ 0 rfl) 3 (.tmp 56) 0 _) ?_)
 refine wl_end rfl (seq_n hK19 (wp_block (wp_seq_k fun K20 hK20 => reg_lit ?_)))
 refine wq_p 2 [(82, (bV false)), (83, (bV false))] ?_
 refine wl_end rfl (seq_n hK20 (cF (wp_seq_k fun K21 hK21 => reg_lit ?_)))
 refine wq_p 2 [(105, (bV true)), (106, (bV true))] ?_
 refine wl_end rfl (seq_n hK21 (cT ?_))
 have h22 := h17.obNil
 refine reg_lit ?_
 refine wq_p 1 [(107, (lV A17 B.length c17))] ?_
 refine wq_to (some 108) (x_appG h22 0 rfl (.const (lV none 0 0)) (.tmp 107) (by kernel_rfl) (lV A17 B.length c17) (by kernel_rfl) (by kernel_rfl) (h22.rd 0 rfl) (by simp; omega) (B) (B.length) rfl rfl) ?_
 rintro _ w23 ⟨A23, c23, rfl, h23⟩
 refine wq_p 1 [(109, (pt g11 3))] ?_
 refine wq_to none (xSt h23 1 26 (.tmp 109) (.tmp 108) 3 (lV A23 B.length c23) ([(iV .i64 1), (iV .i64 ((t : Int))), (iV .u64 0), (lV A23 B.length c23), (lV none 0 0)])) ?_
 rintro _ w24 h24
 refine wl_end rfl (blk_n (seq_n hK18 (wp_seq_k fun K25 hK25 => reg_lit ?_)))
 refine wq_v (some 110) (aV ([(iV .i64 1), (iV .i64 ((t : Int))), (iV .u64 0), (lV A23 B.length c23), (lV none 0 0)]).toArray) (eLs (h24.at_ 1 rfl) 100 (.tmp 10) 0 ([(iV .i64 1), (iV .i64 ((t : Int))), (iV .u64 0), (lV A23 B.length c23), (lV none 0 0)])) (wq_p 2 [(112, (iV .i64 ((m : Int)))), (111, (iV .i64 ((H : Int))))] (wq_v (some 113) (iV .i64 (((H + m : Nat) : Int))) (exec_add _ _ _ _ rfl ((H : Int)) ((m : Int)) (by kernel_rfl) (by kernel_rfl) (((H + m : Nat) : Int)) (by omega) (by omega) (by omega) _) ?_))
 refine wq_to none (xSs h24 2 100 (.tmp 4) (.tmp 110) 0 ([(iV .i64 1), (iV .i64 ((t : Int))), (iV .u64 0), (lV A23 B.length c23), (lV none 0 0)]) ([(iV .i64 1), (iV .i64 ((t : Int))), (iV .u64 0), (lV A23 B.length c23), (lV none 0 0)])) ?_
 rintro _ w26 h26
 refine wq_p 2 [(6, (iV .i64 0)), (5, (iV .i64 (((H + m : Nat) : Int))))] ?_
 refine wl_end rfl (seq_n hK25 (wp_ret ?_))
 refine post_3 rfl (by kernel_rfl) (rce (h26.at_ 2 rfl)) (rtm (iV .i64 (((H + m : Nat) : Int)))) (rtm (iV .i64 0)) ?_
 exact readpost_1 h26 0 rfl t (H + m)
theorem read_seq (d : Nat) (hd : d <= 8) (L : Bytes) (t m H : Nat) (B : Bytes) (ht : t <= 30) (h0 : nb (gb L 0) = 2 * 64 + t) (hcut : (L.take (H + m)).drop H = B) (hB : B.length = m) (hH : 2 <= H) (hlen : H + m <= L.length) (hL : L.length <= 900000) (A : Option Addr) (c : Nat)
   (hsz : ∀ w, SB w (.slice A L.length c) L -> Calls Try.prog 55 #[.slice A L.length c] w (DPost w (.tuple #[.int .i64 (m : Int), .int .i64 (H : Int), .int .i64 0]))) (w : World) (hv : SB w (.slice A L.length c) L)
   (ts : List DVal) (hBs : B = wrL ts) (ih : ∀ (v : DVal) (r : Bytes) (x : Value) (w : World), v ∈ ts -> (wrV v ++ r).length <= 900000 -> SB w x (wrV v ++ r) -> Calls Try.prog 49 #[x, .int .i64 ((d + 1 : Nat) : Int)] w (ReadPost w v (wrV v).length)) : Calls Try.prog 49 #[.slice A L.length c, .int .i64 (d : Int)] w (ReadPost w (.mk 2 t 0 [] ts) (H + m)) := by
 have hL1 : 0 < L.length := by omega
 have h256 := nb_lt (gb L 0)
 have hk0 : nb (gb L 0) / 2 ^ 6 = 2 := by omega
 have ht0 : nb (gb L 0) % 64 = t := by omega
 have h0 := Hp.ro1 (rSB (.slice A L.length c) L) hv
 refine enter 112 Try.func49 rfl rfl ?_
 refine wp_reset 114 [(0, (lV A L.length c)), (1, (iV .i64 ((d : Int))))] (fun x0 => ?_)
 refine wp_seq_k fun K1 hK1 => reg_lit ?_
 refine wq_to (some 4) (xN h0 100 ([(iV .i64 0), (iV .i64 0), (iV .u64 0), (lV none 0 0), (lV none 0 0)])) ?_
 rintro _ w2 ⟨g2, rfl, h2⟩
 refine wq_p 2 [(6, (iV .i64 0)), (5, (iV .i64 0))] ?_
 refine wl_end rfl (seq_n hK1 (wp_seq_k fun K3 hK3 => wp_seq_k fun K4 hK4 => reg_lit ?_))
 refine wq_p 1 [(17, (iV .i64 ((d : Int))))] (wq_v (some 18) (.bool false) (eqI (bV (decide ((d : Int) > 8))) (by simp; omega)) ?_)
 refine wl_end rfl (seq_n hK4 (cF (wp_skip (seq_n hK3 (wp_seq_k fun K5 hK5 => reg_lit ?_)))))
 refine wq_p 1 [(21, (lV A L.length c))] ?_
 refine wq_to (some 22) (x_dp h2 55 [(lV A L.length c)] (by kernel_rfl) (hsz _ (h2.rd 0 rfl))) ?_
 rintro _ w6 ⟨rfl, h6⟩
 refine wq_p 7 [(9, (iV .i64 0)), (8, (iV .i64 ((H : Int)))), (7, (iV .i64 ((m : Int)))), (25, (iV .i64 0)), (24, (iV .i64 ((H : Int)))), (23, (iV .i64 ((m : Int)))), (20, (Value.tuple #[(iV .i64 ((m : Int))), (iV .i64 ((H : Int))), (iV .i64 0)]))] ?_
 refine wl_end rfl (seq_n hK5 (wp_seq_k fun K7 hK7 => wp_seq_k fun K8 hK8 => reg_lit ?_))
 refine wq_p 2 [(27, (bV false)), (26, (iV .i64 0))] ?_
 refine wl_end rfl (seq_n hK8 (cF (wp_skip (seq_n hK7 (wp_seq_k fun K9 hK9 => ?_)))))
 refine pR_go h6 12 (fun W => (rSB ((lV A L.length c)) L).Φ W /\ True) [(31, [0], 0), (32, [30], 1), (33, [31], 2), (34, [32], 4), (35, [33], 8), (36, [0], 0), (37, [35], 32), (38, [36], 64), (39, [37], 128), (40, [38], 256), (41, [34, 39], 528), (11, [], 0), (0, [10, 40], 4095)] rfl (fun _ d _ _ _ h => by cases d <;> exact h) ?_
 intro hs10 w10 h10
 refine pR_p 11 [0, 5] [(35, (lV A L.length c)), (30, (lV A L.length c))] 33 hs10 ⟨h10.rd 0 rfl, trivial⟩ ?_
 refine pR_v 1 (some 31) (eAt A (0 * 1 + 0)) 35 rfl hs10 ⟨h10.rd 0 rfl, trivial⟩ (fun W hW => eIx (SB.rvn (h10.rd 0 rfl)).2 0 L.length (SB.rvn (h10.rd 0 rfl)).1 (by omega) 26 (.tmp 30) (.const (iV .i64 0)) .i64 5) ?_
 refine pR_v 6 (some 36) (eAt A (0 * 1 + 0)) 99 rfl hs10 ⟨h10.rd 0 rfl, trivial⟩ (fun W hW => eIx (SB.rvn (h10.rd 0 rfl)).2 0 L.length (SB.rvn (h10.rd 0 rfl)).1 (by omega) 26 (.tmp 35) (.const (iV .i64 0)) .i64 5) ?_
 refine pR_v 2 (some 32) (iV .u8 (ub (gb (L) (0)))) 103 rfl hs10 ⟨h10.rd 0 rfl, trivial⟩ (fun W hW => eEl (SB.rvn hW.1).2 0 0 ([(iV .u8 (ub (gb (L) (0))))]) (bx_get _ _ (by omega)) 5 (.tmp 31) (iV .u8 (ub (gb (L) (0))))) ?_
 refine pR_v 3 (some 33) (iV .u8 (((nb (gb L 0) / 2 ^ 6 : Nat) : Int))) 111 rfl hs10 ⟨h10.rd 0 rfl, trivial⟩ (fun W hW => e_shr8 5 123 (.tmp 32) (.const (iV .u64 6)) (by kernel_rfl) (nb (gb L 0)) .u64 6 (by decide) (by rw [← ub_nb]; kernel_rfl) (by kernel_rfl) h256 _) ?_
 refine pR_v 4 (some 34) (iV .i64 2) 127 rfl hs10 ⟨h10.rd 0 rfl, trivial⟩ (fun W hW => eqI (iV .i64 (IntKind.i64.wrap (((nb (gb L 0) / 2 ^ 6 : Nat) : Int)))) (by rw [hk0]; rfl)) ?_
 refine pR_v 7 (some 37) (iV .u8 (ub (gb (L) (0)))) 255 rfl hs10 ⟨h10.rd 0 rfl, trivial⟩ (fun W hW => eEl (SB.rvn hW.1).2 0 0 ([(iV .u8 (ub (gb (L) (0))))]) (bx_get _ _ (by omega)) 5 (.tmp 36) (iV .u8 (ub (gb (L) (0))))) ?_
 refine pR_v 8 (some 38) (iV .u8 (((nb (gb L 0) % 64 : Nat) : Int))) 511 rfl hs10 ⟨h10.rd 0 rfl, trivial⟩ (fun W hW => eqI (iV .u8 (bits .and .u8 (ub (gb L 0)) 63)) (by rw [ub_nb, and63' h256])) ?_
 refine pR_v 9 (some 39) (iV .i64 ((t : Int))) 1023 rfl hs10 ⟨h10.rd 0 rfl, trivial⟩ (fun W hW => eqI (iV .i64 (IntKind.i64.wrap (((nb (gb L 0) % 64 : Nat) : Int)))) (by rw [ht0]; exact i64_nat (by omega))) ?_
 refine pR_p 2 [10] [(40, (aV ([(iV .i64 2), (iV .i64 ((t : Int))), (iV .u64 0), (lV none 0 0), (lV none 0 0)]).toArray))] 2047 hs10 ⟨h10.rd 0 rfl, trivial⟩ ?_
 refine pR_to 11 (some 10) 4095 rfl hs10 (xN h10 100 ([(iV .i64 0), (iV .i64 0), (iV .u64 0), (lV none 0 0), (lV none 0 0)])) ?_
 rintro _ w11 ⟨g11, rfl, h11⟩
 refine ⟨fun _ => ⟨h11.rd 0 rfl, trivial⟩, ?_⟩
 refine pR_to 12 none 8191 rfl hs10 (xSs h11 0 100 (.tmp 10) (.tmp 40) 0 ([(iV .i64 2), (iV .i64 ((t : Int))), (iV .u64 0), (lV none 0 0), (lV none 0 0)]) ([(iV .i64 2), (iV .i64 ((t : Int))), (iV .u64 0), (lV none 0 0), (lV none 0 0)])) ?_
 rintro _ w12 h12
 refine ⟨fun h => absurd h (by decide), ?_⟩
 refine pR_done hs10 ?_ _
 refine seq_n hK9 (wp_seq_k fun K13 hK13 => wp_seq_k fun K14 hK14 => ?_)
 refine wp_reset 114 [(0, (lV A L.length c)), (1, (iV .i64 ((d : Int)))), (4, (pt g2 0)), (5, (iV .i64 0)), (6, (iV .i64 0)), (7, (iV .i64 ((m : Int)))), (8, (iV .i64 ((H : Int)))), (9, (iV .i64 0)), (10, (pt g11 0)), (18, (bV false)), (27, (bV false))] (fun x15 => ?_)
 refine reg_lit ?_
 refine wq_p 1 [(41, (pt g11 0))] (wq_v (some 42) (iV .i64 2) (eL (h12.at_ 0 rfl) 3 (.tmp 41) 0 _) (wq_p 3 [(45, (pt g11 1)), (44, (bV false)), (43, (bV false))] (wq_v (some 46) (iV .i64 ((t : Int))) (eL (h12.at_ 0 rfl) 3 (.tmp 45) 1 _) ?_)))
 refine wq_v (some 47) (.bool false) (eqI (bV (decide ((t : Int) > 30))) (by simp; omega)) (wq_p 1 [(48, (bV false))] ?_)
 refine wl_end rfl (seq_n hK14 (cF (wp_skip (seq_n hK13 (wp_seq_k fun K16 hK16 => reg_lit ?_)))))
 refine wq_p 4 [(53, (iV .i64 ((m : Int)))), (52, (iV .i64 ((H : Int)))), (51, (iV .i64 ((H : Int)))), (50, (lV A L.length c))] (wq_v (some 54) (iV .i64 (((H + m : Nat) : Int))) (exec_add _ _ _ _ rfl ((H : Int)) ((m : Int)) (by kernel_rfl) (by kernel_rfl) (((H + m : Nat) : Int)) (by omega) (by omega) (by omega) _) ?_)
 obtain ⟨A17, c17, e17, h17⟩ := h12.roCut 0 rfl H (H + m) (by omega) B hcut
 refine wq_v (some 55) (lV A17 B.length c17) (e17 ▸ e_cut_lh (h12.rd 0 rfl) (.tmp 50) (.tmp 51) (.tmp 54) (by kernel_rfl) (by kernel_rfl) .i64 .i64 H (H + m) (by kernel_rfl) (by kernel_rfl) (by omega) (by omega) _) (wq_p 1 [(11, (lV A17 B.length c17))] ?_)
 refine wl_end rfl (seq_n hK16 (wp_seq_k fun K18 hK18 => wp_seq_k fun K19 hK19 => reg_lit ?_))
 refine wq_p 1 [(56, (pt g11 0))] (wq_v (some 57) (iV .i64 2) (eL (h17.at_ 0 rfl) 3 (.tmp 56) 0 _) ?_)
 refine wl_end rfl (seq_n hK19 (wp_block (wp_seq_k fun K20 hK20 => reg_lit ?_)))
 refine wq_p 2 [(82, (bV false)), (83, (bV false))] ?_
 refine wl_end rfl (seq_n hK20 (cF (wp_seq_k fun K21 hK21 => reg_lit ?_)))
 refine wq_p 2 [(105, (bV false)), (106, (bV false))] ?_
 refine wl_end rfl (seq_n hK21 (cF (wp_block ?_)))
 have h22 := (h17.addS _ (rdl_nil _) (fun _ hf => hf.elim) (fun _ _ _ _ hf => hf.elim) (fun _ _ _ _ hf => hf.elim)).ovNil 100 5
 refine wp_loopm (fun mM xX aA wL => ∃ (i : Nat) (xs : List (List Value)) (l : Bytes) (G : Nat -> Prop) (A1 : Option Addr) (c1 : Nat) (A2 : Option Addr) (c2 : Nat), (i <= ts.length) /\ (l = wrL (ts.drop i)) /\ ((xs : List (List Value)).length = i) /\ mM = ts.length - i /\ aA = patch xX 114 [(0, (lV A L.length c)), (1, (iV .i64 ((d : Int)))), (4, (pt g2 0)), (7, (iV .i64 ((m : Int)))), (8, (iV .i64 ((H : Int)))), (9, (iV .i64 0)), (10, (pt g11 0)), (11, (lV A2 ((l : Bytes).length) c2)), (18, (bV false)), (27, (bV false)), (48, (bV false)), (57, (iV .i64 2)), (82, (bV false)), (105, (bV false))] /\ Hp (fun _ => False) w wL [rSB ((lV A2 ((l : Bytes).length) c2)) l] [rOV 100 5 ((lV A1 i c1)) xs, rDL G (xs) (ts.take i), rBlk g11 100 ([(iV .i64 2), (iV .i64 ((t : Int))), (iV .u64 0), (lV none 0 0), (lV A1 i c1)]), rBlk g2 100 ([(iV .i64 0), (iV .i64 0), (iV .u64 0), (lV none 0 0), (lV none 0 0)])]) ⟨_, 0, ([]), B, ((fun _ => False)), none, 0, A17, c17, (by omega), (by rw [hBs, List.drop_zero]), rfl, rfl, (pEq 114), h22.sel [0, 1, 2, 3] [0] (by kernel_rfl) rfl rfl⟩ ?_
 rintro _ x23 _ w23 ⟨i, xs, l, G, A1, c1, A2, c2, hi, hl, hxs, rfl, rfl, h23⟩
 refine wp_seq_k fun K24 hK24 => wp_seq_k fun K25 hK25 => reg_lit ?_
 refine wq_p 3 [(60, (bV (decide (((l : Bytes).length : Int) > 0)))), (59, (iV .i64 (((l : Bytes).length : Int)))), (58, (lV A2 ((l : Bytes).length) c2))] ?_
 refine wl_end rfl (seq_n hK25 ?_)
 refine wp_if (((l : Bytes).length : Int) > 0) (by kernel_rfl) (fun b26 => ?_) (fun b26 => ?_)
 ·
  refine wp_skip (seq_n hK24 (wp_block (wp_seq_k fun K27 hK27 => ?_)))
  have hi2 : i < ts.length := by
    rcases Nat.lt_or_ge i ts.length with e | e
    · exact e
    · rw [List.drop_of_length_le e, wrL] at hl; rw [hl] at b26; simp at b26
  obtain ⟨u, hui⟩ : ∃ u, ts[i]? = some u := ⟨_, List.getElem?_eq_getElem hi2⟩
  have hd1 := wrL_drop ts i u hui
  rw [← hl] at hd1
  have hle := wrL_drop_le ts i
  have hcnt := wrL_count ts
  have hz3 := congrArg List.length hl
  have hz4 := congrArg List.length hBs
  have hz5 := congrArg List.length hd1
  rw [List.length_append] at hz5
  have htk : ts.take i ++ [u] = ts.take (i + 1) := by rw [List.take_add_one, hui]; rfl
  have hmem := List.mem_of_getElem? hui
  refine reg_lit ?_
  refine wq_p 2 [(63, (iV .i64 ((d : Int)))), (62, (lV A2 ((l : Bytes).length) c2))] (wq_v (some 64) (iV .i64 (((d + 1 : Nat) : Int))) (exec_add _ _ _ _ rfl ((d : Int)) 1 (by kernel_rfl) (by kernel_rfl) (((d + 1 : Nat) : Int)) (by omega) (by omega) (by omega) _) ?_)
  refine wq_to (some 65) (x_read h23 49 [(lV A2 ((l : Bytes).length) c2), (iV .i64 (((d + 1 : Nat) : Int)))] (by kernel_rfl) (ih u (wrL (ts.drop (i + 1))) _ _ hmem (by rw [← hd1]; omega) (by rw [← hd1]; exact h23.rd 0 rfl))) ?_
  rintro _ w28 ⟨F28, cs28, rfl, h28⟩
  obtain ⟨ke, te, ne, be, le⟩ := u
  obtain ⟨Be, de, Ae, ce, xse, rfl, _, _, _, _⟩ := dv_open (h28.at_ 0 rfl)
  simp only [DVal.kind, DVal.tag, DVal.n, DVal.b, DVal.l] at h28 ⊢
  refine wq_p 4 [(68, (iV .i64 0)), (67, (iV .i64 (((wrV (DVal.mk ke te ne be le)).length : Int)))), (66, (aV ([(iV .i64 ((ke : Int))), (iV .i64 ((te : Int))), (iV .u64 ((ne : Int))), (lV Be be.length de), (lV Ae le.length ce)]).toArray)), (61, (Value.tuple #[(aV ([(iV .i64 ((ke : Int))), (iV .i64 ((te : Int))), (iV .u64 ((ne : Int))), (lV Be be.length de), (lV Ae le.length ce)]).toArray), (iV .i64 (((wrV (DVal.mk ke te ne be le)).length : Int))), (iV .i64 0)]))] ?_
  refine wq_to (some 14) (xN h28 100 ([(iV .i64 0), (iV .i64 0), (iV .u64 0), (lV none 0 0), (lV none 0 0)])) ?_
  rintro _ w29 ⟨g29, rfl, h29⟩
  refine wq_to none (xSs h29 0 100 (.tmp 14) (.tmp 66) 0 ([(iV .i64 ((ke : Int))), (iV .i64 ((te : Int))), (iV .u64 ((ne : Int))), (lV Be be.length de), (lV Ae le.length ce)]) ([(iV .i64 ((ke : Int))), (iV .i64 ((te : Int))), (iV .u64 ((ne : Int))), (lV Be be.length de), (lV Ae le.length ce)])) ?_
  rintro _ w30 h30
  refine wq_p 2 [(16, (iV .i64 0)), (15, (iV .i64 (((wrV (DVal.mk ke te ne be le)).length : Int))))] ?_
  refine wl_end rfl (seq_n hK27 (wp_seq_k fun K31 hK31 => wp_seq_k fun K32 hK32 => reg_lit ?_))
  refine wq_p 2 [(70, (bV false)), (69, (iV .i64 0))] ?_
  refine wl_end rfl (seq_n hK32 (cF (wp_skip (seq_n hK31 (wp_seq_k fun K33 hK33 => reg_lit ?_)))))
  refine wq_p 1 [(73, (pt g11 4))] (wq_v (some 74) (lV A1 i c1) (eL (h30.at_ 4 rfl) 98 (.tmp 73) 4 _) (wq_v (some 75) (aV ([(iV .i64 ((ke : Int))), (iV .i64 ((te : Int))), (iV .u64 ((ne : Int))), (lV Be be.length de), (lV Ae le.length ce)]).toArray) (eLs (h30.at_ 0 rfl) 100 (.tmp 14) 0 ([(iV .i64 ((ke : Int))), (iV .i64 ((te : Int))), (iV .u64 ((ne : Int))), (lV Be be.length de), (lV Ae le.length ce)])) ?_))
  refine wq_to (some 76) (x_bs h30 100 ([(iV .i64 ((ke : Int))), (iV .i64 ((te : Int))), (iV .u64 ((ne : Int))), (lV Be be.length de), (lV Ae le.length ce)]) 1 (by kernel_rfl)) ?_
  rintro _ w34 ⟨g34, rfl, h34⟩
  refine wq_to (some 77) (xPu h34 3 0 rfl rfl (.tmp 74) (.tmp 76) 98 72 (aV ([(iV .i64 0), (iV .i64 0), (iV .u64 0), (lV none 0 0), (lV none 0 0)]).toArray) (by omega) (by unfold maxLen; omega) (xs ++ [[(iV .i64 ((ke : Int))), (iV .i64 ((te : Int))), (iV .u64 ((ne : Int))), (lV Be be.length de), (lV Ae le.length ce)]]) ((i + 1)) (hyn := (by simp [hxs]))) ?_
  rintro _ w35 ⟨A35, c35, rfl, h35⟩
  refine wq_p 1 [(78, (pt g11 4))] ?_
  refine wq_to none (xSt h35 5 98 (.tmp 78) (.tmp 77) 4 (lV A35 ((i + 1)) c35) ([(iV .i64 2), (iV .i64 ((t : Int))), (iV .u64 0), (lV none 0 0), (lV A35 ((i + 1)) c35)])) ?_
  rintro _ w36 h36
  refine wl_end rfl (seq_n hK33 ?_)
  refine wp_reset 114 [(0, (lV A L.length c)), (1, (iV .i64 ((d : Int)))), (4, (pt g2 0)), (7, (iV .i64 ((m : Int)))), (8, (iV .i64 ((H : Int)))), (9, (iV .i64 0)), (10, (pt g11 0)), (11, (lV A2 ((l : Bytes).length) c2)), (14, (pt g29 0)), (15, (iV .i64 (((wrV (DVal.mk ke te ne be le)).length : Int)))), (16, (iV .i64 0)), (18, (bV false)), (27, (bV false)), (48, (bV false)), (57, (iV .i64 2)), (60, (bV (decide (((l : Bytes).length : Int) > 0)))), (70, (bV false)), (82, (bV false)), (105, (bV false))] (fun x37 => ?_)
  refine reg_lit ?_
  refine wq_p 2 [(80, (iV .i64 (((wrV (DVal.mk ke te ne be le)).length : Int)))), (79, (lV A2 ((l : Bytes).length) c2))] ?_
  obtain ⟨A38, c38, e38, h38⟩ := h36.roCut 0 rfl ((wrV (DVal.mk ke te ne be le)).length) l.length (Nat.le_refl _) (wrL (ts.drop (i + 1))) (by rw [List.take_length, hd1]; exact List.drop_left)
  refine wq_v (some 81) (lV A38 ((wrL (ts.drop (i + 1))).length) c38) (e38 ▸ e_cut_l (h36.rd 0 rfl) (.tmp 79) (.tmp 80) (by kernel_rfl) (by kernel_rfl) .i64 ((wrV (DVal.mk ke te ne be le)).length) (by kernel_rfl) (by omega) _) (wq_p 1 [(11, (lV A38 ((wrL (ts.drop (i + 1))).length) c38))] ?_)
  refine wl_end rfl (blk_n ?_)
  have h39 := h38.join 2 4 rfl rfl (by decide) _ (rdl_push (by rw [List.length_take, hxs]; omega) (h38.at_ 4 rfl) (h38.at_ 2 rfl)) (fun _ hq => hq)
  rw [htk] at h39
  refine ⟨ts.length - ((i + 1)), (by omega), ((i + 1)), (xs ++ [[(iV .i64 ((ke : Int))), (iV .i64 ((te : Int))), (iV .u64 ((ne : Int))), (lV Be be.length de), (lV Ae le.length ce)]]), ((wrL (ts.drop (i + 1)))), ((fun q => F28 q ∨ G q)), A35, c35, A38, c38, (by omega), rfl, (by simp [hxs]), rfl, (pEq 114), h39.sel [3, 0, 4, 5] [0] (by kernel_rfl) rfl rfl⟩
 ·
  refine wp_exit (seq_e (seq_e (blk_e (blk_n (seq_n hK18 (wp_seq_k fun K40 hK40 => ?_))))))
  have hend : i = ts.length := by
    rcases Nat.lt_or_ge i ts.length with e | e
    · exfalso
      have hd1 := wrL_drop ts i _ (List.getElem?_eq_getElem e)
      have hz := wrV_pos (ts[i]'e)
      have hz5 := congrArg List.length hd1
      rw [← hl, List.length_append] at hz5
      omega
    · omega
  have htk2 : ts.take i = ts := by rw [hend, List.take_length]
  rw [htk2] at h23
  refine reg_lit ?_
  refine wq_v (some 110) (aV ([(iV .i64 2), (iV .i64 ((t : Int))), (iV .u64 0), (lV none 0 0), (lV A1 i c1)]).toArray) (eLs (h23.at_ 2 rfl) 100 (.tmp 10) 0 ([(iV .i64 2), (iV .i64 ((t : Int))), (iV .u64 0), (lV none 0 0), (lV A1 i c1)])) (wq_p 2 [(112, (iV .i64 ((m : Int)))), (111, (iV .i64 ((H : Int))))] (wq_v (some 113) (iV .i64 (((H + m : Nat) : Int))) (exec_add _ _ _ _ rfl ((H : Int)) ((m : Int)) (by kernel_rfl) (by kernel_rfl) (((H + m : Nat) : Int)) (by omega) (by omega) (by omega) _) ?_))
  refine wq_to none (xSs h23 3 100 (.tmp 4) (.tmp 110) 0 ([(iV .i64 2), (iV .i64 ((t : Int))), (iV .u64 0), (lV none 0 0), (lV A1 i c1)]) ([(iV .i64 2), (iV .i64 ((t : Int))), (iV .u64 0), (lV none 0 0), (lV A1 i c1)])) ?_
  rintro _ w41 h41
  refine wq_p 2 [(6, (iV .i64 0)), (5, (iV .i64 (((H + m : Nat) : Int))))] ?_
  refine wl_end rfl (seq_n hK40 (wp_ret ?_))
  refine post_3 rfl (by kernel_rfl) (rce (h41.at_ 3 rfl)) (rtm (iV .i64 (((H + m : Nat) : Int)))) (rtm (iV .i64 0)) ?_
  exact readpost_2 h41 0 1 (by decide) rfl rfl (hxs.trans hend) hend t (H + m)
end
section
open Go.Value renaming int -> iV, slice -> lV, string -> sV, bool -> bV, agg -> aV
open Go.RowKit Go.QT
theorem rightL_mem {l : List DVal} {d : Nat} {u : DVal} (h : rightL l d = true) (hu : u ∈ l) : rightV u d = true := by
 obtain ⟨i, hi⟩ := List.getElem?_of_mem hu
 exact rightL_at l d i u hi h
theorem numL_mem {l : List DVal} {u : DVal} (h : numL l = true) (hu : u ∈ l) : numV u = true := by
 obtain ⟨i, hi⟩ := List.getElem?_of_mem hu
 exact numL_at l i u hi h
theorem wrL_mem {l : List DVal} {u : DVal} (hu : u ∈ l) : (wrV u).length <= (wrL l).length := by
 obtain ⟨i, hi⟩ := List.getElem?_of_mem hu
 have h1 := congrArg List.length (wrL_take l i u hi)
 have h2 := wrL_take_le l (i + 1)
 rw [List.length_append] at h1
 omega
theorem cut_mid (a b r : Bytes) : ((a ++ (b ++ r)).take (a.length + b.length)).drop a.length = b := by
 rw [← List.append_assoc, ← List.length_append, List.take_left]
 exact List.drop_left
/-- der.read, on a value's bytes and what follows. -/
theorem read_any (m : Nat) : ∀ (d : Nat), 9 <= d + m -> ∀ (v : DVal) (r : Bytes) (x : Value) (w : World), rightV v d = true -> numV v = true -> (wrV v).length < 65536 -> (wrV v ++ r).length <= 900000 -> SB w x (wrV v ++ r) -> Calls Try.prog 49 #[x, .int .i64 (d : Int)] w (ReadPost w v (wrV v).length) := by
 induction m with
 | zero => intro d h v r x w hr; obtain ⟨k, t, n, b, ts⟩ := v; exact absurd (rightV_le hr).2.2 (by omega)
 | succ m ih =>
   intro d h v r x w hr hnum hb hL hv
   obtain ⟨k, t, n, b, ts⟩ := v
   obtain ⟨hk, ht, hd⟩ := rightV_le hr
   have hbl := wrV_len (.mk k t n b ts)
   have ew : wrV (.mk k t n b ts) = headB k t (bodyV (.mk k t n b ts)).length ++ bodyV (.mk k t n b ts) := wrV_eq _
   have el : (wrV (.mk k t n b ts)).length = (headB k t (bodyV (.mk k t n b ts)).length).length + (bodyV (.mk k t n b ts)).length := by rw [ew, List.length_append]
   have eL : wrV (.mk k t n b ts) ++ r = headB k t (bodyV (.mk k t n b ts)).length ++ (bodyV (.mk k t n b ts) ++ r) := by rw [ew, List.append_assoc]
   rw [numV, Bool.and_eq_true, decide_eq_true_eq] at hnum
   rw [eL] at hv hL
   rw [el]
   have h0 := head_0 k t (bodyV (.mk k t n b ts)).length hk ht (bodyV (.mk k t n b ts) ++ r)
   have hc := cut_mid (headB k t (bodyV (.mk k t n b ts)).length) (bodyV (.mk k t n b ts)) r
   have hp := head_pos k t (bodyV (.mk k t n b ts)).length
   have hL2 : (headB k t (bodyV (.mk k t n b ts)).length).length + (bodyV (.mk k t n b ts)).length <= (headB k t (bodyV (.mk k t n b ts)).length ++ (bodyV (.mk k t n b ts) ++ r)).length := by simp only [List.length_append]; omega
   have hr9 : (bodyV (.mk k t n b ts) ++ r).length <= 900000 := by rw [List.length_append] at hL; omega
   obtain ⟨A, c, rfl, _⟩ := id hv
   have hsz := fun w hv => size_any k t (bodyV (.mk k t n b ts)).length (bodyV (.mk k t n b ts) ++ r) (by omega) (by simp) hr9 (.slice A (headB k t (bodyV (.mk k t n b ts)).length ++ (bodyV (.mk k t n b ts) ++ r)).length c) w hv
   rw [rightV] at hr
   simp only [Bool.and_eq_true] at hr
   have hr := hr.2
   match k, hk with
   | 0, _ =>
     rw [if_pos rfl, Bool.and_eq_true, List.isEmpty_iff, List.isEmpty_iff] at hr
     obtain ⟨rfl, rfl⟩ := hr
     exact read_num d hd _ t _ _ _ ht h0 hc rfl hp hL2 hL A c hsz w hv n hnum.1 rfl rfl
   | 1, _ =>
     rw [if_neg (by decide), if_pos rfl, Bool.and_eq_true, decide_eq_true_eq, List.isEmpty_iff] at hr
     obtain ⟨rfl, rfl⟩ := hr
     exact read_raw d hd _ t _ _ _ ht h0 hc rfl hp hL2 hL A c hsz w hv
   | 2, _ =>
     rw [if_neg (by decide), if_neg (by decide), if_pos rfl, Bool.and_eq_true, Bool.and_eq_true, decide_eq_true_eq, List.isEmpty_iff] at hr
     obtain ⟨⟨hr, rfl⟩, rfl⟩ := hr
     have hbd : bodyV (.mk 2 t 0 [] ts) = wrL ts := rfl
     refine read_seq d hd _ t _ _ _ ht h0 hc rfl hp hL2 hL A c hsz w hv ts rfl (fun v r x w hm hl hx => ?_)
     have := wrL_mem hm
     rw [hbd] at hbl
     exact ih (d + 1) (by omega) v r x w (rightL_mem hr hm) (numL_mem hnum.2 hm) (by omega) hl hx
/-- What der.Read leaves: the value, new. -/
def ReadOk (w : World) (v : DVal) (e : Ending) (w' : World) : Prop := ∃ F cs, e = .returned (.tuple #[.agg cs.toArray, .int .i64 0]) /\ Hp (fun _ => False) w w' [] [rDV F cs v]
theorem Read_any (v : DVal) (x : Value) (w : World) (hr : rightV v 1 = true) (hnum : numV v = true) (hl : (wrV v).length <= 4096) (hv : SB w x (wrV v)) : Calls Try.prog 45 #[x] w (ReadOk w v) := by
 obtain ⟨A, c, rfl, _⟩ := id hv
 have h0 := Hp.ro1 (rSB (.slice A (wrV v).length c) (wrV v)) hv
 refine enter 28 Try.func45 rfl rfl ?_
 refine wp_reset 29 [(0, (lV A ((wrV v).length) c))] (fun x0 => ?_)
 refine wp_seq_k fun K1 hK1 => reg_lit ?_
 refine wq_to (some 2) (xN h0 100 ([(iV .i64 0), (iV .i64 0), (iV .u64 0), (lV none 0 0), (lV none 0 0)])) ?_
 rintro _ w2 ⟨g2, rfl, h2⟩
 refine wq_p 1 [(3, (iV .i64 0))] ?_
 refine wl_end rfl (seq_n hK1 (wp_seq_k fun K3 hK3 => wp_seq_k fun K4 hK4 => reg_lit ?_))
 refine wq_p 2 [(8, (iV .i64 (((wrV v).length : Int)))), (7, (lV A ((wrV v).length) c))] (wq_v (some 9) (.bool false) (eqI (bV (decide (((wrV v).length : Int) > 4096))) (by simp; omega)) ?_)
 refine wl_end rfl (seq_n hK4 (cF (wp_skip (seq_n hK3 (wp_seq_k fun K5 hK5 => reg_lit ?_)))))
 refine wq_p 1 [(12, (lV A ((wrV v).length) c))] ?_
 refine wq_to (some 13) (x_read h2 49 [(lV A ((wrV v).length) c), (iV .i64 1)] (by kernel_rfl) (read_any 8 1 (by omega) v [] _ _ hr hnum (by omega) (by rw [List.append_nil]; omega) (by rw [List.append_nil]; exact h2.rd 0 rfl))) ?_
 rintro _ w6 ⟨F6, cs6, rfl, h6⟩
 obtain ⟨Be, de, Ae, ce, xse, rfl, _, _, _, _⟩ := dv_open (h6.at_ 0 rfl)
 refine wq_p 4 [(16, (iV .i64 0)), (15, (iV .i64 (((wrV v).length : Int)))), (14, (aV ([(iV .i64 ((v.kind : Int))), (iV .i64 ((v.tag : Int))), (iV .u64 ((v.n : Int))), (lV Be v.b.length de), (lV Ae v.l.length ce)]).toArray)), (11, (Value.tuple #[(aV ([(iV .i64 ((v.kind : Int))), (iV .i64 ((v.tag : Int))), (iV .u64 ((v.n : Int))), (lV Be v.b.length de), (lV Ae v.l.length ce)]).toArray), (iV .i64 (((wrV v).length : Int))), (iV .i64 0)]))] ?_
 refine wq_to (some 4) (xN h6 100 ([(iV .i64 0), (iV .i64 0), (iV .u64 0), (lV none 0 0), (lV none 0 0)])) ?_
 rintro _ w7 ⟨g7, rfl, h7⟩
 refine wq_to none (xSs h7 0 100 (.tmp 4) (.tmp 14) 0 ([(iV .i64 ((v.kind : Int))), (iV .i64 ((v.tag : Int))), (iV .u64 ((v.n : Int))), (lV Be v.b.length de), (lV Ae v.l.length ce)]) ([(iV .i64 ((v.kind : Int))), (iV .i64 ((v.tag : Int))), (iV .u64 ((v.n : Int))), (lV Be v.b.length de), (lV Ae v.l.length ce)])) ?_
 rintro _ w8 h8
 refine wq_p 2 [(6, (iV .i64 0)), (5, (iV .i64 (((wrV v).length : Int))))] ?_
 refine wl_end rfl (seq_n hK5 (wp_seq_k fun K9 hK9 => wp_block (wp_seq_k fun K10 hK10 => reg_lit ?_)))
 refine wq_p 3 [(17, (bV false)), (19, (bV false)), (18, (iV .i64 0))] ?_
 refine wl_end rfl (seq_n hK10 (cF (wp_seq_k fun K11 hK11 => reg_lit ?_)))
 refine wq_p 3 [(25, (iV .i64 (((wrV v).length : Int)))), (24, (lV A ((wrV v).length) c)), (23, (iV .i64 (((wrV v).length : Int))))] (wq_v (some 26) (.bool false) (eqI (bV (decide (((wrV v).length : Int) < ((wrV v).length : Int)))) (by simp)) (wq_p 1 [(22, (bV false))] ?_))
 refine wl_end rfl (seq_n hK11 (cF (wp_skip (blk_n (seq_n hK9 (wp_seq_k fun K12 hK12 => ?_))))))
 refine wp_reset 29 [(0, (lV A ((wrV v).length) c)), (2, (pt g2 0)), (3, (iV .i64 0)), (4, (pt g7 0)), (5, (iV .i64 (((wrV v).length : Int)))), (6, (iV .i64 0)), (9, (bV false)), (17, (bV false)), (22, (bV false))] (fun x13 => ?_)
 refine reg_lit ?_
 refine wq_v (some 28) (aV ([(iV .i64 ((v.kind : Int))), (iV .i64 ((v.tag : Int))), (iV .u64 ((v.n : Int))), (lV Be v.b.length de), (lV Ae v.l.length ce)]).toArray) (eLs (h8.at_ 0 rfl) 100 (.tmp 4) 0 ([(iV .i64 ((v.kind : Int))), (iV .i64 ((v.tag : Int))), (iV .u64 ((v.n : Int))), (lV Be v.b.length de), (lV Ae v.l.length ce)])) ?_
 refine wq_to none (xSs h8 2 100 (.tmp 2) (.tmp 28) 0 ([(iV .i64 ((v.kind : Int))), (iV .i64 ((v.tag : Int))), (iV .u64 ((v.n : Int))), (lV Be v.b.length de), (lV Ae v.l.length ce)]) ([(iV .i64 ((v.kind : Int))), (iV .i64 ((v.tag : Int))), (iV .u64 ((v.n : Int))), (lV Be v.b.length de), (lV Ae v.l.length ce)])) ?_
 rintro _ w14 h14
 refine wq_p 1 [(3, (iV .i64 0))] ?_
 refine wl_end rfl (seq_n hK12 (wp_ret ?_))
 refine post_2 rfl (by kernel_rfl) (rce (h14.at_ 2 rfl)) (rtm (iV .i64 0)) ?_
 exact ⟨_, _, rfl, h14.sel [1] [] rfl rfl rfl⟩
theorem read_nil (A : Option Addr) (c : Nat) (w : World) : Calls Try.prog 49 #[.slice A 0 c, .int .i64 1] w (DPost w (.tuple #[.agg #[.int .i64 0, .int .i64 0, .int .u64 0, .slice none 0 0, .slice none 0 0], .int .i64 0, .int .i64 1])) := by
 have h0 := Hp.nil (fun _ => False) w
 refine enter 112 Try.func49 rfl rfl ?_
 refine wp_reset 114 [(0, (lV A 0 c)), (1, (iV .i64 1))] (fun x0 => ?_)
 refine wp_seq_k fun K1 hK1 => reg_lit ?_
 refine wq_to (some 4) (xN h0 100 ([(iV .i64 0), (iV .i64 0), (iV .u64 0), (lV none 0 0), (lV none 0 0)])) ?_
 rintro _ w2 ⟨g2, rfl, h2⟩
 refine wq_p 2 [(6, (iV .i64 0)), (5, (iV .i64 0))] ?_
 refine wl_end rfl (seq_n hK1 (wp_seq_k fun K3 hK3 => wp_seq_k fun K4 hK4 => reg_lit ?_))
 refine wq_p 2 [(18, (bV false)), (17, (iV .i64 1))] ?_
 refine wl_end rfl (seq_n hK4 (cF (wp_skip (seq_n hK3 (wp_seq_k fun K5 hK5 => reg_lit ?_)))))
 refine wq_p 1 [(21, (lV A 0 c))] ?_
 refine wq_to (some 22) (x_dp h2 55 [(lV A 0 c)] (by kernel_rfl) (size_nil A c _)) ?_
 rintro _ w6 ⟨rfl, h6⟩
 refine wq_p 7 [(9, (iV .i64 1)), (8, (iV .i64 0)), (7, (iV .i64 0)), (25, (iV .i64 1)), (24, (iV .i64 0)), (23, (iV .i64 0)), (20, (Value.tuple #[(iV .i64 0), (iV .i64 0), (iV .i64 1)]))] ?_
 refine wl_end rfl (seq_n hK5 (wp_seq_k fun K7 hK7 => wp_seq_k fun K8 hK8 => reg_lit ?_))
 refine wq_p 2 [(27, (bV true)), (26, (iV .i64 1))] ?_
 refine wl_end rfl (seq_n hK8 (cT (wp_seq_k fun K9 hK9 => reg_lit ?_)))
 refine wq_p 2 [(29, (iV .i64 1)), (28, (aV ([(iV .i64 0), (iV .i64 0), (iV .u64 0), (lV none 0 0), (lV none 0 0)]).toArray))] ?_
 refine wq_to none (xSs h6 0 100 (.tmp 4) (.tmp 28) 0 ([(iV .i64 0), (iV .i64 0), (iV .u64 0), (lV none 0 0), (lV none 0 0)]) ([(iV .i64 0), (iV .i64 0), (iV .u64 0), (lV none 0 0), (lV none 0 0)])) ?_
 rintro _ w10 h10
 refine wq_p 2 [(6, (iV .i64 1)), (5, (iV .i64 0))] ?_
 refine wl_end rfl (seq_n hK9 (wp_ret (seq_r ?_)))
 refine post_3 rfl (by kernel_rfl) (rce (h10.at_ 0 rfl)) (rtm (iV .i64 0)) (rtm (iV .i64 1)) ?_
 exact ⟨rfl, h10.below0⟩
theorem Read_nil (A : Option Addr) (c : Nat) (w : World) : Calls Try.prog 45 #[.slice A 0 c] w (DPost w (.tuple #[.agg #[.int .i64 0, .int .i64 0, .int .u64 0, .slice none 0 0, .slice none 0 0], .int .i64 1])) := by
 have h0 := Hp.nil (fun _ => False) w
 refine enter 28 Try.func45 rfl rfl ?_
 refine wp_reset 29 [(0, (lV A 0 c))] (fun x0 => ?_)
 refine wp_seq_k fun K1 hK1 => reg_lit ?_
 refine wq_to (some 2) (xN h0 100 ([(iV .i64 0), (iV .i64 0), (iV .u64 0), (lV none 0 0), (lV none 0 0)])) ?_
 rintro _ w2 ⟨g2, rfl, h2⟩
 refine wq_p 1 [(3, (iV .i64 0))] ?_
 refine wl_end rfl (seq_n hK1 (wp_seq_k fun K3 hK3 => wp_seq_k fun K4 hK4 => reg_lit ?_))
 refine wq_p 3 [(9, (bV false)), (8, (iV .i64 0)), (7, (lV A 0 c))] ?_
 refine wl_end rfl (seq_n hK4 (cF (wp_skip (seq_n hK3 (wp_seq_k fun K5 hK5 => reg_lit ?_)))))
 refine wq_p 1 [(12, (lV A 0 c))] ?_
 refine wq_to (some 13) (x_dp h2 49 [(lV A 0 c), (iV .i64 1)] (by kernel_rfl) (read_nil A c _)) ?_
 rintro _ w6 ⟨rfl, h6⟩
 refine wq_p 4 [(16, (iV .i64 1)), (15, (iV .i64 0)), (14, (aV ([(iV .i64 0), (iV .i64 0), (iV .u64 0), (lV none 0 0), (lV none 0 0)]).toArray)), (11, (Value.tuple #[(aV ([(iV .i64 0), (iV .i64 0), (iV .u64 0), (lV none 0 0), (lV none 0 0)]).toArray), (iV .i64 0), (iV .i64 1)]))] ?_
 refine wq_to (some 4) (xN h6 100 ([(iV .i64 0), (iV .i64 0), (iV .u64 0), (lV none 0 0), (lV none 0 0)])) ?_
 rintro _ w7 ⟨g7, rfl, h7⟩
 refine wq_to none (xSs h7 0 100 (.tmp 4) (.tmp 14) 0 ([(iV .i64 0), (iV .i64 0), (iV .u64 0), (lV none 0 0), (lV none 0 0)]) ([(iV .i64 0), (iV .i64 0), (iV .u64 0), (lV none 0 0), (lV none 0 0)])) ?_
 rintro _ w8 h8
 refine wq_p 2 [(6, (iV .i64 1)), (5, (iV .i64 0))] ?_
 refine wl_end rfl (seq_n hK5 (wp_seq_k fun K9 hK9 => wp_block (wp_seq_k fun K10 hK10 => reg_lit ?_)))
 refine wq_p 3 [(17, (bV true)), (19, (bV true)), (18, (iV .i64 1))] ?_
 refine wl_end rfl (seq_n hK10 (cT (wp_seq_k fun K11 hK11 => reg_lit ?_)))
 refine wq_p 2 [(21, (iV .i64 1)), (20, (aV ([(iV .i64 0), (iV .i64 0), (iV .u64 0), (lV none 0 0), (lV none 0 0)]).toArray))] ?_
 refine wq_to none (xSs h8 1 100 (.tmp 2) (.tmp 20) 0 ([(iV .i64 0), (iV .i64 0), (iV .u64 0), (lV none 0 0), (lV none 0 0)]) ([(iV .i64 0), (iV .i64 0), (iV .u64 0), (lV none 0 0), (lV none 0 0)])) ?_
 rintro _ w12 h12
 refine wq_p 1 [(3, (iV .i64 1))] ?_
 refine wl_end rfl (seq_n hK11 (wp_ret (blk_r (seq_r ?_))))
 refine post_2 rfl (by kernel_rfl) (rce (h12.at_ 1 rfl)) (rtm (iV .i64 1)) ?_
 exact ⟨rfl, h12.below0⟩
end
end Go.Proofs.Ytjalodhdjollhaa
