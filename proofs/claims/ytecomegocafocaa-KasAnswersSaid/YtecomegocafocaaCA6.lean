/- The walks of tick: key, right. -/
import Derived.Lib.OthersKept
import Derived.Lib.RuneCount
import Derived.Test.YtecomegocafocaaCA5
set_option maxRecDepth 100000
set_option maxHeartbeats 4000000
namespace Go.Proofs.Ytecomegocafocaa
section
open Go.Value renaming int -> iV, slice -> lV, string -> sV, bool -> bV, agg -> aV
open Go.RowKit Go.QT
theorem size_lo (L : Bytes) (m : Nat) (h1 : nb (gb L 1) = m) (hm : m < 128) (hl : 2 + m <= L.length) (hx : L.length <= 1000000) (A : Option Addr) (c : Nat) (w : World) (hv : SB w (.slice A L.length c) L) : Calls Try.prog 81 #[.slice A L.length c] w (DPost w (.tuple #[.int .i64 (m : Int), .int .i64 2, .int .i64 0])) := by
 have h0 := Hp.ro1 (rSB (.slice A L.length c) L) hv
 refine enter 60 Try.func81 rfl rfl ?_
 refine wp_reset 61 [(0, (lV A L.length c))] (fun x0 => ?_)
 refine wR fun K1 hK1 => ?_
 refine wq_p 3 [(4, O), (3, O), (2, O)] ?_
 refine wE hK1 (wp_seq_k fun K2 hK2 => wR fun K3 hK3 => ?_)
 refine wq_p 2 [(9, (D ((L.length : Int)))), (8, (lV A L.length c))] (wV 10 (.bool false) (eqI (bV (decide ((L.length : Int) < 2))) (by simp; omega)) ?_)
 refine wE hK3 (cF (wp_skip (seq_n hK2 (wR fun K4 hK4 => ?_))))
 refine wq_p 1 [(11, (lV A L.length c))] (wV 12 (eAt A (1 * 1 + 0)) (eIx (SB.rvn (h0.rd 0 rfl)).2 1 L.length (SB.rvn (h0.rd 0 rfl)).1 (by omega) 22 (.tmp 11) (.const (D 1)) .i64 5) (wV 13 (iV .u8 (ub (gb (L) (1)))) (eEl (SB.rvn (h0.rd 0 rfl)).2 1 0 ([(iV .u8 (ub (gb (L) (1))))]) (bx_get _ _ (by omega)) 5 (.tmp 12) (iV .u8 (ub (gb (L) (1))))) (wV 14 (iV .u64 ((m : Int))) (eqI (iV .u64 (IntKind.u64.wrap (ub (gb (L) (1))))) (u64_ub _ h1)) ?_)))
 refine wq_p 2 [(6, (D 2)), (5, (iV .u64 ((m : Int))))] ?_
 refine wE hK4 (wp_seq_k fun K5 hK5 => wR fun K6 hK6 => ?_)
 refine wq_p 1 [(15, (iV .u64 ((m : Int))))] (wV 16 (.bool false) (eqI (bV (decide ((m : Int) ≥ 128))) (by simp; omega)) ?_)
 refine wE hK6 (cF (wp_skip (seq_n hK5 (wp_seq_k fun K7 hK7 => wR fun K8 hK8 => ?_))))
 refine wq_p 4 [(54, (D 2)), (53, (D ((L.length : Int)))), (52, (lV A L.length c)), (51, (iV .u64 ((m : Int))))] (wV 55 (D ((((L.length) - 2 : Nat) : Int))) (exec_sub _ _ _ _ rfl ((L.length : Int)) 2 (by kernel_rfl) (by kernel_rfl) ((((L.length) - 2 : Nat) : Int)) (by omega) (by omega) (by omega) _) (wV 56 (iV .u64 ((((L.length) - 2 : Nat) : Int))) (eqI (iV .u64 (IntKind.u64.wrap ((((L.length) - 2 : Nat) : Int)))) (wrap_u64_is (by omega) (by omega))) (wV 57 (.bool false) (eqI (bV (decide ((m : Int) > (((L.length) - 2 : Nat) : Int)))) (by simp; omega)) ?_)))
 refine wE hK8 (cF (wp_skip (seq_n hK7 (wR fun K9 hK9 => ?_))))
 refine wq_p 1 [(58, (iV .u64 ((m : Int))))] (wV 59 (D ((m : Int))) (eqI (D (IntKind.i64.wrap ((m : Int)))) (i64_nat (by omega))) (wq_p 4 [(4, O), (3, (D 2)), (2, (D ((m : Int)))), (60, (D 2))] ?_))
 refine wE hK9 (wp_ret ?_)
 refine post_3 rfl (by kernel_rfl) (rtm (D ((m : Int)))) (rtm (D 2)) (rtm O) ?_
 exact ⟨rfl, h0.below0⟩
theorem size_hi (L S : Bytes) (m K : Nat) (h1 : nb (gb L 1) = 128 + K) (hK : (K = 1 /\ m < 256) ∨ (K = 2 /\ 256 <= m)) (hm : 128 <= m) (hc : (L.take (2 + K)).drop 2 = S) (hS : getN S = m) (hSl : S.length = K) (hl : 2 + K + m <= L.length) (hx : L.length <= 1000000) (A : Option Addr) (c : Nat) (w : World) (hv : SB w (.slice A L.length c) L) : Calls Try.prog 81 #[.slice A L.length c] w (DPost w (.tuple #[.int .i64 (m : Int), .int .i64 ((2 + K : Nat) : Int), .int .i64 0])) := by
 have h0 := Hp.ro1 (rSB (.slice A L.length c) L) hv
 refine enter 60 Try.func81 rfl rfl ?_
 refine wp_reset 61 [(0, (lV A L.length c))] (fun x0 => ?_)
 refine wR fun K1 hK1 => ?_
 refine wq_p 3 [(4, O), (3, O), (2, O)] ?_
 refine wE hK1 (wp_seq_k fun K2 hK2 => wR fun K3 hK3 => ?_)
 refine wq_p 2 [(9, (D ((L.length : Int)))), (8, (lV A L.length c))] (wV 10 (.bool false) (eqI (bV (decide ((L.length : Int) < 2))) (by simp; omega)) ?_)
 refine wE hK3 (cF (wp_skip (seq_n hK2 (wR fun K4 hK4 => ?_))))
 refine wq_p 1 [(11, (lV A L.length c))] (wV 12 (eAt A (1 * 1 + 0)) (eIx (SB.rvn (h0.rd 0 rfl)).2 1 L.length (SB.rvn (h0.rd 0 rfl)).1 (by omega) 22 (.tmp 11) (.const (D 1)) .i64 5) (wV 13 (iV .u8 (ub (gb (L) (1)))) (eEl (SB.rvn (h0.rd 0 rfl)).2 1 0 ([(iV .u8 (ub (gb (L) (1))))]) (bx_get _ _ (by omega)) 5 (.tmp 12) (iV .u8 (ub (gb (L) (1))))) (wV 14 (iV .u64 (((128 + K : Nat) : Int))) (eqI (iV .u64 (IntKind.u64.wrap (ub (gb (L) (1))))) (u64_ub _ h1)) ?_)))
 refine wq_p 2 [(6, (D 2)), (5, (iV .u64 (((128 + K : Nat) : Int))))] ?_
 refine wE hK4 (wp_seq_k fun K5 hK5 => wR fun K6 hK6 => ?_)
 refine wq_p 1 [(15, (iV .u64 (((128 + K : Nat) : Int))))] (wV 16 (.bool true) (eqI (bV (decide (((128 + K : Nat) : Int) ≥ 128))) (by simp; omega)) ?_)
 refine wE hK6 (cT (wR fun K7 hK7 => ?_))
 refine wq_p 1 [(17, (iV .u64 (((128 + K : Nat) : Int))))] (wV 18 (iV .u64 ((K : Int))) (eqI (iV .u64 (IntKind.u64.wrap (((128 + K : Nat) : Int) - 128))) (u64_sub (m := 128 + K) (n := 128) rfl (by omega))) (wV 19 (D ((K : Int))) (eqI (D (IntKind.i64.wrap ((K : Int)))) (i64_nat (by omega))) (wq_p 1 [(7, (D ((K : Int))))] ?_)))
 refine wE hK7 (wp_seq_k fun K8 hK8 => wR fun K9 hK9 => ?_)
 refine wq_p 1 [(20, (D ((K : Int))))] (wV 21 (.bool false) (eqI (bV (decide ((K : Int) < 1))) (by simp; omega)) (wq_p 2 [(23, (D ((K : Int)))), (22, V)] (wV 24 (.bool false) (eqI (bV (decide ((K : Int) > 2))) (by simp; omega)) ?_)))
 refine wq_p 1 [(25, V)] ?_
 refine wE hK9 (cF (wp_skip (seq_n hK8 (wp_seq_k fun K10 hK10 => wp_seq_k fun K11 hK11 => ?_))))
 refine wp_reset 61 [(0, (lV A L.length c)), (2, O), (3, O), (4, O), (5, (iV .u64 (((128 + K : Nat) : Int)))), (6, (D 2)), (7, (D ((K : Int)))), (10, V), (16, I), (25, V)] (fun x12 => ?_)
 refine reg_lit ?_
 refine wq_p 3 [(28, (D ((K : Int)))), (27, (D ((L.length : Int)))), (26, (lV A L.length c))] (wV 29 (D (((2 + K : Nat) : Int))) (exec_add _ _ _ _ rfl 2 ((K : Int)) (by kernel_rfl) (by kernel_rfl) (((2 + K : Nat) : Int)) (by omega) (by omega) (by omega) _) (wV 30 (.bool false) (eqI (bV (decide ((L.length : Int) < ((2 + K : Nat) : Int)))) (by simp; omega)) ?_))
 refine wE hK11 (cF (wp_skip (seq_n hK10 (wR fun K13 hK13 => ?_))))
 refine wq_p 2 [(33, (D ((K : Int)))), (32, (lV A L.length c))] (wV 34 (D (((2 + K : Nat) : Int))) (exec_add _ _ _ _ rfl 2 ((K : Int)) (by kernel_rfl) (by kernel_rfl) (((2 + K : Nat) : Int)) (by omega) (by omega) (by omega) _) (wV 35 (cutS (lV A L.length c) 2 (((2 + K)))) (e_cut_lh (h0.rd 0 rfl) (.tmp 32) (.const (D 2)) (.tmp 34) (by kernel_rfl) (by kernel_rfl) .i64 .i64 2 (((2 + K))) (by kernel_rfl) (by kernel_rfl) (by omega) (by omega) _) ?_))
 refine wT 36 (x_getD h0 (((L).take (((2 + K)))).drop 2) (cutS (lV A L.length c) 2 (((2 + K)))) (by kernel_rfl) (SB.cut (h0.rd 0 rfl) 2 (((2 + K))) (by omega)) (by rw [hc]; omega) (by rw [hc]; omega) m (by rw [hc, hS])) ?_
 rintro _ w14 ⟨rfl, h14⟩
 refine wq_p 4 [(5, (iV .u64 (((m : Nat) : Int)))), (38, I), (37, (iV .u64 (((m : Nat) : Int)))), (31, (Value.tuple #[(iV .u64 (((m : Nat) : Int))), I]))] ?_
 refine wE hK13 (wR fun K15 hK15 => ?_)
 refine wq_p 1 [(39, (D ((K : Int))))] (wV 40 (D (((2 + K : Nat) : Int))) (exec_add _ _ _ _ rfl 2 ((K : Int)) (by kernel_rfl) (by kernel_rfl) (((2 + K : Nat) : Int)) (by omega) (by omega) (by omega) _) (wq_p 1 [(6, (D (((2 + K : Nat) : Int))))] ?_))
 refine wE hK15 (wp_seq_k fun K16 hK16 => ?_)
 rcases hK with ⟨hq1, hq2⟩ | ⟨hq1, hq2⟩
 ·
  refine reg_lit ?_
  refine wq_p 1 [(41, (iV .u64 (((m : Nat) : Int))))] (wV 42 (.bool false) (eqI (bV (decide (((m : Nat) : Int) < 128))) (by simp; omega)) (wq_p 2 [(44, (D ((K : Int)))), (43, V)] (wV 45 (.bool false) (eqI (bV (((K : Int)) == 2)) (by rw [hq1]; rfl)) ?_)))
  refine wq_p 2 [(47, undef), (46, V)] (wq_p 1 [(48, undef)] (wq_p 2 [(50, V), (49, V)] ?_))
  refine wE hK16 (cF (wp_skip (seq_n hK5 (wp_seq_k fun K18 hK18 => wR fun K19 hK19 => ?_))))
  refine wq_p 4 [(54, (D (((2 + K : Nat) : Int)))), (53, (D ((L.length : Int)))), (52, (lV A L.length c)), (51, (iV .u64 (((m : Nat) : Int))))] (wV 55 (D ((((L.length) - ((2 + K)) : Nat) : Int))) (exec_sub _ _ _ _ rfl ((L.length : Int)) (((2 + K : Nat) : Int)) (by kernel_rfl) (by kernel_rfl) ((((L.length) - ((2 + K)) : Nat) : Int)) (by omega) (by omega) (by omega) _) (wV 56 (iV .u64 ((((L.length) - ((2 + K)) : Nat) : Int))) (eqI (iV .u64 (IntKind.u64.wrap ((((L.length) - ((2 + K)) : Nat) : Int)))) (wrap_u64_is (by omega) (by omega))) (wV 57 (.bool false) (eqI (bV (decide (((m : Nat) : Int) > (((L.length) - ((2 + K)) : Nat) : Int)))) (by simp; omega)) ?_)))
  refine wE hK19 (cF (wp_skip (seq_n hK18 (wp_seq_k fun K20 hK20 => ?_))))
  refine wp_reset 61 [(0, (lV A L.length c)), (2, O), (3, O), (4, O), (5, (iV .u64 (((m : Nat) : Int)))), (6, (D (((2 + K : Nat) : Int)))), (7, (D ((K : Int)))), (10, V), (16, I), (25, V), (30, V), (50, V), (57, V)] (fun x21 => ?_)
  refine reg_lit ?_
  refine wq_p 1 [(58, (iV .u64 (((m : Nat) : Int))))] (wV 59 (D ((m : Int))) (eqI (D (IntKind.i64.wrap (((m : Nat) : Int)))) (i64_nat (by omega))) (wq_p 4 [(4, O), (3, (D (((2 + K : Nat) : Int)))), (2, (D ((m : Int)))), (60, (D (((2 + K : Nat) : Int))))] ?_))
  refine wE hK20 (wp_ret ?_)
  refine post_3 rfl (by kernel_rfl) (rtm (D ((m : Int)))) (rtm (D (((2 + K : Nat) : Int)))) (rtm O) ?_
  exact ⟨rfl, h14.below0⟩
 ·
  refine reg_lit ?_
  refine wq_p 1 [(41, (iV .u64 (((m : Nat) : Int))))] (wV 42 (.bool false) (eqI (bV (decide (((m : Nat) : Int) < 128))) (by simp; omega)) (wq_p 2 [(44, (D ((K : Int)))), (43, V)] (wV 45 (.bool true) (eqI (bV (((K : Int)) == 2)) (by rw [hq1]; rfl)) ?_)))
  refine wq_p 2 [(47, (iV .u64 (((m : Nat) : Int)))), (46, I)] (wV 48 (.bool false) (eqI (bV (decide (((m : Nat) : Int) < 256))) (by simp; omega)) (wq_p 2 [(50, V), (49, V)] ?_))
  refine wE hK16 (cF (wp_skip (seq_n hK5 (wp_seq_k fun K22 hK22 => wR fun K23 hK23 => ?_))))
  refine wq_p 4 [(54, (D (((2 + K : Nat) : Int)))), (53, (D ((L.length : Int)))), (52, (lV A L.length c)), (51, (iV .u64 (((m : Nat) : Int))))] (wV 55 (D ((((L.length) - ((2 + K)) : Nat) : Int))) (exec_sub _ _ _ _ rfl ((L.length : Int)) (((2 + K : Nat) : Int)) (by kernel_rfl) (by kernel_rfl) ((((L.length) - ((2 + K)) : Nat) : Int)) (by omega) (by omega) (by omega) _) (wV 56 (iV .u64 ((((L.length) - ((2 + K)) : Nat) : Int))) (eqI (iV .u64 (IntKind.u64.wrap ((((L.length) - ((2 + K)) : Nat) : Int)))) (wrap_u64_is (by omega) (by omega))) (wV 57 (.bool false) (eqI (bV (decide (((m : Nat) : Int) > (((L.length) - ((2 + K)) : Nat) : Int)))) (by simp; omega)) ?_)))
  refine wE hK23 (cF (wp_skip (seq_n hK22 (wp_seq_k fun K24 hK24 => ?_))))
  refine wp_reset 61 [(0, (lV A L.length c)), (2, O), (3, O), (4, O), (5, (iV .u64 (((m : Nat) : Int)))), (6, (D (((2 + K : Nat) : Int)))), (7, (D ((K : Int)))), (10, V), (16, I), (25, V), (30, V), (50, V), (57, V)] (fun x25 => ?_)
  refine reg_lit ?_
  refine wq_p 1 [(58, (iV .u64 (((m : Nat) : Int))))] (wV 59 (D ((m : Int))) (eqI (D (IntKind.i64.wrap (((m : Nat) : Int)))) (i64_nat (by omega))) (wq_p 4 [(4, O), (3, (D (((2 + K : Nat) : Int)))), (2, (D ((m : Int)))), (60, (D (((2 + K : Nat) : Int))))] ?_))
  refine wE hK24 (wp_ret ?_)
  refine post_3 rfl (by kernel_rfl) (rtm (D ((m : Int)))) (rtm (D (((2 + K : Nat) : Int)))) (rtm O) ?_
  exact ⟨rfl, h14.below0⟩
end
section
open Go.RowKit Go.QT
mutual
/-- The numbers fit into 64 bits. -/
def numV : DVal -> Bool | .mk _ _ n _ l => decide (n < 18446744073709551616) && numL l
def numL : List DVal -> Bool
 | [] => true
 | x :: r => numV x && numL r
end
theorem numL_at : ∀ (l : List DVal) (i : Nat) (u : DVal), l[i]? = some u -> numL l = true -> numV u = true
 | [], i, u, h, _ => by simp at h
 | y :: r, 0, u, h, hr => by
   have : y = u := by simpa using h
   subst this
   rw [numL, Bool.and_eq_true] at hr; exact hr.1
 | y :: r, i + 1, u, h, hr => by
   rw [numL, Bool.and_eq_true] at hr
   exact numL_at r i u (by simpa using h) hr.2
theorem head_pos (k t m : Nat) : 2 <= (headB k t m).length := by
 by_cases h : m < 128
 · rw [head_loL k t h]; omega
 · rw [head_hiL k t h]; omega
theorem wrV_pos (v : DVal) : 2 <= (wrV v).length := by
 rw [wrV_eq, List.length_append]; have := head_pos v.kind v.tag (bodyV v).length; omega
section
variable {P : Program} {o : Oper} {a : Act} {w w' : World} {F0 : Nat -> Prop} {w0 : World} {ro rs : List Res}
theorem e_shr8 (t t' : TypeId) (x y : Operand) (ho : o.op = .binOp .shr t x y t') (m : Nat) (k : IntKind) (n : Nat) (hn : n <= 8) (hx : a.eval x = .int .u8 (m : Int)) (hy : a.eval y = .int k (n : Int)) (hm : m < 256) (W : World) :
   (execOp a.eval o).run P W = .ok (.value (.int .u8 ((m / 2 ^ n : Nat) : Int))) W := by
 have h3 : (eqGuard .shr t x y (.int .u8 (m : Int)) (.int k (n : Int))).run P W = .ok () W := by simp [eqGuard]
 have e : ((m : Int)).fdiv (2 ^ n) = ((m / 2 ^ n : Nat) : Int) := by
   have h2 : (2 : Int) ^ n = ((2 ^ n : Nat) : Int) := by simp
   rw [h2, Int.fdiv_eq_ediv_of_nonneg _ (Int.natCast_nonneg _), ← Int.natCast_ediv]
 have hlt : m / 2 ^ n < 256 := Nat.lt_of_le_of_lt (Nat.div_le_self _ _) hm
 have e2 : IntKind.u8.wrap ((m / 2 ^ n : Nat) : Int) = ((m / 2 ^ n : Nat) : Int) := by
   rw [IntKind.wrap_u8]
   generalize m / 2 ^ n = q at *
   omega
 have h4 : (binOp .shr t (.int .u8 (m : Int)) (.int k (n : Int))).run P W = .ok (.int .u8 ((m / 2 ^ n : Nat) : Int)) W := by
   have hm : min ((n : Int)).toNat IntKind.u8.bits = n := by
     show min ((n : Int)).toNat 8 = n
     omega
   have h0 : ¬ ((n : Int) < 0) := by omega
   unfold binOp Op.shift
   simp only [if_neg h0, hm, e, Sem.run_pure]
 unfold execOp
 simp only [ho, hx, hy, Sem.run_bind, h3, h4, Result.andThen_ok, Sem.run_pure]
theorem and63 : ((List.range 256).all fun n => decide (bits .and .u8 ((n : Nat) : Int) 63 = ((n % 64 : Nat) : Int))) = true := by decide +kernel
theorem and63' {n : Nat} (h : n < 256) : bits .and .u8 ((n : Nat) : Int) 63 = ((n % 64 : Nat) : Int) :=
 of_decide_eq_true (List.all_eq_true.1 and63 n (List.mem_range.2 h))
/-- A part of bytes that are read, as a slice of its own. -/
theorem Hp.roCut {v : Value} {l : Bytes} (h : Hp F0 w0 w ro rs) (i : Nat) (hi : ro[i]? = some (rSB v l)) (lo hb : Nat) (hh : hb <= l.length) (B : Bytes) (e : (l.take hb).drop lo = B) : ∃ A c, cutS v lo hb = .slice A B.length c /\ Hp F0 w0 w (rSB (.slice A B.length c) B :: ro) rs := by
 have hs := SB.cut (h.red i _ hi) lo hb hh
 rw [e] at hs
 obtain ⟨A, c, e2, _⟩ := id hs
 refine ⟨A, c, e2, ?_⟩
 rw [← e2]
 refine h.sub i hi (rSB _ _) hs (fun q hq => ⟨?_, ?_⟩)
 · rintro rfl; exact hq.1 (by rw [← e]; simp)
 · have h2 : (cutS v lo hb).ownBlock = some q := hq.2
   rw [cutS_block] at h2; exact h2
/-- What der.read leaves: the value, new, and how many bytes it had. -/
def ReadPost (w : World) (v : DVal) (k : Nat) (e : Ending) (w' : World) : Prop := ∃ F cs, e = .returned (.tuple #[.agg cs.toArray, .int .i64 (k : Int), .int .i64 0]) /\ Hp (fun _ => False) w w' [] [rDV F cs v]
theorem x_read (h : Hp F0 w0 w ro rs) {v : DVal} {k : Nat} (fn : FuncId) (al : List Value) (hp : pureVal P (execOp a.eval o) = some (.enter fn al.toArray)) (hc : Calls P fn al.toArray w (ReadPost w v k)) :
   OpTo P o a w (fun u w' => ∃ F cs, u = .tuple #[.agg cs.toArray, .int .i64 (k : Int), .int .i64 0] /\ Hp F0 w0 w' ro (rDV F cs v :: rs)) :=
 OpTo.enter fn al hp hc fun e w' hq => by
   obtain ⟨F, cs, he, h2⟩ := hq
   exact ⟨_, he, F, cs, rfl, h.call0 h2⟩
end
theorem dv_numT (w : World) (t n : Nat) (hn : n < 18446744073709551616) : (rDV (fun _ => False) [.int .i64 0, .int .i64 (t : Int), .int .u64 (n : Int), .slice none 0 0, .slice none 0 0] (.mk 0 t n [] [])).Φ w :=
 ⟨fun _ hf => hf.elim, .mk 0 t n _ [] none 0 [] [] hn (sbf_nil _ _) (rvf_nil _ _ _ _ (by unfold maxLen; omega) _) rfl (by simp)⟩
theorem dv_rawT {w : World} {v : Value} {b : Bytes} (t : Nat) (h : SB w v b) : (rDV (rSB v b).F [.int .i64 1, .int .i64 (t : Int), .int .u64 0, v, .slice none 0 0] (.mk 1 t 0 b [])).Φ w :=
 ⟨fun q hq => (rSB v b).lt h q hq, .mk 1 t 0 v b none 0 [] [] (by omega) ⟨h, fun h1 q hq => ⟨h1, hq⟩⟩ (rvf_nil _ _ _ _ (by unfold maxLen; omega) _) rfl (by simp)⟩
theorem rdl_nil (w : World) : (rDL (fun _ => False) [] []).Φ w := ⟨fun _ hf => hf.elim, by simp⟩
theorem rdl_push {w : World} {G F : Nat -> Prop} {xs : List (List Value)} {ts : List DVal} {cs : List Value} {u : DVal} (hl : xs.length = ts.length) (h : (rDL G xs ts).Φ w) (hu : (rDV F cs u).Φ w) : (rDL (fun q => F q ∨ G q) (xs ++ [cs]) (ts ++ [u])).Φ w := by
 refine ⟨fun q hq => hq.elim (hu.1 q) (h.1 q), fun i x y hx hy => ?_⟩
 by_cases hi : i < xs.length
 · rw [List.getElem?_append_left hi] at hx
   rw [List.getElem?_append_left (by omega)] at hy
   exact (h.2 i x y hx hy).mono fun q hq => .inr hq
 · have e : i = xs.length := by
     have := (List.getElem?_eq_some_iff.1 hx).1
     simp at this; omega
   subst e
   rw [List.getElem?_append_right (Nat.le_refl _), Nat.sub_self] at hx
   rw [hl, List.getElem?_append_right (Nat.le_refl _), Nat.sub_self] at hy
   have hx : cs = x := by simpa using hx
   have hy : u = y := by simpa using hy
   subst hx; subst hy
   exact hu.2.mono fun q hq => .inl hq
theorem dv_seqO {w : World} {G : Nat -> Prop} {A : Option Addr} {n c t : Nat} {xs : List (List Value)} {ts : List DVal} (hl : xs.length = ts.length) (hn : n = ts.length) (hx : (rOV 106 5 (.slice A n c) xs).Φ w) (hs : (rDL G xs ts).Φ w) :
   (rDV (fun q => (rOV 106 5 (.slice A n c) xs).F q ∨ G q) [.int .i64 2, .int .i64 (t : Int), .int .u64 0, .slice none 0 0, .slice A n c] (.mk 2 t 0 [] ts)).Φ w := by
 subst hn
 refine ⟨fun q hq => hq.elim ((rOV 106 5 (.slice A ts.length c) xs).lt hx q) (hs.1 q), .mk 2 t 0 _ [] A c xs ts (by omega) (sbf_nil _ _) ⟨(OV.rvn hx).2, fun _ q hq => .inl ?_⟩ hl (fun i x u h1 h2 => (hs.2 i x u h1 h2).mono fun q hq => .inr hq)⟩
 show (Value.slice A ts.length c).ownBlock = some q
 rw [← hq]; cases A <;> rfl
section
variable {w : World} {w0 : World} {ro rs : List Res}
theorem readpost_0 (h : Hp (fun _ => False) w0 w ro rs) (t n k : Nat) (hn : n < 18446744073709551616) : ReadPost w0 (.mk 0 t n [] []) k (.returned (.tuple #[.agg #[.int .i64 0, .int .i64 (t : Int), .int .u64 (n : Int), .slice none 0 0, .slice none 0 0], .int .i64 (k : Int), .int .i64 0])) w :=
 ⟨_, _, rfl, (h.addS _ (dv_numT w t n hn) (fun _ hf => hf.elim) (fun _ _ _ _ hf => hf.elim) (fun _ _ _ _ hf => hf.elim)).sel [0] [] rfl rfl rfl⟩
theorem readpost_1 (h : Hp (fun _ => False) w0 w ro rs) (i : Nat) {v : Value} {b : Bytes} (hi : rs[i]? = some (rOB v b)) (t k : Nat) : ReadPost w0 (.mk 1 t 0 b []) k (.returned (.tuple #[.agg #[.int .i64 1, .int .i64 (t : Int), .int .u64 0, v, .slice none 0 0], .int .i64 (k : Int), .int .i64 0])) w := by
 have hu := h.upd i hi (Fr.refl _ _) _ (dv_rawT t (OB.sb (h.own i _ hi))) (fun _ hq => .inl hq.2)
 have hi2 := List.getElem?_set_self (a := rDV (rSB v b).F [.int .i64 1, .int .i64 (t : Int), .int .u64 0, v, .slice none 0 0] (.mk 1 t 0 b [])) (List.getElem?_eq_some_iff.1 hi).1
 exact ⟨_, _, rfl, hu.sel (rs' := [rDV (rSB v b).F [.int .i64 1, .int .i64 (t : Int), .int .u64 0, v, .slice none 0 0] (.mk 1 t 0 b [])]) [i] [] rfl rfl (by simp only [List.map_cons, List.map_nil]; rw [hi2])⟩
theorem readpost_2 (h : Hp (fun _ => False) w0 w ro rs) (i j : Nat) (hij : i < j) {G : Nat -> Prop} {A : Option Addr} {n c : Nat} {xs : List (List Value)} {ts : List DVal} (hi : rs[i]? = some (rOV 106 5 (.slice A n c) xs)) (hj : rs[j]? = some (rDL G xs ts)) (hl : xs.length = ts.length) (hn : n = ts.length) (t k : Nat) : ReadPost w0 (.mk 2 t 0 [] ts) k (.returned (.tuple #[.agg #[.int .i64 2, .int .i64 (t : Int), .int .u64 0, .slice none 0 0, .slice A n c], .int .i64 (k : Int), .int .i64 0])) w :=
 ⟨_, _, rfl, (h.join i j hi hj hij _ (dv_seqO hl hn (h.own i _ hi) (h.own j _ hj)) (fun _ hq => hq)).sel [0] [] rfl rfl rfl⟩
end
end
section
open Go.RowKit Go.QT
theorem read_raw (d : Nat) (hd : d <= 8) (L : Bytes) (t m H : Nat) (B : Bytes) (ht : t <= 30) (h0 : nb (gb L 0) = 1 * 64 + t) (hcut : (L.take (H + m)).drop H = B) (hB : B.length = m) (hH : 2 <= H) (hlen : H + m <= L.length) (hL : L.length <= 900000) (A : Option Addr) (c : Nat)
   (hsz : ∀ w, SB w (.slice A L.length c) L -> Calls Try.prog 81 #[.slice A L.length c] w (DPost w (.tuple #[.int .i64 (m : Int), .int .i64 (H : Int), .int .i64 0]))) (w : World) (hv : SB w (.slice A L.length c) L)
    : Calls Try.prog 59 #[.slice A L.length c, .int .i64 (d : Int)] w (ReadPost w (.mk 1 t 0 B []) (H + m)) := by
 have hL1 : 0 < L.length := by omega
 have h256 := nb_lt (gb L 0)
 have hk0 : nb (gb L 0) / 2 ^ 6 = 1 := by omega
 have ht0 : nb (gb L 0) % 64 = t := by omega
 have h0 := Hp.ro1 (rSB (.slice A L.length c) L) hv
 refine enter 112 Try.func59 rfl rfl ?_
 refine wp_reset 114 [(0, (Value.slice A L.length c)), (1, (D ((d : Int))))] (fun x0 => ?_)
 refine wR fun K1 hK1 => ?_
 refine wT 4 (xN h0 106 ([O, O, (Value.int .u64 0), nS, nS])) ?_
 rintro _ w2 ⟨g2, rfl, h2⟩
 refine wq_p 2 [(6, O), (5, O)] ?_
 refine wE hK1 (wp_seq_k fun K3 hK3 => wR fun K4 hK4 => ?_)
 refine wq_p 1 [(17, (D ((d : Int))))] (wV 18 (.bool false) (eqI (Value.bool (decide ((d : Int) > 8))) (by simp; omega)) ?_)
 refine wE hK4 (cF (wp_skip (seq_n hK3 (wR fun K5 hK5 => ?_))))
 refine wq_p 1 [(21, (Value.slice A L.length c))] ?_
 refine wT 22 (x_dp h2 81 [(Value.slice A L.length c)] (by kernel_rfl) (hsz _ (h2.rd 0 rfl))) ?_
 rintro _ w6 ⟨rfl, h6⟩
 refine wq_p 7 [(9, O), (8, (D ((H : Int)))), (7, (D ((m : Int)))), (25, O), (24, (D ((H : Int)))), (23, (D ((m : Int)))), (20, (Value.tuple #[(D ((m : Int))), (D ((H : Int))), O]))] ?_
 refine wE hK5 (wp_seq_k fun K7 hK7 => wR fun K8 hK8 => ?_)
 refine wq_p 2 [(27, V), (26, O)] ?_
 refine wE hK8 (cF (wp_skip (seq_n hK7 (wp_seq_k fun K9 hK9 => ?_))))
 refine pR_go h6 12 (fun W => (rSB ((Value.slice A L.length c)) L).Φ W /\ True) [(31, [0], 0), (32, [30], 1), (33, [31], 2), (34, [32], 4), (35, [33], 8), (36, [0], 0), (37, [35], 32), (38, [36], 64), (39, [37], 128), (40, [38], 256), (41, [34, 39], 528), (11, [], 0), (0, [10, 40], 4095)] rfl (fun _ d _ _ _ h => by cases d <;> exact h) ?_
 intro hs10 w10 h10
 refine pR_p 11 [0, 5] [(35, (Value.slice A L.length c)), (30, (Value.slice A L.length c))] 33 hs10 ⟨h10.rd 0 rfl, trivial⟩ ?_
 refine pR_v 1 (some 31) (eAt A (0 * 1 + 0)) 35 rfl hs10 ⟨h10.rd 0 rfl, trivial⟩ (fun W hW => eIx (SB.rvn (h10.rd 0 rfl)).2 0 L.length (SB.rvn (h10.rd 0 rfl)).1 (by omega) 22 (.tmp 30) (.const O) .i64 5) ?_
 refine pR_v 6 (some 36) (eAt A (0 * 1 + 0)) 99 rfl hs10 ⟨h10.rd 0 rfl, trivial⟩ (fun W hW => eIx (SB.rvn (h10.rd 0 rfl)).2 0 L.length (SB.rvn (h10.rd 0 rfl)).1 (by omega) 22 (.tmp 35) (.const O) .i64 5) ?_
 refine pR_v 2 (some 32) (Value.int .u8 (ub (gb (L) (0)))) 103 rfl hs10 ⟨h10.rd 0 rfl, trivial⟩ (fun W hW => eEl (SB.rvn hW.1).2 0 0 ([(Value.int .u8 (ub (gb (L) (0))))]) (bx_get _ _ (by omega)) 5 (.tmp 31) (Value.int .u8 (ub (gb (L) (0))))) ?_
 refine pR_v 3 (some 33) (Value.int .u8 (((nb (gb L 0) / 2 ^ 6 : Nat) : Int))) 111 rfl hs10 ⟨h10.rd 0 rfl, trivial⟩ (fun W hW => e_shr8 5 173 (.tmp 32) (.const (Value.int .u64 6)) (by kernel_rfl) (nb (gb L 0)) .u64 6 (by decide) (by rw [← ub_nb]; kernel_rfl) (by kernel_rfl) h256 _) ?_
 refine pR_v 4 (some 34) (D 1) 127 rfl hs10 ⟨h10.rd 0 rfl, trivial⟩ (fun W hW => eqI (D (IntKind.i64.wrap (((nb (gb L 0) / 2 ^ 6 : Nat) : Int)))) (by rw [hk0]; rfl)) ?_
 refine pR_v 7 (some 37) (Value.int .u8 (ub (gb (L) (0)))) 255 rfl hs10 ⟨h10.rd 0 rfl, trivial⟩ (fun W hW => eEl (SB.rvn hW.1).2 0 0 ([(Value.int .u8 (ub (gb (L) (0))))]) (bx_get _ _ (by omega)) 5 (.tmp 36) (Value.int .u8 (ub (gb (L) (0))))) ?_
 refine pR_v 8 (some 38) (Value.int .u8 (((nb (gb L 0) % 64 : Nat) : Int))) 511 rfl hs10 ⟨h10.rd 0 rfl, trivial⟩ (fun W hW => eqI (Value.int .u8 (bits .and .u8 (ub (gb L 0)) 63)) (by rw [ub_nb, and63' h256])) ?_
 refine pR_v 9 (some 39) (D ((t : Int))) 1023 rfl hs10 ⟨h10.rd 0 rfl, trivial⟩ (fun W hW => eqI (D (IntKind.i64.wrap (((nb (gb L 0) % 64 : Nat) : Int)))) (by rw [ht0]; exact i64_nat (by omega))) ?_
 refine pR_p 2 [10] [(40, (Value.agg ([(D 1), (D ((t : Int))), (Value.int .u64 0), nS, nS]).toArray))] 2047 hs10 ⟨h10.rd 0 rfl, trivial⟩ ?_
 refine pR_to 11 (some 10) 4095 rfl hs10 (xN h10 106 ([O, O, (Value.int .u64 0), nS, nS])) ?_
 rintro _ w11 ⟨g11, rfl, h11⟩
 refine ⟨fun _ => ⟨h11.rd 0 rfl, trivial⟩, ?_⟩
 refine pR_to 12 none 8191 rfl hs10 (xSs h11 0 106 (.tmp 10) (.tmp 40) 0 ([(D 1), (D ((t : Int))), (Value.int .u64 0), nS, nS]) ([(D 1), (D ((t : Int))), (Value.int .u64 0), nS, nS])) ?_
 rintro _ w12 h12
 refine ⟨fun h => absurd h (by decide), ?_⟩
 refine pR_done hs10 ?_ _
 refine seq_n hK9 (wp_seq_k fun K13 hK13 => wp_seq_k fun K14 hK14 => ?_)
 refine wp_reset 114 [(0, (Value.slice A L.length c)), (1, (D ((d : Int)))), (4, (pt g2 0)), (5, O), (6, O), (7, (D ((m : Int)))), (8, (D ((H : Int)))), (9, O), (10, (pt g11 0)), (18, V), (27, V)] (fun x15 => ?_)
 refine reg_lit ?_
 refine wq_p 1 [(41, (pt g11 0))] (wV 42 (D 1) (eL (h12.at_ 0 rfl) 3 (.tmp 41) 0 _) (wq_p 3 [(45, (pt g11 1)), (44, V), (43, V)] (wV 46 (D ((t : Int))) (eL (h12.at_ 0 rfl) 3 (.tmp 45) 1 _) ?_)))
 refine wV 47 (.bool false) (eqI (Value.bool (decide ((t : Int) > 30))) (by simp; omega)) (wq_p 1 [(48, V)] ?_)
 refine wE hK14 (cF (wp_skip (seq_n hK13 (wR fun K16 hK16 => ?_))))
 refine wq_p 4 [(53, (D ((m : Int)))), (52, (D ((H : Int)))), (51, (D ((H : Int)))), (50, (Value.slice A L.length c))] (wV 54 (D (((H + m : Nat) : Int))) (exec_add _ _ _ _ rfl ((H : Int)) ((m : Int)) (by kernel_rfl) (by kernel_rfl) (((H + m : Nat) : Int)) (by omega) (by omega) (by omega) _) ?_)
 obtain ⟨A17, c17, e17, h17⟩ := h12.roCut 0 rfl H (H + m) (by omega) B hcut
 refine wV 55 (Value.slice A17 B.length c17) (e17 ▸ e_cut_lh (h12.rd 0 rfl) (.tmp 50) (.tmp 51) (.tmp 54) (by kernel_rfl) (by kernel_rfl) .i64 .i64 H (H + m) (by kernel_rfl) (by kernel_rfl) (by omega) (by omega) _) (wq_p 1 [(11, (Value.slice A17 B.length c17))] ?_)
 refine wE hK16 (wp_seq_k fun K18 hK18 => wR fun K19 hK19 => ?_)
 refine wq_p 1 [(56, (pt g11 0))] (wV 57 (D 1) (eL (h17.at_ 0 rfl) 3 (.tmp 56) 0 _) ?_)
 refine wE hK19 (wp_block (wR fun K20 hK20 => ?_))
 refine wq_p 2 [(82, V), (83, V)] ?_
 refine wE hK20 (cF (wR fun K21 hK21 => ?_))
 refine wq_p 2 [(105, I), (106, I)] ?_
 refine wE hK21 (cT ?_)
 have h22 := h17.obNil
 refine reg_lit ?_
 refine wq_p 1 [(107, (Value.slice A17 B.length c17))] ?_
 refine wT 108 (x_appG h22 0 rfl (.const nS) (.tmp 107) (by kernel_rfl) (Value.slice A17 B.length c17) (by kernel_rfl) (by kernel_rfl) (h22.rd 0 rfl) (by simp; omega) (B) (B.length) rfl rfl) ?_
 rintro _ w23 ⟨A23, c23, rfl, h23⟩
 refine wq_p 1 [(109, (pt g11 3))] ?_
 refine wq_to none (xSt h23 1 22 (.tmp 109) (.tmp 108) 3 (Value.slice A23 B.length c23) ([(D 1), (D ((t : Int))), (Value.int .u64 0), (Value.slice A23 B.length c23), nS])) ?_
 rintro _ w24 h24
 refine wl_end rfl (blk_n (seq_n hK18 (wR fun K25 hK25 => ?_)))
 refine wV 110 (Value.agg ([(D 1), (D ((t : Int))), (Value.int .u64 0), (Value.slice A23 B.length c23), nS]).toArray) (eLs (h24.at_ 1 rfl) 106 (.tmp 10) 0 ([(D 1), (D ((t : Int))), (Value.int .u64 0), (Value.slice A23 B.length c23), nS])) (wq_p 2 [(112, (D ((m : Int)))), (111, (D ((H : Int))))] (wV 113 (D (((H + m : Nat) : Int))) (exec_add _ _ _ _ rfl ((H : Int)) ((m : Int)) (by kernel_rfl) (by kernel_rfl) (((H + m : Nat) : Int)) (by omega) (by omega) (by omega) _) ?_))
 refine wq_to none (xSs h24 2 106 (.tmp 4) (.tmp 110) 0 ([(D 1), (D ((t : Int))), (Value.int .u64 0), (Value.slice A23 B.length c23), nS]) ([(D 1), (D ((t : Int))), (Value.int .u64 0), (Value.slice A23 B.length c23), nS])) ?_
 rintro _ w26 h26
 refine wq_p 2 [(6, O), (5, (D (((H + m : Nat) : Int))))] ?_
 refine wE hK25 (wp_ret ?_)
 refine post_3 rfl (by kernel_rfl) (rce (h26.at_ 2 rfl)) (rtm (D (((H + m : Nat) : Int)))) (rtm O) ?_
 exact readpost_1 h26 0 rfl t (H + m)
end
section
open Go.RowKit Go.QT
theorem rightL_mem {l : List DVal} {d : Nat} {u : DVal} (h : rightL l d = true) (hu : u ∈ l) : rightV u d = true := by
 obtain ⟨i, hi⟩ := List.getElem?_of_mem hu
 exact rightL_at l d i u hi h
theorem numL_mem {l : List DVal} {u : DVal} (h : numL l = true) (hu : u ∈ l) : numV u = true := by
 obtain ⟨i, hi⟩ := List.getElem?_of_mem hu
 exact numL_at l i u hi h
theorem wrL_mem {l : List DVal} {u : DVal} (hu : u ∈ l) : (wrV u).length <= (wrL l).length := by
 obtain ⟨i, hi⟩ := List.getElem?_of_mem hu
 have h1 := congrArg List.length (wrL_take l i u hi)
 have h2 := wrL_take_le l (i + 1)
 rw [List.length_append] at h1
 omega
theorem cut_mid (a b r : Bytes) : ((a ++ (b ++ r)).take (a.length + b.length)).drop a.length = b := by
 rw [← List.append_assoc, ← List.length_append, List.take_left]
 exact List.drop_left
/-- What der.Read leaves: the value, new. -/
def ReadOk (w : World) (v : DVal) (e : Ending) (w' : World) : Prop := ∃ F cs, e = .returned (.tuple #[.agg cs.toArray, .int .i64 0]) /\ Hp (fun _ => False) w w' [] [rDV F cs v]
end
section
open Go.RowKit Go.QT
/-- Several things, as one. -/
def rStar (l : List Res) : Res where
 F := fun q => ∃ i r, l[i]? = some r /\ r.F q
 Φ := fun w => (∀ (i : Nat) (r : Res), l[i]? = some r -> r.Φ w) /\ ∀ (i j : Nat) (r s : Res), l[i]? = some r -> l[j]? = some s -> i ≠ j -> r.dj s
 lt := fun h q ⟨i, r, hi, hq⟩ => r.lt (h.1 i r hi) q hq
 keep := fun h hs hk => ⟨fun i r hi => r.keep (h.1 i r hi) hs fun q hq => hk q ⟨i, r, hi, hq⟩, h.2⟩
section
variable {F0 : Nat -> Prop} {w0 w w' : World} {ro rs l : List Res}
theorem Hp.oneStar {w : World} (h : (rStar l).Φ w) : Hp (rStar l).F w w [] l :=
 ⟨Fr.refl _ _, h.1, fun i r hr q hq => .inl ⟨i, r, hr, hq⟩, h.2, by simp, by simp⟩
theorem Hp.closeStar (h : Hp F0 w0 w ro (l ++ rs)) : Hp F0 w0 w ro (rStar l :: rs) := by
 have e1 : ∀ {i : Nat} {r : Res}, l[i]? = some r -> (l ++ rs)[i]? = some r := fun {i r} hi => by
   rw [List.getElem?_append_left (List.getElem?_eq_some_iff.1 hi).1]; exact hi
 have e2 : ∀ {i : Nat} {r : Res}, rs[i]? = some r -> (l ++ rs)[l.length + i]? = some r := fun {i r} hi => by
   rw [List.getElem?_append_right (by omega), Nat.add_sub_cancel_left]; exact hi
 have lt : ∀ {i : Nat} {r : Res}, l[i]? = some r -> i < l.length := fun hi => (List.getElem?_eq_some_iff.1 hi).1
 refine ⟨h.fr, fun i r hi => ?_, fun i r hi q hq => ?_, fun i j r s hi hj hij => ?_, h.red, fun i j r s hi hj => ?_⟩
 · cases i with
   | zero => injection hi with hi; subst hi; exact ⟨fun i r hr => h.own i r (e1 hr), fun i j r s hr hs hij => h.dis i j r s (e1 hr) (e1 hs) hij⟩
   | succ i => exact h.own _ r (e2 hi)
 · cases i with
   | zero => injection hi with hi; subst hi; obtain ⟨k, t, hk, ht⟩ := hq; exact h.mine k t (e1 hk) q ht
   | succ i => exact h.mine _ r (e2 hi) q hq
 · cases i with
   | zero =>
     injection hi with hi; subst hi
     cases j with
     | zero => exact absurd rfl hij
     | succ j => exact fun q ⟨k, t, hk, ht⟩ h2 => h.dis k _ t s (e1 hk) (e2 hj) (by have := lt hk; omega) q ht h2
   | succ i =>
     cases j with
     | zero => injection hj with hj; subst hj; exact fun q h2 ⟨k, t, hk, ht⟩ => h.dis _ k r t (e2 hi) (e1 hk) (by have := lt hk; omega) q h2 ht
     | succ j => exact h.dis _ _ r s (e2 hi) (e2 hj) (by omega)
 · cases j with
   | zero => injection hj with hj; subst hj; exact fun q h2 ⟨k, t, hk, ht⟩ => h.rdis i k r t hi (e1 hk) q h2 ht
   | succ j => exact h.rdis i _ r s hi (e2 hj)
variable {L L' : List (Value × Bytes)} {v : Value} {b : Bytes}
end
end
section
open Go.RowKit Go.QT
/-- The iterator of a string in block k. -/
def rIter (k : Nat) (s : ByteArray) (pos : Nat) : Res where
 F := fun q => q = k
 Φ := fun w => w.heap[k]? = some (.stringIter s pos)
 lt := fun h q hq => by subst hq; exact (Array.getElem?_eq_some_iff.1 h).1
 keep := fun h _ hk => (hk _ rfl).trans h
section
variable {P : Program} {F0 : Nat -> Prop} {w0 w : World} {ro rs : List Res} {o : Oper} {a : Act}
theorem x_range (h : Hp F0 w0 w ro rs) (t : TypeId) (x : Operand) (ho : o.op = .range t x) (s : ByteArray) (hx : a.eval x = .string s) (hu : P.underlying t = some .string) :
   OpTo P o a w (fun v w' => ∃ k, v = pt k 0 /\ Hp F0 w0 w' ro (rIter k s 0 :: rs)) := by
 refine OpTo.run (w' := w.iter s 0) (pt w.heap.size 0) ?_ ⟨_, rfl, h.newS ((Below.refl _ _).alloc (Nat.le_refl _) _) (rIter w.heap.size s 0) (World.iter_heap w s 0) (fun q hq => by rw [show q = _ from hq]; exact Nat.le_refl _)⟩
 unfold execOp
 simp [ho, hx, run_range_string w t s hu, pt, Result.andThen]
theorem Fr.iterAt (w : World) (k : Nat) (s : ByteArray) (pos : Nat) : Fr (fun q => q = k) w (w.iterAt k s pos) :=
 ⟨rfl, rfl, rfl, by rw [Lib.iterAt_size]; exact Nat.le_refl _, fun i _ hn => Lib.iterAt_other w k i s pos hn⟩
/-- next: the rune at pos, or the end. -/
theorem x_next (h : Hp F0 w0 w ro rs) (i : Nat) {k : Nat} {s : ByteArray} {pos : Nat} (hi : rs[i]? = some (rIter k s pos)) (x : Operand) (ho : o.op = .next x true) (hx : a.eval x = pt k 0) (hp : pos < s.size) :
   OpTo P o a w (fun v w' => v = .tuple #[.bool true, .int .i64 pos, .int .i32 (Utf8.decode s pos).1] /\ Hp F0 w0 w' ro (rs.set i (rIter k s (pos + (Utf8.decode s pos).2)))) := by
 have hk : w.heap[k]? = some (.stringIter s pos) := h.own i _ hi
 refine OpTo.run (w' := w.iterAt k s (pos + (Utf8.decode s pos).2)) _ ?_ ⟨rfl, h.upd i hi (Fr.iterAt w k s _) (rIter k s _) (Lib.iterAt_heap w k s pos _ hk) (fun q hq => .inl hq)⟩
 unfold execOp
 have := Lib.run_next_any_at (P := P) w k s pos o.type hk hp
 simp [ho, hx, pt, this, Result.andThen]
theorem x_nextE (h : Hp F0 w0 w ro rs) (i : Nat) {k : Nat} {s : ByteArray} {pos : Nat} (hi : rs[i]? = some (rIter k s pos)) (x : Operand) (ho : o.op = .next x true) (hx : a.eval x = pt k 0) (hp : ¬ pos < s.size) :
   OpTo P o a w (fun v w' => v = .tuple #[.bool false] /\ Hp F0 w0 w' ro rs) := by
 have hk : w.heap[k]? = some (.stringIter s pos) := h.own i _ hi
 refine OpTo.run (w' := w) _ ?_ ⟨rfl, h⟩
 unfold execOp
 have := Lib.run_next_end_at (P := P) w k s pos o.type hk hp
 simp [ho, hx, pt, this, Result.andThen]
end
end
section
open Go.RowKit Go.QT
def spV (p : Int × Int) : List Value := [.int .i32 p.1, .int .i32 p.2]
def inR (c : Int) (l : List (Int × Int)) : Bool := l.any fun p => decide (c ≥ p.1) && decide (c <= p.2)
def ltrL : List (Int × Int) := [(97, 122), (224, 246), (248, 254), (945, 961), (963, 969), (1072, 1103)]
def letterN (c : Int) : Bool := inR c ltrL
def digL : List (Int × Int) := [(48, 57), (45, 45)]
theorem spV_get {l : List (Int × Int)} {k : Nat} {p : Int × Int} (h : l[k]? = some p) : (l.map spV)[k]? = some [.int .i32 p.1, .int .i32 p.2] := by
 rw [List.getElem?_map, h]; rfl
theorem inR_all {c : Int} {l : List (Int × Int)} {k : Nat} (hk : k = l.length) (h : ∀ j p, j < k -> l[j]? = some p -> ¬ (c ≥ p.1 /\ c <= p.2)) : inR c l = false := by
 unfold inR
 rw [List.any_eq_false]
 intro p hp
 obtain ⟨j, hj, rfl⟩ := List.getElem_of_mem hp
 have := h j l[j] (by omega) (List.getElem?_eq_getElem hj)
 simpa using this
theorem inR_one {c : Int} {l : List (Int × Int)} {k : Nat} {p : Int × Int} (hp : l[k]? = some p) (h1 : c ≥ p.1) (h2 : c <= p.2) : inR c l = true := by
 unfold inR
 rw [List.any_eq_true]
 exact ⟨p, List.mem_of_getElem? hp, by simp [h1, h2]⟩
theorem inR_step {c : Int} {l : List (Int × Int)} {k : Nat} {p : Int × Int} (hp : l[k]? = some p) (hn : ¬ (c ≥ p.1 /\ c <= p.2)) (h : ∀ j p, j < k -> l[j]? = some p -> ¬ (c ≥ p.1 /\ c <= p.2)) : ∀ j p, j < k + 1 -> l[j]? = some p -> ¬ (c ≥ p.1 /\ c <= p.2) := by
 intro j q hj hq
 by_cases e : j = k
 · subst e; rw [hp] at hq; injection hq with hq; subst hq; exact hn
 · exact h j q (by omega) hq
end
section
open Go.RowKit Go.QT
theorem nin_any (cc : Int) (l : List (Int × Int)) (A : Option Addr) (c : Nat) (w : World) (hl : l.length <= 1000) (h : Hp (fun _ => False) w w [rRV 2 A c (l.map spV)] []) :
   Calls Try.prog 74 #[.int .i32 cc, .slice A l.length c] w fun e w' => e = .returned (.bool (inR cc l)) /\ Below w.heap.size w w' := by
 have h0 := h
 refine enter 22 Try.func74 rfl rfl ?_
 refine wp_reset 24 [(0, (Value.int .i32 cc)), (1, (Value.slice A l.length c))] (fun x0 => ?_)
 refine wR fun K1 hK1 => ?_
 refine wq_p 1 [(4, V)] ?_
 refine wE hK1 (wp_seq_k fun K2 hK2 => wR fun K3 hK3 => ?_)
 refine wq_p 3 [(9, O), (8, (D ((l.length : Int)))), (7, (Value.slice A l.length c))] ?_
 refine wE hK3 (wp_block ?_)
 refine wp_loopm (fun mM xX aA wL => ∃ (k : Nat), (k <= l.length) /\ (∀ j p, j < k -> l[j]? = some p -> ¬ (cc ≥ p.1 /\ cc <= p.2)) /\ mM = l.length - k /\ aA = patch xX 24 [(0, (Value.int .i32 cc)), (1, (Value.slice A l.length c)), (7, (Value.slice A l.length c)), (8, (Value.int .i64 ((l.length : Int)))), (9, (Value.int .i64 ((k : Int))))] /\ Hp (fun _ => False) w wL [rRV 2 A c ((l.map spV))] []) ⟨_, 0, (by omega), (fun _ _ h => absurd h (Nat.not_lt_zero _)), rfl, (pEq 24), h0.sel [] [0] (by kernel_rfl) rfl rfl⟩ ?_
 rintro _ x4 _ w4 ⟨k, hk, hN, rfl, rfl, h4⟩
 refine wp_seq_k fun K5 hK5 => ?_
 by_cases b6 : k < l.length
 ·
  refine reg_lit ?_
  refine wV 10 (.bool true) (eqI (Value.bool (decide ((k : Int) < (l.length : Int)))) (by simp; omega)) ?_
  refine wE hK5 (wp_seq_k fun K7 hK7 => cT (wp_skip (seq_n hK7 (wp_seq_k fun K8 hK8 => wp_block (wp_seq_k fun K9 hK9 => ?_)))))
  obtain ⟨p, hp⟩ : ∃ p, l[k]? = some p := ⟨_, List.getElem?_eq_getElem (by omega)⟩
  refine reg_lit ?_
  refine wV 11 (eAt A (k * 2 + 0)) (eIx (RV.lenIs (n := l.length) (h4.rd 0 rfl) (by simp)).2 k l.length (RV.lenIs (n := l.length) (h4.rd 0 rfl) (by simp)).1 (by omega) 178 (.tmp 7) (.tmp 9) .i64 164) (wV 12 (Value.agg ([(Value.int .i32 p.1), (Value.int .i32 p.2)]).toArray) (e_elemsN (RV.lenIs (n := l.length) (h4.rd 0 rfl) (by simp)).2 k 0 ([(Value.int .i32 p.1), (Value.int .i32 p.2)]) (spV_get hp) 164 (.tmp 11) (by kernel_rfl) ([(Value.int .i32 p.1), (Value.int .i32 p.2)]) (by kernel_rfl) (by kernel_rfl) (by kernel_rfl)) ?_)
  refine wT 6 (xN h4 164 ([(Value.int .i32 0), (Value.int .i32 0)])) ?_
  rintro _ w10 ⟨g10, rfl, h10⟩
  refine wq_to none (xSs h10 0 164 (.tmp 6) (.tmp 12) 0 ([(Value.int .i32 p.1), (Value.int .i32 p.2)]) ([(Value.int .i32 p.1), (Value.int .i32 p.2)])) ?_
  rintro _ w11 h11
  refine wE hK9 (wp_seq_k fun K12 hK12 => ?_)
  rcases (show (cc ≥ p.1 /\ cc <= p.2) ∨ (¬ cc ≥ p.1) ∨ (cc ≥ p.1 /\ ¬ cc <= p.2) by omega) with ⟨hq1, hq2⟩ | hq1 | ⟨hq1, hq2⟩
  ·
   refine reg_lit ?_
   refine wq_p 2 [(14, (pt g10 0)), (13, (Value.int .i32 cc))] (wV 15 (Value.int .i32 p.1) (eL (h11.at_ 0 rfl) 21 (.tmp 14) 0 _) (wV 16 (.bool true) (eqI (Value.bool (decide (cc ≥ p.1))) (by simp; omega)) (wq_p 3 [(19, (pt g10 1)), (18, (Value.int .i32 cc)), (17, I)] ?_)))
   refine wV 20 (Value.int .i32 p.2) (eL (h11.at_ 0 rfl) 21 (.tmp 19) 1 _) (wV 21 (.bool true) (eqI (Value.bool (decide (cc <= p.2))) (by simp; omega)) (wq_p 1 [(22, I)] ?_))
   refine wE hK12 (cT (wR fun K14 hK14 => ?_))
   refine wq_p 1 [(4, I)] ?_
   refine wE hK14 (wp_ret (blk_r (seq_r (seq_r (blk_r (seq_r ?_))))))
   refine post_1 rfl (by kernel_rfl) (rtm I) ?_
   exact ⟨by rw [inR_one hp hq1 hq2], h11.below0⟩
  ·
   refine reg_lit ?_
   refine wq_p 2 [(14, (pt g10 0)), (13, (Value.int .i32 cc))] (wV 15 (Value.int .i32 p.1) (eL (h11.at_ 0 rfl) 21 (.tmp 14) 0 _) (wV 16 (.bool false) (eqI (Value.bool (decide (cc ≥ p.1))) (by simp; omega)) (wq_p 4 [(20, undef), (19, undef), (18, undef), (17, V)] ?_)))
   refine wq_p 1 [(21, undef)] (wq_p 1 [(22, V)] ?_)
   refine wE hK12 (cF (wp_skip (blk_n (seq_n hK8 (reg_lit ?_)))))
   refine wV 23 (D ((k : Int) + 1)) (exec_add _ _ _ _ rfl ((k : Int)) 1 (by kernel_rfl) (by kernel_rfl) ((k : Int) + 1) rfl (by omega) (by omega) _) (wq_p 1 [(9, (D ((k : Int) + 1)))] ?_)
   refine wl_end rfl ?_
   refine ⟨l.length - (k + 1), (by omega), (k + 1), (by omega), (inR_step hp (by omega) hN), rfl, (pEq 24), h11.sel [] [0] (by kernel_rfl) rfl rfl⟩
  ·
   refine reg_lit ?_
   refine wq_p 2 [(14, (pt g10 0)), (13, (Value.int .i32 cc))] (wV 15 (Value.int .i32 p.1) (eL (h11.at_ 0 rfl) 21 (.tmp 14) 0 _) (wV 16 (.bool true) (eqI (Value.bool (decide (cc ≥ p.1))) (by simp; omega)) (wq_p 3 [(19, (pt g10 1)), (18, (Value.int .i32 cc)), (17, I)] ?_)))
   refine wV 20 (Value.int .i32 p.2) (eL (h11.at_ 0 rfl) 21 (.tmp 19) 1 _) (wV 21 (.bool false) (eqI (Value.bool (decide (cc <= p.2))) (by simp; omega)) (wq_p 1 [(22, V)] ?_))
   refine wE hK12 (cF (wp_skip (blk_n (seq_n hK8 (reg_lit ?_)))))
   refine wV 23 (D ((k : Int) + 1)) (exec_add _ _ _ _ rfl ((k : Int)) 1 (by kernel_rfl) (by kernel_rfl) ((k : Int) + 1) rfl (by omega) (by omega) _) (wq_p 1 [(9, (D ((k : Int) + 1)))] ?_)
   refine wl_end rfl ?_
   refine ⟨l.length - (k + 1), (by omega), (k + 1), (by omega), (inR_step hp (by omega) hN), rfl, (pEq 24), h11.sel [] [0] (by kernel_rfl) rfl rfl⟩
 ·
  refine reg_lit ?_
  refine wV 10 (.bool false) (eqI (Value.bool (decide ((k : Int) < (l.length : Int)))) (by simp; omega)) ?_
  refine wE hK5 (wp_seq_k fun K15 hK15 => cF (wp_exit (seq_e (seq_e (blk_e (seq_n hK2 (wR fun K16 hK16 => ?_)))))))
  refine wq_p 1 [(4, V)] ?_
  refine wE hK16 (wp_ret ?_)
  refine post_1 rfl (by kernel_rfl) (rtm V) ?_
  exact ⟨by rw [inR_all (k := k) (by omega) hN], h4.below0⟩
end
section
open Go.RowKit Go.QT
theorem flat_get (l : List (Int × Int)) : ∀ (i j : Nat) (x : List Value) (u : Value), (l.map spV)[i]? = some x -> x[j]? = some u -> (l.flatMap spV)[i * 2 + j]? = some u := by
 induction l with
 | nil => intro i j x u h; cases h
 | cons p l ih =>
   intro i j x u hx hu
   cases i with
   | zero =>
     injection hx with hx; subst hx
     have hj : j < 2 := (List.getElem?_eq_some_iff.1 hu).1
     simp only [List.flatMap_cons, Nat.zero_mul, Nat.zero_add]
     rw [List.getElem?_append_left (by exact hj)]
     exact hu
   | succ i =>
     have := ih i j x u hx hu
     simp only [List.flatMap_cons]
     rw [List.getElem?_append_right (by show 2 <= _; omega), show (i + 1) * 2 + j - (spV p).length = i * 2 + j by show (i + 1) * 2 + j - 2 = _; omega]
     exact this
theorem rv_spans {w : World} {g : Nat} {T : TypeId} {cs : List Value} (hb : Blk w g T cs) (l : List (Int × Int)) (hc : cs = l.flatMap spV) (hl : l.length <= 1000) : RV w 2 (some ⟨g, 0, none⟩) l.length (l.map spV) := by
 subst hc
 refine ⟨by simp, by unfold maxLen; omega, ?_, fun _ => ⟨g, 0, rfl, hb.lt, fun i x hx j u hu => ?_⟩⟩
 · intro x hx
   obtain ⟨p, _, rfl⟩ := List.mem_map.1 hx
   rfl
 · rw [show 0 + i * 2 + j = i * 2 + j by omega]
   exact (hb.cell _).trans (flat_get l i j x u hx hu)
section
variable {F0 : Nat -> Prop} {w0 w : World} {ro rs : List Res} {o : Oper} {a : Act}
theorem x_nin (h : Hp F0 w0 w ro rs) (i : Nat) {g : Nat} {T : TypeId} {cs : List Value} (hi : rs[i]? = some (rBlk g T cs)) (c : Int) (l : List (Int × Int)) (n : Nat) (hc : cs = l.flatMap spV) (hn : l.length = n) (hl : n <= 1000)
   (hp : pureVal Try.prog (execOp a.eval o) = some (.enter 74 #[.int .i32 c, .slice (some ⟨g, 0, none⟩) n n])) :
   OpTo Try.prog o a w (fun u w' => u = .bool (inR c l) /\ Hp F0 w0 w' ro rs) := by
 subst hn
 have hb : Blk w g T cs := h.own i _ hi
 refine OpTo.enter 74 [.int .i32 c, .slice (some ⟨g, 0, none⟩) l.length l.length] hp (nin_any c l _ _ w hl ((Hp.nil (fun _ => False) w).addR _ (rv_spans hb l hc hl) (by simp))) fun e w' hq => ?_
 exact ⟨_, hq.1, rfl, h.below hq.2⟩
end
end
section
open Go.RowKit Go.QT
theorem nletter_any (c : Int) (w : World) : Calls Try.prog 73 #[.int .i32 c] w fun e w' => e = .returned (.bool (letterN c)) /\ Below w.heap.size w w' := by
 have h0 := Hp.nil (fun _ => False) w
 refine enter 11 Try.func73 rfl rfl ?_
 refine wp_reset 12 [(0, (Value.int .i32 c))] (fun x0 => ?_)
 refine wR fun K1 hK1 => ?_
 refine wq_p 1 [(2, V)] ?_
 refine wE hK1 (wR fun K2 hK2 => ?_)
 refine wq_p 7 [(9, (Value.agg ([(Value.int .i32 1072), (Value.int .i32 1103)]).toArray)), (8, (Value.agg ([(Value.int .i32 963), (Value.int .i32 969)]).toArray)), (7, (Value.agg ([(Value.int .i32 945), (Value.int .i32 961)]).toArray)), (6, (Value.agg ([(Value.int .i32 248), (Value.int .i32 254)]).toArray)), (5, (Value.agg ([(Value.int .i32 224), (Value.int .i32 246)]).toArray)), (4, (Value.agg ([(Value.int .i32 97), (Value.int .i32 122)]).toArray)), (3, (Value.int .i32 c))] ?_
 refine wT 10 (x_bs h0 164 ([(Value.int .i32 97), (Value.int .i32 122), (Value.int .i32 224), (Value.int .i32 246), (Value.int .i32 248), (Value.int .i32 254), (Value.int .i32 945), (Value.int .i32 961), (Value.int .i32 963), (Value.int .i32 969), (Value.int .i32 1072), (Value.int .i32 1103)]) 6 (by kernel_rfl)) ?_
 rintro _ w3 ⟨g3, rfl, h3⟩
 refine wT 11 (x_nin h3 0 rfl c ltrL 6 rfl rfl (by decide) (by kernel_rfl)) ?_
 rintro _ w4 ⟨rfl, h4⟩
 refine wq_p 1 [(2, (Value.bool (inR c ltrL)))] ?_
 refine wE hK2 (wp_ret ?_)
 refine post_1 rfl (by kernel_rfl) (rtm (Value.bool (inR c ltrL))) ?_
 exact ⟨rfl, h4.below0⟩
theorem x_nletter {F0 : Nat -> Prop} {w0 w : World} {ro rs : List Res} {o : Oper} {a : Act} (h : Hp F0 w0 w ro rs) (c : Int) (hp : pureVal Try.prog (execOp a.eval o) = some (.enter 73 #[.int .i32 c])) :
   OpTo Try.prog o a w (fun u w' => u = .bool (letterN c) /\ Hp F0 w0 w' ro rs) :=
 OpTo.enter 73 [.int .i32 c] hp (nletter_any c w) fun _e _w' hq => ⟨_, hq.1, rfl, h.below hq.2⟩
end
section
open Go.RowKit Go.QT
def badN (i : Nat) (c : Int) : Bool := !letterN c && (decide (i = 0) || !inR c digL)
/-- How many runes from pos on; none: one of them is wrong. (f: steps left.) -/
def runesN (s : ByteArray) : Nat -> Nat -> Nat -> Option Nat
 | 0, _, n => some n
 | f + 1, pos, n => if pos < s.size then if badN pos (Utf8.decode s pos).1 then none else runesN s f (pos + (Utf8.decode s pos).2) (n + 1) else some n
def rightN (s : ByteArray) : Bool := match runesN s (s.size + 1) 0 0 with | none => false | some n => decide (1 <= n) && decide (n <= 16)
theorem runesN_bad {s : ByteArray} {f pos n : Nat} {r : Option Nat} (h : runesN s (f + 1) pos n = r) (hp : pos < s.size) (hb : badN pos (Utf8.decode s pos).1 = true) : r = none := by
 rw [← h]; simp [runesN, hp, hb]
theorem runesN_go {s : ByteArray} {f pos n : Nat} {r : Option Nat} (h : runesN s (f + 1) pos n = r) (hp : pos < s.size) (hb : badN pos (Utf8.decode s pos).1 = false) : runesN s f (pos + (Utf8.decode s pos).2) (n + 1) = r := by
 rw [← h]; simp [runesN, hp, hb]
theorem runesN_end {s : ByteArray} {f pos n : Nat} {r : Option Nat} (h : runesN s f pos n = r) (hp : ¬ pos < s.size) : r = some n := by
 rw [← h]; cases f <;> simp [runesN, hp]
theorem rightN_some {s : ByteArray} {n : Nat} (h : runesN s (s.size + 1) 0 0 = some n) : rightN s = (decide (1 <= n) && decide (n <= 16)) := by
 simp [rightN, h]
theorem rightN_none {s : ByteArray} (h : runesN s (s.size + 1) 0 0 = none) : rightN s = false := by
 simp [rightN, h]
end
section
open Go.RowKit Go.QT
theorem bad_cases (i : Nat) (c : Int) : (letterN c = true /\ badN i c = false) ∨ (letterN c = false /\ i = 0 /\ badN i c = true) ∨ (letterN c = false /\ i ≠ 0 /\ inR c digL = true /\ badN i c = false) ∨ (letterN c = false /\ i ≠ 0 /\ inR c digL = false /\ badN i c = true) := by
 unfold badN
 by_cases h : i = 0 <;> cases letterN c <;> cases inR c digL <;> simp [h]
theorem nright_any (s : ByteArray) (w : World) (hs : s.size <= 1000000000) : Calls Try.prog 48 #[.string s] w fun e w' => e = .returned (.bool (rightN s)) /\ Below w.heap.size w w' := by
 obtain ⟨R, hR⟩ : ∃ R, R = runesN s (s.size + 1) 0 0 := ⟨_, rfl⟩
 have h0 := Hp.nil (fun _ => False) w
 refine enter 34 Try.func48 rfl rfl ?_
 refine wp_reset 35 [(0, (Value.string s))] (fun x0 => ?_)
 refine wR fun K1 hK1 => ?_
 refine wq_p 1 [(2, V)] ?_
 refine wE hK1 (wR fun K2 hK2 => ?_)
 refine wq_p 1 [(3, O)] ?_
 refine wE hK2 (wp_seq_k fun K3 hK3 => wR fun K4 hK4 => ?_)
 refine wq_p 1 [(6, (Value.string s))] ?_
 refine wT 7 (x_range h0 9 (.tmp 6) (by kernel_rfl) s (by kernel_rfl) (by kernel_rfl)) ?_
 rintro _ w5 ⟨k5, rfl, h5⟩
 refine wE hK4 (wp_block ?_)
 refine wp_loopm (fun mM xX aA wL => ∃ (f : Nat) (pos : Nat) (n : Nat), (runesN s f pos n = R) /\ (s.size < f + (pos)) /\ (n <= pos) /\ mM = s.size - pos /\ aA = patch xX 35 [(0, (Value.string s)), (3, (Value.int .i64 ((n : Int)))), (7, (pt k5 0))] /\ Hp (fun _ => False) w wL [] [rIter k5 s pos]) ⟨_, ((s.size + 1)), 0, 0, hR.symm, (by omega), (by omega), rfl, (pEq 35), h5.sel [0] [] (by kernel_rfl) rfl rfl⟩ ?_
 rintro _ x6 _ w6 ⟨f, pos, n, hr, hf, hn, rfl, rfl, h6⟩
 refine wp_seq_k fun K7 hK7 => ?_
 by_cases b8 : pos < s.size
 ·
  refine reg_lit ?_
  refine wT 8 (x_next h6 0 rfl (.tmp 7) (by kernel_rfl) (by kernel_rfl) b8) ?_
  rintro _ w9 ⟨rfl, h9⟩
  refine wq_p 1 [(9, I)] ?_
  refine wE hK7 (wp_seq_k fun K10 hK10 => cT (wp_skip (seq_n hK10 (wp_block (wR fun K11 hK11 => ?_)))))
  refine wq_p 4 [(5, (Value.int .i32 (((Utf8.decode s pos).1 : Int)))), (4, (D ((pos : Int)))), (11, (Value.int .i32 (((Utf8.decode s pos).1 : Int)))), (10, (D ((pos : Int))))] ?_
  refine wE hK11 (wp_seq_k fun K12 hK12 => wp_seq_k fun K13 hK13 => ?_)
  have hwp := Lib.decode_width_pos s pos b8
  rcases bad_cases pos ((Utf8.decode s pos).1 : Int) with ⟨hq1, hbad⟩ | ⟨hq1, hq2, hbad⟩ | ⟨hq1, hq2, hq3, hbad⟩ | ⟨hq1, hq2, hq3, hbad⟩
  ·
   refine reg_lit ?_
   refine wq_p 1 [(12, (Value.int .i32 (((Utf8.decode s pos).1 : Int))))] ?_
   refine wT 13 (x_nletter h9 (((Utf8.decode s pos).1 : Int)) (by kernel_rfl)) ?_
   rintro _ w15 ⟨rfl, h15⟩
   refine wV 14 (.bool false) (eqI (Value.bool (!(letterN (((Utf8.decode s pos).1 : Int))))) (by rw [hq1]; rfl)) (wq_p 2 [(16, undef), (15, V)] (wq_p 1 [(17, undef)] (wq_p 6 [(23, undef), (22, undef), (21, undef), (20, undef), (19, undef), (18, undef)] ?_)))
   refine wq_p 1 [(24, undef)] (wq_p 2 [(26, V), (25, undef)] ?_)
   refine wE hK13 (cF (wp_skip (seq_n hK12 (reg_lit ?_))))
   refine wq_p 1 [(27, (D ((n : Int))))] (wV 28 (D ((n : Int) + 1)) (exec_add _ _ _ _ rfl ((n : Int)) 1 (by kernel_rfl) (by kernel_rfl) ((n : Int) + 1) rfl (by omega) (by omega) _) (wq_p 1 [(3, (D ((n : Int) + 1)))] ?_))
   refine wl_end rfl (blk_n ?_)
   refine ⟨s.size - (pos + (Utf8.decode s pos).2), (by omega), ((f - 1)), (pos + (Utf8.decode s pos).2), (n + 1), (runesN_go (f := f - 1) (by rw [Nat.sub_add_cancel (by omega)]; exact hr) b8 hbad), (by omega), (by omega), rfl, (pEq 35), h15.sel [0] [] (by kernel_rfl) rfl rfl⟩
  ·
   refine reg_lit ?_
   refine wq_p 1 [(12, (Value.int .i32 (((Utf8.decode s pos).1 : Int))))] ?_
   refine wT 13 (x_nletter h9 (((Utf8.decode s pos).1 : Int)) (by kernel_rfl)) ?_
   rintro _ w16 ⟨rfl, h16⟩
   refine wV 14 (.bool true) (eqI (Value.bool (!(letterN (((Utf8.decode s pos).1 : Int))))) (by rw [hq1]; rfl)) (wq_p 2 [(16, (D ((pos : Int)))), (15, I)] (wV 17 (.bool true) (eqI (Value.bool (((pos : Int)) == 0)) (by simp [hq2])) (wq_p 6 [(23, undef), (22, undef), (21, undef), (20, undef), (19, undef), (18, I)] ?_)))
   refine wq_p 1 [(24, undef)] (wq_p 2 [(26, I), (25, I)] ?_)
   refine wE hK13 (cT (wR fun K17 hK17 => ?_))
   refine wq_p 1 [(2, V)] ?_
   refine wE hK17 (wp_ret (seq_r (blk_r (seq_r (blk_r (seq_r ?_))))))
   refine post_1 rfl (by kernel_rfl) (rtm V) ?_
   exact ⟨by rw [rightN_none (hR.symm.trans (runesN_bad (f := f - 1) (by rw [Nat.sub_add_cancel (by omega)]; exact hr) b8 hbad))], h16.below0⟩
  ·
   refine reg_lit ?_
   refine wq_p 1 [(12, (Value.int .i32 (((Utf8.decode s pos).1 : Int))))] ?_
   refine wT 13 (x_nletter h9 (((Utf8.decode s pos).1 : Int)) (by kernel_rfl)) ?_
   rintro _ w18 ⟨rfl, h18⟩
   refine wV 14 (.bool true) (eqI (Value.bool (!(letterN (((Utf8.decode s pos).1 : Int))))) (by rw [hq1]; rfl)) (wq_p 2 [(16, (D ((pos : Int)))), (15, I)] (wV 17 (.bool false) (eqI (Value.bool (((pos : Int)) == 0)) (by simp; omega)) (wq_p 4 [(21, (Value.agg ([(Value.int .i32 45), (Value.int .i32 45)]).toArray)), (20, (Value.agg ([(Value.int .i32 48), (Value.int .i32 57)]).toArray)), (19, (Value.int .i32 (((Utf8.decode s pos).1 : Int)))), (18, V)] ?_)))
   refine wT 22 (x_bs h18 164 ([(Value.int .i32 48), (Value.int .i32 57), (Value.int .i32 45), (Value.int .i32 45)]) 2 (by kernel_rfl)) ?_
   rintro _ w19 ⟨g19, rfl, h19⟩
   refine wT 23 (x_nin h19 0 rfl (((Utf8.decode s pos).1 : Int)) digL 2 rfl rfl (by decide) (by kernel_rfl)) ?_
   rintro _ w20 ⟨rfl, h20⟩
   refine wV 24 (.bool false) (eqI (Value.bool (!(inR (((Utf8.decode s pos).1 : Int)) digL))) (by rw [hq3]; rfl)) (wq_p 2 [(26, V), (25, V)] ?_)
   refine wE hK13 (cF (wp_skip (seq_n hK12 (reg_lit ?_))))
   refine wq_p 1 [(27, (D ((n : Int))))] (wV 28 (D ((n : Int) + 1)) (exec_add _ _ _ _ rfl ((n : Int)) 1 (by kernel_rfl) (by kernel_rfl) ((n : Int) + 1) rfl (by omega) (by omega) _) (wq_p 1 [(3, (D ((n : Int) + 1)))] ?_))
   refine wl_end rfl (blk_n ?_)
   refine ⟨s.size - (pos + (Utf8.decode s pos).2), (by omega), ((f - 1)), (pos + (Utf8.decode s pos).2), (n + 1), (runesN_go (f := f - 1) (by rw [Nat.sub_add_cancel (by omega)]; exact hr) b8 hbad), (by omega), (by omega), rfl, (pEq 35), h20.sel [1] [] (by kernel_rfl) rfl rfl⟩
  ·
   refine reg_lit ?_
   refine wq_p 1 [(12, (Value.int .i32 (((Utf8.decode s pos).1 : Int))))] ?_
   refine wT 13 (x_nletter h9 (((Utf8.decode s pos).1 : Int)) (by kernel_rfl)) ?_
   rintro _ w21 ⟨rfl, h21⟩
   refine wV 14 (.bool true) (eqI (Value.bool (!(letterN (((Utf8.decode s pos).1 : Int))))) (by rw [hq1]; rfl)) (wq_p 2 [(16, (D ((pos : Int)))), (15, I)] (wV 17 (.bool false) (eqI (Value.bool (((pos : Int)) == 0)) (by simp; omega)) (wq_p 4 [(21, (Value.agg ([(Value.int .i32 45), (Value.int .i32 45)]).toArray)), (20, (Value.agg ([(Value.int .i32 48), (Value.int .i32 57)]).toArray)), (19, (Value.int .i32 (((Utf8.decode s pos).1 : Int)))), (18, V)] ?_)))
   refine wT 22 (x_bs h21 164 ([(Value.int .i32 48), (Value.int .i32 57), (Value.int .i32 45), (Value.int .i32 45)]) 2 (by kernel_rfl)) ?_
   rintro _ w22 ⟨g22, rfl, h22⟩
   refine wT 23 (x_nin h22 0 rfl (((Utf8.decode s pos).1 : Int)) digL 2 rfl rfl (by decide) (by kernel_rfl)) ?_
   rintro _ w23 ⟨rfl, h23⟩
   refine wV 24 (.bool true) (eqI (Value.bool (!(inR (((Utf8.decode s pos).1 : Int)) digL))) (by rw [hq3]; rfl)) (wq_p 2 [(26, I), (25, I)] ?_)
   refine wE hK13 (cT (wR fun K24 hK24 => ?_))
   refine wq_p 1 [(2, V)] ?_
   refine wE hK24 (wp_ret (seq_r (blk_r (seq_r (blk_r (seq_r ?_))))))
   refine post_1 rfl (by kernel_rfl) (rtm V) ?_
   exact ⟨by rw [rightN_none (hR.symm.trans (runesN_bad (f := f - 1) (by rw [Nat.sub_add_cancel (by omega)]; exact hr) b8 hbad))], h23.below0⟩
 ·
  refine reg_lit ?_
  refine wT 8 (x_nextE h6 0 rfl (.tmp 7) (by kernel_rfl) (by kernel_rfl) b8) ?_
  rintro _ w25 ⟨rfl, h25⟩
  refine wq_p 1 [(9, V)] ?_
  refine wE hK7 (wp_seq_k fun K26 hK26 => cF (wp_exit (seq_e (seq_e (blk_e (seq_n hK3 (wp_seq_k fun K27 hK27 => ?_)))))))
  have hRn := runesN_end hr b8
  subst hRn
  rcases (show (1 <= n /\ n <= 16) ∨ (¬ 1 <= n) ∨ (1 <= n /\ ¬ n <= 16) by omega) with ⟨hq1, hq2⟩ | hq1 | ⟨hq1, hq2⟩
  ·
   refine reg_lit ?_
   refine wq_p 1 [(29, (D ((n : Int))))] (wV 30 (.bool true) (eqI (Value.bool (decide ((n : Int) ≥ 1))) (by simp; omega)) (wq_p 2 [(32, (D ((n : Int)))), (31, I)] (wV 33 (.bool true) (eqI (Value.bool (decide ((n : Int) <= 16))) (by simp; omega)) ?_)))
   refine wq_p 2 [(2, I), (34, I)] ?_
   refine wE hK27 (wp_ret ?_)
   refine post_1 rfl (by kernel_rfl) (rtm I) ?_
   exact ⟨by rw [rightN_some hR.symm]; simp [hq1, hq2], h25.below0⟩
  ·
   refine reg_lit ?_
   refine wq_p 1 [(29, (D ((n : Int))))] (wV 30 (.bool false) (eqI (Value.bool (decide ((n : Int) ≥ 1))) (by simp; omega)) (wq_p 2 [(32, undef), (31, V)] (wq_p 1 [(33, undef)] ?_)))
   refine wq_p 2 [(2, V), (34, V)] ?_
   refine wE hK27 (wp_ret ?_)
   refine post_1 rfl (by kernel_rfl) (rtm V) ?_
   exact ⟨by rw [rightN_some hR.symm]; simp [hq1], h25.below0⟩
  ·
   refine reg_lit ?_
   refine wq_p 1 [(29, (D ((n : Int))))] (wV 30 (.bool true) (eqI (Value.bool (decide ((n : Int) ≥ 1))) (by simp; omega)) (wq_p 2 [(32, (D ((n : Int)))), (31, I)] (wV 33 (.bool false) (eqI (Value.bool (decide ((n : Int) <= 16))) (by simp; omega)) ?_)))
   refine wq_p 2 [(2, V), (34, V)] ?_
   refine wE hK27 (wp_ret ?_)
   refine post_1 rfl (by kernel_rfl) (rtm V) ?_
   exact ⟨by rw [rightN_some hR.symm]; simp [hq1, hq2], h25.below0⟩
end
section
open Go.RowKit Go.QT
section
variable {o : Oper} {a : Act} {w w' : World} {F0 : Nat -> Prop} {w0 : World} {ro rs : List Res}
/-- []byte(s). -/
theorem x_convT (h : Hp F0 w0 w ro rs) (x : Operand) (ho : o.op = .convert 9 22 x) (s : ByteArray) (hx : a.eval x = .string s) (hs : s.size <= 1048576) (l : Bytes) (hl : l = s.data.toList) (n : Nat) (hn : n = l.length) :
   OpTo Try.prog o a w (fun u w' => ∃ A cc, u = .slice A n cc /\ Hp F0 w0 w' (rSB (.slice A n cc) l :: ro) rs) := by
 subst hl; subst hn
 refine (x_conv h x ho s hx (by unfold maxLen; omega)).mono fun u w' hq => ?_
 obtain ⟨A, cc, rfl, h'⟩ := hq
 exact ⟨A, cc, rfl, h'⟩
theorem x_rawT {P : Program} (h : Hp F0 w0 w ro rs) {b : Bytes} (fn : FuncId) (al : List Value) (hp : pureVal P (execOp a.eval o) = some (.enter fn al.toArray)) (hc : Calls P fn al.toArray w (RawPost w b)) :
   OpTo P o a w (fun u w' => ∃ A c, u = .agg #[.int .i64 1, .int .i64 0, .int .u64 0, .slice A b.length c, .slice none 0 0] /\ Hp F0 w0 w' ro (rSB (.slice A b.length c) b :: rs) /\ ∀ q, (Value.slice A b.length c).ownBlock = some q -> w.heap.size <= q) :=
 OpTo.enter fn al hp hc fun e w' hq => by
   obtain ⟨A, c, he, hs, hb, hF⟩ := hq
   refine ⟨_, he, A, c, rfl, ?_, hF⟩
   exact (h.newS hb (rSB _ b) hs (fun q hq => hF q hq.2))
/-- A number as der has it. -/
theorem wrap64_ex (n : Int) : ∃ m : Nat, IntKind.u64.wrap n = (m : Int) /\ m < 18446744073709551616 /\ (0 <= n -> n < 18446744073709551616 -> (m : Int) = n) := by
 refine ⟨(n % 18446744073709551616).toNat, ?_, by omega, fun h1 h2 => by omega⟩
 rw [Int.toNat_of_nonneg (by omega)]
 simp [IntKind.wrap, IntKind.bits, IntKind.signed]
theorem rawpost_sb {w w0 : World} {ro rs : List Res} {A : Option Addr} {c : Nat} {b : Bytes} (h : Hp (fun _ => False) w0 w ro rs) (i : Nat) (hi : rs[i]? = some (rSB (.slice A b.length c) b)) (hb : b ≠ [] ∨ ∀ q, (Value.slice A b.length c).ownBlock = some q -> w0.heap.size <= q) : RawPost w0 b (.returned (.agg #[.int .i64 1, .int .i64 0, .int .u64 0, .slice A b.length c, .slice none 0 0])) w := by
 refine ⟨A, c, rfl, h.own i _ hi, h.below0, fun q hq => ?_⟩
 rcases hb with hb | hb
 · rcases h.mine i _ hi q ⟨hb, hq⟩ with h3 | h3
   · exact h3.elim
   · exact h3
 · exact hb q hq
end
end
section
open Go.RowKit Go.QT
/-- What a number is in der. -/
def nV (n : Int) : List Value := [.int .i64 0, .int .i64 0, .int .u64 (IntKind.u64.wrap n), .slice none 0 0, .slice none 0 0]
theorem knum_any (n : Int) (w : World) : Calls Try.prog 54 #[.int .i64 n] w (DPost w (.agg (nV n).toArray)) := by
 obtain ⟨m, hm, hm1, -⟩ := wrap64_ex n
 unfold nV
 rw [hm]
 have h0 := Hp.nil (fun _ => False) w
 refine enter 5 Try.func54 rfl rfl ?_
 refine wp_reset 6 [(0, (D n))] (fun x0 => ?_)
 refine wR fun K1 hK1 => ?_
 refine wT 2 (xN h0 106 ([O, O, (Value.int .u64 0), nS, nS])) ?_
 rintro _ w2 ⟨g2, rfl, h2⟩
 refine wE hK1 (wR fun K3 hK3 => ?_)
 refine wq_p 1 [(3, (D n))] (wV 4 (Value.int .u64 ((m : Int))) (eqI (Value.int .u64 (IntKind.u64.wrap n)) (by rw [hm])) ?_)
 refine wT 5 (x_dp h2 77 [(Value.int .u64 ((m : Int)))] (by kernel_rfl) (dnum_any m _)) ?_
 rintro _ w4 ⟨rfl, h4⟩
 refine wq_to none (xSs h4 0 106 (.tmp 2) (.tmp 5) 0 ([O, O, (Value.int .u64 ((m : Int))), nS, nS]) ([O, O, (Value.int .u64 ((m : Int))), nS, nS])) ?_
 rintro _ w5 h5
 refine wE hK3 (wp_ret ?_)
 refine post_1 rfl (by kernel_rfl) (rce (h5.at_ 0 rfl)) ?_
 exact ⟨rfl, h5.below0⟩
theorem ktruth_any (b : Bool) (w : World) : Calls Try.prog 56 #[.bool b] w (DPost w (.agg (nV b.toNat).toArray)) := by
 have hm : IntKind.u64.wrap (b.toNat : Int) = (b.toNat : Int) := by cases b <;> rfl
 unfold nV
 rw [hm]
 cases b
 · skip
   have h0 := Hp.nil (fun _ => False) w
   refine enter 5 Try.func56 rfl rfl ?_
   refine wp_reset 6 [(0, V)] (fun x0 => ?_)
   refine wR fun K1 hK1 => ?_
   refine wT 2 (xN h0 106 ([O, O, (Value.int .u64 0), nS, nS])) ?_
   rintro _ w2 ⟨g2, rfl, h2⟩
   refine wE hK1 (wp_seq_k fun K3 hK3 => wR fun K4 hK4 => ?_)
   refine wq_p 1 [(3, V)] ?_
   refine wE hK4 (cF (wp_skip (seq_n hK3 (wR fun K5 hK5 => ?_))))
   refine wT 5 (x_dp h2 77 [(Value.int .u64 0)] (by kernel_rfl) (dnum_any 0 _)) ?_
   rintro _ w6 ⟨rfl, h6⟩
   refine wq_to none (xSs h6 0 106 (.tmp 2) (.tmp 5) 0 ([O, O, (Value.int .u64 ((0 : Int))), nS, nS]) ([O, O, (Value.int .u64 ((0 : Int))), nS, nS])) ?_
   rintro _ w7 h7
   refine wE hK5 (wp_ret ?_)
   refine post_1 rfl (by kernel_rfl) (rce (h7.at_ 0 rfl)) ?_
   exact ⟨rfl, h7.below0⟩
 · skip
   have h0 := Hp.nil (fun _ => False) w
   refine enter 5 Try.func56 rfl rfl ?_
   refine wp_reset 6 [(0, I)] (fun x0 => ?_)
   refine wR fun K1 hK1 => ?_
   refine wT 2 (xN h0 106 ([O, O, (Value.int .u64 0), nS, nS])) ?_
   rintro _ w2 ⟨g2, rfl, h2⟩
   refine wE hK1 (wp_seq_k fun K3 hK3 => wR fun K4 hK4 => ?_)
   refine wq_p 1 [(3, I)] ?_
   refine wE hK4 (cT (wR fun K5 hK5 => ?_))
   refine wT 4 (x_dp h2 77 [(Value.int .u64 1)] (by kernel_rfl) (dnum_any 1 _)) ?_
   rintro _ w6 ⟨rfl, h6⟩
   refine wq_to none (xSs h6 0 106 (.tmp 2) (.tmp 4) 0 ([O, O, (Value.int .u64 ((1 : Int))), nS, nS]) ([O, O, (Value.int .u64 ((1 : Int))), nS, nS])) ?_
   rintro _ w7 h7
   refine wE hK5 (wp_ret (seq_r ?_))
   refine post_1 rfl (by kernel_rfl) (rce (h7.at_ 0 rfl)) ?_
   exact ⟨rfl, h7.below0⟩
theorem ktext_any (s : ByteArray) (w : World) (hs : s.size <= 1000000) : Calls Try.prog 51 #[.string s] w (RawPost w s.data.toList) := by
 have hsl : s.data.toList.length = s.size := by cases s; simp [ByteArray.size]
 have h0 := Hp.nil (fun _ => False) w
 refine enter 5 Try.func51 rfl rfl ?_
 refine wp_reset 6 [(0, (Value.string s))] (fun x0 => ?_)
 refine wR fun K1 hK1 => ?_
 refine wT 2 (xN h0 106 ([O, O, (Value.int .u64 0), nS, nS])) ?_
 rintro _ w2 ⟨g2, rfl, h2⟩
 refine wE hK1 (wR fun K3 hK3 => ?_)
 refine wq_p 1 [(3, (Value.string s))] ?_
 refine wT 4 (x_convT h2 (.tmp 3) (by kernel_rfl) s (by kernel_rfl) (by omega) (s.data.toList) rfl (s.data.toList.length) rfl) ?_
 rintro _ w4 ⟨A4, c4, rfl, h4⟩
 refine wT 5 (x_rawT h4 52 [(Value.slice A4 s.data.toList.length c4)] (by kernel_rfl) (draw_any (Value.slice A4 s.data.toList.length c4) s.data.toList _ (h4.rd 0 rfl) (by omega))) ?_
 rintro _ w5 ⟨A5, c5, rfl, h5, hn5⟩
 refine wq_to none (xSs h5 1 106 (.tmp 2) (.tmp 5) 0 ([(D 1), O, (Value.int .u64 0), (Value.slice A5 s.data.toList.length c5), nS]) ([(D 1), O, (Value.int .u64 0), (Value.slice A5 s.data.toList.length c5), nS])) ?_
 rintro _ w6 h6
 refine wE hK3 (wp_ret ?_)
 refine post_1 rfl (by kernel_rfl) (rce (h6.at_ 1 rfl)) ?_
 exact rawpost_sb h6 0 rfl (.inr fun q hq => Nat.le_trans h4.below0.size (hn5 q hq))
end
section
open Go.RowKit Go.QT
theorem kkey_any (K : Fin 16 -> UInt8) (w : World) : Calls Try.prog 55 #[.agg (vb (kl K)).toArray] w (RawPost w (kl K)) := by
 have h0 := Hp.nil (fun _ => False) w
 refine enter 4 Try.func55 rfl rfl ?_
 refine wp_reset 5 [(0, (Value.agg (vb (kl K)).toArray))] (fun x0 => ?_)
 refine wR fun K1 hK1 => ?_
 refine wT 1 (xN h0 32 (vb (kl K))) ?_
 rintro _ w2 ⟨g2, rfl, h2⟩
 refine wT 2 (xN h2 106 ([O, O, (Value.int .u64 0), nS, nS])) ?_
 rintro _ w3 ⟨g3, rfl, h3⟩
 refine wE hK1 (wR fun K4 hK4 => ?_)
 refine wq_p 1 [(3, (Value.slice (some ⟨g2, 0, none⟩) 16 16))] ?_
 refine wT 4 (x_rawT h3 52 [(Value.slice (some ⟨g2, 0, none⟩) 16 16)] (by kernel_rfl) (draw_any (Value.slice (some ⟨g2, 0, none⟩) 16 16) (kl K) _ (SB.blk16 (K := K) (h3.at_ 1 rfl)) (by rw [kl_len]; decide))) ?_
 rintro _ w5 ⟨A5, c5, rfl, h5, hn5⟩
 refine wq_to none (xSs h5 1 106 (.tmp 2) (.tmp 4) 0 ([(D 1), O, (Value.int .u64 0), (Value.slice A5 ((kl K).length) c5), nS]) ([(D 1), O, (Value.int .u64 0), (Value.slice A5 ((kl K).length) c5), nS])) ?_
 rintro _ w6 h6
 refine wE hK4 (wp_ret ?_)
 refine post_1 rfl (by kernel_rfl) (rce (h6.at_ 1 rfl)) ?_
 exact rawpost_sb h6 0 rfl (.inr fun q hq => Nat.le_trans h3.below0.size (hn5 q hq))
def inN (x : Int) : Bool := !(decide (x < 0) || decide (x > 1099511627776))
/-- What right says of a message. -/
def rightM (s : ByteArray) (l : List Int) : Bool := l.all inN && rightN s
theorem inN_lo {x : Int} (h : x < 0) : inN x = false := by unfold inN; simp [h]
theorem inN_hi {x : Int} (h : x > 1099511627776) : inN x = false := by unfold inN; simp [h]
theorem inN_in {x : Int} (h : ¬ x < 0) (h2 : ¬ x > 1099511627776) : inN x = true := by unfold inN; simp; omega
theorem inl_get {l : List Int} {k : Nat} {x : Int} (h : l[k]? = some x) : (l.map fun x => [Value.int .i64 x])[k]? = some [.int .i64 x] := by rw [List.getElem?_map, h]; rfl
theorem rightM_no {s : ByteArray} {l : List Int} {k : Nat} {x : Int} (h : l[k]? = some x) (hx : inN x = false) : rightM s l = false := by
 unfold rightM
 rw [Bool.and_eq_false_iff]
 left
 rw [List.all_eq_false]
 exact ⟨x, List.mem_of_getElem? h, by simp [hx]⟩
theorem rightM_all {s : ByteArray} {l : List Int} {k : Nat} (hk : k = l.length) (h : ∀ j x, j < k -> l[j]? = some x -> inN x = true) : rightM s l = rightN s := by
 unfold rightM
 have : l.all inN = true := by
   rw [List.all_eq_true]
   intro x hx
   obtain ⟨j, hj, rfl⟩ := List.getElem_of_mem hx
   exact h j _ (by omega) (List.getElem?_eq_getElem hj)
 rw [this, Bool.true_and]
theorem inN_step {l : List Int} {k : Nat} {x : Int} (hp : l[k]? = some x) (hx : inN x = true) (h : ∀ j x, j < k -> l[j]? = some x -> inN x = true) : ∀ j x, j < k + 1 -> l[j]? = some x -> inN x = true := by
 intro j q hj hq
 by_cases e : j = k
 · subst e; rw [hp] at hq; injection hq with hq; subst hq; exact hx
 · exact h j q (by omega) hq
theorem x_nright {F0 : Nat -> Prop} {w0 w : World} {ro rs : List Res} {o : Oper} {a : Act} (h : Hp F0 w0 w ro rs) (s : ByteArray) (hs : s.size <= 1000000000) (hp : pureVal Try.prog (execOp a.eval o) = some (.enter 48 #[.string s])) :
   OpTo Try.prog o a w (fun u w' => u = .bool (rightN s) /\ Hp F0 w0 w' ro rs) :=
 OpTo.enter 48 [.string s] hp (nright_any s w hs) fun _e _w' hq => ⟨_, hq.1, rfl, h.below hq.2⟩
theorem kright_any (s : ByteArray) (hs : s.size <= 1000000000) (l : List Int) (A : Option Addr) (c : Nat) (w : World) (hl : l.length <= 1000) (h : Hp (fun _ => False) w w [rRV 1 A c (l.map fun x => [Value.int .i64 x])] []) :
   Calls Try.prog 53 #[.string s, .slice A l.length c] w (DPost w (.bool (rightM s l))) := by
 have h0 := h
 refine enter 20 Try.func53 rfl rfl ?_
 refine wp_reset 22 [(0, (Value.string s)), (1, (Value.slice A l.length c))] (fun x0 => ?_)
 refine wR fun K1 hK1 => ?_
 refine wq_p 1 [(4, V)] ?_
 refine wE hK1 (wp_seq_k fun K2 hK2 => wR fun K3 hK3 => ?_)
 refine wq_p 3 [(9, O), (8, (D ((l.length : Int)))), (7, (Value.slice A l.length c))] ?_
 refine wE hK3 (wp_block ?_)
 refine wp_loopm (fun mM xX aA wL => ∃ (k : Nat), (k <= l.length) /\ (∀ j x, j < k -> l[j]? = some x -> inN x = true) /\ mM = l.length - k /\ aA = patch xX 22 [(0, (Value.string s)), (1, (Value.slice A l.length c)), (7, (Value.slice A l.length c)), (8, (Value.int .i64 ((l.length : Int)))), (9, (Value.int .i64 ((k : Int))))] /\ Hp (fun _ => False) w wL [rRV 1 A c ((l.map fun x => [Value.int .i64 x]))] []) ⟨_, 0, (by omega), (fun _ _ h => absurd h (Nat.not_lt_zero _)), rfl, (pEq 22), h0.sel [] [0] (by kernel_rfl) rfl rfl⟩ ?_
 rintro _ x4 _ w4 ⟨k, hk, hN, rfl, rfl, h4⟩
 refine wp_seq_k fun K5 hK5 => ?_
 by_cases b6 : k < l.length
 ·
  refine reg_lit ?_
  refine wV 10 (.bool true) (eqI (Value.bool (decide ((k : Int) < (l.length : Int)))) (by simp; omega)) ?_
  refine wE hK5 (wp_seq_k fun K7 hK7 => cT (wp_skip (seq_n hK7 (wp_seq_k fun K8 hK8 => wp_block (wp_seq_k fun K9 hK9 => ?_)))))
  obtain ⟨p, hp⟩ : ∃ p, l[k]? = some p := ⟨_, List.getElem?_eq_getElem (by omega)⟩
  refine reg_lit ?_
  refine wV 11 (eAt A (k * 1 + 0)) (eIx (RV.lenIs (n := l.length) (h4.rd 0 rfl) (by simp)).2 k l.length (RV.lenIs (n := l.length) (h4.rd 0 rfl) (by simp)).1 (by omega) 167 (.tmp 7) (.tmp 9) .i64 2) (wV 12 (D p) (eEl (RV.lenIs (n := l.length) (h4.rd 0 rfl) (by simp)).2 k 0 ([(D p)]) (inl_get hp) 2 (.tmp 11) (D p)) (wq_p 1 [(6, (D p))] ?_))
  refine wE hK9 (wp_seq_k fun K10 hK10 => ?_)
  rcases (show (p < 0) ∨ (¬ p < 0 /\ p > 1099511627776) ∨ (¬ p < 0 /\ ¬ p > 1099511627776) by omega) with hq1 | ⟨hq1, hq2⟩ | ⟨hq1, hq2⟩
  ·
   refine reg_lit ?_
   refine wq_p 1 [(13, (D p))] (wV 14 (.bool true) (eqI (Value.bool (decide (p < 0))) (by simp; omega)) (wq_p 2 [(16, undef), (15, I)] (wq_p 1 [(17, undef)] ?_)))
   refine wq_p 1 [(18, I)] ?_
   refine wE hK10 (cT (wR fun K12 hK12 => ?_))
   refine wq_p 1 [(4, V)] ?_
   refine wE hK12 (wp_ret (blk_r (seq_r (seq_r (blk_r (seq_r ?_))))))
   refine post_1 rfl (by kernel_rfl) (rtm V) ?_
   exact ⟨by rw [rightM_no hp (inN_lo hq1)], h4.below0⟩
  ·
   refine reg_lit ?_
   refine wq_p 1 [(13, (D p))] (wV 14 (.bool false) (eqI (Value.bool (decide (p < 0))) (by simp; omega)) (wq_p 2 [(16, (D p)), (15, V)] (wV 17 (.bool true) (eqI (Value.bool (decide (p > 1099511627776))) (by simp; omega)) ?_)))
   refine wq_p 1 [(18, I)] ?_
   refine wE hK10 (cT (wR fun K13 hK13 => ?_))
   refine wq_p 1 [(4, V)] ?_
   refine wE hK13 (wp_ret (blk_r (seq_r (seq_r (blk_r (seq_r ?_))))))
   refine post_1 rfl (by kernel_rfl) (rtm V) ?_
   exact ⟨by rw [rightM_no hp (inN_hi hq2)], h4.below0⟩
  ·
   refine reg_lit ?_
   refine wq_p 1 [(13, (D p))] (wV 14 (.bool false) (eqI (Value.bool (decide (p < 0))) (by simp; omega)) (wq_p 2 [(16, (D p)), (15, V)] (wV 17 (.bool false) (eqI (Value.bool (decide (p > 1099511627776))) (by simp; omega)) ?_)))
   refine wq_p 1 [(18, V)] ?_
   refine wE hK10 (cF (wp_skip (blk_n (seq_n hK8 (reg_lit ?_)))))
   refine wV 19 (D ((k : Int) + 1)) (exec_add _ _ _ _ rfl ((k : Int)) 1 (by kernel_rfl) (by kernel_rfl) ((k : Int) + 1) rfl (by omega) (by omega) _) (wq_p 1 [(9, (D ((k : Int) + 1)))] ?_)
   refine wl_end rfl ?_
   refine ⟨l.length - (k + 1), (by omega), (k + 1), (by omega), (inN_step hp (inN_in hq1 hq2) hN), rfl, (pEq 22), h4.sel [] [0] (by kernel_rfl) rfl rfl⟩
 ·
  refine reg_lit ?_
  refine wV 10 (.bool false) (eqI (Value.bool (decide ((k : Int) < (l.length : Int)))) (by simp; omega)) ?_
  refine wE hK5 (wp_seq_k fun K14 hK14 => cF (wp_exit (seq_e (seq_e (blk_e (seq_n hK2 (wR fun K15 hK15 => ?_)))))))
  refine wq_p 1 [(20, (Value.string s))] ?_
  refine wT 21 (x_nright h4 s hs (by kernel_rfl)) ?_
  rintro _ w16 ⟨rfl, h16⟩
  refine wq_p 1 [(4, (Value.bool (rightN s)))] ?_
  refine wE hK15 (wp_ret ?_)
  refine post_1 rfl (by kernel_rfl) (rtm (Value.bool (rightN s))) ?_
  exact ⟨by rw [rightM_all (k := k) (by omega) hN], h16.below0⟩
end
end Go.Proofs.Ytecomegocafocaa
