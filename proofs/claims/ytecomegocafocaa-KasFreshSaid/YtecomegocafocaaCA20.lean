/- Five parameters. -/
import Derived.ProofKit
import Derived.Carry
import Derived.ChangeShapes
import Derived.Test.YtecomegocafocaaCA19
set_option maxRecDepth 100000
set_option maxHeartbeats 4000000
namespace Go.Proofs.Ytecomegocafocaa
section
open Go.Value renaming int -> iV, slice -> lV, string -> sV, bool -> bV, agg -> aV
open Go.RowKit Go.QT
theorem runeL_len {l : Bytes} {c m : Nat} (h : runeL l = some (c, m)) (h0 : 0 < l.length) : 1 <= m /\ m <= 2 /\ m <= l.length /\ c < 2048 := by
 have hb := nb_lt (gb l 0)
 unfold runeL at h
 split at h
 · injection h with h; injection h with h1 h2; subst h1; subst h2; omega
 split at h
 · injection h with h; injection h with h1 h2; subst h1; subst h2; omega
 · cases h
theorem letter_out {r : Int} (h : r = -1 ∨ 2048 <= r) : letterN r = false := by
 unfold letterN inR ltrL; simp; omega
theorem dig_eq (c : Int) : inR c digL = (decide (48 <= c /\ c <= 57) || decide (c = 45)) := by
 unfold inR digL
 rw [Bool.eq_iff_iff]
 simp
 omega
theorem right_ways {l : Bytes} {r k : Int} (h : RnP l r k) (i : Nat) :
   (runeL l = none /\ letterN r = false /\ i = 0) ∨ (runeL l = none /\ letterN r = false /\ i ≠ 0 /\ r = -1) ∨ (runeL l = none /\ letterN r = false /\ i ≠ 0 /\ 2048 <= r) ∨ (∃ c m : Nat, runeL l = some (c, m) /\ r = c /\ k = m /\ letterN r = true) ∨
   (∃ c m : Nat, runeL l = some (c, m) /\ r = c /\ k = m /\ letterN r = false /\ i = 0) ∨ (∃ c m : Nat, runeL l = some (c, m) /\ r = c /\ k = m /\ letterN r = false /\ i ≠ 0 /\ r = 45) ∨ (∃ c m : Nat, runeL l = some (c, m) /\ r = c /\ k = m /\ letterN r = false /\ i ≠ 0 /\ r ≠ 45 /\ r < 48) ∨
   (∃ c m : Nat, runeL l = some (c, m) /\ r = c /\ k = m /\ letterN r = false /\ i ≠ 0 /\ r ≠ 45 /\ 57 < r) ∨ (∃ c m : Nat, runeL l = some (c, m) /\ r = c /\ k = m /\ letterN r = false /\ i ≠ 0 /\ r ≠ 45 /\ 48 <= r /\ r <= 57) := by
 unfold RnP at h
 rcases hr : runeL l with _ | ⟨c, m⟩
 · rw [hr] at h
   have hl := letter_out h.1
   by_cases hi : i = 0
   · exact .inl ⟨rfl, hl, hi⟩
   · rcases h.1 with h1 | h1
     · exact .inr (.inl ⟨rfl, hl, hi, h1⟩)
     · exact .inr (.inr (.inl ⟨rfl, hl, hi, h1⟩))
 · rw [hr] at h
   obtain ⟨h1, h2⟩ := h
   refine .inr (.inr (.inr ?_))
   rcases hl : letterN r with _ | _
   · refine .inr ?_
     by_cases hi : i = 0
     · exact .inl ⟨c, m, rfl, h1, h2, rfl, hi⟩
     by_cases h45 : r = 45
     · exact .inr (.inl ⟨c, m, rfl, h1, h2, rfl, hi, h45⟩)
     by_cases h48 : r < 48
     · exact .inr (.inr (.inl ⟨c, m, rfl, h1, h2, rfl, hi, h45, h48⟩))
     by_cases h57 : 57 < r
     · exact .inr (.inr (.inr (.inl ⟨c, m, rfl, h1, h2, rfl, hi, h45, h57⟩)))
     · exact .inr (.inr (.inr (.inr ⟨c, m, rfl, h1, h2, rfl, hi, h45, by omega, by omega⟩)))
   · exact .inl ⟨c, m, rfl, h1, h2, rfl⟩
section
variable {s : ByteArray} {f i n : Nat} (hinv : runesN s (s.size + 1) 0 0 = runesN s (f + 1) i n) (hi : i < s.size)
include hinv hi
theorem rg_none (h : runeL (s.data.toList.drop i) = none) : rightN s = false := by
 have hd := decode_is s i hi
 rw [h] at hd
 refine rightN_none (hinv.trans (runesN_bad rfl hi ?_))
 unfold badN
 have h1 : letterN ((Utf8.decode s i).1 : Int) = false := letter_out (.inr (by omega))
 have h2 : inR ((Utf8.decode s i).1 : Int) digL = false := by rw [dig_eq]; simp; omega
 rw [h1, h2]; simp
theorem rg_bad {c m : Nat} (h : runeL (s.data.toList.drop i) = some (c, m)) (hl : letterN (c : Int) = false) (hb : i = 0 ∨ (c ≠ 45 /\ (c < 48 ∨ 57 < c))) : rightN s = false := by
 have hd := decode_is s i hi
 rw [h] at hd
 refine rightN_none (hinv.trans (runesN_bad rfl hi ?_))
 unfold badN
 rw [hd, hl, dig_eq]
 rcases hb with hb | hb
 · simp [hb]
 · simp
   right
   omega
theorem rg_go {c m : Nat} (h : runeL (s.data.toList.drop i) = some (c, m)) (hb : letterN (c : Int) = true ∨ (i ≠ 0 /\ (c = 45 ∨ (48 <= c /\ c <= 57)))) : runesN s (s.size + 1) 0 0 = runesN s f (i + m) (n + 1) := by
 have hd := decode_is s i hi
 rw [h] at hd
 have h2 : badN i (Utf8.decode s i).1 = false := by
   unfold badN
   rw [hd]
   rcases hb with hb | hb
   · rw [hb]; rfl
   · have e : inR (((c, m) : Nat × Nat).1 : Int) digL = true := by rw [dig_eq]; simp; omega
     rw [e]
     simp [hb.1]
 have := runesN_go (s := s) (f := f) (pos := i) (n := n) rfl hi h2
 rw [hd] at this
 exact hinv.trans this.symm
end
theorem x_rune {o : Oper} {a : Act} {F0 : Nat -> Prop} {w0 w : World} {ro rs : List Res} (h : Hp F0 w0 w ro rs) (s : ByteArray) (hp : pureVal Try.prog (execOp a.eval o) = some (.enter 44 #[.string s])) (h0 : 0 < s.size) (hs : s.size <= 1000000000) :
   OpTo Try.prog o a w (fun u w' => ∃ r k, u = .tuple #[.int .i64 r, .int .i64 k] /\ RnP s.data.toList r k /\ Hp F0 w0 w' ro rs) :=
 OpTo.enter 44 [.string s] hp (rune_any s h0 hs w) fun _ _ ⟨r, k, he, hr, hb⟩ => ⟨_, he, r, k, rfl, hr, h.below hb⟩
theorem rnp_bd {l : Bytes} {r k : Int} (h : RnP l r k) (h0 : 0 < l.length) : -1 <= r /\ r <= 5000000 := by
 unfold RnP at h
 rcases hr : runeL l with _ | ⟨c, m⟩
 · rw [hr] at h; omega
 · rw [hr] at h
   have := runeL_len hr h0
   omega
theorem rright_any (s : ByteArray) (hs : s.size <= 1000000000) (w : World) : Calls Try.prog 22 #[.string s] w (DPost w (.bool (rightN s))) := by
 have h0 := Hp.nil (fun _ => False) w
 refine enter 47 Try.func22 rfl rfl ?_
 refine wp_reset 48 [(0, (sV s))] (fun x0 => ?_)
 refine wR fun K1 hK1 => ?_
 refine wq_p 1 [(2, (bV false))] ?_
 refine wE hK1 (wR fun K2 hK2 => ?_)
 refine wq_p 1 [(3, O)] ?_
 refine wE hK2 (wp_seq_k fun K3 hK3 => wR fun K4 hK4 => ?_)
 refine wq_p 1 [(4, O)] ?_
 refine wE hK4 (wp_block ?_)
 refine wp_loopm (fun mM xX aA wL => ∃ (f : Nat) (i : Nat) (n : Nat), (i <= s.size) /\ (s.size < i + f) /\ (n <= i) /\ (runesN s (s.size + 1) 0 0 = runesN s f i n) /\ mM = s.size - i /\ aA = patch xX 48 [(0, (sV s)), (3, (iV .i64 ((n : Int)))), (4, (iV .i64 ((i : Int))))] /\ Hp (fun _ => False) w wL [] []) ⟨_, ((s.size + 1)), 0, 0, (Nat.zero_le _), (by omega), (by omega), rfl, rfl, (pEq 48), h0.sel [] [] (by kernel_rfl) rfl rfl⟩ ?_
 rintro _ x5 _ w5 ⟨f, i, n, hi, hf, hn, hinv, rfl, rfl, h5⟩
 refine wp_seq_k fun K6 hK6 => wR fun K7 hK7 => ?_
 refine wq_p 4 [(10, (bV (decide ((i : Int) < ((s).size : Int))))), (9, (D (((s).size : Int)))), (8, (sV s)), (7, (D ((i : Int))))] ?_
 refine wE hK7 ?_
 refine wp_if ((i : Int) < ((s).size : Int)) (by kernel_rfl) (fun b8 => ?_) (fun b8 => ?_)
 ·
  refine wp_skip (seq_n hK6 (wp_seq_k fun K9 hK9 => wp_block (wp_seq_k fun K10 hK10 => ?_)))
  have hlt : i < s.size := by omega
  obtain ⟨f, rfl⟩ : ∃ g, f = g + 1 := ⟨f - 1, by omega⟩
  have hdl : (s.data.toList.drop i).length = s.size - i := by simp
  refine reg_lit ?_
  refine wq_p 2 [(15, (D ((i : Int)))), (14, (sV s))] (wV 16 (sV (tlS s i)) (e_scut 9 (.tmp 14) (.tmp 15) (by kernel_rfl) s .i64 i (by kernel_rfl) (by kernel_rfl) (by kernel_rfl) hi _) ?_)
  refine wT 17 (x_rune h5 (tlS s i) (by kernel_rfl) (by rw [tlS_size]; omega) (by rw [tlS_size]; omega)) ?_
  rintro _ w11 ⟨r11, k11, rfl, hr11, h11⟩
  rw [tlS_list] at hr11
  have hrb11 := rnp_bd hr11 (by omega)
  refine wq_p 5 [(6, (D k11)), (5, (D r11)), (19, (D k11)), (18, (D r11)), (13, (Value.tuple #[(D r11), (D k11)]))] ?_
  refine wE hK10 (wp_seq_k fun K12 hK12 => wp_seq_k fun K13 hK13 => ?_)
  rcases right_ways hr11 i with ⟨q1, q2, q3⟩ | ⟨q1, q2, q3, q4⟩ | ⟨q1, q2, q3, q4⟩ | ⟨c, m, q1, q2, q3, q4⟩ | ⟨c, m, q1, q2, q3, q4, q5⟩ | ⟨c, m, q1, q2, q3, q4, q5, q6⟩ | ⟨c, m, q1, q2, q3, q4, q5, q6, q7⟩ | ⟨c, m, q1, q2, q3, q4, q5, q6, q7⟩ | ⟨c, m, q1, q2, q3, q4, q5, q6, q7, q8⟩
  ·
   refine reg_lit ?_
   refine wq_p 1 [(20, (D r11))] ?_
   refine wT 21 (x_dp (v := .bool false) h11 45 [(D r11), O] (by kernel_rfl) (q2 ▸ rletter_any _ (by omega) (by omega) _)) ?_
   rintro _ w15 ⟨rfl, h15⟩
   refine wq_p 3 [(24, (D ((i : Int)))), (23, (bV true)), (22, (bV true))] (wV 25 (.bool true) (eqI (bV (((i : Int)) == 0)) (by simp; omega)) (wq_p 2 [(27, undef), (26, (bV true))] (wq_p 1 [(28, undef)] ?_)))
   refine wq_p 2 [(30, undef), (29, undef)] (wq_p 1 [(31, undef)] (wq_p 2 [(33, undef), (32, undef)] (wq_p 1 [(34, undef)] ?_)))
   refine wq_p 4 [(38, (bV true)), (37, (bV true)), (36, undef), (35, undef)] ?_
   refine wE hK13 (cT (wR fun K16 hK16 => ?_))
   refine wq_p 1 [(2, (bV false))] ?_
   refine wE hK16 (wp_ret (seq_r (blk_r (seq_r (seq_r (blk_r (seq_r ?_)))))))
   refine post_1 rfl (by kernel_rfl) (rtm (bV false)) ?_
   exact ⟨by rw [rg_none hinv hlt q1], h15.below0⟩
  ·
   refine reg_lit ?_
   refine wq_p 1 [(20, (D r11))] ?_
   refine wT 21 (x_dp (v := .bool false) h11 45 [(D r11), O] (by kernel_rfl) (q2 ▸ rletter_any _ (by omega) (by omega) _)) ?_
   rintro _ w17 ⟨rfl, h17⟩
   refine wq_p 3 [(24, (D ((i : Int)))), (23, (bV true)), (22, (bV true))] (wV 25 (.bool false) (eqI (bV (((i : Int)) == 0)) (by simp; omega)) (wq_p 2 [(27, (D r11)), (26, (bV false))] (wV 28 (.bool true) (eqI (bV (r11 != 45)) (by simp; omega)) ?_)))
   refine wq_p 2 [(30, (D r11)), (29, (bV true))] (wV 31 (.bool true) (eqI (bV (decide (r11 < 48))) (by simp; omega)) (wq_p 2 [(33, undef), (32, (bV true))] (wq_p 1 [(34, undef)] ?_)))
   refine wq_p 4 [(38, (bV true)), (37, (bV true)), (36, (bV true)), (35, (bV true))] ?_
   refine wE hK13 (cT (wR fun K18 hK18 => ?_))
   refine wq_p 1 [(2, (bV false))] ?_
   refine wE hK18 (wp_ret (seq_r (blk_r (seq_r (seq_r (blk_r (seq_r ?_)))))))
   refine post_1 rfl (by kernel_rfl) (rtm (bV false)) ?_
   exact ⟨by rw [rg_none hinv hlt q1], h17.below0⟩
  ·
   refine reg_lit ?_
   refine wq_p 1 [(20, (D r11))] ?_
   refine wT 21 (x_dp (v := .bool false) h11 45 [(D r11), O] (by kernel_rfl) (q2 ▸ rletter_any _ (by omega) (by omega) _)) ?_
   rintro _ w19 ⟨rfl, h19⟩
   refine wq_p 3 [(24, (D ((i : Int)))), (23, (bV true)), (22, (bV true))] (wV 25 (.bool false) (eqI (bV (((i : Int)) == 0)) (by simp; omega)) (wq_p 2 [(27, (D r11)), (26, (bV false))] (wV 28 (.bool true) (eqI (bV (r11 != 45)) (by simp; omega)) ?_)))
   refine wq_p 2 [(30, (D r11)), (29, (bV true))] (wV 31 (.bool false) (eqI (bV (decide (r11 < 48))) (by simp; omega)) (wq_p 2 [(33, (D r11)), (32, (bV false))] (wV 34 (.bool true) (eqI (bV (decide (r11 > 57))) (by simp; omega)) ?_)))
   refine wq_p 4 [(38, (bV true)), (37, (bV true)), (36, (bV true)), (35, (bV true))] ?_
   refine wE hK13 (cT (wR fun K20 hK20 => ?_))
   refine wq_p 1 [(2, (bV false))] ?_
   refine wE hK20 (wp_ret (seq_r (blk_r (seq_r (seq_r (blk_r (seq_r ?_)))))))
   refine post_1 rfl (by kernel_rfl) (rtm (bV false)) ?_
   exact ⟨by rw [rg_none hinv hlt q1], h19.below0⟩
  ·
   refine reg_lit ?_
   refine wq_p 1 [(20, (D r11))] ?_
   refine wT 21 (x_dp (v := .bool true) h11 45 [(D r11), O] (by kernel_rfl) (q4 ▸ rletter_any _ (by omega) (by omega) _)) ?_
   rintro _ w21 ⟨rfl, h21⟩
   refine wq_p 3 [(24, undef), (23, (bV false)), (22, (bV false))] (wq_p 1 [(25, undef)] (wq_p 2 [(27, undef), (26, undef)] (wq_p 1 [(28, undef)] ?_)))
   refine wq_p 2 [(30, undef), (29, undef)] (wq_p 1 [(31, undef)] (wq_p 2 [(33, undef), (32, undef)] (wq_p 1 [(34, undef)] ?_)))
   refine wq_p 4 [(38, (bV false)), (37, undef), (36, undef), (35, undef)] ?_
   refine wE hK13 (cF (wp_skip (seq_n hK12 ?_)))
   have hm := runeL_len q1 (by omega)
   rw [hdl] at hm
   have hgo := rg_go hinv hlt q1 (.inl (by rw [← q2]; exact q4))
   refine reg_lit ?_
   refine wq_p 2 [(40, (D k11)), (39, (D ((i : Int))))] (wV 41 (D (((i + m : Nat) : Int))) (exec_add _ _ _ _ rfl ((i : Int)) k11 (by kernel_rfl) (by kernel_rfl) (((i + m : Nat) : Int)) (by omega) (by omega) (by omega) _) (wq_p 1 [(4, (D (((i + m : Nat) : Int))))] ?_))
   refine wl_end rfl (blk_n (seq_n hK9 ?_))
   refine wp_reset 48 [(0, (sV s)), (3, (iV .i64 ((n : Int)))), (4, (iV .i64 (((i + m : Nat) : Int)))), (5, (iV .i64 r11)), (6, (iV .i64 k11)), (10, (bV (decide ((i : Int) < ((s).size : Int))))), (38, (bV false))] (fun x22 => ?_)
   refine reg_lit ?_
   refine wq_p 1 [(11, (D ((n : Int))))] (wV 12 (D (((n + 1 : Nat) : Int))) (exec_add _ _ _ _ rfl ((n : Int)) 1 (by kernel_rfl) (by kernel_rfl) (((n + 1 : Nat) : Int)) (by omega) (by omega) (by omega) _) (wq_p 1 [(3, (D (((n + 1 : Nat) : Int))))] ?_))
   refine wl_end rfl ?_
   refine ⟨s.size - ((i + m)), (by omega), f, ((i + m)), ((n + 1)), (by omega), (by omega), (by omega), hgo, rfl, (pEq 48), h21.sel [] [] (by kernel_rfl) rfl rfl⟩
  ·
   refine reg_lit ?_
   refine wq_p 1 [(20, (D r11))] ?_
   refine wT 21 (x_dp (v := .bool false) h11 45 [(D r11), O] (by kernel_rfl) (q4 ▸ rletter_any _ (by omega) (by omega) _)) ?_
   rintro _ w23 ⟨rfl, h23⟩
   refine wq_p 3 [(24, (D ((i : Int)))), (23, (bV true)), (22, (bV true))] (wV 25 (.bool true) (eqI (bV (((i : Int)) == 0)) (by simp; omega)) (wq_p 2 [(27, undef), (26, (bV true))] (wq_p 1 [(28, undef)] ?_)))
   refine wq_p 2 [(30, undef), (29, undef)] (wq_p 1 [(31, undef)] (wq_p 2 [(33, undef), (32, undef)] (wq_p 1 [(34, undef)] ?_)))
   refine wq_p 4 [(38, (bV true)), (37, (bV true)), (36, undef), (35, undef)] ?_
   refine wE hK13 (cT (wR fun K24 hK24 => ?_))
   refine wq_p 1 [(2, (bV false))] ?_
   refine wE hK24 (wp_ret (seq_r (blk_r (seq_r (seq_r (blk_r (seq_r ?_)))))))
   refine post_1 rfl (by kernel_rfl) (rtm (bV false)) ?_
   exact ⟨by rw [rg_bad hinv hlt q1 (by rw [← q2]; exact q4) (by omega)], h23.below0⟩
  ·
   refine reg_lit ?_
   refine wq_p 1 [(20, (D r11))] ?_
   refine wT 21 (x_dp (v := .bool false) h11 45 [(D r11), O] (by kernel_rfl) (q4 ▸ rletter_any _ (by omega) (by omega) _)) ?_
   rintro _ w25 ⟨rfl, h25⟩
   refine wq_p 3 [(24, (D ((i : Int)))), (23, (bV true)), (22, (bV true))] (wV 25 (.bool false) (eqI (bV (((i : Int)) == 0)) (by simp; omega)) (wq_p 2 [(27, (D r11)), (26, (bV false))] (wV 28 (.bool false) (eqI (bV (r11 != 45)) (by simp; omega)) ?_)))
   refine wq_p 2 [(30, undef), (29, (bV false))] (wq_p 1 [(31, undef)] (wq_p 2 [(33, undef), (32, undef)] (wq_p 1 [(34, undef)] ?_)))
   refine wq_p 4 [(38, (bV false)), (37, (bV false)), (36, (bV false)), (35, undef)] ?_
   refine wE hK13 (cF (wp_skip (seq_n hK12 ?_)))
   have hm := runeL_len q1 (by omega)
   rw [hdl] at hm
   have hgo := rg_go hinv hlt q1 (.inr ⟨q5, by omega⟩)
   refine reg_lit ?_
   refine wq_p 2 [(40, (D k11)), (39, (D ((i : Int))))] (wV 41 (D (((i + m : Nat) : Int))) (exec_add _ _ _ _ rfl ((i : Int)) k11 (by kernel_rfl) (by kernel_rfl) (((i + m : Nat) : Int)) (by omega) (by omega) (by omega) _) (wq_p 1 [(4, (D (((i + m : Nat) : Int))))] ?_))
   refine wl_end rfl (blk_n (seq_n hK9 ?_))
   refine wp_reset 48 [(0, (sV s)), (3, (iV .i64 ((n : Int)))), (4, (iV .i64 (((i + m : Nat) : Int)))), (5, (iV .i64 r11)), (6, (iV .i64 k11)), (10, (bV (decide ((i : Int) < ((s).size : Int))))), (38, (bV false))] (fun x26 => ?_)
   refine reg_lit ?_
   refine wq_p 1 [(11, (D ((n : Int))))] (wV 12 (D (((n + 1 : Nat) : Int))) (exec_add _ _ _ _ rfl ((n : Int)) 1 (by kernel_rfl) (by kernel_rfl) (((n + 1 : Nat) : Int)) (by omega) (by omega) (by omega) _) (wq_p 1 [(3, (D (((n + 1 : Nat) : Int))))] ?_))
   refine wl_end rfl ?_
   refine ⟨s.size - ((i + m)), (by omega), f, ((i + m)), ((n + 1)), (by omega), (by omega), (by omega), hgo, rfl, (pEq 48), h25.sel [] [] (by kernel_rfl) rfl rfl⟩
  ·
   refine reg_lit ?_
   refine wq_p 1 [(20, (D r11))] ?_
   refine wT 21 (x_dp (v := .bool false) h11 45 [(D r11), O] (by kernel_rfl) (q4 ▸ rletter_any _ (by omega) (by omega) _)) ?_
   rintro _ w27 ⟨rfl, h27⟩
   refine wq_p 3 [(24, (D ((i : Int)))), (23, (bV true)), (22, (bV true))] (wV 25 (.bool false) (eqI (bV (((i : Int)) == 0)) (by simp; omega)) (wq_p 2 [(27, (D r11)), (26, (bV false))] (wV 28 (.bool true) (eqI (bV (r11 != 45)) (by simp; omega)) ?_)))
   refine wq_p 2 [(30, (D r11)), (29, (bV true))] (wV 31 (.bool true) (eqI (bV (decide (r11 < 48))) (by simp; omega)) (wq_p 2 [(33, undef), (32, (bV true))] (wq_p 1 [(34, undef)] ?_)))
   refine wq_p 4 [(38, (bV true)), (37, (bV true)), (36, (bV true)), (35, (bV true))] ?_
   refine wE hK13 (cT (wR fun K28 hK28 => ?_))
   refine wq_p 1 [(2, (bV false))] ?_
   refine wE hK28 (wp_ret (seq_r (blk_r (seq_r (seq_r (blk_r (seq_r ?_)))))))
   refine post_1 rfl (by kernel_rfl) (rtm (bV false)) ?_
   exact ⟨by rw [rg_bad hinv hlt q1 (by rw [← q2]; exact q4) (by omega)], h27.below0⟩
  ·
   refine reg_lit ?_
   refine wq_p 1 [(20, (D r11))] ?_
   refine wT 21 (x_dp (v := .bool false) h11 45 [(D r11), O] (by kernel_rfl) (q4 ▸ rletter_any _ (by omega) (by omega) _)) ?_
   rintro _ w29 ⟨rfl, h29⟩
   refine wq_p 3 [(24, (D ((i : Int)))), (23, (bV true)), (22, (bV true))] (wV 25 (.bool false) (eqI (bV (((i : Int)) == 0)) (by simp; omega)) (wq_p 2 [(27, (D r11)), (26, (bV false))] (wV 28 (.bool true) (eqI (bV (r11 != 45)) (by simp; omega)) ?_)))
   refine wq_p 2 [(30, (D r11)), (29, (bV true))] (wV 31 (.bool false) (eqI (bV (decide (r11 < 48))) (by simp; omega)) (wq_p 2 [(33, (D r11)), (32, (bV false))] (wV 34 (.bool true) (eqI (bV (decide (r11 > 57))) (by simp; omega)) ?_)))
   refine wq_p 4 [(38, (bV true)), (37, (bV true)), (36, (bV true)), (35, (bV true))] ?_
   refine wE hK13 (cT (wR fun K30 hK30 => ?_))
   refine wq_p 1 [(2, (bV false))] ?_
   refine wE hK30 (wp_ret (seq_r (blk_r (seq_r (seq_r (blk_r (seq_r ?_)))))))
   refine post_1 rfl (by kernel_rfl) (rtm (bV false)) ?_
   exact ⟨by rw [rg_bad hinv hlt q1 (by rw [← q2]; exact q4) (by omega)], h29.below0⟩
  ·
   refine reg_lit ?_
   refine wq_p 1 [(20, (D r11))] ?_
   refine wT 21 (x_dp (v := .bool false) h11 45 [(D r11), O] (by kernel_rfl) (q4 ▸ rletter_any _ (by omega) (by omega) _)) ?_
   rintro _ w31 ⟨rfl, h31⟩
   refine wq_p 3 [(24, (D ((i : Int)))), (23, (bV true)), (22, (bV true))] (wV 25 (.bool false) (eqI (bV (((i : Int)) == 0)) (by simp; omega)) (wq_p 2 [(27, (D r11)), (26, (bV false))] (wV 28 (.bool true) (eqI (bV (r11 != 45)) (by simp; omega)) ?_)))
   refine wq_p 2 [(30, (D r11)), (29, (bV true))] (wV 31 (.bool false) (eqI (bV (decide (r11 < 48))) (by simp; omega)) (wq_p 2 [(33, (D r11)), (32, (bV false))] (wV 34 (.bool false) (eqI (bV (decide (r11 > 57))) (by simp; omega)) ?_)))
   refine wq_p 4 [(38, (bV false)), (37, (bV false)), (36, (bV false)), (35, (bV false))] ?_
   refine wE hK13 (cF (wp_skip (seq_n hK12 ?_)))
   have hm := runeL_len q1 (by omega)
   rw [hdl] at hm
   have hgo := rg_go hinv hlt q1 (.inr ⟨q5, by omega⟩)
   refine reg_lit ?_
   refine wq_p 2 [(40, (D k11)), (39, (D ((i : Int))))] (wV 41 (D (((i + m : Nat) : Int))) (exec_add _ _ _ _ rfl ((i : Int)) k11 (by kernel_rfl) (by kernel_rfl) (((i + m : Nat) : Int)) (by omega) (by omega) (by omega) _) (wq_p 1 [(4, (D (((i + m : Nat) : Int))))] ?_))
   refine wl_end rfl (blk_n (seq_n hK9 ?_))
   refine wp_reset 48 [(0, (sV s)), (3, (iV .i64 ((n : Int)))), (4, (iV .i64 (((i + m : Nat) : Int)))), (5, (iV .i64 r11)), (6, (iV .i64 k11)), (10, (bV (decide ((i : Int) < ((s).size : Int))))), (38, (bV false))] (fun x32 => ?_)
   refine reg_lit ?_
   refine wq_p 1 [(11, (D ((n : Int))))] (wV 12 (D (((n + 1 : Nat) : Int))) (exec_add _ _ _ _ rfl ((n : Int)) 1 (by kernel_rfl) (by kernel_rfl) (((n + 1 : Nat) : Int)) (by omega) (by omega) (by omega) _) (wq_p 1 [(3, (D (((n + 1 : Nat) : Int))))] ?_))
   refine wl_end rfl ?_
   refine ⟨s.size - ((i + m)), (by omega), f, ((i + m)), ((n + 1)), (by omega), (by omega), (by omega), hgo, rfl, (pEq 48), h31.sel [] [] (by kernel_rfl) rfl rfl⟩
 ·
  refine wp_exit (seq_e (seq_e (blk_e (seq_n hK3 (wp_seq_k fun K33 hK33 => ?_)))))
  rcases (by omega : n = 0 ∨ (1 <= n /\ n <= 16) ∨ (1 <= n /\ 16 < n)) with hz | hz | hz
  ·
   refine reg_lit ?_
   refine wq_p 1 [(42, (D ((n : Int))))] (wV 43 (.bool false) (eqI (bV (decide ((n : Int) ≥ 1))) (by simp; omega)) (wq_p 2 [(45, undef), (44, (bV false))] (wq_p 1 [(46, undef)] ?_)))
   refine wq_p 2 [(2, (bV false)), (47, (bV false))] ?_
   refine wE hK33 (wp_ret ?_)
   refine post_1 rfl (by kernel_rfl) (rtm (bV false)) ?_
   exact ⟨by rw [rightN_some (hinv.trans (runesN_end rfl (by omega)))]; simp; omega, h5.below0⟩
  ·
   refine reg_lit ?_
   refine wq_p 1 [(42, (D ((n : Int))))] (wV 43 (.bool true) (eqI (bV (decide ((n : Int) ≥ 1))) (by simp; omega)) (wq_p 2 [(45, (D ((n : Int)))), (44, (bV true))] (wV 46 (.bool true) (eqI (bV (decide ((n : Int) <= 16))) (by simp; omega)) ?_)))
   refine wq_p 2 [(2, (bV true)), (47, (bV true))] ?_
   refine wE hK33 (wp_ret ?_)
   refine post_1 rfl (by kernel_rfl) (rtm (bV true)) ?_
   exact ⟨by rw [rightN_some (hinv.trans (runesN_end rfl (by omega)))]; simp; omega, h5.below0⟩
  ·
   refine reg_lit ?_
   refine wq_p 1 [(42, (D ((n : Int))))] (wV 43 (.bool true) (eqI (bV (decide ((n : Int) ≥ 1))) (by simp; omega)) (wq_p 2 [(45, (D ((n : Int)))), (44, (bV true))] (wV 46 (.bool false) (eqI (bV (decide ((n : Int) <= 16))) (by simp; omega)) ?_)))
   refine wq_p 2 [(2, (bV false)), (47, (bV false))] ?_
   refine wE hK33 (wp_ret ?_)
   refine post_1 rfl (by kernel_rfl) (rtm (bV false)) ?_
   exact ⟨by rw [rightN_some (hinv.trans (runesN_end rfl (by omega)))]; simp; omega, h5.below0⟩
end
section
open Go.RowKit Go.QT
section
variable {o : Oper} {a : Act} {F0 F : Nat -> Prop} {w0 w w' : World} {ro rs : List Res} {tb : Nat} {s : STab}
theorem x_knew (h : Hp F0 w0 w ro rs) (i : Nat) (hi : rs[i]? = some (rTab F tb s)) (hs : Room 5 s) (hp : pureVal Try.prog (execOp a.eval o) = some (.enter 9 #[.iface 24 (pt tb 0)])) :
   OpTo Try.prog o a w (fun u w' => ∃ kb G bb F' K s', u = pt kb 0 /\ kl K = mkB 107 (s.keys.length + 1) /\ s' = s.add SFrom.fresh /\ Hp F0 w0 w' ro (rBlk kb 73 (kdcC tb bb K) :: rBs G bb [] :: rTab F' tb s' :: rs.eraseIdx i)) :=
 OpTo.enter 9 [.iface 24 (pt tb 0)] hp (knew_any (h.at_ i hi) hs) fun _ _ ⟨kb, G, bb, F', K, he, hK, hh⟩ => ⟨_, he, kb, G, bb, F', K, _, rfl, hK, rfl, h.call1 i hi hh⟩
/-- Enrol. -/
theorem x_enrol {G : Nat -> Prop} {bb : Nat} {us us' : List User} {f : SFrom} {er : Int} (h : Hp F0 w0 w ro rs) (i j : Nat) (hi : rs[i]? = some (rTab F tb s)) (hj : rs[j]? = some (rBs G bb us)) (hij : decide (i ≠ j) = true) (al : List Value) (hp : pureVal Try.prog (execOp a.eval o) = some (.enter 10 al.toArray))
   (hc : Calls Try.prog 10 al.toArray w (fun e w' => e = .returned (.int .i64 er) /\ ∃ F' G', Hp (fun q => F q ∨ G q) w w' [] [rTab F' tb (s.made f), rBs G' bb us'])) :
   OpTo Try.prog o a w (fun u w' => ∃ F' G' s', u = .int .i64 er /\ s' = s.made f /\ Hp F0 w0 w' ro ((rs.set i (rTab F' tb s')).set j (rBs G' bb us'))) :=
 OpTo.enter 10 al hp hc fun _ _ ⟨he, F', G', hh⟩ => ⟨_, he, F', G', _, rfl, rfl, h.upd2 i j hi hj (of_decide_eq_true hij) hh⟩
/-- As, where it refuses. -/
theorem x_asN {s2 : STab} {v : Value} (h : Hp F0 w0 w ro rs) (i : Nat) (hi : rs[i]? = some (rTab F tb s)) (al : List Value) (hp : pureVal Try.prog (execOp a.eval o) = some (.enter 14 al.toArray)) (hc : Calls Try.prog 14 al.toArray w (fun e w' => e = .returned v /\ ∃ F', Hp F w w' [] [rTab F' tb s2])) :
   OpTo Try.prog o a w (fun u w' => ∃ F' s', u = v /\ s' = s2 /\ Hp F0 w0 w' ro (rTab F' tb s' :: rs.eraseIdx i)) :=
 OpTo.enter 14 al hp hc fun _ _ ⟨he, F', hh⟩ => ⟨_, he, F', _, rfl, rfl, h.call1 i hi hh⟩
/-- As, where it gives. -/
theorem x_asY {s2 : STab} {nm : ByteArray} {m1 m2 : Bytes} (h : Hp F0 w0 w ro rs) (i : Nat) (hi : rs[i]? = some (rTab F tb s)) (al : List Value) (hp : pureVal Try.prog (execOp a.eval o) = some (.enter 14 al.toArray))
   (hc : Calls Try.prog 14 al.toArray w (fun e w' => ∃ A1 c1 A2 c2 F', e = .returned (.tuple #[.agg #[.string nm, .string ⟨#[107, 100, 99]⟩, .slice A1 16 c1, .slice A2 16 c2], .int .i64 0]) /\ Hp F w w' [] [rTab F' tb s2, rSB (.slice A1 16 c1) m1, rSB (.slice A2 16 c2) m2])) :
   OpTo Try.prog o a w (fun u w' => ∃ A1 c1 A2 c2 F' s', u = .tuple #[.agg #[.string nm, .string ⟨#[107, 100, 99]⟩, .slice A1 16 c1, .slice A2 16 c2], .int .i64 0] /\ s' = s2 /\ Hp F0 w0 w' ro (rTab F' tb s' :: rSB (.slice A1 16 c1) m1 :: rSB (.slice A2 16 c2) m2 :: rs.eraseIdx i)) :=
 OpTo.enter 14 al hp hc fun _ _ ⟨A1, c1, A2, c2, F', he, hh⟩ => ⟨_, he, A1, c1, A2, c2, F', _, rfl, rfl, h.call1 i hi hh⟩
end
end
section
open Go.Value renaming int -> iV, slice -> lV, string -> sV, bool -> bV, agg -> aV
open Go.RowKit Go.QT
theorem right_ann : rightN ⟨#[97, 110, 110]⟩ = true := by decide +kernel
theorem right_kdc : rightN ⟨#[107, 100, 99]⟩ = true := by decide +kernel
theorem alive14_any (w : World) : Calls Try.prog 7 #[] w (DPost w (.bool true)) := by
 have h0 := Hp.nil (fun _ => False) w
 refine enter 104 Try.func7 rfl rfl ?_
 refine wp_reset 104 [] (fun x0 => ?_)
 refine wR fun K1 hK1 => ?_
 refine wq_p 1 [(0, (bV false))] ?_
 refine wE hK1 (wR fun K2 hK2 => ?_)
 refine wT 11 (x_snew h0 (by kernel_rfl)) ?_
 rintro _ w3 ⟨tb3, F3, rfl, h3⟩
 refine wq_p 1 [(1, (pt tb3 0))] ?_
 refine wE hK2 (wR fun K4 hK4 => ?_)
 refine wq_p 2 [(13, (Value.iface 24 (pt tb3 0))), (12, (pt tb3 0))] ?_
 refine wT 14 (x_knew h3 0 rfl ((TS.empty.room 9 (by first | decide | simp | omega) (by first | decide | simp | omega)).less (by decide)) (by kernel_rfl)) ?_
 rintro _ w5 ⟨kb5, G5, bb5, F5, K5, s5, rfl, hK5, hs5, h5⟩
 rw [TS.empty.keys] at hK5
 have ht5 : TS s5 1 [] [] := TS.empty.add hs5
 refine wq_p 1 [(2, (pt kb5 0))] ?_
 refine wE hK4 (wp_seq_k fun K6 hK6 => wR fun K7 hK7 => ?_)
 refine wq_p 6 [(20, (pt kb5 1)), (19, (pt kb5 0)), (18, (pt kb5 0)), (17, (bV false)), (16, (bV false)), (15, (pt kb5 0))] (wV 21 (pt bb5 0) (eL (h5.at_ 0 rfl) 71 (.tmp 20) 1 _) (wq_p 4 [(25, (pt kb5 0)), (24, (bV false)), (23, (bV false)), (22, (bV false))] ?_))
 have hnum8 := (ht5.made_new (f := textF (⟨#[112, 119]⟩) (⟨#[97, 110, 110]⟩)) rfl (by simp)).2
 obtain ⟨K8, hK8⟩ := ex_key 2
 refine wT 26 (x_enrol (us' := [(User.mk (⟨#[97, 110, 110]⟩) K8 60 300 true)]) (f := textF (⟨#[112, 119]⟩) (⟨#[97, 110, 110]⟩)) (er := 0) h5 2 1 rfl rfl rfl [(pt kb5 0), (sV (⟨#[97, 110, 110]⟩)), (sV (⟨#[112, 119]⟩)), (D 60), (D 300), (bV true)] (by kernel_rfl) (enrol_ok (h5.at_ 2 rfl) (h5.at_ 1 rfl) (h5.dis 2 1 _ _ rfl rfl (by decide)) ((ht5.room 9 (by first | decide | simp | omega) (by first | decide | simp | omega)).less (by decide)) (h5.at_ 0 rfl) (fun hq => h5.dis 2 0 _ _ rfl rfl (by decide) _ hq rfl) (fun hq => h5.dis 1 0 _ _ rfl rfl (by decide) _ hq rfl) (by first | decide | omega) (by first | decide | omega) K8 (hK8.trans (by rw [hnum8])) (by decide) right_ann (by decide) rfl (by decide) rfl)) ?_
 rintro _ w9 ⟨F9, G9, s9, rfl, hs9, h9⟩
 have hq9 := ht5.made_new hs9 (by simp)
 have ht9 : TS s9 2 [] [(textF (⟨#[112, 119]⟩) (⟨#[97, 110, 110]⟩), 2)] := hq9.1
 refine wq_p 2 [(28, (bV false)), (27, (bV false))] ?_
 refine wE hK7 (cF (wp_skip (seq_n hK6 (wR fun K10 hK10 => ?_))))
 refine wq_p 3 [(32, (pt tb3 0)), (31, (Value.iface 24 (pt tb3 0))), (30, (pt tb3 0))] ?_
 refine wT 33 (x_text h9 2 rfl (⟨#[112, 119]⟩) (⟨#[97, 110, 110]⟩) (by kernel_rfl) (by first | decide | omega) (by first | decide | omega) (by rw [ht9.keys]; decide)) ?_
 rintro _ w11 ⟨K11, F11, s11, rfl, hK11, hs11, h11⟩
 have hq11 := ht9.made_old (m := 2) hs11 (by simp)
 have ht11 : TS s11 2 [] [(textF (⟨#[112, 119]⟩) (⟨#[97, 110, 110]⟩), 2)] := hq11.1
 rw [hq11.2] at hK11
 obtain rfl : K8 = K11 := kl_inj (hK8.trans hK11.symm)
 refine wq_p 2 [(35, (Value.iface 49 (aV ([(D 100), O]).toArray))), (34, (aV ([(D 100), O]).toArray))] ?_
 obtain ⟨b0, hp0⟩ := pack_stamp (t := 100) (q := 0) rfl rfl
 refine wT 36 (x_tseal h11 2 rfl K8 1 hp0 (by kernel_rfl) ((ht11.room 9 (by first | decide | simp | omega) (by first | decide | simp | omega)).ok) (rTh_stamp _ 100 0) (fun _ hf => hf.elim) True.intro) ?_
 rintro _ w12 ⟨A12, c12, F12, s12, rfl, hs12, h12⟩
 have hbn12 : s11.boxes.length + 1 = 1 := by rw [ht11.boxes]; rfl
 rw [hbn12] at h12
 have ht12 : TS s12 2 [⟨kl K8, 1, b0⟩] [(textF (⟨#[112, 119]⟩) (⟨#[97, 110, 110]⟩), 2)] := ht11.seal hs12 (pack_le6 hp0)
 refine wq_p 5 [(4, O), (3, (lV A12 16 c12)), (38, O), (37, (lV A12 16 c12)), (29, (Value.tuple #[(lV A12 16 c12), O]))] ?_
 refine wE hK10 (wp_seq_k fun K13 hK13 => ?_)
 refine wp_reset 104 [(0, (bV false)), (1, (pt tb3 0)), (2, (pt kb5 0)), (3, (lV A12 16 c12)), (28, (bV false))] (fun x14 => ?_)
 refine reg_lit ?_
 refine wq_p 3 [(42, (aV ([(sV (⟨#[97, 110, 110]⟩)), (D 7), (D 1000), (lV A12 16 c12)]).toArray)), (41, (lV A12 16 c12)), (40, (pt kb5 0))] ?_
 obtain ⟨Kf, hKf⟩ := ex_key 3
 obtain ⟨b1, hp1⟩ := pack_inside (f := 5) (K := Kf) (s := ⟨#[97, 110, 110]⟩) (a := 110) (u := min 1000 (110 + 60)) (r := 110 + 300) (rightM_is right_ann (by decide)) (by decide)
 obtain ⟨b2, hp2⟩ := pack_reply (f := 5) (K := Kf) (n := 7) (s := ⟨#[107, 100, 99]⟩) (a := 110) (u := min 1000 (110 + 60)) (r := 110 + 300) (rightM_is right_kdc (by decide)) (by decide)
 refine wT 43 (x_asY (s2 := (((s12.add SFrom.fresh).seal (kl K5) 2 b1).seal (kl K8) 3 b2)) (nm := ⟨#[97, 110, 110]⟩) (m1 := mkB 98 (s12.boxes.length + 1)) (m2 := mkB 98 (s12.boxes.length + 2)) h12 0 rfl [(pt kb5 0), (D 110), (aV ([(sV (⟨#[97, 110, 110]⟩)), (D 7), (D 1000), (lV A12 16 c12)]).toArray)] (by kernel_rfl) (as_ok_r (pre := mkB 98 1) (h12.at_ 0 rfl) (h12.at_ 3 rfl) (h12.dis 0 3 _ _ rfl rfl (by decide)) (ht12.room 9 (by first | decide | simp | omega) (by first | decide | simp | omega)) (h12.at_ 2 rfl) (fun hq => h12.dis 0 2 _ _ rfl rfl (by decide) _ hq rfl) (h12.at_ 1 rfl) (h12.dis 1 0 _ _ rfl rfl (by decide)) (by simp) (u := (User.mk (⟨#[97, 110, 110]⟩) K8 60 300 true)) (place_self rfl).1 (place_self rfl).2 (t := 100) (q := 0) (ht12.opn (i := 0) rfl hp0 (by decide)) rfl (by decide) (by decide) (by simp) (by simp) (show (3 : Nat) <= 1000 from by decide) Kf (hKf.trans (by rw [ht12.keys])) hp1 hp2)) ?_
 rintro _ w15 ⟨A15, c15, B15, d15, F15, s15, rfl, hs15, h15⟩
 have hbn15 : s12.boxes.length = 1 := by rw [ht12.boxes]; rfl
 rw [hbn15] at h15
 have ht15 : TS s15 3 [⟨kl K8, 1, b0⟩, ⟨kl K5, 2, b1⟩, ⟨kl K8, 3, b2⟩] [(textF (⟨#[112, 119]⟩) (⟨#[97, 110, 110]⟩), 2)] := ((ht12.add rfl).seal rfl (pack_le6 hp1)).seal hs15 (pack_le6 hp2)
 refine wq_p 3 [(45, O), (44, (aV ([(sV (⟨#[97, 110, 110]⟩)), (sV (⟨#[107, 100, 99]⟩)), (lV A15 16 c15), (lV B15 16 d15)]).toArray)), (39, (Value.tuple #[(aV ([(sV (⟨#[97, 110, 110]⟩)), (sV (⟨#[107, 100, 99]⟩)), (lV A15 16 c15), (lV B15 16 d15)]).toArray), O]))] ?_
 refine wT 5 (xN h15 41 ([(sV ByteArray.empty), (sV ByteArray.empty), (lV none 0 0), (lV none 0 0)])) ?_
 rintro _ w16 ⟨g16, rfl, h16⟩
 refine wq_to none (xSs h16 0 41 (.tmp 5) (.tmp 44) 0 ([(sV (⟨#[97, 110, 110]⟩)), (sV (⟨#[107, 100, 99]⟩)), (lV A15 16 c15), (lV B15 16 d15)]) ([(sV (⟨#[97, 110, 110]⟩)), (sV (⟨#[107, 100, 99]⟩)), (lV A15 16 c15), (lV B15 16 d15)])) ?_
 rintro _ w17 h17
 refine wq_p 1 [(6, O)] ?_
 refine wE hK13 (wR fun K18 hK18 => ?_)
 refine wq_p 3 [(49, (aV ([(sV (⟨#[98, 111, 98]⟩)), (D 7), (D 1000), (lV A12 16 c12)]).toArray)), (48, (lV A12 16 c12)), (47, (pt kb5 0))] ?_
 refine wT 50 (x_asN (s2 := s15) (v := .tuple #[(aV ([(sV ByteArray.empty), (sV ByteArray.empty), (lV none 0 0), (lV none 0 0)]).toArray), .int .i64 9]) h17 1 rfl [(pt kb5 0), (D 110), (aV ([(sV (⟨#[98, 111, 98]⟩)), (D 7), (D 1000), (lV A12 16 c12)]).toArray)] (by kernel_rfl) (as_none (pre := mkB 98 1) (h17.at_ 1 rfl) (h17.at_ 6 rfl) (h17.dis 1 6 _ _ rfl rfl (by decide)) (h17.at_ 5 rfl) (fun hq => h17.dis 1 5 _ _ rfl rfl (by decide) _ hq rfl) (h17.at_ 4 rfl) (h17.dis 4 1 _ _ rfl rfl (by decide)) (by simp) (place_other (show (⟨#[97, 110, 110]⟩ : ByteArray) ≠ ⟨#[98, 111, 98]⟩ from by decide)))) ?_
 rintro _ w19 ⟨F19, s19, rfl, hs19, h19⟩
 have ht19 : TS s19 3 [⟨kl K8, 1, b0⟩, ⟨kl K5, 2, b1⟩, ⟨kl K8, 3, b2⟩] [(textF (⟨#[112, 119]⟩) (⟨#[97, 110, 110]⟩), 2)] := hs19 ▸ ht15
 refine wq_p 3 [(52, (D 9)), (51, (aV ([(sV ByteArray.empty), (sV ByteArray.empty), (lV none 0 0), (lV none 0 0)]).toArray)), (46, (Value.tuple #[(aV ([(sV ByteArray.empty), (sV ByteArray.empty), (lV none 0 0), (lV none 0 0)]).toArray), (D 9)]))] ?_
 refine wT 7 (xN h19 41 ([(sV ByteArray.empty), (sV ByteArray.empty), (lV none 0 0), (lV none 0 0)])) ?_
 rintro _ w20 ⟨g20, rfl, h20⟩
 refine wq_to none (xSs h20 0 41 (.tmp 7) (.tmp 51) 0 ([(sV ByteArray.empty), (sV ByteArray.empty), (lV none 0 0), (lV none 0 0)]) ([(sV ByteArray.empty), (sV ByteArray.empty), (lV none 0 0), (lV none 0 0)])) ?_
 rintro _ w21 h21
 refine wq_p 1 [(8, (D 9))] ?_
 refine wE hK18 (wp_seq_k fun K22 hK22 => ?_)
 refine pR_go h21 12 (fun W => (rBlk g16 41 ([(sV (⟨#[97, 110, 110]⟩)), (sV (⟨#[107, 100, 99]⟩)), (lV A15 16 c15), (lV B15 16 d15)])).Φ W /\ True) [(55, [1], 0), (56, [54], 1), (57, [1], 0), (58, [56], 4), (59, [5], 0), (60, [58], 16), (61, [55, 57, 59], 42), (54, [60], 64), (62, [53], 128), (63, [53], 128), (10, [], 0), (0, [9, 61], 1535), (11, [62], 4095)] rfl (fun _ d _ _ _ h => by cases d <;> exact h) ?_
 intro hs23 w23 h23
 refine pR_p 9 [0, 1, 2, 4] [(58, (pt g16 3)), (56, (pt tb3 0)), (55, (Value.iface 24 (pt tb3 0))), (54, (pt tb3 0))] 23 hs23 ⟨h23.at_ 2 rfl, trivial⟩ ?_
 refine pR_v 5 (some 59) (lV B15 16 d15) 55 rfl hs23 ⟨h23.at_ 2 rfl, trivial⟩ (fun W hW => eL hW.1 22 (.tmp 58) 3 _) ?_
 refine pR_or 3 10 hs23 ?_ ?_
 ·
  refine pR_op 3 (some 57) 63 rfl (x_text h23 1 rfl (⟨#[112, 119]⟩) (⟨#[97, 110, 110]⟩) (by kernel_rfl) (by first | decide | omega) (by first | decide | omega) (by rw [ht19.keys]; decide)) ?_
  rintro _ w24 ⟨K24, F24, s24, rfl, hK24, hs24, h24⟩
  refine ⟨fun _ => ⟨h24.at_ 2 rfl, trivial⟩, ?_⟩
  have hq24 := ht19.made_old (m := 2) hs24 (by simp)
  have ht24 : TS s24 3 [⟨kl K8, 1, b0⟩, ⟨kl K5, 2, b1⟩, ⟨kl K8, 3, b2⟩] [(textF (⟨#[112, 119]⟩) (⟨#[97, 110, 110]⟩), 2)] := hq24.1
  rw [hq24.2] at hK24
  obtain rfl : K8 = K24 := kl_inj (hK8.trans hK24.symm)
  refine pR_or 6 10 hs23 ?_ ?_
  ·
   refine pR_op 6 (some 60) 127 rfl (x_oReply h24 1 rfl K8 3 (by kernel_rfl) ((ht24.room 9 (by first | decide | simp | omega) (by first | decide | simp | omega)).ok) (h24.at_ 4 rfl) (r := (.inr (.reply 5 Kf 7 ⟨#[107, 100, 99]⟩ 110 (min 1000 (110 + 60)) (110 + 300)))) (ht24.opn (i := 2) rfl hp2 (by decide))) ?_
   rintro _ w25 ⟨rfl, h25⟩
   refine ⟨fun _ => ⟨h25.at_ 2 rfl, trivial⟩, ?_⟩
   refine pR_p 3 [7, 8, 9] [(62, O), (61, (aV ([(D 5)] ++ vb (kl Kf) ++ [(D 7), (sV (⟨#[107, 100, 99]⟩)), (D 110), (D 170), (D 410)]).toArray)), (53, (Value.tuple #[(aV ([(D 5)] ++ vb (kl Kf) ++ [(D 7), (sV (⟨#[107, 100, 99]⟩)), (D 110), (D 170), (D 410)]).toArray), O]))] 1023 hs23 ⟨h25.at_ 2 rfl, trivial⟩ ?_
   refine pR_to 10 (some 9) 2047 rfl hs23 (xN h25 60 ([O] ++ vb (List.replicate 16 0) ++ [O, (sV ByteArray.empty), O, O, O])) ?_
   rintro _ w26 ⟨g26, rfl, h26⟩
   refine ⟨fun _ => ⟨h26.at_ 3 rfl, trivial⟩, ?_⟩
   refine pR_to 11 none 4095 rfl hs23 (xSs h26 0 60 (.tmp 9) (.tmp 61) 0 ([(D 5)] ++ vb (kl Kf) ++ [(D 7), (sV (⟨#[107, 100, 99]⟩)), (D 110), (D 170), (D 410)]) ([(D 5)] ++ vb (kl Kf) ++ [(D 7), (sV (⟨#[107, 100, 99]⟩)), (D 110), (D 170), (D 410)])) ?_
   rintro _ w27 h27
   refine ⟨fun _ => ⟨h27.at_ 3 rfl, trivial⟩, ?_⟩
   refine pR_to 12 (some 10) 8191 rfl hs23 (OpTo.run O (pureOp_run (by kernel_rfl) _) (R := fun v w => v = O /\ w27 = w) ⟨rfl, rfl⟩) ?_
   rintro _ _ ⟨rfl, rfl⟩
   refine ⟨fun h => absurd h (by decide), ?_⟩
   refine pR_done hs23 ?_ _
   refine seq_n hK22 (wR fun K28 hK28 => ?_)
   refine wq_p 12 [(74, (pt g16 0)), (73, (bV true)), (72, (bV true)), (71, (bV true)), (70, O), (69, (bV true)), (68, (bV true)), (67, (bV true)), (66, (D 9)), (65, (bV true)), (64, (bV true)), (63, O)] (wV 75 (sV (⟨#[97, 110, 110]⟩)) (eL (h27.at_ 3 rfl) 9 (.tmp 74) 0 _) (wV 76 (bV true) (eqI (bV ((⟨#[97, 110, 110]⟩ : ByteArray).toList == (⟨#[97, 110, 110]⟩ : ByteArray).toList)) (by simp)) (wq_p 4 [(80, (pt g16 1)), (79, (pt g16 1)), (78, (bV true)), (77, (bV true))] ?_)))
   refine wV 81 (sV (⟨#[107, 100, 99]⟩)) (eL (h27.at_ 3 rfl) 9 (.tmp 80) 1 _) (wV 82 (bV true) (eqI (bV ((⟨#[107, 100, 99]⟩ : ByteArray).toList == (⟨#[107, 100, 99]⟩ : ByteArray).toList)) (by simp)) (wq_p 3 [(85, (pt g26 20)), (84, (bV true)), (83, (bV true))] (wV 86 (D 170) (eL (h27.at_ 0 rfl) 2 (.tmp 85) 20 _) ?_)))
   refine wq_p 4 [(90, (pt g26 21)), (89, (bV true)), (88, (bV true)), (87, (bV true))] (wV 91 (D 410) (eL (h27.at_ 0 rfl) 2 (.tmp 90) 21 _) (wq_p 4 [(95, (pt g26 17)), (94, (bV true)), (93, (bV true)), (92, (bV true))] (wV 96 (D 7) (eL (h27.at_ 0 rfl) 2 (.tmp 95) 17 _) ?_)))
   refine wq_p 4 [(100, (pt g26 0)), (99, (bV true)), (98, (bV true)), (97, (bV true))] (wV 101 (D 5) (eL (h27.at_ 0 rfl) 3 (.tmp 100) 0 _) (wq_p 3 [(0, (bV true)), (103, (bV true)), (102, (bV true))] ?_))
   refine wE hK28 (wp_ret ?_)
   refine post_1 rfl (by kernel_rfl) (rtm (bV true)) ?_
   exact ⟨rfl, h27.below0⟩
  ·
   refine pR_op 10 (some 9) 1087 rfl (xN h24 60 ([O] ++ vb (List.replicate 16 0) ++ [O, (sV ByteArray.empty), O, O, O])) ?_
   rintro _ w29 ⟨g29, rfl, h29⟩
   refine ⟨fun _ => ⟨h29.at_ 3 rfl, trivial⟩, ?_⟩
   refine pR_to 6 (some 60) 1151 rfl hs23 (x_oReply h29 2 rfl K8 3 (by kernel_rfl) ((ht24.room 9 (by first | decide | simp | omega) (by first | decide | simp | omega)).ok) (h29.at_ 5 rfl) (r := (.inr (.reply 5 Kf 7 ⟨#[107, 100, 99]⟩ 110 (min 1000 (110 + 60)) (110 + 300)))) (ht24.opn (i := 2) rfl hp2 (by decide))) ?_
   rintro _ w30 ⟨rfl, h30⟩
   refine ⟨fun _ => ⟨h30.at_ 3 rfl, trivial⟩, ?_⟩
   refine pR_p 2 [7, 8, 9] [(62, O), (61, (aV ([(D 5)] ++ vb (kl Kf) ++ [(D 7), (sV (⟨#[107, 100, 99]⟩)), (D 110), (D 170), (D 410)]).toArray)), (53, (Value.tuple #[(aV ([(D 5)] ++ vb (kl Kf) ++ [(D 7), (sV (⟨#[107, 100, 99]⟩)), (D 110), (D 170), (D 410)]).toArray), O]))] 2047 hs23 ⟨h30.at_ 3 rfl, trivial⟩ ?_
   refine pR_to 11 none 4095 rfl hs23 (xSs h30 0 60 (.tmp 9) (.tmp 61) 0 ([(D 5)] ++ vb (kl Kf) ++ [(D 7), (sV (⟨#[107, 100, 99]⟩)), (D 110), (D 170), (D 410)]) ([(D 5)] ++ vb (kl Kf) ++ [(D 7), (sV (⟨#[107, 100, 99]⟩)), (D 110), (D 170), (D 410)])) ?_
   rintro _ w31 h31
   refine ⟨fun _ => ⟨h31.at_ 3 rfl, trivial⟩, ?_⟩
   refine pR_to 12 (some 10) 8191 rfl hs23 (OpTo.run O (pureOp_run (by kernel_rfl) _) (R := fun v w => v = O /\ w31 = w) ⟨rfl, rfl⟩) ?_
   rintro _ _ ⟨rfl, rfl⟩
   refine ⟨fun h => absurd h (by decide), ?_⟩
   refine pR_done hs23 ?_ _
   refine seq_n hK22 (wR fun K32 hK32 => ?_)
   refine wq_p 12 [(74, (pt g16 0)), (73, (bV true)), (72, (bV true)), (71, (bV true)), (70, O), (69, (bV true)), (68, (bV true)), (67, (bV true)), (66, (D 9)), (65, (bV true)), (64, (bV true)), (63, O)] (wV 75 (sV (⟨#[97, 110, 110]⟩)) (eL (h31.at_ 3 rfl) 9 (.tmp 74) 0 _) (wV 76 (bV true) (eqI (bV ((⟨#[97, 110, 110]⟩ : ByteArray).toList == (⟨#[97, 110, 110]⟩ : ByteArray).toList)) (by simp)) (wq_p 4 [(80, (pt g16 1)), (79, (pt g16 1)), (78, (bV true)), (77, (bV true))] ?_)))
   refine wV 81 (sV (⟨#[107, 100, 99]⟩)) (eL (h31.at_ 3 rfl) 9 (.tmp 80) 1 _) (wV 82 (bV true) (eqI (bV ((⟨#[107, 100, 99]⟩ : ByteArray).toList == (⟨#[107, 100, 99]⟩ : ByteArray).toList)) (by simp)) (wq_p 3 [(85, (pt g29 20)), (84, (bV true)), (83, (bV true))] (wV 86 (D 170) (eL (h31.at_ 0 rfl) 2 (.tmp 85) 20 _) ?_)))
   refine wq_p 4 [(90, (pt g29 21)), (89, (bV true)), (88, (bV true)), (87, (bV true))] (wV 91 (D 410) (eL (h31.at_ 0 rfl) 2 (.tmp 90) 21 _) (wq_p 4 [(95, (pt g29 17)), (94, (bV true)), (93, (bV true)), (92, (bV true))] (wV 96 (D 7) (eL (h31.at_ 0 rfl) 2 (.tmp 95) 17 _) ?_)))
   refine wq_p 4 [(100, (pt g29 0)), (99, (bV true)), (98, (bV true)), (97, (bV true))] (wV 101 (D 5) (eL (h31.at_ 0 rfl) 3 (.tmp 100) 0 _) (wq_p 3 [(0, (bV true)), (103, (bV true)), (102, (bV true))] ?_))
   refine wE hK32 (wp_ret ?_)
   refine post_1 rfl (by kernel_rfl) (rtm (bV true)) ?_
   exact ⟨rfl, h31.below0⟩
 ·
  refine pR_op 10 (some 9) 1079 rfl (xN h23 60 ([O] ++ vb (List.replicate 16 0) ++ [O, (sV ByteArray.empty), O, O, O])) ?_
  rintro _ w33 ⟨g33, rfl, h33⟩
  refine ⟨fun _ => ⟨h33.at_ 3 rfl, trivial⟩, ?_⟩
  refine pR_to 3 (some 57) 1087 rfl hs23 (x_text h33 2 rfl (⟨#[112, 119]⟩) (⟨#[97, 110, 110]⟩) (by kernel_rfl) (by first | decide | omega) (by first | decide | omega) (by rw [ht19.keys]; decide)) ?_
  rintro _ w34 ⟨K34, F34, s34, rfl, hK34, hs34, h34⟩
  refine ⟨fun _ => ⟨h34.at_ 3 rfl, trivial⟩, ?_⟩
  have hq34 := ht19.made_old (m := 2) hs34 (by simp)
  have ht34 : TS s34 3 [⟨kl K8, 1, b0⟩, ⟨kl K5, 2, b1⟩, ⟨kl K8, 3, b2⟩] [(textF (⟨#[112, 119]⟩) (⟨#[97, 110, 110]⟩), 2)] := hq34.1
  rw [hq34.2] at hK34
  obtain rfl : K8 = K34 := kl_inj (hK8.trans hK34.symm)
  refine pR_to 6 (some 60) 1151 rfl hs23 (x_oReply h34 2 rfl K8 3 (by kernel_rfl) ((ht34.room 9 (by first | decide | simp | omega) (by first | decide | simp | omega)).ok) (h34.at_ 5 rfl) (r := (.inr (.reply 5 Kf 7 ⟨#[107, 100, 99]⟩ 110 (min 1000 (110 + 60)) (110 + 300)))) (ht34.opn (i := 2) rfl hp2 (by decide))) ?_
  rintro _ w35 ⟨rfl, h35⟩
  refine ⟨fun _ => ⟨h35.at_ 3 rfl, trivial⟩, ?_⟩
  refine pR_p 2 [7, 8, 9] [(62, O), (61, (aV ([(D 5)] ++ vb (kl Kf) ++ [(D 7), (sV (⟨#[107, 100, 99]⟩)), (D 110), (D 170), (D 410)]).toArray)), (53, (Value.tuple #[(aV ([(D 5)] ++ vb (kl Kf) ++ [(D 7), (sV (⟨#[107, 100, 99]⟩)), (D 110), (D 170), (D 410)]).toArray), O]))] 2047 hs23 ⟨h35.at_ 3 rfl, trivial⟩ ?_
  refine pR_to 11 none 4095 rfl hs23 (xSs h35 0 60 (.tmp 9) (.tmp 61) 0 ([(D 5)] ++ vb (kl Kf) ++ [(D 7), (sV (⟨#[107, 100, 99]⟩)), (D 110), (D 170), (D 410)]) ([(D 5)] ++ vb (kl Kf) ++ [(D 7), (sV (⟨#[107, 100, 99]⟩)), (D 110), (D 170), (D 410)])) ?_
  rintro _ w36 h36
  refine ⟨fun _ => ⟨h36.at_ 3 rfl, trivial⟩, ?_⟩
  refine pR_to 12 (some 10) 8191 rfl hs23 (OpTo.run O (pureOp_run (by kernel_rfl) _) (R := fun v w => v = O /\ w36 = w) ⟨rfl, rfl⟩) ?_
  rintro _ _ ⟨rfl, rfl⟩
  refine ⟨fun h => absurd h (by decide), ?_⟩
  refine pR_done hs23 ?_ _
  refine seq_n hK22 (wR fun K37 hK37 => ?_)
  refine wq_p 12 [(74, (pt g16 0)), (73, (bV true)), (72, (bV true)), (71, (bV true)), (70, O), (69, (bV true)), (68, (bV true)), (67, (bV true)), (66, (D 9)), (65, (bV true)), (64, (bV true)), (63, O)] (wV 75 (sV (⟨#[97, 110, 110]⟩)) (eL (h36.at_ 3 rfl) 9 (.tmp 74) 0 _) (wV 76 (bV true) (eqI (bV ((⟨#[97, 110, 110]⟩ : ByteArray).toList == (⟨#[97, 110, 110]⟩ : ByteArray).toList)) (by simp)) (wq_p 4 [(80, (pt g16 1)), (79, (pt g16 1)), (78, (bV true)), (77, (bV true))] ?_)))
  refine wV 81 (sV (⟨#[107, 100, 99]⟩)) (eL (h36.at_ 3 rfl) 9 (.tmp 80) 1 _) (wV 82 (bV true) (eqI (bV ((⟨#[107, 100, 99]⟩ : ByteArray).toList == (⟨#[107, 100, 99]⟩ : ByteArray).toList)) (by simp)) (wq_p 3 [(85, (pt g33 20)), (84, (bV true)), (83, (bV true))] (wV 86 (D 170) (eL (h36.at_ 0 rfl) 2 (.tmp 85) 20 _) ?_)))
  refine wq_p 4 [(90, (pt g33 21)), (89, (bV true)), (88, (bV true)), (87, (bV true))] (wV 91 (D 410) (eL (h36.at_ 0 rfl) 2 (.tmp 90) 21 _) (wq_p 4 [(95, (pt g33 17)), (94, (bV true)), (93, (bV true)), (92, (bV true))] (wV 96 (D 7) (eL (h36.at_ 0 rfl) 2 (.tmp 95) 17 _) ?_)))
  refine wq_p 4 [(100, (pt g33 0)), (99, (bV true)), (98, (bV true)), (97, (bV true))] (wV 101 (D 5) (eL (h36.at_ 0 rfl) 3 (.tmp 100) 0 _) (wq_p 3 [(0, (bV true)), (103, (bV true)), (102, (bV true))] ?_))
  refine wE hK37 (wp_ret ?_)
  refine post_1 rfl (by kernel_rfl) (rtm (bV true)) ?_
  exact ⟨rfl, h36.below0⟩
end
section
open Go.RowKit Go.QT
end
section
open Go.RowKit Go.QT
theorem text_inj6 {a b c d : ByteArray} (ha : a.size <= 1000) (hc : c.size <= 1000) (h : textF a b = textF c d) : a = c /\ b = d := by
 have h1 : put8 a.size ++ a.data.toList ++ b.data.toList = put8 c.size ++ c.data.toList ++ d.data.toList := by
   have := congrArg (fun f => f.label.data.toList) h
   simpa [textF] using this
 rw [List.append_assoc, List.append_assoc] at h1
 obtain ⟨h2, h3⟩ := List.append_inj h1 rfl
 have h4 : a.size = c.size := by rw [← getN_put8 a.size (by omega), ← getN_put8 c.size (by omega), h2]
 have e : ∀ x : ByteArray, x.data.toList.length = x.size := fun x => by cases x; rfl
 obtain ⟨h5, h6⟩ := List.append_inj h3 (by rw [e, e, h4])
 have f : ∀ x y : ByteArray, x.data.toList = y.data.toList -> x = y := fun x y hxy => by
   cases x; cases y; simp only [ByteArray.mk.injEq]; exact Array.toList_inj.1 hxy
 exact ⟨f _ _ h5, f _ _ h6⟩
theorem str_dec6 (b b' : ByteArray) : (b.toList == b'.toList) = decide (b = b') := by
 rw [ByteArray.toList_eq, ByteArray.toList_eq, Bool.eq_iff_iff, beq_iff_eq, decide_eq_true_eq]
 constructor
 · intro h; cases b; cases b'; simp only [ByteArray.mk.injEq]; exact Array.ext' h
 · rintro rfl; rfl
theorem str_eqF {a b : ByteArray} (h : a ≠ b) : Value.bool (a.toList == b.toList) = Value.bool false := by rw [str_dec6, decide_eq_false h]
theorem str_eqT {a b : ByteArray} (h : a = b) : Value.bool (a.toList == b.toList) = Value.bool true := by rw [str_dec6, decide_eq_true h]
end
section
open Go.RowKit Go.QT
theorem undNm : Try.prog.underlying 67 = some (.map 32 3) := by kernel_rfl
theorem undN16 : Try.prog.underlying 32 = some (.array 16 5) := by kernel_rfl
theorem zintN (W : World) : (zeroValue 3).run Try.prog W = .ok (.int .i64 0) W := by kernel_rfl
theorem sameNow_arrN (n : Nat) (e : TypeId) (a b : Value) : Instr.sameNow (.array n e) a b = none := by
 unfold Instr.sameNow; rfl
def entN (ks : List Bytes) : List (Value × Value) := ks.map fun k => (Value.agg (vb k).toArray, Value.int .i64 1)
theorem run_find_keyN (f : Bytes) (hf : f.length = 16) (w : World) : ∀ (es : List MapEntry) (ks : List Bytes) (i : Nat), es.map (fun e => (e.key, e.val)) = entN ks -> (∀ k ∈ ks, k.length = 16) ->
   (Instr.findAsking 32 (.agg (vb f).toArray) es i).run Try.prog w = .ok ((ks.findIdx? fun k => decide (k = f)).map fun j => (i + j, Value.int .i64 1)) w
 | [], ks, i, h, _ => by
   have : ks = [] := by simpa [entN] using h.symm
   subst this
   simp [Instr.findAsking]
 | e :: es, [], i, h, _ => by simp [entN] at h
 | e :: es, g :: ks, i, h, hl => by
   simp only [entN, List.map_cons, List.cons.injEq, Prod.mk.injEq] at h
   have hg := hl g (by simp)
   have ih := run_find_keyN f hf w es ks (i + 1) h.2 (fun p hp => hl p (by simp [hp]))
   have he : (Op.equal 32 (.agg (vb f).toArray) (.agg (vb g).toArray)).run Try.prog w = .ok (decide (f = g)) w := run_equalIn16 9998 32 f g w undN16 hf hg
   rw [← h.1.1] at he
   have hc : decide (g = f) = decide (f = g) := by rw [Bool.eq_iff_iff]; simp [eq_comm]
   simp only [Instr.findAsking, Sem.run_bind, he, Result.andThen_ok, List.findIdx?_cons, hc]
   by_cases hfg : f = g
   · simp [hfg, h.1.2]
   · simp only [decide_eq_false hfg, Bool.false_eq_true, if_false, ih]
     congr 1
     cases hq : ks.findIdx? fun p => decide (p = f) with
     | none => simp
     | some j => simp [Nat.add_assoc, Nat.add_comm 1 j]
/-- Where a key stands. -/
theorem run_findKeyN (f : Bytes) (hf : f.length = 16) (w : World) (es : Array MapEntry) (ks : List Bytes) (hme : es.toList.map (fun e => (e.key, e.val)) = entN ks) (hml : ∀ k ∈ ks, k.length = 16) :
   (Instr.findKey 32 (.agg (vb f).toArray) es.toList).run Try.prog w = .ok ((ks.findIdx? fun k => decide (k = f)).map fun j => (j, Value.int .i64 1)) w := by
 have hfa := run_find_keyN f hf w es.toList ks 0 hme hml
 simp only [Nat.zero_add] at hfa
 cases hes : es.toList with
 | nil =>
   rw [hes] at hme
   have : ks = [] := by simpa [entN] using hme.symm
   simp [Instr.findKey, Instr.findNow, run_underlying undN16, this]
 | cons e rest =>
   rw [hes] at hfa
   have hn : Instr.findNow (.array 16 5) (.agg (vb f).toArray) (e :: rest) 0 = none := by
     simp only [Instr.findNow, sameNow_arrN]
   simp only [Instr.findKey, Sem.run_bind, run_underlying undN16, Result.andThen_ok, hn, hfa]
theorem find_none {ks : List Bytes} {f : Bytes} (h : f ∉ ks) : (ks.findIdx? fun k => decide (k = f)) = none := by
 rw [List.findIdx?_eq_none_iff]
 intro x hx
 exact decide_eq_false (fun e => h (e ▸ hx))
/-- Entries as they come in: each younger than those ahead of it. -/
structure KnOk (es : Array MapEntry) (clock : Nat) (ks : List Bytes) : Prop where
 me : es.toList.map (fun e => (e.key, e.val)) = entN ks
 ml : ∀ k ∈ ks, k.length = 16
 lt : ∀ e ∈ es.toList, e.born < clock
def rNM (mb : Nat) (ks : List Bytes) : Res where
 F := fun q => q = mb
 Φ := fun w => ∃ es clock, w.heap[mb]? = some (.map es clock) /\ KnOk es clock ks
 lt := fun h q hq => by
   obtain ⟨es, clock, hm, _⟩ := h
   subst hq
   exact (Array.getElem?_eq_some_iff.1 hm).1
 keep := fun h _ hk => by
   obtain ⟨es, clock, hm, ho⟩ := h
   exact ⟨es, clock, (hk mb rfl).trans hm, ho⟩
/-- .. with an entry that is made and not yet filled. -/
def rNE (mb : Nat) (ks : List Bytes) (f : Bytes) (clock : Nat) : Res where
 F := fun q => q = mb
 Φ := fun w => ∃ es, w.heap[mb]? = some (.map (es.push { key := .agg (vb f).toArray, val := .int .i64 0, born := clock }) (clock + 1)) /\ KnOk es clock ks /\ f.length = 16
 lt := fun h q hq => by
   obtain ⟨es, hm, _⟩ := h
   subst hq
   exact (Array.getElem?_eq_some_iff.1 hm).1
 keep := fun h _ hk => by
   obtain ⟨es, hm, ho⟩ := h
   exact ⟨es, (hk mb rfl).trans hm, ho⟩
section
variable {F0 : Nat -> Prop} {w0 w w' : World} {ro rs : List Res} {mb : Nat} {ks : List Bytes} {o : Oper} {a : Act}
theorem fr_map (ob : Obj) : Fr (fun q => q = mb) w { w with heap := w.heap.setIfInBounds mb ob } :=
 ⟨rfl, rfl, rfl, by simp, fun q _ hq => by
   have : mb ≠ q := fun e => hq e.symm
   simp [this]⟩
theorem run_find_lastN (f : Bytes) (hf : f.length = 16) (w : World) (e0 : MapEntry) (hk0 : e0.key = .agg (vb f).toArray) : ∀ (es : List MapEntry) (ks : List Bytes) (i : Nat), es.map (fun e => (e.key, e.val)) = entN ks -> (∀ k ∈ ks, k.length = 16) -> f ∉ ks ->
   (Instr.findAsking 32 (.agg (vb f).toArray) (es ++ [e0]) i).run Try.prog w = .ok (some (i + ks.length, e0.val)) w
 | [], ks, i, h, _, _ => by
   have : ks = [] := by simpa [entN] using h.symm
   subst this
   have he : (Op.equal 32 (.agg (vb f).toArray) (.agg (vb f).toArray)).run Try.prog w = .ok (decide (f = f)) w := run_equalIn16 9998 32 f f w undN16 hf hf
   simp only [List.nil_append, Instr.findAsking, hk0, Sem.run_bind, he, Result.andThen_ok]
   simp
 | e :: es, [], i, h, _, _ => by simp [entN] at h
 | e :: es, g :: ks, i, h, hl, hn => by
   simp only [entN, List.map_cons, List.cons.injEq, Prod.mk.injEq] at h
   have hg := hl g (by simp)
   have ih := run_find_lastN f hf w e0 hk0 es ks (i + 1) h.2 (fun p hp => hl p (by simp [hp])) (fun hh => hn (by simp [hh]))
   have he : (Op.equal 32 (.agg (vb f).toArray) (.agg (vb g).toArray)).run Try.prog w = .ok (decide (f = g)) w := run_equalIn16 9998 32 f g w undN16 hf hg
   rw [← h.1.1] at he
   have hfg : f ≠ g := fun e => hn (by simp [e])
   simp only [List.cons_append, Instr.findAsking, Sem.run_bind, he, Result.andThen_ok, decide_eq_false hfg, Bool.false_eq_true, if_false, ih, List.length_cons]
   rw [show i + 1 + ks.length = i + (ks.length + 1) from by omega]
/-- A key that is not there, or that is and holds 0. -/
structure ZP where
 Φ : World -> Prop
def rZ (mb : Nat) (f : Bytes) : ZP := ⟨fun w => (Instr.lookup 67 (.map (some mb)) (.agg (vb f).toArray) false).run Try.prog w = .ok (.int .i64 0) w⟩
theorem nm_z (h : (rNM mb ks).Φ w) (f : Bytes) (hf : f.length = 16) (hn : f ∉ ks) : (rZ mb f).Φ w := by
 obtain ⟨es, clock, hm, hk⟩ := h
 have hkey := run_findKeyN f hf w es ks hk.me hk.ml
 rw [find_none hn] at hkey
 have hobj : (getObj mb).run Try.prog w = .ok (.map es clock) w := by simp [getObj, Sem.run, hm]
 show (Instr.lookup 67 (.map (some mb)) (.agg (vb f).toArray) false).run Try.prog w = _
 simp only [Instr.lookup, Sem.run_bind, run_underlying undNm, Result.andThen_ok, hobj, Sem.run_pure, check_key _ 9998 f hf, hkey, Option.map_none, zintN]
 rfl
theorem ne_z {f : Bytes} {clock : Nat} (h : (rNE mb ks f clock).Φ w) (hn : f ∉ ks) : (rZ mb f).Φ w := by
 obtain ⟨es, hm, hk, hf⟩ := h
 have hkey : (Instr.findKey 32 (.agg (vb f).toArray) (es.push { key := .agg (vb f).toArray, val := .int .i64 0, born := clock }).toList).run Try.prog w = .ok (some (ks.length, .int .i64 0)) w := by
   have h1 := run_find_lastN f hf w { key := .agg (vb f).toArray, val := .int .i64 0, born := clock } rfl es.toList ks 0 hk.me hk.ml hn
   rw [Nat.zero_add] at h1
   obtain ⟨x, y, hxy⟩ : ∃ x y, es.toList ++ [({ key := .agg (vb f).toArray, val := .int .i64 0, born := clock } : MapEntry)] = x :: y := by
     cases hl : es.toList with
     | nil => exact ⟨_, _, rfl⟩
     | cons x y => exact ⟨_, _, rfl⟩
   rw [Array.toList_push, hxy]
   rw [hxy] at h1
   have hn : Instr.findNow (.array 16 5) (.agg (vb f).toArray) (x :: y) 0 = none := by
     simp only [Instr.findNow, sameNow_arrN]
   simp only [Instr.findKey, Sem.run_bind, run_underlying undN16, Result.andThen_ok, hn, h1]
 have hobj : (getObj mb).run Try.prog w = .ok (.map (es.push { key := .agg (vb f).toArray, val := .int .i64 0, born := clock }) (clock + 1)) w := by simp [getObj, Sem.run, hm]
 show (Instr.lookup 67 (.map (some mb)) (.agg (vb f).toArray) false).run Try.prog w = _
 simp only [Instr.lookup, Sem.run_bind, run_underlying undNm, Result.andThen_ok, hobj, Sem.run_pure, check_key _ 9998 f hf, hkey]
 rfl
theorem e_lookZ {f : Bytes} (hF : (rZ mb f).Φ w) (x y : Operand) (ho : o.op = .lookup 67 x y false) (hx : a.eval x = .map (some mb)) (hy : a.eval y = .agg (vb f).toArray) :
   (execOp a.eval o).run Try.prog w = .ok (.value (.int .i64 0)) w := by
 have hF' : (Instr.lookup 67 (.map (some mb)) (.agg (vb f).toArray) false).run Try.prog w = .ok (.int .i64 0) w := hF
 unfold execOp
 simp only [ho, hx, hy, Sem.run_bind, hF', Result.andThen_ok, Sem.run_pure]
theorem x_entN (h : Hp F0 w0 w ro rs) (i : Nat) (hi : rs[i]? = some (rNM mb ks)) (f : Bytes) (hf : f.length = 16) (hn : f ∉ ks) (x y : Operand) (ho : o.op = .mapEntry 67 x y) (hx : a.eval x = .map (some mb)) (hy : a.eval y = .agg (vb f).toArray) :
   OpTo Try.prog o a w (fun u w' => ∃ clock : Nat, u = .tuple #[.int .i64 0, .int .i64 (clock : Int)] /\ Hp F0 w0 w' ro (rs.set i (rNE mb ks f clock))) := by
 obtain ⟨es, clock, hm, hk⟩ := h.own i _ hi
 have hlt : mb < w.heap.size := (Array.getElem?_eq_some_iff.1 hm).1
 have hkey := run_findKeyN f hf w es ks hk.me hk.ml
 rw [find_none hn] at hkey
 have hobj : (getObj mb).run Try.prog w = .ok (.map es clock) w := by simp [getObj, Sem.run, hm]
 refine OpTo.run (.tuple #[.int .i64 0, .int .i64 (clock : Int)]) (w' := { w with heap := w.heap.setIfInBounds mb (.map (es.push { key := .agg (vb f).toArray, val := .int .i64 0, born := clock }) (clock + 1)) }) ?_ ⟨clock, rfl, h.upd i hi (fr_map _) (rNE mb ks f clock) ⟨es, by simp [hlt], hk, hf⟩ (fun q hq => .inl hq)⟩
 unfold execOp
 simp only [ho, hx, hy, Instr.mapEntry, Sem.run_bind, run_underlying undNm, Result.andThen_ok, hobj, Sem.run_pure, check_key _ 9998 f hf, hkey, Option.map_none, zintN]
 simp [setObj, Sem.run, hm, goInt]
theorem x_entS {f : Bytes} {clock : Nat} (h : Hp F0 w0 w ro rs) (i : Nat) (hi : rs[i]? = some (rNE mb ks f clock)) (x y z : Operand) (ho : o.op = .entryStore 67 x y z) (hx : a.eval x = .map (some mb)) (hy : a.eval y = .int .i64 (clock : Int)) (hz : a.eval z = .int .i64 1) :
   OpTo Try.prog o a w (fun _ w' => Hp F0 w0 w' ro (rs.set i (rNM mb (ks ++ [f])))) := by
 obtain ⟨es, hm, hk, hf⟩ := h.own i _ hi
 have hlt : mb < w.heap.size := (Array.getElem?_eq_some_iff.1 hm).1
 have hobj : (getObj mb).run Try.prog w = .ok (.map (es.push { key := .agg (vb f).toArray, val := .int .i64 0, born := clock }) (clock + 1)) w := by simp [getObj, Sem.run, hm]
 have hi2 : (es.push { key := .agg (vb f).toArray, val := .int .i64 0, born := clock }).findIdx? (fun e => (e.born : Int) == (clock : Int)) = some es.size := by
   rw [Array.findIdx?_push]
   have : es.findIdx? (fun e => (e.born : Int) == (clock : Int)) = none := by
     rw [Array.findIdx?_eq_none_iff]
     intro e he
     have := hk.lt e (Array.mem_toList_iff.2 he)
     rw [beq_eq_false_iff_ne]; omega
   rw [this]; simp
 have hmod : (es.push { key := .agg (vb f).toArray, val := .int .i64 0, born := clock }).modify es.size (fun e => { e with val := .int .i64 1 }) = es.push { key := .agg (vb f).toArray, val := .int .i64 1, born := clock } := by
   apply Array.ext_getElem?
   intro j
   rw [Array.getElem?_modify, Array.getElem?_push, Array.getElem?_push]
   by_cases e : es.size = j
   · subst e; simp
   · rw [if_neg e, if_neg (fun hh => e hh.symm), if_neg (fun hh => e hh.symm)]
 refine OpTo.runs (w' := { w with heap := w.heap.setIfInBounds mb (.map (es.push { key := .agg (vb f).toArray, val := .int .i64 1, born := clock }) (clock + 1)) }) ?_ (h.upd i hi (fr_map _) (rNM mb (ks ++ [f])) ⟨es.push { key := .agg (vb f).toArray, val := .int .i64 1, born := clock }, clock + 1, by simp [hlt], ⟨?_, ?_, ?_⟩⟩ (fun q hq => .inl hq))
 · unfold execOp
   simp only [ho, hx, hy, hz, Instr.entryStore, Sem.run_bind, Result.andThen_ok, hobj, asInt, asIntOf, Sem.run_pure, hi2, hmod]
   simp [setObj, Sem.run, hm]
 · rw [Array.toList_push, List.map_append, hk.me]; simp [entN]
 · intro k hk'
   rcases List.mem_append.1 hk' with hk' | hk'
   · exact hk.ml k hk'
   · rw [List.mem_singleton.1 hk']; exact hf
 · intro e he
   rw [Array.toList_push] at he
   rcases List.mem_append.1 he with he | he
   · exact Nat.lt_succ_of_lt (hk.lt e he)
   · rw [List.mem_singleton.1 he]; exact Nat.lt_succ_self _
theorem x_makeN (h : Hp F0 w0 w ro rs) (ho : o.op = .makeMap 67 none) :
   OpTo Try.prog o a w (fun v w' => ∃ mb, v = .map (some mb) /\ Hp F0 w0 w' ro (rNM mb [] :: rs)) := by
 refine OpTo.run (.map (some w.heap.size)) (w' := w.alloc (.map #[] 0)) ?_ ⟨_, rfl, h.newS ((Below.refl _ _).alloc (Nat.le_refl _) _) (rNM w.heap.size []) ⟨#[], 0, heap_alloc_new w _, ⟨rfl, by simp, by simp⟩⟩ (fun q hq => by rw [show q = _ from hq]; exact Nat.le_refl _)⟩
 have h1 : (Instr.makeMap 67 none).run Try.prog w = .ok (.map (some w.heap.size)) (w.alloc (.map #[] 0)) := rfl
 unfold execOp
 simp only [ho, Option.map_none, Sem.run_bind, h1, Result.andThen_ok, Sem.run_pure]
end
end
section
open Go.RowKit Go.QT
theorem app1 {α : Type} {l : List α} {n : Nat} (h : l.length = n) {a : α} : (l ++ [a])[n]? = some a := by
 rw [List.getElem?_append_right (by omega), h, Nat.sub_self]; rfl
theorem app3_1 {α : Type} {l : List α} {n : Nat} (h : l.length = n) {a b c : α} : (((l ++ [a]) ++ [b]) ++ [c])[n + 1]? = some b := by
 rw [List.getElem?_append_left (by simp; omega)]; exact app1 (by simp [h])
theorem app3_2 {α : Type} {l : List α} {n : Nat} (h : l.length = n) {a b c : α} : (((l ++ [a]) ++ [b]) ++ [c])[n + 1 + 1]? = some c := app1 (by simp [h])
theorem near_self {i : Nat} (h : i <= 15) : nearF (i : Int) (i : Int) = true := by
 unfold nearF; rw [decide_eq_true_eq]; omega
structure KnO (kn : List (SFrom × Nat)) (n : Nat) (pw other nm : ByteArray) : Prop where
 mine : kn.find? (fun p => decide (p.1 = textF pw nm)) = some (textF pw nm, 2)
 oth : other ≠ pw -> ∀ p ∈ kn, p.1 = textF other nm -> p.2 ≠ 2
 le : ∀ p ∈ kn, p.2 <= n
 ge : 2 <= n
theorem KnO.init {pw other nm : ByteArray} (h1 : pw.size <= 1000) (h2 : other.size <= 1000) : KnO [(textF pw nm, 2)] 2 pw other nm where
 mine := by simp
 oth := fun hne p hp e => by
   rw [List.mem_singleton.1 hp] at e
   exact absurd (text_inj6 h1 h2 e).1 (Ne.symm hne)
 le := fun p hp => by rw [List.mem_singleton.1 hp]; exact Nat.le_refl 2
 ge := Nat.le_refl 2
theorem made_oth {s : STab} {n : Nat} {bx : List SSealed} {kn : List (SFrom × Nat)} {pw other nm : ByteArray} (h : TS s n bx kn) (hk : KnO kn n pw other nm) :
   ∃ n' kn', TS (s.made (textF other nm)) n' bx kn' /\ KnO kn' n' pw other nm /\ n <= n' /\ n' <= n + 1 /\ (other = pw -> s.num (textF other nm) = 2) /\ (other ≠ pw -> s.num (textF other nm) ≠ 2) /\ s.num (textF other nm) <= n' := by
 have hg := hk.ge
 by_cases e : other = pw
 · subst e
   have h2 := h.made_old (m := 2) rfl hk.mine
   exact ⟨n, kn, h2.1, hk, Nat.le_refl _, by omega, fun _ => h2.2, fun hh => absurd rfl hh, by rw [h2.2]; exact hg⟩
 · cases hf : kn.find? (fun p => decide (p.1 = textF other nm)) with
   | some q =>
     obtain ⟨f, m⟩ := q
     have hp := List.find?_some hf
     have hm := List.mem_of_find?_eq_some hf
     simp only [decide_eq_true_eq] at hp
     subst hp
     have h2 := h.made_old (m := m) rfl hf
     exact ⟨n, kn, h2.1, hk, Nat.le_refl _, by omega, fun hh => absurd hh e, fun hh => by rw [h2.2]; exact hk.oth hh _ hm rfl, by rw [h2.2]; exact hk.le _ hm⟩
   | none =>
     have hn : ∀ p ∈ kn, p.1 ≠ textF other nm := by
       intro p hp; simpa using (List.find?_eq_none.1 hf) p hp
     have h2 := h.made_new rfl hn
     refine ⟨n + 1, _, h2.1, ⟨?_, ?_, ?_, by omega⟩, by omega, Nat.le_refl _, fun hh => absurd hh e, fun _ => by rw [h2.2]; omega, by rw [h2.2]; exact Nat.le_refl _⟩
     · rw [List.find?_append, hk.mine]; rfl
     · intro hh p hp e2
       rcases List.mem_append.1 hp with hp | hp
       · exact hk.oth hh p hp e2
       · rw [List.mem_singleton.1 hp]; show n + 1 ≠ 2; omega
     · intro p hp
       rcases List.mem_append.1 hp with hp | hp
       · have := hk.le p hp; omega
       · rw [List.mem_singleton.1 hp]; exact Nat.le_refl _
/-- The loop's table: at most c keys; the keys that were given are numbered. -/
def FrS (s : STab) (bx : List SSealed) (pw other nm : ByteArray) (ks : List Bytes) (c : Nat) : Prop :=
 ∃ n kn, TS s n bx kn /\ KnO kn n pw other nm /\ n <= c /\ ∀ k ∈ ks, ∃ m, m <= n /\ k = mkB 107 m
/-- .. behind the other's key. -/
def Oth (s : STab) (bx : List SSealed) (pw other nm : ByteArray) (ks : List Bytes) (Kf Ku Ko : Fin 16 -> UInt8) (c : Nat) : Prop :=
 FrS s bx pw other nm (ks ++ [kl Kf]) c /\ (other = pw -> kl Ko = kl Ku) /\ (other ≠ pw -> kl Ko ≠ kl Ku) /\ s.came (kl Kf) = some SFrom.fresh
theorem came_fr {s s1 : STab} {n : Nat} {k k' b b' : Bytes} {u u' : Int} (h : s.keys.length = n) (e : s1 = ((s.add SFrom.fresh).seal k u b).seal k' u' b') : s1.keys[n]? = some SFrom.fresh := by
 subst e; exact app1 h
theorem mk_oth {s s' : STab} {n c : Nat} {bx : List SSealed} {kn : List (SFrom × Nat)} {pw other nm : ByteArray} {ks : List Bytes} {Kf Ku Ko : Fin 16 -> UInt8} (h : TS s (n + 1) bx kn) (hk : KnO kn n pw other nm) (hc : n <= c) (hc2 : c <= 100) (hks : ∀ k ∈ ks, ∃ m, m <= n /\ k = mkB 107 m)
   (hKf : kl Kf = mkB 107 (n + 1)) (hKu : kl Ku = mkB 107 2) (hfr : s.keys[n]? = some SFrom.fresh) (e : s' = s.made (textF other nm)) (hKo : kl Ko = mkB 107 (s.num (textF other nm))) : Oth s' bx pw other nm ks Kf Ku Ko (c + 2) := by
 subst e
 have hg := hk.ge
 obtain ⟨n', kn', ht, hk', h1, h2, h3, h4, h5⟩ := made_oth h (pw := pw) (other := other) (nm := nm) ⟨hk.mine, hk.oth, fun p hp => by have := hk.le p hp; omega, by omega⟩
 refine ⟨⟨n', kn', ht, hk', by omega, fun k hk2 => ?_⟩, fun ee => ?_, fun ee => ?_, ?_⟩
 · rcases List.mem_append.1 hk2 with hk2 | hk2
   · obtain ⟨m, hm, e2⟩ := hks k hk2
     exact ⟨m, by omega, e2⟩
   · exact ⟨n + 1, h1, by rw [List.mem_singleton.1 hk2]; exact hKf⟩
 · rw [hKo, h3 ee, hKu]
 · exact key_ne hKo hKu (h4 ee) (by omega) (by decide)
 · have hl : (s.made (textF other nm)).keys[n]? = some SFrom.fresh := by
     unfold STab.made
     split
     · exact hfr
     · show (s.keys ++ _)[n]? = _
       rw [List.getElem?_append_left (List.getElem?_eq_some_iff.1 hfr).1]; exact hfr
   unfold STab.came
   rw [hKf, markOf_mkB (.inl rfl) (by omega)]
   simp only [Nat.add_sub_cancel]
   rw [if_pos ⟨trivial, by omega⟩]
   exact hl
section
variable {s : STab} {bx : List SSealed} {pw other nm : ByteArray} {ks : List Bytes} {Kf Ku Ko : Fin 16 -> UInt8} {c i : Nat} {u : Int} {b : Bytes}
theorem Oth.yes {t : Thing} (h : Oth s bx pw other nm ks Kf Ku Ko c) (e : other = pw) (hi : bx[i]? = some ⟨kl Ku, u, b⟩) (hp : packB t = .inr b) (hl : i < 1000000) : openTh s (kl Ko) u (mkB 98 (i + 1)) = .inr t := by
 obtain ⟨⟨n, kn, ht, _⟩, h1, _⟩ := h
 rw [h1 e]; exact ht.opn hi hp hl
theorem Oth.no (h : Oth s bx pw other nm ks Kf Ku Ko c) (e : other ≠ pw) (hi : bx[i]? = some ⟨kl Ku, u, b⟩) (hl : i < 1000000) : openTh s (kl Ko) u (mkB 98 (i + 1)) = .inl 13 := by
 obtain ⟨⟨n, kn, ht, _⟩, _, h1, _⟩ := h
 exact ht.opnNo hi (fun hh => h1 e hh.1.symm) hl
theorem Oth.ok (h : Oth s bx pw other nm ks Kf Ku Ko c) (hb : bx.length + 9 < 1000000) (hc : c <= 100) : TabOk s := by
 obtain ⟨⟨n, kn, ht, _, h2, _⟩, _⟩ := h
 exact (ht.room 9 (by omega) hb).ok
theorem fresh_new {n : Nat} (hks : ∀ k ∈ ks, ∃ m, m <= n /\ k = mkB 107 m) (hn : n <= 1000) (hKf : kl Kf = mkB 107 (n + 1)) : kl Kf ∉ ks := fun hh => by
 obtain ⟨m, hm, e⟩ := hks _ hh
 have := mkB_inj (by omega) (by omega) (hKf.symm.trans e)
 omega
variable {o : Oper} {a : Act} {F0 F : Nat -> Prop} {w0 w : World} {ro rs : List Res} {tb : Nat}
theorem x_cameF (h : Hp F0 w0 w ro rs) (i : Nat) (hi : rs[i]? = some (rTab F tb s)) (K : Fin 16 -> UInt8) (hp : pureVal Try.prog (execOp a.eval o) = some (.enter 24 #[pt tb 0, .agg (vb (kl K)).toArray])) (hn : s.keys.length < 1000000) (hr : s.came (kl K) = some SFrom.fresh) :
   OpTo Try.prog o a w (fun u' w' => u' = .tuple #[.agg (vb (List.replicate 16 0) ++ [Value.string ⟨#[]⟩, Value.bool false]).toArray, .bool true] /\ Hp F0 w0 w' ro rs) :=
 (x_came h i hi K _ hp (h.tabW i hi).2.1 hn hr).mono fun u w' hq => by
   obtain ⟨K', l, b, hu, hor, h'⟩ := hq
   rcases hor with hor | hor
   · injection hor with hor
     injection hor with e1 e2 e3
     subst e2; subst e3
     rw [← e1] at hu
     exact ⟨hu, h'⟩
   · cases hor.1
end
end
section
open Go.ChangeShapes Go.WideShapes Go.ChangeAt Go.RowKit
set_option maxRecDepth 100000
variable {H : Type} {enc : TypeId × Value -> H} {w : World} {base : Nat} {spare : Nat -> Bool} {held : Bool}
theorem c5 : Try.prog.cellsOf 5 = 1 := by kernel_rfl
end
section
open Go.ChangeShapes Go.WideShapes Go.ChangeAt Go.RowKit
theorem Try.own : ownKnob Try.prog.godebug = none := by kernel_rfl
theorem Try.laidOut : laidOutB Try.prog = true := by kernel_rfl
section
variable {H : Type} {enc : TypeId × Value -> H} {P : Program}
theorem trodAll_stays {W W' : World} {sp' : Nat -> Bool} (hl : laidOutB P = true) : ∀ (ts : List TypeId) (vs : List Value) (ds : List (DataW H)) (ps : List MemPlace),
   (ts.all fun t => P.readableRec t && decide (t < P.types.size)) = true -> DataW.TrodAll enc P W 0 (fun _ => true) true ts vs ds ps ->
   (∀ p ∈ ps, W.sameAt W' p) -> (∀ p ∈ ps, sp' p.block = true) -> DataW.TrodAll enc P W' 0 sp' true ts vs ds ps
 | [], _, _, _, _, h, _, _ => by
   obtain ⟨rfl, rfl, rfl⟩ := trodAll_nil h
   exact rfl
 | t :: ts, _, _, _, ht, h, hs, hsp => by
   obtain ⟨v, vs, d, ds, a, b, rfl, rfl, rfl, h1, h2⟩ := trodAll_cons h
   rw [List.all_cons, Bool.and_eq_true, Bool.and_eq_true, decide_eq_true_eq] at ht
   exact ⟨a, b, WideElems.Trod_stays hl ht.1.1 ht.1.2 h1 (fun p hp => hs p (by simp [hp])) (fun p hp => hsp p (by simp [hp])),
     trodAll_stays hl ts vs ds b ht.2 h2 (fun p hp => hs p (by simp [hp])) (fun p hp => hsp p (by simp [hp])), rfl⟩
theorem post_of_below {f : Func} {s : ChangeSpec} {apart fresh handsOn again : Bool} {W W' : World} {args : Array Value} {v : Value} {ds gs : List (DataW H)} {before pa pv : List MemPlace}
   (hW : DataW.Whole enc P f.params.toList s.vars apart W args.toList ds gs before)
   (hres : ∀ (b : Nat) (sp : Nat -> Bool) (hd : Bool), DataW.TrodAll enc P W' b sp hd f.resultTypes.toList (v.resultList f.resultTypes.size) (s.fn H (ds ++ gs)).results [])
   (hargs : ∀ sp : Nat -> Bool, (∀ p ∈ before, sp p.block = true) -> DataW.TrodAll enc P W' 0 sp true f.params.toList args.toList (s.fn H (ds ++ gs)).args pa)
   (hvars : ∀ sp : Nat -> Bool, (∀ p ∈ before, sp p.block = true) -> DataW.TrodVars enc P W' sp s.vars (s.fn H (ds ++ gs)).vars pv)
   (hps : before = pa ++ pv) (hb : Below W.heap.size W W')
   (hok : ∀ (j : Nat) (t : TypeId) (r : Value), f.resultTypes[j]? = some t -> (v.resultList f.resultTypes.size)[j]? = some r -> Value.okWide P W' .any 0 t r) :
   s.post enc P f apart fresh handsOn again W args v W' := by
 have hlt : ∀ p ∈ before, p.block < W.heap.size := fun p hp => hW.lt p hp
 have hold : ∀ p ∈ before, (fun b => decide (b < W.heap.size)) p.block = true := fun p hp => by simpa using hlt p hp
 refine ⟨ds, gs, before, [], pa, pv, hW, hres _ _ _, hargs _ hold, hvars _ hold, World.keptBut_mono (fun p hp => ⟨hp, ?_⟩) (hb.frame (· ∈ before)), fun _ => ?_⟩
 · rw [hps, List.mem_append] at hp
   exact Or.inr hp
 · obtain ⟨_, _, _, _, _, hz, hn⟩ := hW
   refine ⟨hok, _, _, ([] ++ pa) ++ pv, ⟨[] ++ pa, pv, trodAll_append (hargs _ (fun _ _ => rfl)) (hres _ _ _), hvars _ (fun _ _ => rfl), rfl, ?_, ?_⟩, ?_⟩
   · intro b off hp
     have hin : MemPlace.cell b off ∈ before := by rw [hps]; simpa using hp
     rw [hb.frozen (hlt _ hin)]
     exact hz b off hin
   · intro ha
     have := hn ha
     rw [hps] at this
     simpa using this
   · intro p hp _
     rw [hps]
     simpa using hp
/-- A law's post: it returned true, and what was there is as it was. -/
theorem law_post {f : Func} {s : ChangeSpec} {apart fresh handsOn again : Bool} {W W' : World} {args : Array Value} {ds gs : List (DataW H)} {before : List MemPlace} {tb : TypeId}
   (hl : laidOutB P = true) (hts : (f.params.toList.all fun t => P.readableRec t && decide (t < P.types.size)) = true) (htb : P.underlying tb = some .bool) (hr : f.resultTypes = #[tb]) (hv : s.vars = [])
   (hfn : ∀ ds : List (DataW H), ds.length = f.params.size -> s.fn H ds = ⟨[.lit (.bool true)], ds, []⟩)
   (hW : DataW.Whole enc P f.params.toList s.vars apart W args.toList ds gs before) (hb : Below W.heap.size W W') :
   s.post enc P f apart fresh handsOn again W args (.bool true) W' := by
 have hW' := hW
 have hlt : ∀ p ∈ before, p.block < W.heap.size := fun p hp => hW.lt p hp
 obtain ⟨p, q, hA, hV, rfl, hfz, hnd⟩ := hW
 rw [hv] at hV
 obtain ⟨rfl, rfl⟩ := trodVars_none hV
 have hlen : ds.length = f.params.size := by
   have : ∀ (ts : List TypeId) (vs : List Value) (ds : List (DataW H)) (p : List MemPlace), DataW.TrodAll enc P W 0 (fun _ => true) true ts vs ds p -> ds.length = ts.length := by
     intro ts
     induction ts with
     | nil => intro vs ds p h; obtain ⟨rfl, rfl, rfl⟩ := trodAll_nil h; rfl
     | cons t ts ih =>
       intro vs ds p h
       obtain ⟨v, vs, d, ds, a, b, rfl, rfl, rfl, h1, h2⟩ := trodAll_cons h
       simp [ih _ _ _ h2]
   simpa using this _ _ _ _ hA
 simp only [List.append_nil] at hW' hlt
 have hds : s.fn H (ds ++ []) = ⟨[.lit (.bool true)], ds, []⟩ := by rw [List.append_nil]; exact hfn ds hlen
 refine post_of_below (pa := p) (pv := []) (gs := []) hW' ?_ ?_ ?_ (by simp) hb ?_
 · intro b sp hd
   rw [hds, hr]
   exact trodAll_mk1 (shut_bool htb true)
 · intro sp hsp
   rw [hds]
   exact trodAll_stays hl _ _ _ _ hts hA (fun x hx => hb.same (hlt x hx)) hsp
 · intro sp _
   rw [hds, hv]
   exact rfl
 · exact ok_one hr rfl (okWide_bool_mk htb true)
end
section
variable {H : Type} {enc : TypeId × Value -> H} {w : World} {base : Nat}
end
end
section
open Go.ChangeShapes
variable {H : Type} {enc : TypeId × Value -> H} {P : Program} {w : World} {base : Nat} {spare : Nat -> Bool} {held : Bool}
end
end Go.Proofs.Ytecomegocafocaa
