/- Structs of numbers, strings and keys that come in: opened (law14). -/
import Derived.ProofKit
import Derived.Carry
import Derived.ChangeShapes
import Derived.ChangeMaps5
import Derived.Test.YtecomegocafocaaCA19
set_option maxRecDepth 100000
set_option maxHeartbeats 4000000
namespace Go.Proofs.Ytecomegocafocaa
section
open Go.Value renaming int -> iV, slice -> lV, string -> sV, bool -> bV, agg -> aV
open Go.RowKit Go.QT
theorem runeL_len {l : Bytes} {c m : Nat} (h : runeL l = some (c, m)) (h0 : 0 < l.length) : 1 <= m /\ m <= 2 /\ m <= l.length /\ c < 2048 := by
 have hb := nb_lt (gb l 0)
 unfold runeL at h
 split at h
 · injection h with h; injection h with h1 h2; subst h1; subst h2; omega
 split at h
 · injection h with h; injection h with h1 h2; subst h1; subst h2; omega
 · cases h
theorem letter_out {r : Int} (h : r = -1 ∨ 2048 <= r) : letterN r = false := by
 unfold letterN inR ltrL; simp; omega
theorem dig_eq (c : Int) : inR c digL = (decide (48 <= c /\ c <= 57) || decide (c = 45)) := by
 unfold inR digL
 rw [Bool.eq_iff_iff]
 simp
 omega
theorem right_ways {l : Bytes} {r k : Int} (h : RnP l r k) (i : Nat) :
   (runeL l = none /\ letterN r = false /\ i = 0) ∨ (runeL l = none /\ letterN r = false /\ i ≠ 0 /\ r = -1) ∨ (runeL l = none /\ letterN r = false /\ i ≠ 0 /\ 2048 <= r) ∨ (∃ c m : Nat, runeL l = some (c, m) /\ r = c /\ k = m /\ letterN r = true) ∨
   (∃ c m : Nat, runeL l = some (c, m) /\ r = c /\ k = m /\ letterN r = false /\ i = 0) ∨ (∃ c m : Nat, runeL l = some (c, m) /\ r = c /\ k = m /\ letterN r = false /\ i ≠ 0 /\ r = 45) ∨ (∃ c m : Nat, runeL l = some (c, m) /\ r = c /\ k = m /\ letterN r = false /\ i ≠ 0 /\ r ≠ 45 /\ r < 48) ∨
   (∃ c m : Nat, runeL l = some (c, m) /\ r = c /\ k = m /\ letterN r = false /\ i ≠ 0 /\ r ≠ 45 /\ 57 < r) ∨ (∃ c m : Nat, runeL l = some (c, m) /\ r = c /\ k = m /\ letterN r = false /\ i ≠ 0 /\ r ≠ 45 /\ 48 <= r /\ r <= 57) := by
 unfold RnP at h
 rcases hr : runeL l with _ | ⟨c, m⟩
 · rw [hr] at h
   have hl := letter_out h.1
   by_cases hi : i = 0
   · exact .inl ⟨rfl, hl, hi⟩
   · rcases h.1 with h1 | h1
     · exact .inr (.inl ⟨rfl, hl, hi, h1⟩)
     · exact .inr (.inr (.inl ⟨rfl, hl, hi, h1⟩))
 · rw [hr] at h
   obtain ⟨h1, h2⟩ := h
   refine .inr (.inr (.inr ?_))
   rcases hl : letterN r with _ | _
   · refine .inr ?_
     by_cases hi : i = 0
     · exact .inl ⟨c, m, rfl, h1, h2, rfl, hi⟩
     by_cases h45 : r = 45
     · exact .inr (.inl ⟨c, m, rfl, h1, h2, rfl, hi, h45⟩)
     by_cases h48 : r < 48
     · exact .inr (.inr (.inl ⟨c, m, rfl, h1, h2, rfl, hi, h45, h48⟩))
     by_cases h57 : 57 < r
     · exact .inr (.inr (.inr (.inl ⟨c, m, rfl, h1, h2, rfl, hi, h45, h57⟩)))
     · exact .inr (.inr (.inr (.inr ⟨c, m, rfl, h1, h2, rfl, hi, h45, by omega, by omega⟩)))
   · exact .inl ⟨c, m, rfl, h1, h2, rfl⟩
section
variable {s : ByteArray} {f i n : Nat} (hinv : runesN s (s.size + 1) 0 0 = runesN s (f + 1) i n) (hi : i < s.size)
include hinv hi
theorem rg_none (h : runeL (s.data.toList.drop i) = none) : rightN s = false := by
 have hd := decode_is s i hi
 rw [h] at hd
 refine rightN_none (hinv.trans (runesN_bad rfl hi ?_))
 unfold badN
 have h1 : letterN ((Utf8.decode s i).1 : Int) = false := letter_out (.inr (by omega))
 have h2 : inR ((Utf8.decode s i).1 : Int) digL = false := by rw [dig_eq]; simp; omega
 rw [h1, h2]; simp
theorem rg_bad {c m : Nat} (h : runeL (s.data.toList.drop i) = some (c, m)) (hl : letterN (c : Int) = false) (hb : i = 0 ∨ (c ≠ 45 /\ (c < 48 ∨ 57 < c))) : rightN s = false := by
 have hd := decode_is s i hi
 rw [h] at hd
 refine rightN_none (hinv.trans (runesN_bad rfl hi ?_))
 unfold badN
 rw [hd, hl, dig_eq]
 rcases hb with hb | hb
 · simp [hb]
 · simp
   right
   omega
theorem rg_go {c m : Nat} (h : runeL (s.data.toList.drop i) = some (c, m)) (hb : letterN (c : Int) = true ∨ (i ≠ 0 /\ (c = 45 ∨ (48 <= c /\ c <= 57)))) : runesN s (s.size + 1) 0 0 = runesN s f (i + m) (n + 1) := by
 have hd := decode_is s i hi
 rw [h] at hd
 have h2 : badN i (Utf8.decode s i).1 = false := by
   unfold badN
   rw [hd]
   rcases hb with hb | hb
   · rw [hb]; rfl
   · have e : inR (((c, m) : Nat × Nat).1 : Int) digL = true := by rw [dig_eq]; simp; omega
     rw [e]
     simp [hb.1]
 have := runesN_go (s := s) (f := f) (pos := i) (n := n) rfl hi h2
 rw [hd] at this
 exact hinv.trans this.symm
end
theorem x_rune {o : Oper} {a : Act} {F0 : Nat -> Prop} {w0 w : World} {ro rs : List Res} (h : Hp F0 w0 w ro rs) (s : ByteArray) (hp : pureVal Try.prog (execOp a.eval o) = some (.enter 44 #[.string s])) (h0 : 0 < s.size) (hs : s.size <= 1000000000) :
   OpTo Try.prog o a w (fun u w' => ∃ r k, u = .tuple #[.int .i64 r, .int .i64 k] /\ RnP s.data.toList r k /\ Hp F0 w0 w' ro rs) :=
 OpTo.enter 44 [.string s] hp (rune_any s h0 hs w) fun _ _ ⟨r, k, he, hr, hb⟩ => ⟨_, he, r, k, rfl, hr, h.below hb⟩
theorem rnp_bd {l : Bytes} {r k : Int} (h : RnP l r k) (h0 : 0 < l.length) : -1 <= r /\ r <= 5000000 := by
 unfold RnP at h
 rcases hr : runeL l with _ | ⟨c, m⟩
 · rw [hr] at h; omega
 · rw [hr] at h
   have := runeL_len hr h0
   omega
theorem rright_any (s : ByteArray) (hs : s.size <= 1000000000) (w : World) : Calls Try.prog 22 #[.string s] w (DPost w (.bool (rightN s))) := by
 have h0 := Hp.nil (fun _ => False) w
 refine enter 47 Try.func22 rfl rfl ?_
 refine wp_reset 48 [(0, (sV s))] (fun x0 => ?_)
 refine wR fun K1 hK1 => ?_
 refine wq_p 1 [(2, V)] ?_
 refine wE hK1 (wR fun K2 hK2 => ?_)
 refine wq_p 1 [(3, O)] ?_
 refine wE hK2 (wp_seq_k fun K3 hK3 => wR fun K4 hK4 => ?_)
 refine wq_p 1 [(4, O)] ?_
 refine wE hK4 (wp_block ?_)
 refine wp_loopm (fun mM xX aA wL => ∃ (f : Nat) (i : Nat) (n : Nat), (i <= s.size) /\ (s.size < i + f) /\ (n <= i) /\ (runesN s (s.size + 1) 0 0 = runesN s f i n) /\ mM = s.size - i /\ aA = patch xX 48 [(0, (sV s)), (3, (iV .i64 ((n : Int)))), (4, (iV .i64 ((i : Int))))] /\ Hp (fun _ => False) w wL [] []) ⟨_, ((s.size + 1)), 0, 0, (Nat.zero_le _), (by omega), (by omega), rfl, rfl, (pEq 48), h0.sel [] [] (by kernel_rfl) rfl rfl⟩ ?_
 rintro _ x5 _ w5 ⟨f, i, n, hi, hf, hn, hinv, rfl, rfl, h5⟩
 refine wp_seq_k fun K6 hK6 => wR fun K7 hK7 => ?_
 refine wq_p 4 [(10, (bV (decide ((i : Int) < ((s).size : Int))))), (9, (D (((s).size : Int)))), (8, (sV s)), (7, (D ((i : Int))))] ?_
 refine wE hK7 ?_
 refine wp_if ((i : Int) < ((s).size : Int)) (by kernel_rfl) (fun b8 => ?_) (fun b8 => ?_)
 ·
  refine wp_skip (seq_n hK6 (wp_seq_k fun K9 hK9 => wp_block (wp_seq_k fun K10 hK10 => ?_)))
  have hlt : i < s.size := by omega
  obtain ⟨f, rfl⟩ : ∃ g, f = g + 1 := ⟨f - 1, by omega⟩
  have hdl : (s.data.toList.drop i).length = s.size - i := by simp
  refine reg_lit ?_
  refine wq_p 2 [(15, (D ((i : Int)))), (14, (sV s))] (wV 16 (sV (tlS s i)) (e_scut 9 (.tmp 14) (.tmp 15) (by kernel_rfl) s .i64 i (by kernel_rfl) (by kernel_rfl) (by kernel_rfl) hi _) ?_)
  refine wT 17 (x_rune h5 (tlS s i) (by kernel_rfl) (by rw [tlS_size]; omega) (by rw [tlS_size]; omega)) ?_
  rintro _ w11 ⟨r11, k11, rfl, hr11, h11⟩
  rw [tlS_list] at hr11
  have hrb11 := rnp_bd hr11 (by omega)
  refine wq_p 5 [(6, (D k11)), (5, (D r11)), (19, (D k11)), (18, (D r11)), (13, (Value.tuple #[(D r11), (D k11)]))] ?_
  refine wE hK10 (wp_seq_k fun K12 hK12 => wp_seq_k fun K13 hK13 => ?_)
  rcases right_ways hr11 i with ⟨q1, q2, q3⟩ | ⟨q1, q2, q3, q4⟩ | ⟨q1, q2, q3, q4⟩ | ⟨c, m, q1, q2, q3, q4⟩ | ⟨c, m, q1, q2, q3, q4, q5⟩ | ⟨c, m, q1, q2, q3, q4, q5, q6⟩ | ⟨c, m, q1, q2, q3, q4, q5, q6, q7⟩ | ⟨c, m, q1, q2, q3, q4, q5, q6, q7⟩ | ⟨c, m, q1, q2, q3, q4, q5, q6, q7, q8⟩
  ·
   refine reg_lit ?_
   refine wq_p 1 [(20, (D r11))] ?_
   refine wT 21 (x_dp (v := .bool false) h11 45 [(D r11), O] (by kernel_rfl) (q2 ▸ rletter_any _ (by omega) (by omega) _)) ?_
   rintro _ w15 ⟨rfl, h15⟩
   refine wq_p 3 [(24, (D ((i : Int)))), (23, I), (22, I)] (wV 25 (.bool true) (eqI (bV (((i : Int)) == 0)) (by simp; omega)) (wq_p 2 [(27, undef), (26, I)] (wq_p 1 [(28, undef)] ?_)))
   refine wq_p 2 [(30, undef), (29, undef)] (wq_p 1 [(31, undef)] (wq_p 2 [(33, undef), (32, undef)] (wq_p 1 [(34, undef)] ?_)))
   refine wq_p 4 [(38, I), (37, I), (36, undef), (35, undef)] ?_
   refine wE hK13 (cT (wR fun K16 hK16 => ?_))
   refine wq_p 1 [(2, V)] ?_
   refine wE hK16 (wp_ret (seq_r (blk_r (seq_r (seq_r (blk_r (seq_r ?_)))))))
   refine post_1 rfl (by kernel_rfl) (rtm V) ?_
   exact ⟨by rw [rg_none hinv hlt q1], h15.below0⟩
  ·
   refine reg_lit ?_
   refine wq_p 1 [(20, (D r11))] ?_
   refine wT 21 (x_dp (v := .bool false) h11 45 [(D r11), O] (by kernel_rfl) (q2 ▸ rletter_any _ (by omega) (by omega) _)) ?_
   rintro _ w17 ⟨rfl, h17⟩
   refine wq_p 3 [(24, (D ((i : Int)))), (23, I), (22, I)] (wV 25 (.bool false) (eqI (bV (((i : Int)) == 0)) (by simp; omega)) (wq_p 2 [(27, (D r11)), (26, V)] (wV 28 (.bool true) (eqI (bV (r11 != 45)) (by simp; omega)) ?_)))
   refine wq_p 2 [(30, (D r11)), (29, I)] (wV 31 (.bool true) (eqI (bV (decide (r11 < 48))) (by simp; omega)) (wq_p 2 [(33, undef), (32, I)] (wq_p 1 [(34, undef)] ?_)))
   refine wq_p 4 [(38, I), (37, I), (36, I), (35, I)] ?_
   refine wE hK13 (cT (wR fun K18 hK18 => ?_))
   refine wq_p 1 [(2, V)] ?_
   refine wE hK18 (wp_ret (seq_r (blk_r (seq_r (seq_r (blk_r (seq_r ?_)))))))
   refine post_1 rfl (by kernel_rfl) (rtm V) ?_
   exact ⟨by rw [rg_none hinv hlt q1], h17.below0⟩
  ·
   refine reg_lit ?_
   refine wq_p 1 [(20, (D r11))] ?_
   refine wT 21 (x_dp (v := .bool false) h11 45 [(D r11), O] (by kernel_rfl) (q2 ▸ rletter_any _ (by omega) (by omega) _)) ?_
   rintro _ w19 ⟨rfl, h19⟩
   refine wq_p 3 [(24, (D ((i : Int)))), (23, I), (22, I)] (wV 25 (.bool false) (eqI (bV (((i : Int)) == 0)) (by simp; omega)) (wq_p 2 [(27, (D r11)), (26, V)] (wV 28 (.bool true) (eqI (bV (r11 != 45)) (by simp; omega)) ?_)))
   refine wq_p 2 [(30, (D r11)), (29, I)] (wV 31 (.bool false) (eqI (bV (decide (r11 < 48))) (by simp; omega)) (wq_p 2 [(33, (D r11)), (32, V)] (wV 34 (.bool true) (eqI (bV (decide (r11 > 57))) (by simp; omega)) ?_)))
   refine wq_p 4 [(38, I), (37, I), (36, I), (35, I)] ?_
   refine wE hK13 (cT (wR fun K20 hK20 => ?_))
   refine wq_p 1 [(2, V)] ?_
   refine wE hK20 (wp_ret (seq_r (blk_r (seq_r (seq_r (blk_r (seq_r ?_)))))))
   refine post_1 rfl (by kernel_rfl) (rtm V) ?_
   exact ⟨by rw [rg_none hinv hlt q1], h19.below0⟩
  ·
   refine reg_lit ?_
   refine wq_p 1 [(20, (D r11))] ?_
   refine wT 21 (x_dp (v := .bool true) h11 45 [(D r11), O] (by kernel_rfl) (q4 ▸ rletter_any _ (by omega) (by omega) _)) ?_
   rintro _ w21 ⟨rfl, h21⟩
   refine wq_p 3 [(24, undef), (23, V), (22, V)] (wq_p 1 [(25, undef)] (wq_p 2 [(27, undef), (26, undef)] (wq_p 1 [(28, undef)] ?_)))
   refine wq_p 2 [(30, undef), (29, undef)] (wq_p 1 [(31, undef)] (wq_p 2 [(33, undef), (32, undef)] (wq_p 1 [(34, undef)] ?_)))
   refine wq_p 4 [(38, V), (37, undef), (36, undef), (35, undef)] ?_
   refine wE hK13 (cF (wp_skip (seq_n hK12 ?_)))
   have hm := runeL_len q1 (by omega)
   rw [hdl] at hm
   have hgo := rg_go hinv hlt q1 (.inl (by rw [← q2]; exact q4))
   refine reg_lit ?_
   refine wq_p 2 [(40, (D k11)), (39, (D ((i : Int))))] (wV 41 (D (((i + m : Nat) : Int))) (exec_add _ _ _ _ rfl ((i : Int)) k11 (by kernel_rfl) (by kernel_rfl) (((i + m : Nat) : Int)) (by omega) (by omega) (by omega) _) (wq_p 1 [(4, (D (((i + m : Nat) : Int))))] ?_))
   refine wl_end rfl (blk_n (seq_n hK9 ?_))
   refine wp_reset 48 [(0, (sV s)), (3, (D ((n : Int)))), (4, (D (((i + m : Nat) : Int)))), (5, (D r11)), (6, (D k11)), (10, (bV (decide ((i : Int) < ((s).size : Int))))), (38, V)] (fun x22 => ?_)
   refine reg_lit ?_
   refine wq_p 1 [(11, (D ((n : Int))))] (wV 12 (D (((n + 1 : Nat) : Int))) (exec_add _ _ _ _ rfl ((n : Int)) 1 (by kernel_rfl) (by kernel_rfl) (((n + 1 : Nat) : Int)) (by omega) (by omega) (by omega) _) (wq_p 1 [(3, (D (((n + 1 : Nat) : Int))))] ?_))
   refine wl_end rfl ?_
   refine ⟨s.size - ((i + m)), (by omega), f, ((i + m)), ((n + 1)), (by omega), (by omega), (by omega), hgo, rfl, (pEq 48), h21.sel [] [] (by kernel_rfl) rfl rfl⟩
  ·
   refine reg_lit ?_
   refine wq_p 1 [(20, (D r11))] ?_
   refine wT 21 (x_dp (v := .bool false) h11 45 [(D r11), O] (by kernel_rfl) (q4 ▸ rletter_any _ (by omega) (by omega) _)) ?_
   rintro _ w23 ⟨rfl, h23⟩
   refine wq_p 3 [(24, (D ((i : Int)))), (23, I), (22, I)] (wV 25 (.bool true) (eqI (bV (((i : Int)) == 0)) (by simp; omega)) (wq_p 2 [(27, undef), (26, I)] (wq_p 1 [(28, undef)] ?_)))
   refine wq_p 2 [(30, undef), (29, undef)] (wq_p 1 [(31, undef)] (wq_p 2 [(33, undef), (32, undef)] (wq_p 1 [(34, undef)] ?_)))
   refine wq_p 4 [(38, I), (37, I), (36, undef), (35, undef)] ?_
   refine wE hK13 (cT (wR fun K24 hK24 => ?_))
   refine wq_p 1 [(2, V)] ?_
   refine wE hK24 (wp_ret (seq_r (blk_r (seq_r (seq_r (blk_r (seq_r ?_)))))))
   refine post_1 rfl (by kernel_rfl) (rtm V) ?_
   exact ⟨by rw [rg_bad hinv hlt q1 (by rw [← q2]; exact q4) (by omega)], h23.below0⟩
  ·
   refine reg_lit ?_
   refine wq_p 1 [(20, (D r11))] ?_
   refine wT 21 (x_dp (v := .bool false) h11 45 [(D r11), O] (by kernel_rfl) (q4 ▸ rletter_any _ (by omega) (by omega) _)) ?_
   rintro _ w25 ⟨rfl, h25⟩
   refine wq_p 3 [(24, (D ((i : Int)))), (23, I), (22, I)] (wV 25 (.bool false) (eqI (bV (((i : Int)) == 0)) (by simp; omega)) (wq_p 2 [(27, (D r11)), (26, V)] (wV 28 (.bool false) (eqI (bV (r11 != 45)) (by simp; omega)) ?_)))
   refine wq_p 2 [(30, undef), (29, V)] (wq_p 1 [(31, undef)] (wq_p 2 [(33, undef), (32, undef)] (wq_p 1 [(34, undef)] ?_)))
   refine wq_p 4 [(38, V), (37, V), (36, V), (35, undef)] ?_
   refine wE hK13 (cF (wp_skip (seq_n hK12 ?_)))
   have hm := runeL_len q1 (by omega)
   rw [hdl] at hm
   have hgo := rg_go hinv hlt q1 (.inr ⟨q5, by omega⟩)
   refine reg_lit ?_
   refine wq_p 2 [(40, (D k11)), (39, (D ((i : Int))))] (wV 41 (D (((i + m : Nat) : Int))) (exec_add _ _ _ _ rfl ((i : Int)) k11 (by kernel_rfl) (by kernel_rfl) (((i + m : Nat) : Int)) (by omega) (by omega) (by omega) _) (wq_p 1 [(4, (D (((i + m : Nat) : Int))))] ?_))
   refine wl_end rfl (blk_n (seq_n hK9 ?_))
   refine wp_reset 48 [(0, (sV s)), (3, (D ((n : Int)))), (4, (D (((i + m : Nat) : Int)))), (5, (D r11)), (6, (D k11)), (10, (bV (decide ((i : Int) < ((s).size : Int))))), (38, V)] (fun x26 => ?_)
   refine reg_lit ?_
   refine wq_p 1 [(11, (D ((n : Int))))] (wV 12 (D (((n + 1 : Nat) : Int))) (exec_add _ _ _ _ rfl ((n : Int)) 1 (by kernel_rfl) (by kernel_rfl) (((n + 1 : Nat) : Int)) (by omega) (by omega) (by omega) _) (wq_p 1 [(3, (D (((n + 1 : Nat) : Int))))] ?_))
   refine wl_end rfl ?_
   refine ⟨s.size - ((i + m)), (by omega), f, ((i + m)), ((n + 1)), (by omega), (by omega), (by omega), hgo, rfl, (pEq 48), h25.sel [] [] (by kernel_rfl) rfl rfl⟩
  ·
   refine reg_lit ?_
   refine wq_p 1 [(20, (D r11))] ?_
   refine wT 21 (x_dp (v := .bool false) h11 45 [(D r11), O] (by kernel_rfl) (q4 ▸ rletter_any _ (by omega) (by omega) _)) ?_
   rintro _ w27 ⟨rfl, h27⟩
   refine wq_p 3 [(24, (D ((i : Int)))), (23, I), (22, I)] (wV 25 (.bool false) (eqI (bV (((i : Int)) == 0)) (by simp; omega)) (wq_p 2 [(27, (D r11)), (26, V)] (wV 28 (.bool true) (eqI (bV (r11 != 45)) (by simp; omega)) ?_)))
   refine wq_p 2 [(30, (D r11)), (29, I)] (wV 31 (.bool true) (eqI (bV (decide (r11 < 48))) (by simp; omega)) (wq_p 2 [(33, undef), (32, I)] (wq_p 1 [(34, undef)] ?_)))
   refine wq_p 4 [(38, I), (37, I), (36, I), (35, I)] ?_
   refine wE hK13 (cT (wR fun K28 hK28 => ?_))
   refine wq_p 1 [(2, V)] ?_
   refine wE hK28 (wp_ret (seq_r (blk_r (seq_r (seq_r (blk_r (seq_r ?_)))))))
   refine post_1 rfl (by kernel_rfl) (rtm V) ?_
   exact ⟨by rw [rg_bad hinv hlt q1 (by rw [← q2]; exact q4) (by omega)], h27.below0⟩
  ·
   refine reg_lit ?_
   refine wq_p 1 [(20, (D r11))] ?_
   refine wT 21 (x_dp (v := .bool false) h11 45 [(D r11), O] (by kernel_rfl) (q4 ▸ rletter_any _ (by omega) (by omega) _)) ?_
   rintro _ w29 ⟨rfl, h29⟩
   refine wq_p 3 [(24, (D ((i : Int)))), (23, I), (22, I)] (wV 25 (.bool false) (eqI (bV (((i : Int)) == 0)) (by simp; omega)) (wq_p 2 [(27, (D r11)), (26, V)] (wV 28 (.bool true) (eqI (bV (r11 != 45)) (by simp; omega)) ?_)))
   refine wq_p 2 [(30, (D r11)), (29, I)] (wV 31 (.bool false) (eqI (bV (decide (r11 < 48))) (by simp; omega)) (wq_p 2 [(33, (D r11)), (32, V)] (wV 34 (.bool true) (eqI (bV (decide (r11 > 57))) (by simp; omega)) ?_)))
   refine wq_p 4 [(38, I), (37, I), (36, I), (35, I)] ?_
   refine wE hK13 (cT (wR fun K30 hK30 => ?_))
   refine wq_p 1 [(2, V)] ?_
   refine wE hK30 (wp_ret (seq_r (blk_r (seq_r (seq_r (blk_r (seq_r ?_)))))))
   refine post_1 rfl (by kernel_rfl) (rtm V) ?_
   exact ⟨by rw [rg_bad hinv hlt q1 (by rw [← q2]; exact q4) (by omega)], h29.below0⟩
  ·
   refine reg_lit ?_
   refine wq_p 1 [(20, (D r11))] ?_
   refine wT 21 (x_dp (v := .bool false) h11 45 [(D r11), O] (by kernel_rfl) (q4 ▸ rletter_any _ (by omega) (by omega) _)) ?_
   rintro _ w31 ⟨rfl, h31⟩
   refine wq_p 3 [(24, (D ((i : Int)))), (23, I), (22, I)] (wV 25 (.bool false) (eqI (bV (((i : Int)) == 0)) (by simp; omega)) (wq_p 2 [(27, (D r11)), (26, V)] (wV 28 (.bool true) (eqI (bV (r11 != 45)) (by simp; omega)) ?_)))
   refine wq_p 2 [(30, (D r11)), (29, I)] (wV 31 (.bool false) (eqI (bV (decide (r11 < 48))) (by simp; omega)) (wq_p 2 [(33, (D r11)), (32, V)] (wV 34 (.bool false) (eqI (bV (decide (r11 > 57))) (by simp; omega)) ?_)))
   refine wq_p 4 [(38, V), (37, V), (36, V), (35, V)] ?_
   refine wE hK13 (cF (wp_skip (seq_n hK12 ?_)))
   have hm := runeL_len q1 (by omega)
   rw [hdl] at hm
   have hgo := rg_go hinv hlt q1 (.inr ⟨q5, by omega⟩)
   refine reg_lit ?_
   refine wq_p 2 [(40, (D k11)), (39, (D ((i : Int))))] (wV 41 (D (((i + m : Nat) : Int))) (exec_add _ _ _ _ rfl ((i : Int)) k11 (by kernel_rfl) (by kernel_rfl) (((i + m : Nat) : Int)) (by omega) (by omega) (by omega) _) (wq_p 1 [(4, (D (((i + m : Nat) : Int))))] ?_))
   refine wl_end rfl (blk_n (seq_n hK9 ?_))
   refine wp_reset 48 [(0, (sV s)), (3, (D ((n : Int)))), (4, (D (((i + m : Nat) : Int)))), (5, (D r11)), (6, (D k11)), (10, (bV (decide ((i : Int) < ((s).size : Int))))), (38, V)] (fun x32 => ?_)
   refine reg_lit ?_
   refine wq_p 1 [(11, (D ((n : Int))))] (wV 12 (D (((n + 1 : Nat) : Int))) (exec_add _ _ _ _ rfl ((n : Int)) 1 (by kernel_rfl) (by kernel_rfl) (((n + 1 : Nat) : Int)) (by omega) (by omega) (by omega) _) (wq_p 1 [(3, (D (((n + 1 : Nat) : Int))))] ?_))
   refine wl_end rfl ?_
   refine ⟨s.size - ((i + m)), (by omega), f, ((i + m)), ((n + 1)), (by omega), (by omega), (by omega), hgo, rfl, (pEq 48), h31.sel [] [] (by kernel_rfl) rfl rfl⟩
 ·
  refine wp_exit (seq_e (seq_e (blk_e (seq_n hK3 (wp_seq_k fun K33 hK33 => ?_)))))
  rcases (by omega : n = 0 ∨ (1 <= n /\ n <= 16) ∨ (1 <= n /\ 16 < n)) with hz | hz | hz
  ·
   refine reg_lit ?_
   refine wq_p 1 [(42, (D ((n : Int))))] (wV 43 (.bool false) (eqI (bV (decide ((n : Int) ≥ 1))) (by simp; omega)) (wq_p 2 [(45, undef), (44, V)] (wq_p 1 [(46, undef)] ?_)))
   refine wq_p 2 [(2, V), (47, V)] ?_
   refine wE hK33 (wp_ret ?_)
   refine post_1 rfl (by kernel_rfl) (rtm V) ?_
   exact ⟨by rw [rightN_some (hinv.trans (runesN_end rfl (by omega)))]; simp; omega, h5.below0⟩
  ·
   refine reg_lit ?_
   refine wq_p 1 [(42, (D ((n : Int))))] (wV 43 (.bool true) (eqI (bV (decide ((n : Int) ≥ 1))) (by simp; omega)) (wq_p 2 [(45, (D ((n : Int)))), (44, I)] (wV 46 (.bool true) (eqI (bV (decide ((n : Int) <= 16))) (by simp; omega)) ?_)))
   refine wq_p 2 [(2, I), (47, I)] ?_
   refine wE hK33 (wp_ret ?_)
   refine post_1 rfl (by kernel_rfl) (rtm I) ?_
   exact ⟨by rw [rightN_some (hinv.trans (runesN_end rfl (by omega)))]; simp; omega, h5.below0⟩
  ·
   refine reg_lit ?_
   refine wq_p 1 [(42, (D ((n : Int))))] (wV 43 (.bool true) (eqI (bV (decide ((n : Int) ≥ 1))) (by simp; omega)) (wq_p 2 [(45, (D ((n : Int)))), (44, I)] (wV 46 (.bool false) (eqI (bV (decide ((n : Int) <= 16))) (by simp; omega)) ?_)))
   refine wq_p 2 [(2, V), (47, V)] ?_
   refine wE hK33 (wp_ret ?_)
   refine post_1 rfl (by kernel_rfl) (rtm V) ?_
   exact ⟨by rw [rightN_some (hinv.trans (runesN_end rfl (by omega)))]; simp; omega, h5.below0⟩
theorem rnear_any (now t : Int) (w : World) : Calls Try.prog 16 #[.int .i64 now, .int .i64 t] w (DPost w (.bool (nearF now t))) := by
 have h0 := Hp.nil (fun _ => False) w
 refine enter 29 Try.func16 rfl rfl ?_
 refine wp_reset 31 [(0, (D now)), (1, (D t))] (fun x0 => ?_)
 refine wR fun K1 hK1 => ?_
 refine wq_p 1 [(4, V)] ?_
 refine wE hK1 (wp_seq_k fun K2 hK2 => ?_)
 rcases (by omega : t < 0 ∨ (0 <= t /\ 1099511627776 < t) ∨ (0 <= t /\ t <= 1099511627776 /\ now < 0) ∨ (0 <= t /\ t <= 1099511627776 /\ 0 <= now /\ 1099511627776 < now) ∨ (0 <= t /\ t <= 1099511627776 /\ 0 <= now /\ now <= 1099511627776 /\ 30 < now - t) ∨ (0 <= t /\ t <= 1099511627776 /\ 0 <= now /\ now <= 1099511627776 /\ now - t <= 30 /\ 30 < t - now) ∨ (0 <= t /\ t <= 1099511627776 /\ 0 <= now /\ now <= 1099511627776 /\ now - t <= 30 /\ t - now <= 30)) with hq | hq | hq | hq | hq | hq | hq
 ·
  refine reg_lit ?_
  refine wq_p 1 [(5, (D t))] (wV 6 (.bool false) (eqI (bV (decide (t ≥ 0))) (by simp; omega)) (wq_p 2 [(8, undef), (7, V)] (wq_p 1 [(9, undef)] ?_)))
  refine wq_p 3 [(12, undef), (11, V), (10, V)] (wq_p 1 [(13, undef)] (wq_p 3 [(16, undef), (15, V), (14, V)] (wq_p 1 [(17, undef)] ?_)))
  refine wq_p 4 [(21, undef), (20, undef), (19, V), (18, V)] (wq_p 1 [(22, undef)] (wq_p 1 [(23, undef)] (wq_p 4 [(27, undef), (26, undef), (25, V), (24, V)] ?_)))
  refine wq_p 1 [(28, undef)] (wq_p 1 [(29, undef)] (wq_p 2 [(4, V), (30, V)] ?_))
  refine wE hK2 (wp_ret ?_)
  refine post_1 rfl (by kernel_rfl) (rtm V) ?_
  exact ⟨by rw [show nearF now t = false from decide_eq_false (by omega)], h0.below0⟩
 ·
  refine reg_lit ?_
  refine wq_p 1 [(5, (D t))] (wV 6 (.bool true) (eqI (bV (decide (t ≥ 0))) (by simp; omega)) (wq_p 2 [(8, (D t)), (7, I)] (wV 9 (.bool false) (eqI (bV (decide (t <= 1099511627776))) (by simp; omega)) ?_)))
  refine wq_p 3 [(12, undef), (11, V), (10, V)] (wq_p 1 [(13, undef)] (wq_p 3 [(16, undef), (15, V), (14, V)] (wq_p 1 [(17, undef)] ?_)))
  refine wq_p 4 [(21, undef), (20, undef), (19, V), (18, V)] (wq_p 1 [(22, undef)] (wq_p 1 [(23, undef)] (wq_p 4 [(27, undef), (26, undef), (25, V), (24, V)] ?_)))
  refine wq_p 1 [(28, undef)] (wq_p 1 [(29, undef)] (wq_p 2 [(4, V), (30, V)] ?_))
  refine wE hK2 (wp_ret ?_)
  refine post_1 rfl (by kernel_rfl) (rtm V) ?_
  exact ⟨by rw [show nearF now t = false from decide_eq_false (by omega)], h0.below0⟩
 ·
  refine reg_lit ?_
  refine wq_p 1 [(5, (D t))] (wV 6 (.bool true) (eqI (bV (decide (t ≥ 0))) (by simp; omega)) (wq_p 2 [(8, (D t)), (7, I)] (wV 9 (.bool true) (eqI (bV (decide (t <= 1099511627776))) (by simp; omega)) ?_)))
  refine wq_p 3 [(12, (D now)), (11, I), (10, I)] (wV 13 (.bool false) (eqI (bV (decide (now ≥ 0))) (by simp; omega)) (wq_p 3 [(16, undef), (15, V), (14, V)] (wq_p 1 [(17, undef)] ?_)))
  refine wq_p 4 [(21, undef), (20, undef), (19, V), (18, V)] (wq_p 1 [(22, undef)] (wq_p 1 [(23, undef)] (wq_p 4 [(27, undef), (26, undef), (25, V), (24, V)] ?_)))
  refine wq_p 1 [(28, undef)] (wq_p 1 [(29, undef)] (wq_p 2 [(4, V), (30, V)] ?_))
  refine wE hK2 (wp_ret ?_)
  refine post_1 rfl (by kernel_rfl) (rtm V) ?_
  exact ⟨by rw [show nearF now t = false from decide_eq_false (by omega)], h0.below0⟩
 ·
  refine reg_lit ?_
  refine wq_p 1 [(5, (D t))] (wV 6 (.bool true) (eqI (bV (decide (t ≥ 0))) (by simp; omega)) (wq_p 2 [(8, (D t)), (7, I)] (wV 9 (.bool true) (eqI (bV (decide (t <= 1099511627776))) (by simp; omega)) ?_)))
  refine wq_p 3 [(12, (D now)), (11, I), (10, I)] (wV 13 (.bool true) (eqI (bV (decide (now ≥ 0))) (by simp; omega)) (wq_p 3 [(16, (D now)), (15, I), (14, I)] (wV 17 (.bool false) (eqI (bV (decide (now <= 1099511627776))) (by simp; omega)) ?_)))
  refine wq_p 4 [(21, undef), (20, undef), (19, V), (18, V)] (wq_p 1 [(22, undef)] (wq_p 1 [(23, undef)] (wq_p 4 [(27, undef), (26, undef), (25, V), (24, V)] ?_)))
  refine wq_p 1 [(28, undef)] (wq_p 1 [(29, undef)] (wq_p 2 [(4, V), (30, V)] ?_))
  refine wE hK2 (wp_ret ?_)
  refine post_1 rfl (by kernel_rfl) (rtm V) ?_
  exact ⟨by rw [show nearF now t = false from decide_eq_false (by omega)], h0.below0⟩
 ·
  refine reg_lit ?_
  refine wq_p 1 [(5, (D t))] (wV 6 (.bool true) (eqI (bV (decide (t ≥ 0))) (by simp; omega)) (wq_p 2 [(8, (D t)), (7, I)] (wV 9 (.bool true) (eqI (bV (decide (t <= 1099511627776))) (by simp; omega)) ?_)))
  refine wq_p 3 [(12, (D now)), (11, I), (10, I)] (wV 13 (.bool true) (eqI (bV (decide (now ≥ 0))) (by simp; omega)) (wq_p 3 [(16, (D now)), (15, I), (14, I)] (wV 17 (.bool true) (eqI (bV (decide (now <= 1099511627776))) (by simp; omega)) ?_)))
  refine wq_p 4 [(21, (D t)), (20, (D now)), (19, I), (18, I)] (wV 22 (D (now - t)) (exec_sub _ _ _ _ rfl now t (by kernel_rfl) (by kernel_rfl) (now - t) rfl (by omega) (by omega) _) (wV 23 (.bool false) (eqI (bV (decide (now - t <= 30))) (by simp; omega)) (wq_p 4 [(27, undef), (26, undef), (25, V), (24, V)] ?_)))
  refine wq_p 1 [(28, undef)] (wq_p 1 [(29, undef)] (wq_p 2 [(4, V), (30, V)] ?_))
  refine wE hK2 (wp_ret ?_)
  refine post_1 rfl (by kernel_rfl) (rtm V) ?_
  exact ⟨by rw [show nearF now t = false from decide_eq_false (by omega)], h0.below0⟩
 ·
  refine reg_lit ?_
  refine wq_p 1 [(5, (D t))] (wV 6 (.bool true) (eqI (bV (decide (t ≥ 0))) (by simp; omega)) (wq_p 2 [(8, (D t)), (7, I)] (wV 9 (.bool true) (eqI (bV (decide (t <= 1099511627776))) (by simp; omega)) ?_)))
  refine wq_p 3 [(12, (D now)), (11, I), (10, I)] (wV 13 (.bool true) (eqI (bV (decide (now ≥ 0))) (by simp; omega)) (wq_p 3 [(16, (D now)), (15, I), (14, I)] (wV 17 (.bool true) (eqI (bV (decide (now <= 1099511627776))) (by simp; omega)) ?_)))
  refine wq_p 4 [(21, (D t)), (20, (D now)), (19, I), (18, I)] (wV 22 (D (now - t)) (exec_sub _ _ _ _ rfl now t (by kernel_rfl) (by kernel_rfl) (now - t) rfl (by omega) (by omega) _) (wV 23 (.bool true) (eqI (bV (decide (now - t <= 30))) (by simp; omega)) (wq_p 4 [(27, (D now)), (26, (D t)), (25, I), (24, I)] ?_)))
  refine wV 28 (D (t - now)) (exec_sub _ _ _ _ rfl t now (by kernel_rfl) (by kernel_rfl) (t - now) rfl (by omega) (by omega) _) (wV 29 (.bool false) (eqI (bV (decide (t - now <= 30))) (by simp; omega)) (wq_p 2 [(4, V), (30, V)] ?_))
  refine wE hK2 (wp_ret ?_)
  refine post_1 rfl (by kernel_rfl) (rtm V) ?_
  exact ⟨by rw [show nearF now t = false from decide_eq_false (by omega)], h0.below0⟩
 ·
  refine reg_lit ?_
  refine wq_p 1 [(5, (D t))] (wV 6 (.bool true) (eqI (bV (decide (t ≥ 0))) (by simp; omega)) (wq_p 2 [(8, (D t)), (7, I)] (wV 9 (.bool true) (eqI (bV (decide (t <= 1099511627776))) (by simp; omega)) ?_)))
  refine wq_p 3 [(12, (D now)), (11, I), (10, I)] (wV 13 (.bool true) (eqI (bV (decide (now ≥ 0))) (by simp; omega)) (wq_p 3 [(16, (D now)), (15, I), (14, I)] (wV 17 (.bool true) (eqI (bV (decide (now <= 1099511627776))) (by simp; omega)) ?_)))
  refine wq_p 4 [(21, (D t)), (20, (D now)), (19, I), (18, I)] (wV 22 (D (now - t)) (exec_sub _ _ _ _ rfl now t (by kernel_rfl) (by kernel_rfl) (now - t) rfl (by omega) (by omega) _) (wV 23 (.bool true) (eqI (bV (decide (now - t <= 30))) (by simp; omega)) (wq_p 4 [(27, (D now)), (26, (D t)), (25, I), (24, I)] ?_)))
  refine wV 28 (D (t - now)) (exec_sub _ _ _ _ rfl t now (by kernel_rfl) (by kernel_rfl) (t - now) rfl (by omega) (by omega) _) (wV 29 (.bool true) (eqI (bV (decide (t - now <= 30))) (by simp; omega)) (wq_p 2 [(4, I), (30, I)] ?_))
  refine wE hK2 (wp_ret ?_)
  refine post_1 rfl (by kernel_rfl) (rtm I) ?_
  exact ⟨by rw [show nearF now t = true from decide_eq_true (by omega)], h0.below0⟩
end
section
open Go.RowKit Go.QT
section
variable {o : Oper} {a : Act} {F0 F : Nat -> Prop} {w0 w w' : World} {ro rs : List Res} {tb : Nat} {s : STab}
theorem x_knew (h : Hp F0 w0 w ro rs) (i : Nat) (hi : rs[i]? = some (rTab F tb s)) (hs : Room 5 s) (hp : pureVal Try.prog (execOp a.eval o) = some (.enter 9 #[.iface 24 (pt tb 0)])) :
   OpTo Try.prog o a w (fun u w' => ∃ kb G bb F' K s', u = pt kb 0 /\ kl K = mkB 107 (s.keys.length + 1) /\ s' = s.add SFrom.fresh /\ Hp F0 w0 w' ro (rBlk kb 73 (kdcC tb bb K) :: rBs G bb [] :: rTab F' tb s' :: rs.eraseIdx i)) :=
 OpTo.enter 9 [.iface 24 (pt tb 0)] hp (knew_any (h.at_ i hi) hs) fun _ _ ⟨kb, G, bb, F', K, he, hK, hh⟩ => ⟨_, he, kb, G, bb, F', K, _, rfl, hK, rfl, h.call1 i hi hh⟩
/-- Enrol. -/
theorem x_enrol {G : Nat -> Prop} {bb : Nat} {us us' : List User} {f : SFrom} {er : Int} (h : Hp F0 w0 w ro rs) (i j : Nat) (hi : rs[i]? = some (rTab F tb s)) (hj : rs[j]? = some (rBs G bb us)) (hij : decide (i ≠ j) = true) (al : List Value) (hp : pureVal Try.prog (execOp a.eval o) = some (.enter 10 al.toArray))
   (hc : Calls Try.prog 10 al.toArray w (fun e w' => e = .returned (.int .i64 er) /\ ∃ F' G', Hp (fun q => F q ∨ G q) w w' [] [rTab F' tb (s.made f), rBs G' bb us'])) :
   OpTo Try.prog o a w (fun u w' => ∃ F' G' s', u = .int .i64 er /\ s' = s.made f /\ Hp F0 w0 w' ro ((rs.set i (rTab F' tb s')).set j (rBs G' bb us'))) :=
 OpTo.enter 10 al hp hc fun _ _ ⟨he, F', G', hh⟩ => ⟨_, he, F', G', _, rfl, rfl, h.upd2 i j hi hj (of_decide_eq_true hij) hh⟩
/-- As, where it refuses. -/
theorem x_asN {s2 : STab} {v : Value} (h : Hp F0 w0 w ro rs) (i : Nat) (hi : rs[i]? = some (rTab F tb s)) (al : List Value) (hp : pureVal Try.prog (execOp a.eval o) = some (.enter 14 al.toArray)) (hc : Calls Try.prog 14 al.toArray w (fun e w' => e = .returned v /\ ∃ F', Hp F w w' [] [rTab F' tb s2])) :
   OpTo Try.prog o a w (fun u w' => ∃ F' s', u = v /\ s' = s2 /\ Hp F0 w0 w' ro (rTab F' tb s' :: rs.eraseIdx i)) :=
 OpTo.enter 14 al hp hc fun _ _ ⟨he, F', hh⟩ => ⟨_, he, F', _, rfl, rfl, h.call1 i hi hh⟩
/-- As, where it gives. -/
theorem x_asY {s2 : STab} {nm : ByteArray} {m1 m2 : Bytes} (h : Hp F0 w0 w ro rs) (i : Nat) (hi : rs[i]? = some (rTab F tb s)) (al : List Value) (hp : pureVal Try.prog (execOp a.eval o) = some (.enter 14 al.toArray))
   (hc : Calls Try.prog 14 al.toArray w (fun e w' => ∃ A1 c1 A2 c2 F', e = .returned (.tuple #[.agg #[.string nm, .string ⟨#[107, 100, 99]⟩, .slice A1 16 c1, .slice A2 16 c2], .int .i64 0]) /\ Hp F w w' [] [rTab F' tb s2, rSB (.slice A1 16 c1) m1, rSB (.slice A2 16 c2) m2])) :
   OpTo Try.prog o a w (fun u w' => ∃ A1 c1 A2 c2 F' s', u = .tuple #[.agg #[.string nm, .string ⟨#[107, 100, 99]⟩, .slice A1 16 c1, .slice A2 16 c2], .int .i64 0] /\ s' = s2 /\ Hp F0 w0 w' ro (rTab F' tb s' :: rSB (.slice A1 16 c1) m1 :: rSB (.slice A2 16 c2) m2 :: rs.eraseIdx i)) :=
 OpTo.enter 14 al hp hc fun _ _ ⟨A1, c1, A2, c2, F', he, hh⟩ => ⟨_, he, A1, c1, A2, c2, F', _, rfl, rfl, h.call1 i hi hh⟩
end
end
section
open Go.RowKit Go.QT
theorem pR_cut {P : Program} {md : Region.Mode} {ops : Array Oper} {Q : Exit -> Act -> World -> Prop} {S : World -> Prop} {p N f M : Nat} {a : Act} {w : World} (f' M' : Nat) (Z : (Act -> World -> Prop) -> Prop)
   (h1 : Z (fun a w => wpAnyT P md ops Q S p f' (bl N M') a w)) (h2 : Z (fun a w => wpAnyT P md ops Q S p f' (bl N M') a w) -> wpAnyT P md ops Q S p f (bl N M) a w) : wpAnyT P md ops Q S p f (bl N M) a w := h2 h1
end
section
open Go.Value renaming int -> iV, slice -> lV, string -> sV, bool -> bV, agg -> aV
open Go.RowKit Go.QT
theorem right_ann : rightN ⟨#[97, 110, 110]⟩ = true := by decide +kernel
theorem right_kdc : rightN ⟨#[107, 100, 99]⟩ = true := by decide +kernel
theorem alive14_any (w : World) : Calls Try.prog 7 #[] w (DPost w (.bool true)) := by
 have h0 := Hp.nil (fun _ => False) w
 refine enter 104 Try.func7 rfl rfl ?_
 refine wp_reset 104 [] (fun x0 => ?_)
 refine wR fun K1 hK1 => ?_
 refine wq_p 1 [(0, V)] ?_
 refine wE hK1 (wR fun K2 hK2 => ?_)
 refine wT 11 (x_snew h0 (by kernel_rfl)) ?_
 rintro _ w3 ⟨tb3, F3, rfl, h3⟩
 refine wq_p 1 [(1, (pt tb3 0))] ?_
 refine wE hK2 (wR fun K4 hK4 => ?_)
 refine wq_p 2 [(13, (Value.iface 24 (pt tb3 0))), (12, (pt tb3 0))] ?_
 refine wT 14 (x_knew h3 0 rfl ((TS.empty.room 9 (by first | decide | simp | omega) (by first | decide | simp | omega)).less (by decide)) (by kernel_rfl)) ?_
 rintro _ w5 ⟨kb5, G5, bb5, F5, K5, s5, rfl, hK5, hs5, h5⟩
 rw [TS.empty.keys] at hK5
 have ht5 : TS s5 1 [] [] := TS.empty.add hs5
 refine wq_p 1 [(2, (pt kb5 0))] ?_
 refine wE hK4 (wp_seq_k fun K6 hK6 => wR fun K7 hK7 => ?_)
 refine wq_p 6 [(20, (pt kb5 1)), (19, (pt kb5 0)), (18, (pt kb5 0)), (17, V), (16, V), (15, (pt kb5 0))] (wV 21 (pt bb5 0) (eL (h5.at_ 0 rfl) 71 (.tmp 20) 1 _) (wq_p 4 [(25, (pt kb5 0)), (24, V), (23, V), (22, V)] ?_))
 have hnum8 := (ht5.made_new (f := textF (⟨#[112, 119]⟩) (⟨#[97, 110, 110]⟩)) rfl (by simp)).2
 obtain ⟨K8, hK8⟩ := ex_key 2
 refine wT 26 (x_enrol (us' := [(User.mk (⟨#[97, 110, 110]⟩) K8 60 300 true)]) (f := textF (⟨#[112, 119]⟩) (⟨#[97, 110, 110]⟩)) (er := 0) h5 2 1 rfl rfl rfl [(pt kb5 0), (sV (⟨#[97, 110, 110]⟩)), (sV (⟨#[112, 119]⟩)), (D 60), (D 300), I] (by kernel_rfl) (enrol_ok (h5.at_ 2 rfl) (h5.at_ 1 rfl) (h5.dis 2 1 _ _ rfl rfl (by decide)) ((ht5.room 9 (by first | decide | simp | omega) (by first | decide | simp | omega)).less (by decide)) (h5.at_ 0 rfl) (fun hq => h5.dis 2 0 _ _ rfl rfl (by decide) _ hq rfl) (fun hq => h5.dis 1 0 _ _ rfl rfl (by decide) _ hq rfl) (by first | decide | omega) (by first | decide | omega) K8 (hK8.trans (by rw [hnum8])) (by decide) right_ann (by decide) rfl (by decide) rfl)) ?_
 rintro _ w9 ⟨F9, G9, s9, rfl, hs9, h9⟩
 have hq9 := ht5.made_new hs9 (by simp)
 have ht9 : TS s9 2 [] [(textF (⟨#[112, 119]⟩) (⟨#[97, 110, 110]⟩), 2)] := hq9.1
 refine wq_p 2 [(28, V), (27, V)] ?_
 refine wE hK7 (cF (wp_skip (seq_n hK6 (wR fun K10 hK10 => ?_))))
 refine wq_p 3 [(32, (pt tb3 0)), (31, (Value.iface 24 (pt tb3 0))), (30, (pt tb3 0))] ?_
 refine wT 33 (x_text h9 2 rfl (⟨#[112, 119]⟩) (⟨#[97, 110, 110]⟩) (by kernel_rfl) (by first | decide | omega) (by first | decide | omega) (by rw [ht9.keys]; decide)) ?_
 rintro _ w11 ⟨K11, F11, s11, rfl, hK11, hs11, h11⟩
 have hq11 := ht9.made_old (m := 2) hs11 (by simp)
 have ht11 : TS s11 2 [] [(textF (⟨#[112, 119]⟩) (⟨#[97, 110, 110]⟩), 2)] := hq11.1
 rw [hq11.2] at hK11
 obtain rfl : K8 = K11 := kl_inj (hK8.trans hK11.symm)
 refine wq_p 2 [(35, (Value.iface 49 (aV ([(D 100), O]).toArray))), (34, (aV ([(D 100), O]).toArray))] ?_
 obtain ⟨b0, hp0⟩ := pack_stamp (t := 100) (q := 0) rfl rfl
 refine wT 36 (x_tseal h11 2 rfl K8 1 hp0 (by kernel_rfl) ((ht11.room 9 (by first | decide | simp | omega) (by first | decide | simp | omega)).ok) (rTh_stamp _ 100 0) (fun _ hf => hf.elim) True.intro) ?_
 rintro _ w12 ⟨A12, c12, F12, s12, rfl, hs12, h12⟩
 have hbn12 : s11.boxes.length + 1 = 1 := by rw [ht11.boxes]; rfl
 rw [hbn12] at h12
 have ht12 : TS s12 2 [⟨kl K8, 1, b0⟩] [(textF (⟨#[112, 119]⟩) (⟨#[97, 110, 110]⟩), 2)] := ht11.seal hs12 (pack_le6 hp0)
 refine wq_p 5 [(4, O), (3, (lV A12 16 c12)), (38, O), (37, (lV A12 16 c12)), (29, (Value.tuple #[(lV A12 16 c12), O]))] ?_
 refine wE hK10 (wp_seq_k fun K13 hK13 => ?_)
 refine wp_reset 104 [(0, V), (1, (pt tb3 0)), (2, (pt kb5 0)), (3, (lV A12 16 c12))] (fun x14 => ?_)
 refine reg_lit ?_
 refine wq_p 3 [(42, (aV ([(sV (⟨#[97, 110, 110]⟩)), (D 7), (D 1000), (lV A12 16 c12)]).toArray)), (41, (lV A12 16 c12)), (40, (pt kb5 0))] ?_
 obtain ⟨Kf, hKf⟩ := ex_key 3
 obtain ⟨b1, hp1⟩ := pack_inside (f := 5) (K := Kf) (s := ⟨#[97, 110, 110]⟩) (a := 110) (u := min 1000 (110 + 60)) (r := 110 + 300) (rightM_is right_ann (by decide)) (by decide)
 obtain ⟨b2, hp2⟩ := pack_reply (f := 5) (K := Kf) (n := 7) (s := ⟨#[107, 100, 99]⟩) (a := 110) (u := min 1000 (110 + 60)) (r := 110 + 300) (rightM_is right_kdc (by decide)) (by decide)
 refine wT 43 (x_asY (s2 := (((s12.add SFrom.fresh).seal (kl K5) 2 b1).seal (kl K8) 3 b2)) (nm := ⟨#[97, 110, 110]⟩) (m1 := mkB 98 (s12.boxes.length + 1)) (m2 := mkB 98 (s12.boxes.length + 2)) h12 0 rfl [(pt kb5 0), (D 110), (aV ([(sV (⟨#[97, 110, 110]⟩)), (D 7), (D 1000), (lV A12 16 c12)]).toArray)] (by kernel_rfl) (as_main (pre := mkB 98 1) (h12.at_ 0 rfl) (h12.at_ 3 rfl) (h12.dis 0 3 _ _ rfl rfl (by decide)) (ht12.room 9 (by first | decide | simp | omega) (by first | decide | simp | omega)) (h12.at_ 2 rfl) (fun hq => h12.dis 0 2 _ _ rfl rfl (by decide) _ hq rfl) (h12.at_ 1 rfl) (h12.dis 1 0 _ _ rfl rfl (by decide)) (by simp) (u := (User.mk (⟨#[97, 110, 110]⟩) K8 60 300 true)) (place_self rfl).1 (place_self rfl).2 (t := 100) (q := 0) (ht12.opn (i := 0) rfl hp0 (by decide)) rfl (by decide) (by decide) (by simp) (show (3 : Nat) <= 1000 from by decide) Kf (hKf.trans (by rw [ht12.keys])) (.inl ⟨show (0 : Int) < 300 from by decide, show (300 : Int) <= 6000 from by decide, rfl, rfl⟩) hp1 hp2)) ?_
 rintro _ w15 ⟨A15, c15, B15, d15, F15, s15, rfl, hs15, h15⟩
 have hbn15 : s12.boxes.length = 1 := by rw [ht12.boxes]; rfl
 rw [hbn15] at h15
 have ht15 : TS s15 3 [⟨kl K8, 1, b0⟩, ⟨kl K5, 2, b1⟩, ⟨kl K8, 3, b2⟩] [(textF (⟨#[112, 119]⟩) (⟨#[97, 110, 110]⟩), 2)] := ((ht12.add rfl).seal rfl (pack_le6 hp1)).seal hs15 (pack_le6 hp2)
 refine wq_p 3 [(45, O), (44, (aV ([(sV (⟨#[97, 110, 110]⟩)), (sV (⟨#[107, 100, 99]⟩)), (lV A15 16 c15), (lV B15 16 d15)]).toArray)), (39, (Value.tuple #[(aV ([(sV (⟨#[97, 110, 110]⟩)), (sV (⟨#[107, 100, 99]⟩)), (lV A15 16 c15), (lV B15 16 d15)]).toArray), O]))] ?_
 refine wT 5 (xN h15 41 ([eS, eS, nS, nS])) ?_
 rintro _ w16 ⟨g16, rfl, h16⟩
 refine wq_to none (xSs h16 0 41 (.tmp 5) (.tmp 44) 0 ([(sV (⟨#[97, 110, 110]⟩)), (sV (⟨#[107, 100, 99]⟩)), (lV A15 16 c15), (lV B15 16 d15)]) ([(sV (⟨#[97, 110, 110]⟩)), (sV (⟨#[107, 100, 99]⟩)), (lV A15 16 c15), (lV B15 16 d15)])) ?_
 rintro _ w17 h17
 refine wq_p 1 [(6, O)] ?_
 refine wE hK13 (wR fun K18 hK18 => ?_)
 refine wq_p 3 [(49, (aV ([(sV (⟨#[98, 111, 98]⟩)), (D 7), (D 1000), (lV A12 16 c12)]).toArray)), (48, (lV A12 16 c12)), (47, (pt kb5 0))] ?_
 refine wT 50 (x_asN (s2 := s15) (v := .tuple #[(aV ([eS, eS, nS, nS]).toArray), .int .i64 9]) h17 1 rfl [(pt kb5 0), (D 110), (aV ([(sV (⟨#[98, 111, 98]⟩)), (D 7), (D 1000), (lV A12 16 c12)]).toArray)] (by kernel_rfl) (as_none (pre := mkB 98 1) (h17.at_ 1 rfl) (h17.at_ 6 rfl) (h17.dis 1 6 _ _ rfl rfl (by decide)) (h17.at_ 5 rfl) (fun hq => h17.dis 1 5 _ _ rfl rfl (by decide) _ hq rfl) (h17.at_ 4 rfl) (h17.dis 4 1 _ _ rfl rfl (by decide)) (by simp) (place_other (show (⟨#[97, 110, 110]⟩ : ByteArray) ≠ ⟨#[98, 111, 98]⟩ from by decide)))) ?_
 rintro _ w19 ⟨F19, s19, rfl, hs19, h19⟩
 have ht19 : TS s19 3 [⟨kl K8, 1, b0⟩, ⟨kl K5, 2, b1⟩, ⟨kl K8, 3, b2⟩] [(textF (⟨#[112, 119]⟩) (⟨#[97, 110, 110]⟩), 2)] := hs19 ▸ ht15
 refine wq_p 3 [(52, (D 9)), (51, (aV ([eS, eS, nS, nS]).toArray)), (46, (Value.tuple #[(aV ([eS, eS, nS, nS]).toArray), (D 9)]))] ?_
 refine wT 7 (xN h19 41 ([eS, eS, nS, nS])) ?_
 rintro _ w20 ⟨g20, rfl, h20⟩
 refine wq_to none (xSs h20 0 41 (.tmp 7) (.tmp 51) 0 ([eS, eS, nS, nS]) ([eS, eS, nS, nS])) ?_
 rintro _ w21 h21
 refine wq_p 1 [(8, (D 9))] ?_
 refine wE hK18 (wp_seq_k fun K22 hK22 => ?_)
 refine pR_go h21 12 (fun W => (rBlk g16 41 ([(sV (⟨#[97, 110, 110]⟩)), (sV (⟨#[107, 100, 99]⟩)), (lV A15 16 c15), (lV B15 16 d15)])).Φ W /\ True) [(55, [1], 0), (56, [54], 1), (57, [1], 0), (58, [56], 4), (59, [5], 0), (60, [58], 16), (61, [55, 57, 59], 42), (54, [60], 64), (62, [53], 128), (63, [53], 128), (10, [], 0), (0, [9, 61], 1535), (11, [62], 4095)] rfl (fun _ d _ _ _ h => by cases d <;> exact h) ?_
 intro hs23 w23 h23
 refine pR_p 9 [0, 1, 2, 4] [(58, (pt g16 3)), (56, (pt tb3 0)), (55, (Value.iface 24 (pt tb3 0))), (54, (pt tb3 0))] 23 hs23 ⟨h23.at_ 2 rfl, trivial⟩ ?_
 refine pR_v 5 (some 59) (lV B15 16 d15) 55 rfl hs23 ⟨h23.at_ 2 rfl, trivial⟩ (fun W hW => eL hW.1 22 (.tmp 58) 3 _) ?_
 refine pR_cut 2 2047 (fun KJ => ∀ (gT2_0 : Nat), ∀ (FT2_1 : Nat -> Prop), ∀ (sT2_2 : STab), (TS sT2_2 3 [⟨kl K8, 1, b0⟩, ⟨kl K5, 2, b1⟩, ⟨kl K8, 3, b2⟩] [(textF (⟨#[112, 119]⟩) (⟨#[97, 110, 110]⟩), 2)]) -> ∀ (xT24_2 : Nat -> Value) (aJ : Act) (wT24_2 : World), aJ = patch xT24_2 104 [(0, V), (1, (pt tb3 0)), (2, (pt kb5 0)), (3, (lV A12 16 c12)), (5, (pt g16 0)), (6, O), (8, (D 9)), (9, (pt gT2_0 0)), (61, (aV ([(D 5)] ++ vb (kl Kf) ++ [(D 7), (sV (⟨#[107, 100, 99]⟩)), (D 110), (D 170), (D 410)]).toArray)), (62, O)] -> Hp (fun _ => False) w wT24_2 [] [rBlk gT2_0 60 ([O] ++ vb (List.replicate 16 0) ++ [O, eS, O, O, O]), rBlk g20 41 ([eS, eS, nS, nS]), rTab FT2_1 tb3 sT2_2, rBlk g16 41 ([(sV (⟨#[97, 110, 110]⟩)), (sV (⟨#[107, 100, 99]⟩)), (lV A15 16 c15), (lV B15 16 d15)]), rSB ((lV A15 16 c15)) (mkB 98 2), rSB ((lV B15 16 d15)) (mkB 98 3), rSB ((lV A12 16 c12)) (mkB 98 1), rBlk kb5 73 ([(Value.iface 24 (pt tb3 0)), (pt bb5 0)] ++ vb (kl K5)), rBs G9 bb5 [(User.mk (⟨#[97, 110, 110]⟩) K8 60 300 true)]] -> KJ aJ wT24_2) ?_ (fun hT24_2 => ?_)
 ·
  rintro gT2_0 FT2_1 sT2_2 htF xT24_2 _ wT24_2 rfl hTh24_2
  refine pR_to 11 none 4095 rfl hs23 (xSs hTh24_2 0 60 (.tmp 9) (.tmp 61) 0 ([(D 5)] ++ vb (kl Kf) ++ [(D 7), (sV (⟨#[107, 100, 99]⟩)), (D 110), (D 170), (D 410)]) ([(D 5)] ++ vb (kl Kf) ++ [(D 7), (sV (⟨#[107, 100, 99]⟩)), (D 110), (D 170), (D 410)])) ?_
  rintro _ w25 h25
  refine ⟨fun _ => ⟨h25.at_ 3 rfl, trivial⟩, ?_⟩
  refine pR_to 12 (some 10) 8191 rfl hs23 (OpTo.run O (pureOp_run (by kernel_rfl) _) (R := fun v w => v = O /\ w25 = w) ⟨rfl, rfl⟩) ?_
  rintro _ _ ⟨rfl, rfl⟩
  refine ⟨fun h => absurd h (by decide), ?_⟩
  refine pR_done hs23 ?_ _
  refine seq_n hK22 (wR fun K26 hK26 => ?_)
  refine wq_p 12 [(74, (pt g16 0)), (73, I), (72, I), (71, I), (70, O), (69, I), (68, I), (67, I), (66, (D 9)), (65, I), (64, I), (63, O)] (wV 75 (sV (⟨#[97, 110, 110]⟩)) (eL (h25.at_ 3 rfl) 9 (.tmp 74) 0 _) (wV 76 I (eqI (bV ((⟨#[97, 110, 110]⟩ : ByteArray).toList == (⟨#[97, 110, 110]⟩ : ByteArray).toList)) (by simp)) (wq_p 4 [(80, (pt g16 1)), (79, (pt g16 1)), (78, I), (77, I)] ?_)))
  refine wV 81 (sV (⟨#[107, 100, 99]⟩)) (eL (h25.at_ 3 rfl) 9 (.tmp 80) 1 _) (wV 82 I (eqI (bV ((⟨#[107, 100, 99]⟩ : ByteArray).toList == (⟨#[107, 100, 99]⟩ : ByteArray).toList)) (by simp)) (wq_p 3 [(85, (pt gT2_0 20)), (84, I), (83, I)] (wV 86 (D 170) (eL (h25.at_ 0 rfl) 2 (.tmp 85) 20 _) ?_)))
  refine wq_p 4 [(90, (pt gT2_0 21)), (89, I), (88, I), (87, I)] (wV 91 (D 410) (eL (h25.at_ 0 rfl) 2 (.tmp 90) 21 _) (wq_p 4 [(95, (pt gT2_0 17)), (94, I), (93, I), (92, I)] (wV 96 (D 7) (eL (h25.at_ 0 rfl) 2 (.tmp 95) 17 _) ?_)))
  refine wq_p 4 [(100, (pt gT2_0 0)), (99, I), (98, I), (97, I)] (wV 101 (D 5) (eL (h25.at_ 0 rfl) 3 (.tmp 100) 0 _) (wq_p 3 [(0, I), (103, I), (102, I)] ?_))
  refine wE hK26 (wp_ret ?_)
  refine post_1 rfl (by kernel_rfl) (rtm I) ?_
  exact ⟨rfl, h25.below0⟩
 refine pR_cut 6 1087 (fun KJ => ∀ (gT1_0 : Nat), ∀ (FT1_1 : Nat -> Prop), ∀ (sT1_2 : STab), (TS sT1_2 3 [⟨kl K8, 1, b0⟩, ⟨kl K5, 2, b1⟩, ⟨kl K8, 3, b2⟩] [(textF (⟨#[112, 119]⟩) (⟨#[97, 110, 110]⟩), 2)]) -> ∀ (xT24_1 : Nat -> Value) (aJ : Act) (wT24_1 : World), aJ = patch xT24_1 104 [(0, V), (1, (pt tb3 0)), (2, (pt kb5 0)), (3, (lV A12 16 c12)), (5, (pt g16 0)), (6, O), (8, (D 9)), (9, (pt gT1_0 0)), (55, (Value.iface 24 (pt tb3 0))), (57, (aV (vb (kl K8)).toArray)), (59, (lV B15 16 d15))] -> Hp (fun _ => False) w wT24_1 [] [rBlk gT1_0 60 ([O] ++ vb (List.replicate 16 0) ++ [O, eS, O, O, O]), rBlk g20 41 ([eS, eS, nS, nS]), rTab FT1_1 tb3 sT1_2, rBlk g16 41 ([(sV (⟨#[97, 110, 110]⟩)), (sV (⟨#[107, 100, 99]⟩)), (lV A15 16 c15), (lV B15 16 d15)]), rSB ((lV A15 16 c15)) (mkB 98 2), rSB ((lV B15 16 d15)) (mkB 98 3), rSB ((lV A12 16 c12)) (mkB 98 1), rBlk kb5 73 ([(Value.iface 24 (pt tb3 0)), (pt bb5 0)] ++ vb (kl K5)), rBs G9 bb5 [(User.mk (⟨#[97, 110, 110]⟩) K8 60 300 true)]] -> KJ aJ wT24_1) ?_ (fun hT24_1 => ?_)
 ·
  rintro gT1_0 FT1_1 sT1_2 htF xT24_1 _ wT24_1 rfl hTh24_1
  refine pR_to 6 (some 60) 1151 rfl hs23 (x_oReply hTh24_1 2 rfl K8 3 (by kernel_rfl) ((htF.room 9 (by first | decide | simp | omega) (by first | decide | simp | omega)).ok) (hTh24_1.at_ 5 rfl) (r := (.inr (.reply 5 Kf 7 ⟨#[107, 100, 99]⟩ 110 (min 1000 (110 + 60)) (110 + 300)))) (htF.opn (i := 2) rfl hp2 (by decide))) ?_
  rintro _ w27 ⟨rfl, h27⟩
  refine ⟨fun _ => ⟨h27.at_ 3 rfl, trivial⟩, ?_⟩
  refine pR_p 2 [7, 8, 9] [(62, O), (61, (aV ([(D 5)] ++ vb (kl Kf) ++ [(D 7), (sV (⟨#[107, 100, 99]⟩)), (D 110), (D 170), (D 410)]).toArray)), (53, (Value.tuple #[(aV ([(D 5)] ++ vb (kl Kf) ++ [(D 7), (sV (⟨#[107, 100, 99]⟩)), (D 110), (D 170), (D 410)]).toArray), O]))] 2047 hs23 ⟨h27.at_ 3 rfl, trivial⟩ ?_
  exact hT24_2 gT1_0 FT1_1 sT1_2 htF _ _ _ (pEq 104) (h27.sel [0, 1, 2, 3, 4, 5, 6, 7, 8] [] (by kernel_rfl) rfl rfl)
 refine pR_cut 7 1079 (fun KJ => ∀ (gT0_0 : Nat), (TS s19 3 [⟨kl K8, 1, b0⟩, ⟨kl K5, 2, b1⟩, ⟨kl K8, 3, b2⟩] [(textF (⟨#[112, 119]⟩) (⟨#[97, 110, 110]⟩), 2)]) -> ∀ (xT24_0 : Nat -> Value) (aJ : Act) (wT24_0 : World), aJ = patch xT24_0 104 [(0, V), (1, (pt tb3 0)), (2, (pt kb5 0)), (3, (lV A12 16 c12)), (5, (pt g16 0)), (6, O), (8, (D 9)), (9, (pt gT0_0 0)), (55, (Value.iface 24 (pt tb3 0))), (56, (pt tb3 0)), (59, (lV B15 16 d15))] -> Hp (fun _ => False) w wT24_0 [] [rBlk gT0_0 60 ([O] ++ vb (List.replicate 16 0) ++ [O, eS, O, O, O]), rBlk g20 41 ([eS, eS, nS, nS]), rTab F19 tb3 s19, rBlk g16 41 ([(sV (⟨#[97, 110, 110]⟩)), (sV (⟨#[107, 100, 99]⟩)), (lV A15 16 c15), (lV B15 16 d15)]), rSB ((lV A15 16 c15)) (mkB 98 2), rSB ((lV B15 16 d15)) (mkB 98 3), rSB ((lV A12 16 c12)) (mkB 98 1), rBlk kb5 73 ([(Value.iface 24 (pt tb3 0)), (pt bb5 0)] ++ vb (kl K5)), rBs G9 bb5 [(User.mk (⟨#[97, 110, 110]⟩) K8 60 300 true)]] -> KJ aJ wT24_0) ?_ (fun hT24_0 => ?_)
 ·
  rintro gT0_0 htF xT24_0 _ wT24_0 rfl hTh24_0
  refine pR_to 3 (some 57) 1087 rfl hs23 (x_text hTh24_0 2 rfl (⟨#[112, 119]⟩) (⟨#[97, 110, 110]⟩) (by kernel_rfl) (by first | decide | omega) (by first | decide | omega) (by rw [htF.keys]; decide)) ?_
  rintro _ w28 ⟨K28, F28, s28, rfl, hK28, hs28, h28⟩
  refine ⟨fun _ => ⟨h28.at_ 3 rfl, trivial⟩, ?_⟩
  have hq28 := htF.made_old (m := 2) hs28 (by simp)
  have ht28 : TS s28 3 [⟨kl K8, 1, b0⟩, ⟨kl K5, 2, b1⟩, ⟨kl K8, 3, b2⟩] [(textF (⟨#[112, 119]⟩) (⟨#[97, 110, 110]⟩), 2)] := hq28.1
  rw [hq28.2] at hK28
  obtain rfl : K8 = K28 := kl_inj (hK8.trans hK28.symm)
  exact hT24_1 gT0_0 F28 s28 ht28 _ _ _ (pEq 104) (h28.sel [0, 1, 2, 3, 4, 5, 6, 7, 8] [] (by kernel_rfl) rfl rfl)
 refine pR_or 3 10 hs23 ?_ ?_
 ·
  refine pR_op 3 (some 57) 63 rfl (x_text h23 1 rfl (⟨#[112, 119]⟩) (⟨#[97, 110, 110]⟩) (by kernel_rfl) (by first | decide | omega) (by first | decide | omega) (by rw [ht19.keys]; decide)) ?_
  rintro _ w29 ⟨K29, F29, s29, rfl, hK29, hs29, h29⟩
  refine ⟨fun _ => ⟨h29.at_ 2 rfl, trivial⟩, ?_⟩
  have hq29 := ht19.made_old (m := 2) hs29 (by simp)
  have ht29 : TS s29 3 [⟨kl K8, 1, b0⟩, ⟨kl K5, 2, b1⟩, ⟨kl K8, 3, b2⟩] [(textF (⟨#[112, 119]⟩) (⟨#[97, 110, 110]⟩), 2)] := hq29.1
  rw [hq29.2] at hK29
  obtain rfl : K8 = K29 := kl_inj (hK8.trans hK29.symm)
  refine pR_or 6 10 hs23 ?_ ?_
  ·
   refine pR_op 6 (some 60) 127 rfl (x_oReply h29 1 rfl K8 3 (by kernel_rfl) ((ht29.room 9 (by first | decide | simp | omega) (by first | decide | simp | omega)).ok) (h29.at_ 4 rfl) (r := (.inr (.reply 5 Kf 7 ⟨#[107, 100, 99]⟩ 110 (min 1000 (110 + 60)) (110 + 300)))) (ht29.opn (i := 2) rfl hp2 (by decide))) ?_
   rintro _ w30 ⟨rfl, h30⟩
   refine ⟨fun _ => ⟨h30.at_ 2 rfl, trivial⟩, ?_⟩
   refine pR_p 3 [7, 8, 9] [(62, O), (61, (aV ([(D 5)] ++ vb (kl Kf) ++ [(D 7), (sV (⟨#[107, 100, 99]⟩)), (D 110), (D 170), (D 410)]).toArray)), (53, (Value.tuple #[(aV ([(D 5)] ++ vb (kl Kf) ++ [(D 7), (sV (⟨#[107, 100, 99]⟩)), (D 110), (D 170), (D 410)]).toArray), O]))] 1023 hs23 ⟨h30.at_ 2 rfl, trivial⟩ ?_
   refine pR_to 10 (some 9) 2047 rfl hs23 (xN h30 60 ([O] ++ vb (List.replicate 16 0) ++ [O, eS, O, O, O])) ?_
   rintro _ w31 ⟨g31, rfl, h31⟩
   refine ⟨fun _ => ⟨h31.at_ 3 rfl, trivial⟩, ?_⟩
   exact hT24_2 g31 F29 s29 ht29 _ _ _ (pEq 104) (h31.sel [0, 1, 2, 3, 4, 5, 6, 7, 8] [] (by kernel_rfl) rfl rfl)
  ·
   refine pR_op 10 (some 9) 1087 rfl (xN h29 60 ([O] ++ vb (List.replicate 16 0) ++ [O, eS, O, O, O])) ?_
   rintro _ w32 ⟨g32, rfl, h32⟩
   refine ⟨fun _ => ⟨h32.at_ 3 rfl, trivial⟩, ?_⟩
   exact hT24_1 g32 F29 s29 ht29 _ _ _ (pEq 104) (h32.sel [0, 1, 2, 3, 4, 5, 6, 7, 8] [] (by kernel_rfl) rfl rfl)
 ·
  refine pR_op 10 (some 9) 1079 rfl (xN h23 60 ([O] ++ vb (List.replicate 16 0) ++ [O, eS, O, O, O])) ?_
  rintro _ w33 ⟨g33, rfl, h33⟩
  refine ⟨fun _ => ⟨h33.at_ 3 rfl, trivial⟩, ?_⟩
  exact hT24_0 g33 ht19 _ _ _ (pEq 104) (h33.sel [0, 1, 2, 3, 4, 5, 6, 7, 8] [] (by kernel_rfl) rfl rfl)
end
section
open Go.RowKit Go.QT
theorem empty_eq : Value.bool ((ByteArray.empty).toList == (⟨#[]⟩ : ByteArray).toList) = Value.bool true := by
 rw [show ByteArray.empty = (⟨#[]⟩ : ByteArray) from rfl]; simp
end
section
open Go.RowKit Go.QT
theorem text_inj6 {a b c d : ByteArray} (ha : a.size <= 1000) (hc : c.size <= 1000) (h : textF a b = textF c d) : a = c /\ b = d := by
 have h1 : put8 a.size ++ a.data.toList ++ b.data.toList = put8 c.size ++ c.data.toList ++ d.data.toList := by
   have := congrArg (fun f => f.label.data.toList) h
   simpa [textF] using this
 rw [List.append_assoc, List.append_assoc] at h1
 obtain ⟨h2, h3⟩ := List.append_inj h1 rfl
 have h4 : a.size = c.size := by rw [← getN_put8 a.size (by omega), ← getN_put8 c.size (by omega), h2]
 have e : ∀ x : ByteArray, x.data.toList.length = x.size := fun x => by cases x; rfl
 obtain ⟨h5, h6⟩ := List.append_inj h3 (by rw [e, e, h4])
 have f : ∀ x y : ByteArray, x.data.toList = y.data.toList -> x = y := fun x y hxy => by
   cases x; cases y; simp only [ByteArray.mk.injEq]; exact Array.toList_inj.1 hxy
 exact ⟨f _ _ h5, f _ _ h6⟩
theorem str_dec6 (b b' : ByteArray) : (b.toList == b'.toList) = decide (b = b') := by
 rw [ByteArray.toList_eq, ByteArray.toList_eq, Bool.eq_iff_iff, beq_iff_eq, decide_eq_true_eq]
 constructor
 · intro h; cases b; cases b'; simp only [ByteArray.mk.injEq]; exact Array.ext' h
 · rintro rfl; rfl
theorem str_neT {a b : ByteArray} (h : a ≠ b) : Value.bool (!(a.toList == b.toList)) = Value.bool true := by rw [str_dec6, decide_eq_false h]; rfl
theorem other_text {p q nm : ByteArray} {n : Nat} (h : p ≠ q) (hp : p.size <= 1000) (hq : q.size <= 1000) : ∀ x ∈ [(textF p nm, n)], x.1 ≠ textF q nm := by
 intro x hx e
 rw [List.mem_singleton.1 hx] at e
 exact h (text_inj6 hp hq e).1
theorem nboxesK_any (F : Nat -> Prop) (tb : Nat) (s : STab) (w : World) (hT : TabAt w F tb s) : Calls Try.prog 27 #[.pointer (some ⟨tb, 0, none⟩)] w (VPost w (.int .i64 (s.boxes.length : Int))) := by
 obtain ⟨mb, vk, vx, vs, bodies, sums, es, clock, hR⟩ := hT
 obtain ⟨A, cp, hve, hcp, hcp2⟩ := hR.x.form
 have x0 := hR.t.cell 1
 rw [hve, List.length_zipWith, hR.xn, Nat.min_self] at x0
 have x1 : w.cell? ⟨tb, 1, none⟩ = some (.slice A s.boxes.length cp) := x0
 clear x0 hve hR hcp hcp2
 go_enter Try.func27, Try.ntmps27
 go_wp2
 go_ret
 exact ⟨rfl, rfl⟩
theorem x_nboxesK {o : Oper} {a : Act} {F0 F : Nat -> Prop} {w0 w : World} {ro rs : List Res} {tb : Nat} {s : STab} (h : Hp F0 w0 w ro rs) (i : Nat) (hi : rs[i]? = some (rTab F tb s)) (hp : pureVal Try.prog (execOp a.eval o) = some (.enter 27 #[pt tb 0])) :
   OpTo Try.prog o a w (fun u w' => u = .int .i64 (s.boxes.length : Int) /\ Hp F0 w0 w' ro rs) :=
 x_vpost h 27 [pt tb 0] hp (nboxesK_any F tb s w (h.own i _ hi))
end
section
open Go.ChangeShapes Go.WideShapes Go.ChangeAt Go.RowKit
set_option maxRecDepth 100000
variable {H : Type} {enc : TypeId × Value -> H} {w : World} {base : Nat} {spare : Nat -> Bool} {held : Bool}
theorem c5 : Try.prog.cellsOf 5 = 1 := by kernel_rfl
end
section
open Go.ChangeShapes Go.WideShapes Go.ChangeAt Go.RowKit
theorem Try.own : ownKnob Try.prog.godebug = none := by kernel_rfl
theorem Try.laidOut : laidOutB Try.prog = true := by kernel_rfl
section
variable {H : Type} {enc : TypeId × Value -> H} {P : Program}
theorem trodAll_stays {W W' : World} {sp' : Nat -> Bool} (hl : laidOutB P = true) : ∀ (ts : List TypeId) (vs : List Value) (ds : List (DataW H)) (ps : List MemPlace),
   (ts.all fun t => P.readableRec t && decide (t < P.types.size)) = true -> DataW.TrodAll enc P W 0 (fun _ => true) true ts vs ds ps ->
   (∀ p ∈ ps, W.sameAt W' p) -> (∀ p ∈ ps, sp' p.block = true) -> DataW.TrodAll enc P W' 0 sp' true ts vs ds ps
 | [], _, _, _, _, h, _, _ => by
   obtain ⟨rfl, rfl, rfl⟩ := trodAll_nil h
   exact rfl
 | t :: ts, _, _, _, ht, h, hs, hsp => by
   obtain ⟨v, vs, d, ds, a, b, rfl, rfl, rfl, h1, h2⟩ := trodAll_cons h
   rw [List.all_cons, Bool.and_eq_true, Bool.and_eq_true, decide_eq_true_eq] at ht
   exact ⟨a, b, WideElems.Trod_stays hl ht.1.1 ht.1.2 h1 (fun p hp => hs p (by simp [hp])) (fun p hp => hsp p (by simp [hp])),
     trodAll_stays hl ts vs ds b ht.2 h2 (fun p hp => hs p (by simp [hp])) (fun p hp => hsp p (by simp [hp])), rfl⟩
theorem post_of_below {f : Func} {s : ChangeSpec} {apart fresh handsOn again : Bool} {W W' : World} {args : Array Value} {v : Value} {ds gs : List (DataW H)} {before pa pv : List MemPlace}
   (hW : DataW.Whole enc P f.params.toList s.vars apart W args.toList ds gs before)
   (hres : ∀ (b : Nat) (sp : Nat -> Bool) (hd : Bool), DataW.TrodAll enc P W' b sp hd f.resultTypes.toList (v.resultList f.resultTypes.size) (s.fn H (ds ++ gs)).results [])
   (hargs : ∀ sp : Nat -> Bool, (∀ p ∈ before, sp p.block = true) -> DataW.TrodAll enc P W' 0 sp true f.params.toList args.toList (s.fn H (ds ++ gs)).args pa)
   (hvars : ∀ sp : Nat -> Bool, (∀ p ∈ before, sp p.block = true) -> DataW.TrodVars enc P W' sp s.vars (s.fn H (ds ++ gs)).vars pv)
   (hps : before = pa ++ pv) (hb : Below W.heap.size W W')
   (hok : ∀ (j : Nat) (t : TypeId) (r : Value), f.resultTypes[j]? = some t -> (v.resultList f.resultTypes.size)[j]? = some r -> Value.okWide P W' .any 0 t r) :
   s.post enc P f apart fresh handsOn again W args v W' := by
 have hlt : ∀ p ∈ before, p.block < W.heap.size := fun p hp => hW.lt p hp
 have hold : ∀ p ∈ before, (fun b => decide (b < W.heap.size)) p.block = true := fun p hp => by simpa using hlt p hp
 refine ⟨ds, gs, before, [], pa, pv, hW, hres _ _ _, hargs _ hold, hvars _ hold, World.keptBut_mono (fun p hp => ⟨hp, ?_⟩) (hb.frame (· ∈ before)), fun _ => ?_⟩
 · rw [hps, List.mem_append] at hp
   exact Or.inr hp
 · obtain ⟨_, _, _, _, _, hz, hn⟩ := hW
   refine ⟨hok, _, _, ([] ++ pa) ++ pv, ⟨[] ++ pa, pv, trodAll_append (hargs _ (fun _ _ => rfl)) (hres _ _ _), hvars _ (fun _ _ => rfl), rfl, ?_, ?_⟩, ?_⟩
   · intro b off hp
     have hin : MemPlace.cell b off ∈ before := by rw [hps]; simpa using hp
     rw [hb.frozen (hlt _ hin)]
     exact hz b off hin
   · intro ha
     have := hn ha
     rw [hps] at this
     simpa using this
   · intro p hp _
     rw [hps]
     simpa using hp
/-- A law's post: it returned true, and what was there is as it was. -/
theorem law_post {f : Func} {s : ChangeSpec} {apart fresh handsOn again : Bool} {W W' : World} {args : Array Value} {ds gs : List (DataW H)} {before : List MemPlace} {tb : TypeId}
   (hl : laidOutB P = true) (hts : (f.params.toList.all fun t => P.readableRec t && decide (t < P.types.size)) = true) (htb : P.underlying tb = some .bool) (hr : f.resultTypes = #[tb]) (hv : s.vars = [])
   (hfn : ∀ ds : List (DataW H), ds.length = f.params.size -> s.fn H ds = ⟨[.lit (.bool true)], ds, []⟩)
   (hW : DataW.Whole enc P f.params.toList s.vars apart W args.toList ds gs before) (hb : Below W.heap.size W W') :
   s.post enc P f apart fresh handsOn again W args (.bool true) W' := by
 have hW' := hW
 have hlt : ∀ p ∈ before, p.block < W.heap.size := fun p hp => hW.lt p hp
 obtain ⟨p, q, hA, hV, rfl, hfz, hnd⟩ := hW
 rw [hv] at hV
 obtain ⟨rfl, rfl⟩ := trodVars_none hV
 have hlen : ds.length = f.params.size := by
   have : ∀ (ts : List TypeId) (vs : List Value) (ds : List (DataW H)) (p : List MemPlace), DataW.TrodAll enc P W 0 (fun _ => true) true ts vs ds p -> ds.length = ts.length := by
     intro ts
     induction ts with
     | nil => intro vs ds p h; obtain ⟨rfl, rfl, rfl⟩ := trodAll_nil h; rfl
     | cons t ts ih =>
       intro vs ds p h
       obtain ⟨v, vs, d, ds, a, b, rfl, rfl, rfl, h1, h2⟩ := trodAll_cons h
       simp [ih _ _ _ h2]
   simpa using this _ _ _ _ hA
 simp only [List.append_nil] at hW' hlt
 have hds : s.fn H (ds ++ []) = ⟨[.lit (.bool true)], ds, []⟩ := by rw [List.append_nil]; exact hfn ds hlen
 refine post_of_below (pa := p) (pv := []) (gs := []) hW' ?_ ?_ ?_ (by simp) hb ?_
 · intro b sp hd
   rw [hds, hr]
   exact trodAll_mk1 (shut_bool htb true)
 · intro sp hsp
   rw [hds]
   exact trodAll_stays hl _ _ _ _ hts hA (fun x hx => hb.same (hlt x hx)) hsp
 · intro sp _
   rw [hds, hv]
   exact rfl
 · exact ok_one hr rfl (okWide_bool_mk htb true)
end
section
variable {H : Type} {enc : TypeId × Value -> H} {w : World} {base : Nat}
end
end
section
open Go.ChangeShapes
variable {H : Type} {enc : TypeId × Value -> H} {P : Program} {w : World} {base : Nat} {spare : Nat -> Bool} {held : Bool}
end
section
open Go.ChangeShapes Go.WideShapes Go.ChangeAt Go.RowKit Go.QT
set_option maxRecDepth 100000
section
variable {H : Type} {enc : TypeId × Value -> H} {w : World} {base : Nat}
theorem kInt : Try.prog.cellsOf 3 = 1 := by kernel_rfl
theorem kI64 : Try.prog.cellsOf 2 = 1 := by kernel_rfl
theorem kStr : Try.prog.cellsOf 9 = 1 := by kernel_rfl
theorem uIntK : Try.prog.underlying 3 = some (.int .i64) := by kernel_rfl
theorem uI64K : Try.prog.underlying 2 = some (.int .i64) := by kernel_rfl
theorem uStrK : Try.prog.underlying 9 = some .string := by kernel_rfl
theorem fldK {S : TypeId} {k : Nat} {l : List (Nat × Nat)} {n : Nat} {cs : List Value} {xs : List (DataW H × List MemPlace)} {sp : Nat -> Bool} (hF : (Try.prog.fieldsOf S).toList.map (fun f => (f.type, f.offset)) = l) (hk : l.length = k) (hxl : xs.length = (Try.prog.fieldsOf S).size)
   (hx : ∀ (i : Nat) (f : Field), (Try.prog.fieldsOf S)[i]? = some f -> xs[i]? = DataW.trod enc Try.prog w base sp true n f.type ((cs.drop f.offset).take (Try.prog.cellsOf f.type))) : ∀ (i : Nat) (t o : Nat), l[i]? = some (t, o) -> ∃ y, DataW.trod enc Try.prog w base sp true n t ((cs.drop o).take (Try.prog.cellsOf t)) = some y := by
 intro i t o h
 have hi : i < k := by rw [← hk]; exact (List.getElem?_eq_some_iff.1 h).1
 have hs : (Try.prog.fieldsOf S).size = k := by
   have := congrArg List.length hF
   rw [← hk, ← this]; simp
 rw [← hF, List.getElem?_map, Option.map_eq_some_iff] at h
 obtain ⟨f, hf1, hf2⟩ := h
 injection hf2 with h1 h2
 have := hx i f (by rw [← Array.getElem?_toList]; exact hf1)
 rw [h1, h2, List.getElem?_eq_getElem (by omega)] at this
 exact ⟨_, this.symm⟩
theorem i14Und : Try.prog.underlying 80 = some (.struct (Try.prog.fieldsOf 80)) := by kernel_rfl
theorem i14Fields : (Try.prog.fieldsOf 80).toList.map (fun f => (f.type, f.offset)) = [(9, 0), (9, 1), (2, 2), (2, 3), (9, 4), (9, 5), (3, 6), (2, 7), (2, 8), (2, 9), (2, 10)] := by kernel_rfl
theorem i14CellsOf : Try.prog.cellsOf 80 = 11 := by kernel_rfl
theorem open_in14 {b0 : Nat} {v : Value} {dd : DataW H} {p : List MemPlace} {sp : Nat -> Bool} (hv : Value.okWide Try.prog w .any b0 80 v) (h : DataW.Trod enc Try.prog w base sp true 80 v dd p) :
   ∃ s0 s1 n2 n3 s4 s5 n6 n7 n8 n9 n10, v = .agg #[.string s0, .string s1, .int .i64 n2, .int .i64 n3, .string s4, .string s5, .int .i64 n6, .int .i64 n7, .int .i64 n8, .int .i64 n9, .int .i64 n10] := by
 obtain ⟨cs, rfl, hcl⟩ := okWide_struct i14Und hv
 obtain ⟨fuel, hf⟩ := h
 have hc : (Value.agg cs).cells = cs := rfl
 rw [hc] at hf
 obtain ⟨xs, n, rfl, _, hl, hxl, hx⟩ := DataW.trod_struct i14Und hf
 rw [i14CellsOf] at hl
 have fld := fldK i14Fields rfl (by omega) (fun i f h => (hx i f h).symm)
 obtain ⟨l⟩ := cs
 simp only at hl fld
 match l, hl with
 | [c0, c1, c2, c3, c4, c5, c6, c7, c8, c9, c10], _ =>
   obtain ⟨y0, h0⟩ := fld 0 9 0 rfl
   obtain ⟨y1, h1⟩ := fld 1 9 1 rfl
   obtain ⟨y2, h2⟩ := fld 2 2 2 rfl
   obtain ⟨y3, h3⟩ := fld 3 2 3 rfl
   obtain ⟨y4, h4⟩ := fld 4 9 4 rfl
   obtain ⟨y5, h5⟩ := fld 5 9 5 rfl
   obtain ⟨y6, h6⟩ := fld 6 3 6 rfl
   obtain ⟨y7, h7⟩ := fld 7 2 7 rfl
   obtain ⟨y8, h8⟩ := fld 8 2 8 rfl
   obtain ⟨y9, h9⟩ := fld 9 2 9 rfl
   obtain ⟨y10, h10⟩ := fld 10 2 10 rfl
   rw [kStr] at h0
   rw [kStr] at h1
   rw [kI64] at h2
   rw [kI64] at h3
   rw [kStr] at h4
   rw [kStr] at h5
   rw [kInt] at h6
   rw [kI64] at h7
   rw [kI64] at h8
   rw [kI64] at h9
   rw [kI64] at h10
   obtain ⟨n0, e0, _, _⟩ := DataW.trod_string uStrK h0
   obtain ⟨n1, e1, _, _⟩ := DataW.trod_string uStrK h1
   obtain ⟨n2, e2, _, w2⟩ := DataW.trod_int uI64K h2
   obtain ⟨n3, e3, _, w3⟩ := DataW.trod_int uI64K h3
   obtain ⟨n4, e4, _, _⟩ := DataW.trod_string uStrK h4
   obtain ⟨n5, e5, _, _⟩ := DataW.trod_string uStrK h5
   obtain ⟨n6, e6, _, w6⟩ := DataW.trod_int uIntK h6
   obtain ⟨n7, e7, _, w7⟩ := DataW.trod_int uI64K h7
   obtain ⟨n8, e8, _, w8⟩ := DataW.trod_int uI64K h8
   obtain ⟨n9, e9, _, w9⟩ := DataW.trod_int uI64K h9
   obtain ⟨n10, e10, _, w10⟩ := DataW.trod_int uI64K h10
   obtain rfl : c0 = _ := by simpa using e0
   obtain rfl : c1 = _ := by simpa using e1
   obtain rfl : c2 = _ := by simpa using e2
   obtain rfl : c3 = _ := by simpa using e3
   obtain rfl : c4 = _ := by simpa using e4
   obtain rfl : c5 = _ := by simpa using e5
   obtain rfl : c6 = _ := by simpa using e6
   obtain rfl : c7 = _ := by simpa using e7
   obtain rfl : c8 = _ := by simpa using e8
   obtain rfl : c9 = _ := by simpa using e9
   obtain rfl : c10 = _ := by simpa using e10
   exact ⟨_, _, _, _, _, _, _, _, _, _, _, rfl⟩
end
end
end Go.Proofs.Ytecomegocafocaa
