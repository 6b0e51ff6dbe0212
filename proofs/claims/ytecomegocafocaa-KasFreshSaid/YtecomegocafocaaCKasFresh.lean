/- The row of KasFresh: for every input the law returns true and what came in reads as it did. -/
import Derived.ChangeMaps5
import Derived.Test.YtecomegocafocaaCA20
set_option maxRecDepth 100000
set_option maxHeartbeats 4000000
namespace Go.Proofs.Ytecomegocafocaa
section
open Go.RowKit Go.QT
theorem pR_cut {P : Program} {md : Region.Mode} {ops : Array Oper} {Q : Exit -> Act -> World -> Prop} {S : World -> Prop} {p N f M : Nat} {a : Act} {w : World} (f' M' : Nat) (Z : (Act -> World -> Prop) -> Prop)
   (h1 : Z (fun a w => wpAnyT P md ops Q S p f' (bl N M') a w)) (h2 : Z (fun a w => wpAnyT P md ops Q S p f' (bl N M') a w) -> wpAnyT P md ops Q S p f (bl N M) a w) : wpAnyT P md ops Q S p f (bl N M) a w := h2 h1
end
section
open Go.Value renaming int -> iV, slice -> lV, string -> sV, bool -> bV, agg -> aV
open Go.RowKit Go.QT
theorem inN_15 {i : Nat} (h : i <= 15) : inN (i : Int) = true := inN_is (by omega) (by omega)
theorem fr_ways (nm pw other : ByteArray) : 60 < nm.size ∨ (nm.size <= 60 /\ 60 < pw.size) ∨ (nm.size <= 60 /\ pw.size <= 60 /\ 60 < other.size) ∨ (nm.size <= 60 /\ pw.size <= 60 /\ other.size <= 60 /\ rightN nm = false) ∨ (nm.size <= 60 /\ pw.size <= 60 /\ other.size <= 60 /\ rightN nm = true) := by
 rcases (by omega : 60 < nm.size ∨ (nm.size <= 60 /\ 60 < pw.size) ∨ (nm.size <= 60 /\ pw.size <= 60 /\ 60 < other.size) ∨ (nm.size <= 60 /\ pw.size <= 60 /\ other.size <= 60)) with h | h | h | h
 · exact .inl h
 · exact .inr (.inl h)
 · exact .inr (.inr (.inl h))
 · cases hb : rightN nm
   · exact .inr (.inr (.inr (.inl ⟨h.1, h.2.1, h.2.2, rfl⟩)))
   · exact .inr (.inr (.inr (.inr ⟨h.1, h.2.1, h.2.2, rfl⟩)))
theorem kasFresh_any (nm pw other : ByteArray) (cnt : Int) (w : World) : Calls Try.prog 5 #[(sV nm), (sV pw), (sV other), (iV .i64 cnt)] w (DPost w (.bool true)) := by
 have h0 := Hp.nil (fun _ => False) w
 refine enter 178 Try.func5 rfl rfl ?_
 refine wp_reset 182 [(0, (sV nm)), (1, (sV pw)), (2, (sV other)), (3, (iV .i64 cnt))] (fun x0 => ?_)
 refine wR fun K1 hK1 => ?_
 refine wq_p 1 [(8, (bV false))] ?_
 refine wE hK1 (wp_seq_k fun K2 hK2 => wR fun K3 hK3 => ?_)
 refine wT 26 (x_dp h0 7 [] (by kernel_rfl) (alive14_any _)) ?_
 rintro _ w4 ⟨rfl, h4⟩
 refine wq_p 1 [(27, (bV false))] ?_
 refine wE hK3 (cF (wp_skip (seq_n hK2 (wp_seq_k fun K5 hK5 => wp_seq_k fun K6 hK6 => ?_))))
 obtain hq | hq | hq | ⟨z1, z2, z3, hr⟩ | ⟨z1, z2, z3, hr⟩ := fr_ways nm pw other
 ·
  refine reg_lit ?_
  refine wq_p 2 [(29, (D (((nm).size : Int)))), (28, (sV nm))] (wV 30 (.bool true) (eqI (bV (decide (((nm).size : Int) > 60))) (by simp; omega)) (wq_p 3 [(33, undef), (32, undef), (31, (bV true))] (wq_p 1 [(34, undef)] ?_)))
  refine wq_p 4 [(38, undef), (37, undef), (36, (bV true)), (35, (bV true))] (wq_p 1 [(39, undef)] (wq_p 6 [(45, (bV true)), (44, undef), (43, undef), (42, undef), (41, (bV true)), (40, (bV true))] ?_))
  refine wE hK6 (cT (wR fun K8 hK8 => ?_))
  refine wq_p 1 [(8, (bV true))] ?_
  refine wE hK8 (wp_ret (seq_r ?_))
  refine post_1 rfl (by kernel_rfl) (rtm (bV true)) ?_
  exact ⟨rfl, h4.below0⟩
 ·
  refine reg_lit ?_
  refine wq_p 2 [(29, (D (((nm).size : Int)))), (28, (sV nm))] (wV 30 (.bool false) (eqI (bV (decide (((nm).size : Int) > 60))) (by simp; omega)) (wq_p 3 [(33, (D (((pw).size : Int)))), (32, (sV pw)), (31, (bV false))] (wV 34 (.bool true) (eqI (bV (decide (((pw).size : Int) > 60))) (by simp; omega)) ?_)))
  refine wq_p 4 [(38, undef), (37, undef), (36, (bV true)), (35, (bV true))] (wq_p 1 [(39, undef)] (wq_p 6 [(45, (bV true)), (44, undef), (43, undef), (42, undef), (41, (bV true)), (40, (bV true))] ?_))
  refine wE hK6 (cT (wR fun K9 hK9 => ?_))
  refine wq_p 1 [(8, (bV true))] ?_
  refine wE hK9 (wp_ret (seq_r ?_))
  refine post_1 rfl (by kernel_rfl) (rtm (bV true)) ?_
  exact ⟨rfl, h4.below0⟩
 ·
  refine reg_lit ?_
  refine wq_p 2 [(29, (D (((nm).size : Int)))), (28, (sV nm))] (wV 30 (.bool false) (eqI (bV (decide (((nm).size : Int) > 60))) (by simp; omega)) (wq_p 3 [(33, (D (((pw).size : Int)))), (32, (sV pw)), (31, (bV false))] (wV 34 (.bool false) (eqI (bV (decide (((pw).size : Int) > 60))) (by simp; omega)) ?_)))
  refine wq_p 4 [(38, (D (((other).size : Int)))), (37, (sV other)), (36, (bV false)), (35, (bV false))] (wV 39 (.bool true) (eqI (bV (decide (((other).size : Int) > 60))) (by simp; omega)) (wq_p 6 [(45, (bV true)), (44, undef), (43, undef), (42, undef), (41, (bV true)), (40, (bV true))] ?_))
  refine wE hK6 (cT (wR fun K10 hK10 => ?_))
  refine wq_p 1 [(8, (bV true))] ?_
  refine wE hK10 (wp_ret (seq_r ?_))
  refine post_1 rfl (by kernel_rfl) (rtm (bV true)) ?_
  exact ⟨rfl, h4.below0⟩
 ·
  refine reg_lit ?_
  refine wq_p 2 [(29, (D (((nm).size : Int)))), (28, (sV nm))] (wV 30 (.bool false) (eqI (bV (decide (((nm).size : Int) > 60))) (by simp; omega)) (wq_p 3 [(33, (D (((pw).size : Int)))), (32, (sV pw)), (31, (bV false))] (wV 34 (.bool false) (eqI (bV (decide (((pw).size : Int) > 60))) (by simp; omega)) ?_)))
  refine wq_p 4 [(38, (D (((other).size : Int)))), (37, (sV other)), (36, (bV false)), (35, (bV false))] (wV 39 (.bool false) (eqI (bV (decide (((other).size : Int) > 60))) (by simp; omega)) (wq_p 3 [(42, (sV nm)), (41, (bV false)), (40, (bV false))] ?_))
  refine wT 43 (x_dp (v := .bool false) h4 22 [(sV nm)] (by kernel_rfl) (hr ▸ rright_any nm (by omega) _)) ?_
  rintro _ w11 ⟨rfl, h11⟩
  refine wq_p 2 [(45, (bV true)), (44, (bV true))] ?_
  refine wE hK6 (cT (wR fun K12 hK12 => ?_))
  refine wq_p 1 [(8, (bV true))] ?_
  refine wE hK12 (wp_ret (seq_r ?_))
  refine post_1 rfl (by kernel_rfl) (rtm (bV true)) ?_
  exact ⟨rfl, h11.below0⟩
 ·
  refine reg_lit ?_
  refine wq_p 2 [(29, (D (((nm).size : Int)))), (28, (sV nm))] (wV 30 (.bool false) (eqI (bV (decide (((nm).size : Int) > 60))) (by simp; omega)) (wq_p 3 [(33, (D (((pw).size : Int)))), (32, (sV pw)), (31, (bV false))] (wV 34 (.bool false) (eqI (bV (decide (((pw).size : Int) > 60))) (by simp; omega)) ?_)))
  refine wq_p 4 [(38, (D (((other).size : Int)))), (37, (sV other)), (36, (bV false)), (35, (bV false))] (wV 39 (.bool false) (eqI (bV (decide (((other).size : Int) > 60))) (by simp; omega)) (wq_p 3 [(42, (sV nm)), (41, (bV false)), (40, (bV false))] ?_))
  refine wT 43 (x_dp (v := .bool true) h4 22 [(sV nm)] (by kernel_rfl) (hr ▸ rright_any nm (by omega) _)) ?_
  rintro _ w13 ⟨rfl, h13⟩
  refine wq_p 2 [(45, (bV false)), (44, (bV false))] ?_
  refine wE hK6 (cF (wp_skip (seq_n hK5 (wR fun K14 hK14 => ?_))))
  refine wT 46 (x_snew h13 (by kernel_rfl)) ?_
  rintro _ w15 ⟨tb15, F15, rfl, h15⟩
  refine wq_p 1 [(9, (pt tb15 0))] ?_
  refine wE hK14 (wR fun K16 hK16 => ?_)
  refine wq_p 2 [(48, (Value.iface 24 (pt tb15 0))), (47, (pt tb15 0))] ?_
  refine wT 49 (x_knew h15 0 rfl ((TS.empty.room 9 (by first | decide | simp | omega) (by first | decide | simp | omega)).less (by decide)) (by kernel_rfl)) ?_
  rintro _ w17 ⟨kb17, G17, bb17, F17, K17, s17, rfl, hK17, hs17, h17⟩
  rw [TS.empty.keys] at hK17
  have ht17 : TS s17 1 [] [] := TS.empty.add hs17
  refine wq_p 1 [(10, (pt kb17 0))] ?_
  refine wE hK16 (wp_seq_k fun K18 hK18 => wp_seq_k fun K19 hK19 => ?_)
  refine wp_reset 182 [(0, (sV nm)), (1, (sV pw)), (2, (sV other)), (3, (iV .i64 cnt)), (8, (bV false)), (9, (pt tb15 0)), (10, (pt kb17 0)), (27, (bV false)), (45, (bV false))] (fun x20 => ?_)
  refine reg_lit ?_
  refine wq_p 3 [(52, (sV pw)), (51, (sV nm)), (50, (pt kb17 0))] ?_
  have hnum21 := (ht17.made_new (f := textF pw nm) rfl (by simp)).2
  obtain ⟨K21, hK21⟩ := ex_key 2
  refine wT 53 (x_enrol (us' := [(User.mk nm K21 100 0 false)]) (f := textF pw nm) (er := 0) h17 2 1 rfl rfl rfl [(pt kb17 0), (sV nm), (sV pw), (D 100), O, (bV false)] (by kernel_rfl) (enrol_ok (h17.at_ 2 rfl) (h17.at_ 1 rfl) (h17.dis 2 1 _ _ rfl rfl (by decide)) ((ht17.room 9 (by first | decide | simp | omega) (by first | decide | simp | omega)).less (by decide)) (h17.at_ 0 rfl) (fun hq => h17.dis 2 0 _ _ rfl rfl (by decide) _ hq rfl) (fun hq => h17.dis 1 0 _ _ rfl rfl (by decide) _ hq rfl) (by omega) (by omega) K21 (hK21.trans (by rw [hnum21])) (by decide) hr (by decide) rfl (by decide) rfl)) ?_
  rintro _ w22 ⟨F22, G22, s22, rfl, hs22, h22⟩
  have hq22 := ht17.made_new hs22 (by simp)
  have ht22 : TS s22 2 [] [(textF pw nm, 2)] := hq22.1
  refine wq_p 1 [(54, (bV false))] ?_
  refine wE hK19 (cF (wp_skip (seq_n hK18 (wR fun K23 hK23 => ?_))))
  refine wq_p 3 [(57, (sV nm)), (56, (sV pw)), (55, (pt tb15 0))] ?_
  refine wT 58 (x_text h22 2 rfl pw nm (by kernel_rfl) (by omega) (by omega) (by rw [ht22.keys]; decide)) ?_
  rintro _ w24 ⟨K24, F24, s24, rfl, hK24, hs24, h24⟩
  have hq24 := ht22.made_old (m := 2) hs24 (by simp)
  have ht24 : TS s24 2 [] [(textF pw nm, 2)] := hq24.1
  rw [hq24.2] at hK24
  obtain rfl : K21 = K24 := kl_inj (hK21.trans hK24.symm)
  refine wT 11 (xN h24 32 (vb (List.replicate 16 0))) ?_
  rintro _ w25 ⟨g25, rfl, h25⟩
  refine wq_to none (xSs h25 0 32 (.tmp 11) (.tmp 58) 0 (vb (kl K21)) (vb (kl K21))) ?_
  rintro _ w26 h26
  refine wE hK23 (wR fun K27 hK27 => ?_)
  refine wT 59 (x_makeN h26 (by kernel_rfl)) ?_
  rintro _ w28 ⟨mb28, rfl, h28⟩
  refine wq_p 1 [(12, (Value.map (some mb28)))] ?_
  refine wE hK27 (wp_seq_k fun K29 hK29 => wR fun K30 hK30 => ?_)
  refine wq_p 1 [(60, (D cnt))] ?_
  obtain ⟨M31, hM31, hb31⟩ := and_mask cnt 15 (by decide)
  refine wV 61 (D ((M31 : Int))) (eqI (D (bits .and .i64 cnt 15)) (congrArg (iV .i64) hM31)) (wq_p 1 [(62, O)] ?_)
  refine wE hK30 (wp_block ?_)
  refine wp_loopm (fun mM xX aA wL => ∃ (i : Nat) (s : STab) (F : Nat -> Prop) (ks : List Bytes) (bx : List SSealed), (i <= M31) /\ ((bx).length = 3 * (i)) /\ (FrS s bx pw other nm ks (2 + 2 * (i))) /\ mM = M31 - (i) /\ aA = patch xX 182 [(0, (sV nm)), (1, (sV pw)), (2, (sV other)), (3, (iV .i64 cnt)), (9, (pt tb15 0)), (10, (pt kb17 0)), (11, (pt g25 0)), (12, (Value.map (some mb28))), (27, (bV false)), (45, (bV false)), (54, (bV false)), (61, (iV .i64 ((M31 : Int)))), (62, (iV .i64 ((i : Int))))] /\ Hp (fun _ => False) w wL [] [rTab F tb15 s, rNM mb28 ks, rBlk g25 32 (vb (kl K21)), rBlk kb17 73 ([(Value.iface 24 (pt tb15 0)), (pt bb17 0)] ++ vb (kl K17)), rBs G22 bb17 [(User.mk nm K21 100 0 false)]]) ⟨_, 0, s24, F24, ([]), ([]), (by omega), rfl, ⟨2, [(textF pw nm, 2)], ht24, KnO.init (by omega) (by omega), (by decide), fun _ hh => absurd hh List.not_mem_nil⟩, rfl, (pEq 182), h28.sel [4, 0, 1, 2, 3] [] (by kernel_rfl) rfl rfl⟩ ?_
  rintro _ x32 _ w32 ⟨i, s, F, ks, bx, hi, hlb, hF, rfl, rfl, h32⟩
  obtain ⟨n0, kn0, ht0, hko0, hn0, hks⟩ := hF
  have hn2 := hko0.ge
  refine wR fun K33 hK33 => ?_
  refine wq_p 1 [(63, (bV (decide ((i : Int) < (M31 : Int)))))] ?_
  refine wE hK33 (wp_seq_k fun K34 hK34 => ?_)
  refine wp_if ((i : Int) < (M31 : Int)) (by kernel_rfl) (fun b35 => ?_) (fun b35 => ?_)
  ·
   refine wp_skip (seq_n hK34 (wp_seq_k fun K36 hK36 => wp_block (wR fun K37 hK37 => ?_)))
   refine wq_p 2 [(13, (D ((i : Int)))), (64, (D ((i : Int))))] ?_
   refine wE hK37 (wR fun K38 hK38 => ?_)
   refine wq_p 2 [(67, (Value.iface 24 (pt tb15 0))), (66, (pt tb15 0))] (wV 68 (aV (vb (kl K21)).toArray) (eLs (h32.at_ 2 rfl) 32 (.tmp 11) 0 (vb (kl K21))) (wq_p 3 [(71, (Value.iface 49 (aV ([(D ((i : Int))), O]).toArray))), (70, (aV ([(D ((i : Int))), O]).toArray)), (69, (D ((i : Int))))] ?_))
   have hi15 : i <= 15 := by omega
   obtain ⟨b0, hp0⟩ := pack_stamp (t := (i : Int)) (q := 0) (inN_15 hi15) rfl
   refine wT 72 (x_tseal h32 0 rfl K21 1 hp0 (by kernel_rfl) ((ht0.room 9 (by (try simp only [List.length_append, List.length_cons, List.length_nil]); omega) (by (try simp only [List.length_append, List.length_cons, List.length_nil]); omega)).ok) (rTh_stamp _ (i : Int) 0) (fun _ hf => hf.elim) True.intro) ?_
   rintro _ w39 ⟨A39, c39, F39, s39, rfl, hs39, h39⟩
   have hbn39 : s.boxes.length + 1 = 3 * i + 1 := by rw [ht0.boxes]; (try simp only [List.length_append, List.length_cons, List.length_nil]); omega
   rw [hbn39] at h39
   have ht39 : TS s39 n0 (bx ++ [⟨kl K21, 1, b0⟩]) kn0 := ht0.seal hs39 (pack_le6 hp0)
   refine wq_p 5 [(15, O), (14, (lV A39 16 c39)), (74, O), (73, (lV A39 16 c39)), (65, (Value.tuple #[(lV A39 16 c39), O]))] ?_
   refine wE hK38 (wR fun K40 hK40 => ?_)
   refine wq_p 6 [(81, (aV ([(sV nm), (D ((i : Int))), (D 50), (lV A39 16 c39)]).toArray)), (80, (lV A39 16 c39)), (79, (D ((i : Int)))), (78, (sV nm)), (77, (D ((i : Int)))), (76, (pt kb17 0))] ?_
   obtain ⟨Kf, hKf⟩ := ex_key (n0 + 1)
   obtain ⟨b1, hp1⟩ := pack_inside (f := 4) (K := Kf) (s := nm) (a := (i : Int)) (u := (min 50 ((i : Int) + 100))) (r := 0) (rightM_is hr (by intro x hx; simp only [List.mem_cons, List.not_mem_nil, or_false] at hx; rcases hx with rfl | rfl | rfl | rfl <;> exact inN_is (by omega) (by omega))) (by omega)
   obtain ⟨b2, hp2⟩ := pack_reply (f := 4) (K := Kf) (n := (i : Int)) (s := ⟨#[107, 100, 99]⟩) (a := (i : Int)) (u := (min 50 ((i : Int) + 100))) (r := 0) (rightM_is right_kdc (by intro x hx; simp only [List.mem_cons, List.not_mem_nil, or_false] at hx; rcases hx with rfl | rfl | rfl | rfl | rfl <;> exact inN_is (by omega) (by omega))) (by decide)
   refine wT 82 (x_asY (s2 := (((s39.add SFrom.fresh).seal (kl K17) 2 b1).seal (kl K21) 3 b2)) (nm := nm) (m1 := mkB 98 (s39.boxes.length + 1)) (m2 := mkB 98 (s39.boxes.length + 2)) h39 0 rfl [(pt kb17 0), (D ((i : Int))), (aV ([(sV nm), (D ((i : Int))), (D 50), (lV A39 16 c39)]).toArray)] (by kernel_rfl) (as_ok_n (pre := mkB 98 (3 * i + 1)) (h39.at_ 0 rfl) (h39.at_ 5 rfl) (h39.dis 0 5 _ _ rfl rfl (by decide)) (ht39.room 9 (by (try simp only [List.length_append, List.length_cons, List.length_nil]); omega) (by (try simp only [List.length_append, List.length_cons, List.length_nil]); omega)) (h39.at_ 4 rfl) (fun hq => h39.dis 0 4 _ _ rfl rfl (by decide) _ hq rfl) (h39.at_ 1 rfl) (h39.dis 1 0 _ _ rfl rfl (by decide)) (by simp) (u := (User.mk nm K21 100 0 false)) (place_self rfl).1 (place_self rfl).2 (t := (i : Int)) (q := 0) (ht39.opn (i := 3 * i) (app1 hlb) hp0 (by omega)) (near_self hi15) (by omega) ⟨by omega, by omega⟩ (show (0 : Int) <= 100 /\ (100 : Int) <= 600 from by decide) (show (0 : Int) <= 0 from by decide) (show nm.size <= 1000 from by omega) Kf (hKf.trans (by rw [ht39.keys])) hp1 hp2)) ?_
   rintro _ w41 ⟨A41, c41, B41, d41, F41, s41, rfl, hs41, h41⟩
   have hbn41 : s39.boxes.length = 3 * i + 1 := by rw [ht39.boxes]; (try simp only [List.length_append, List.length_cons, List.length_nil]); omega
   rw [hbn41] at h41
   have ht41 : TS s41 (n0 + 1) (((bx ++ [⟨kl K21, 1, b0⟩]) ++ [⟨kl K17, 2, b1⟩]) ++ [⟨kl K21, 3, b2⟩]) kn0 := ((ht39.add rfl).seal rfl (pack_le6 hp1)).seal hs41 (pack_le6 hp2)
   have hfr := came_fr ht39.keys hs41
   refine wq_p 3 [(84, O), (83, (aV ([(sV nm), (sV (⟨#[107, 100, 99]⟩)), (lV A41 16 c41), (lV B41 16 d41)]).toArray)), (75, (Value.tuple #[(aV ([(sV nm), (sV (⟨#[107, 100, 99]⟩)), (lV A41 16 c41), (lV B41 16 d41)]).toArray), O]))] ?_
   refine wT 16 (xN h41 41 ([(sV ByteArray.empty), (sV ByteArray.empty), (lV none 0 0), (lV none 0 0)])) ?_
   rintro _ w42 ⟨g42, rfl, h42⟩
   refine wq_to none (xSs h42 0 41 (.tmp 16) (.tmp 83) 0 ([(sV nm), (sV (⟨#[107, 100, 99]⟩)), (lV A41 16 c41), (lV B41 16 d41)]) ([(sV nm), (sV (⟨#[107, 100, 99]⟩)), (lV A41 16 c41), (lV B41 16 d41)])) ?_
   rintro _ w43 h43
   refine wq_p 1 [(17, O)] ?_
   refine wE hK40 (wp_seq_k fun K44 hK44 => ?_)
   refine wp_reset 182 [(0, (sV nm)), (1, (sV pw)), (2, (sV other)), (3, (iV .i64 cnt)), (9, (pt tb15 0)), (10, (pt kb17 0)), (11, (pt g25 0)), (12, (Value.map (some mb28))), (13, (iV .i64 ((i : Int)))), (14, (lV A39 16 c39)), (16, (pt g42 0)), (17, (iV .i64 0)), (27, (bV false)), (45, (bV false)), (54, (bV false)), (61, (iV .i64 ((M31 : Int)))), (62, (iV .i64 ((i : Int)))), (63, (bV (decide ((i : Int) < (M31 : Int)))))] (fun x45 => ?_)
   refine reg_lit ?_
   refine wq_p 2 [(87, (Value.iface 24 (pt tb15 0))), (86, (pt tb15 0))] (wV 88 (aV (vb (kl K21)).toArray) (eLs (h43.at_ 6 rfl) 32 (.tmp 11) 0 (vb (kl K21))) (wq_p 1 [(89, (pt g42 3))] (wV 90 (lV B41 16 d41) (eL (h43.at_ 0 rfl) 22 (.tmp 89) 3 _) ?_)))
   refine wT 91 (x_oReply h43 1 rfl K21 3 (by kernel_rfl) ((ht41.room 9 (by (try simp only [List.length_append, List.length_cons, List.length_nil]); omega) (by (try simp only [List.length_append, List.length_cons, List.length_nil]); omega)).ok) (h43.at_ 3 rfl) (r := (.inr (.reply 4 Kf (i : Int) ⟨#[107, 100, 99]⟩ (i : Int) (min 50 ((i : Int) + 100)) 0))) (ht41.opn (i := 3 * i + 1 + 1) (app3_2 hlb) hp2 (by omega))) ?_
   rintro _ w46 ⟨rfl, h46⟩
   refine wq_p 3 [(93, O), (92, (aV ([(D 4)] ++ vb (kl Kf) ++ [(D ((i : Int))), (sV (⟨#[107, 100, 99]⟩)), (D ((i : Int))), (D ((min 50 ((i : Int) + 100)))), O]).toArray)), (85, (Value.tuple #[(aV ([(D 4)] ++ vb (kl Kf) ++ [(D ((i : Int))), (sV (⟨#[107, 100, 99]⟩)), (D ((i : Int))), (D ((min 50 ((i : Int) + 100)))), O]).toArray), O]))] ?_
   refine wT 18 (xN h46 60 ([O] ++ vb (List.replicate 16 0) ++ [O, (sV ByteArray.empty), O, O, O])) ?_
   rintro _ w47 ⟨g47, rfl, h47⟩
   refine wq_to none (xSs h47 0 60 (.tmp 18) (.tmp 92) 0 ([(D 4)] ++ vb (kl Kf) ++ [(D ((i : Int))), (sV (⟨#[107, 100, 99]⟩)), (D ((i : Int))), (D ((min 50 ((i : Int) + 100)))), O]) ([(D 4)] ++ vb (kl Kf) ++ [(D ((i : Int))), (sV (⟨#[107, 100, 99]⟩)), (D ((i : Int))), (D ((min 50 ((i : Int) + 100)))), O])) ?_
   rintro _ w48 h48
   refine wq_p 1 [(19, O)] ?_
   refine wE hK44 (wp_seq_k fun K49 hK49 => ?_)
   rcases Classical.em (other = pw) with hop | hop
   ·
    refine pR_go h48 14 (fun W => (rBlk g42 41 ([(sV nm), (sV (⟨#[107, 100, 99]⟩)), (lV A41 16 c41), (lV B41 16 d41)])).Φ W /\ True) [(96, [9], 0), (97, [95], 1), (98, [9], 0), (99, [2], 0), (100, [0], 0), (101, [97, 98, 99], 28), (102, [16], 0), (103, [101], 64), (104, [96, 100, 102], 162), (95, [103], 256), (105, [94], 512), (106, [94], 512), (21, [], 0), (0, [20, 104], 6143), (22, [105], 16383)] rfl (fun _ d _ _ _ h => by cases d <;> exact h) ?_
    intro hs51 w51 h51
    refine pR_p 9 [0, 1, 2, 3, 4, 6] [(101, (pt g42 3)), (99, (sV nm)), (98, (sV other)), (97, (pt tb15 0)), (96, (Value.iface 24 (pt tb15 0))), (95, (pt tb15 0))] 95 hs51 ⟨h51.at_ 1 rfl, trivial⟩ ?_
    refine pR_v 7 (some 102) (lV B41 16 d41) 223 rfl hs51 ⟨h51.at_ 1 rfl, trivial⟩ (fun W hW => eL hW.1 22 (.tmp 101) 3 _) ?_
    refine pR_cut 2 8191 (fun KJ => ∀ (gT2_0 : Nat), ∀ (FT2_1 : Nat -> Prop), ∀ (sT2_2 : STab), (FrS sT2_2 (((bx ++ [⟨kl K21, 1, b0⟩]) ++ [⟨kl K17, 2, b1⟩]) ++ [⟨kl K21, 3, b2⟩]) pw other nm (ks ++ [kl Kf]) (2 + 2 * i + 2) /\ sT2_2.came (kl Kf) = some SFrom.fresh) -> ∀ (xT52_2 : Nat -> Value) (aJ : Act) (wT52_2 : World), aJ = patch xT52_2 182 [(0, (sV nm)), (1, (sV pw)), (2, (sV other)), (3, (D cnt)), (9, (pt tb15 0)), (10, (pt kb17 0)), (11, (pt g25 0)), (12, (Value.map (some mb28))), (13, (D ((i : Int)))), (14, (lV A39 16 c39)), (16, (pt g42 0)), (17, O), (18, (pt g47 0)), (19, O), (20, (pt gT2_0 0)), (27, (bV false)), (45, (bV false)), (54, (bV false)), (61, (D ((M31 : Int)))), (62, (D ((i : Int)))), (63, (bV (decide ((i : Int) < (M31 : Int))))), (104, (aV ([(D 4)] ++ vb (kl Kf) ++ [(D ((i : Int))), (sV (⟨#[107, 100, 99]⟩)), (D ((i : Int))), (D ((min 50 ((i : Int) + 100)))), O]).toArray)), (105, O)] -> Hp (fun _ => False) w wT52_2 [] [rBlk gT2_0 60 ([O] ++ vb (List.replicate 16 0) ++ [O, (sV ByteArray.empty), O, O, O]), rBlk g47 60 ([(D 4)] ++ vb (kl Kf) ++ [(D ((i : Int))), (sV (⟨#[107, 100, 99]⟩)), (D ((i : Int))), (D ((min 50 ((i : Int) + 100)))), O]), rBlk g42 41 ([(sV nm), (sV (⟨#[107, 100, 99]⟩)), (lV A41 16 c41), (lV B41 16 d41)]), rTab FT2_1 tb15 sT2_2, rSB ((lV A41 16 c41)) (mkB 98 (3 * i + 1 + 1)), rSB ((lV B41 16 d41)) (mkB 98 (3 * i + 1 + 2)), rSB ((lV A39 16 c39)) (mkB 98 (3 * i + 1)), rNM mb28 ks, rBlk g25 32 (vb (kl K21)), rBlk kb17 73 ([(Value.iface 24 (pt tb15 0)), (pt bb17 0)] ++ vb (kl K17)), rBs G22 bb17 [(User.mk nm K21 100 0 false)]] -> KJ aJ wT52_2) ?_ (fun hT52_2 => ?_)
    ·
     rintro gT2_0 FT2_1 sT2_2 hx_o xT52_2 _ wT52_2 rfl hTh52_2
     refine pR_to 13 none 16383 rfl hs51 (xSs hTh52_2 0 60 (.tmp 20) (.tmp 104) 0 ([(D 4)] ++ vb (kl Kf) ++ [(D ((i : Int))), (sV (⟨#[107, 100, 99]⟩)), (D ((i : Int))), (D ((min 50 ((i : Int) + 100)))), O]) ([(D 4)] ++ vb (kl Kf) ++ [(D ((i : Int))), (sV (⟨#[107, 100, 99]⟩)), (D ((i : Int))), (D ((min 50 ((i : Int) + 100)))), O])) ?_
     rintro _ w53 h53
     refine ⟨fun _ => ⟨h53.at_ 2 rfl, trivial⟩, ?_⟩
     refine pR_to 14 (some 21) 32767 rfl hs51 (OpTo.run O (pureOp_run (by kernel_rfl) _) (R := fun v w => v = O /\ w53 = w) ⟨rfl, rfl⟩) ?_
     rintro _ _ ⟨rfl, rfl⟩
     refine ⟨fun h => absurd h (by decide), ?_⟩
     refine pR_done hs51 ?_ _
     refine seq_n hK49 (wp_seq_k fun K54 hK54 => ?_)
     obtain ⟨n1, kn1, ht1, hko1, hn1, hks1⟩ := hx_o.1
     skip
     refine reg_lit ?_
     refine wq_p 2 [(108, (Value.iface 24 (pt tb15 0))), (107, (pt tb15 0))] (wV 109 (aV (vb (kl K21)).toArray) (eLs (h53.at_ 8 rfl) 32 (.tmp 11) 0 (vb (kl K21))) (wq_p 2 [(111, (pt g42 2)), (110, (pt g42 1))] (wV 112 (lV A41 16 c41) (eL (h53.at_ 2 rfl) 22 (.tmp 111) 2 _) ?_)))
     refine wT 113 (x_oInside h53 3 rfl K21 2 (by kernel_rfl) ((ht1.room 9 (by (try simp only [List.length_append, List.length_cons, List.length_nil]); omega) (by (try simp only [List.length_append, List.length_cons, List.length_nil]); omega)).ok) (h53.at_ 4 rfl) (r := (.inl 13)) (ht1.opnNo (i := 3 * i + 1) (app3_1 hlb) (fun hh => key_ne hK17 hK21 (by decide) (by decide) (by decide) hh.1) (by omega))) ?_
     rintro _ w55 ⟨rfl, h55⟩
     refine wq_p 3 [(115, (D 13)), (114, (aV ([O] ++ vb (List.replicate 16 0) ++ [(sV ByteArray.empty), O, O, O]).toArray)), (106, (Value.tuple #[(aV ([O] ++ vb (List.replicate 16 0) ++ [(sV ByteArray.empty), O, O, O]).toArray), (D 13)]))] ?_
     refine wT 22 (xN h55 55 ([O] ++ vb (List.replicate 16 0) ++ [(sV ByteArray.empty), O, O, O])) ?_
     rintro _ w56 ⟨g56, rfl, h56⟩
     refine wq_to none (xSs h56 0 55 (.tmp 22) (.tmp 114) 0 ([O] ++ vb (List.replicate 16 0) ++ [(sV ByteArray.empty), O, O, O]) ([O] ++ vb (List.replicate 16 0) ++ [(sV ByteArray.empty), O, O, O])) ?_
     rintro _ w57 h57
     refine wq_p 1 [(23, (D 13))] ?_
     refine wE hK54 (wp_seq_k fun K58 hK58 => wp_seq_k fun K59 hK59 => ?_)
     refine pR_go h57 40 (fun W => (rBlk g47 60 ([(D 4)] ++ vb (kl Kf) ++ [(D ((i : Int))), (sV (⟨#[107, 100, 99]⟩)), (D ((i : Int))), (D ((min 50 ((i : Int) + 100)))), O])).Φ W /\ (rZ mb28 (kl Kf)).Φ W /\ (rBlk g25 32 (vb (kl K21))).Φ W /\ (rBlk kb17 73 ([(Value.iface 24 (pt tb15 0)), (pt bb17 0)] ++ vb (kl K17))).Φ W /\ True) [(117, [17], 0), (118, [116], 1), (119, [117], 2), (120, [19, 118], 4), (121, [119, 118], 12), (122, [118, 120], 20), (123, [121], 36), (124, [21, 122], 64), (125, [123, 122], 192), (126, [2, 122], 64), (127, [1, 122], 64), (128, [125, 126, 122], 1600), (129, [124, 127, 122], 2368), (130, [122, 128], 4160), (131, [129], 8256), (132, [23, 130], 16384), (133, [131, 130], 49152), (134, [130, 132], 81920), (135, [133], 147456), (136, [12, 134], 262144), (137, [18, 134], 262144), (138, [136, 134], 1310720), (139, [135, 137, 134], 2883584), (140, [138, 134], 4456448), (141, [134, 139], 8650752), (142, [140], 17039360), (143, [18, 141], 33554432), (144, [142, 141], 100663296), (145, [11, 141], 33554432), (146, [143, 144, 141], 436207616), (147, [141, 145], 570425344), (148, [146], 1107296256), (149, [18, 147], 2147483648), (150, [148, 147], 6442450944), (151, [10, 147], 2147483648), (152, [150, 147], 19327352832), (153, [151, 147], 36507222016), (154, [152, 147], 70866960384), (155, [149, 153, 147], 148176371712), (156, [147, 154], 277025390592)] rfl (fun _ d _ _ _ h => by cases d <;> exact h) ?_
     intro hs60 w60 h60
     refine pR_p 29 [0, 1, 2, 3, 4, 5, 6, 7, 8, 9, 10] [(126, (sV pw)), (125, (sV other)), (124, (bV true)), (123, O), (122, (bV false)), (121, (bV false)), (120, (bV false)), (119, O), (118, (bV false)), (117, (bV false)), (116, O)] 2047 hs60 ⟨h60.at_ 2 rfl, nm_z (h60.at_ 8 rfl) (kl Kf) (kl_len Kf) (fresh_new hks (by omega) hKf), h60.at_ 9 rfl, h60.at_ 10 rfl, trivial⟩ ?_
     refine pR_v 11 (some 127) (bV true) 4095 rfl hs60 ⟨h60.at_ 2 rfl, nm_z (h60.at_ 8 rfl) (kl Kf) (kl_len Kf) (fresh_new hks (by omega) hKf), h60.at_ 9 rfl, h60.at_ 10 rfl, trivial⟩ (fun W hW => eqI (bV ((other).toList == (pw).toList)) (str_eqT hop)) ?_
     refine pR_p 19 [12, 13, 14, 15, 16, 17, 18, 19, 20] [(136, (pt g47 1)), (135, (Value.map (some mb28))), (134, (bV false)), (133, (bV false)), (132, (bV false)), (131, (D 13)), (130, (bV false)), (129, (bV false)), (128, (bV false))] 2097151 hs60 ⟨h60.at_ 2 rfl, nm_z (h60.at_ 8 rfl) (kl Kf) (kl_len Kf) (fresh_new hks (by omega) hKf), h60.at_ 9 rfl, h60.at_ 10 rfl, trivial⟩ ?_
     refine pR_v 21 (some 137) (aV (vb (kl Kf)).toArray) 4194303 rfl hs60 ⟨h60.at_ 2 rfl, nm_z (h60.at_ 8 rfl) (kl Kf) (kl_len Kf) (fresh_new hks (by omega) hKf), h60.at_ 9 rfl, h60.at_ 10 rfl, trivial⟩ (fun W hW => eLs hW.1 32 (.tmp 136) 1 (vb (kl Kf))) ?_
     refine pR_v 22 (some 138) O 8388607 rfl hs60 ⟨h60.at_ 2 rfl, nm_z (h60.at_ 8 rfl) (kl Kf) (kl_len Kf) (fresh_new hks (by omega) hKf), h60.at_ 9 rfl, h60.at_ 10 rfl, trivial⟩ (fun W hW => e_lookZ hW.2.1 (.tmp 135) (.tmp 137) (by kernel_rfl) (by kernel_rfl) (by kernel_rfl)) ?_
     refine pR_p 13 [23, 24, 25, 26] [(142, (pt g47 1)), (141, (bV false)), (140, (bV false)), (139, (bV false))] 134217727 hs60 ⟨h60.at_ 2 rfl, nm_z (h60.at_ 8 rfl) (kl Kf) (kl_len Kf) (fresh_new hks (by omega) hKf), h60.at_ 9 rfl, h60.at_ 10 rfl, trivial⟩ ?_
     refine pR_v 27 (some 143) (aV (vb (kl Kf)).toArray) 268435455 rfl hs60 ⟨h60.at_ 2 rfl, nm_z (h60.at_ 8 rfl) (kl Kf) (kl_len Kf) (fresh_new hks (by omega) hKf), h60.at_ 9 rfl, h60.at_ 10 rfl, trivial⟩ (fun W hW => eLs hW.1 32 (.tmp 142) 1 (vb (kl Kf))) ?_
     refine pR_v 28 (some 144) (aV (vb (kl K21)).toArray) 536870911 rfl hs60 ⟨h60.at_ 2 rfl, nm_z (h60.at_ 8 rfl) (kl Kf) (kl_len Kf) (fresh_new hks (by omega) hKf), h60.at_ 9 rfl, h60.at_ 10 rfl, trivial⟩ (fun W hW => eLs hW.2.2.1 32 (.tmp 11) 0 (vb (kl K21))) ?_
     refine pR_v 29 (some 145) (bV false) 1073741823 rfl hs60 ⟨h60.at_ 2 rfl, nm_z (h60.at_ 8 rfl) (kl Kf) (kl_len Kf) (fresh_new hks (by omega) hKf), h60.at_ 9 rfl, h60.at_ 10 rfl, trivial⟩ (fun W hW => e_keq Kf K21 32 32 (.tmp 143) (.tmp 144) (by kernel_rfl) (by kernel_rfl) (by kernel_rfl) (by kernel_rfl) (by kernel_rfl) false (decide_eq_false (key_ne hKf hK21 (by omega) (by omega) (by decide))) _) ?_
     refine pR_p 4 [30, 31, 32, 34, 35, 36] [(152, (pt kb17 2)), (151, (pt kb17 0)), (150, (pt kb17 0)), (148, (pt g47 1)), (147, (bV false)), (146, (bV false))] 128849018879 hs60 ⟨h60.at_ 2 rfl, nm_z (h60.at_ 8 rfl) (kl Kf) (kl_len Kf) (fresh_new hks (by omega) hKf), h60.at_ 9 rfl, h60.at_ 10 rfl, trivial⟩ ?_
     refine pR_v 33 (some 149) (aV (vb (kl Kf)).toArray) 137438953471 rfl hs60 ⟨h60.at_ 2 rfl, nm_z (h60.at_ 8 rfl) (kl Kf) (kl_len Kf) (fresh_new hks (by omega) hKf), h60.at_ 9 rfl, h60.at_ 10 rfl, trivial⟩ (fun W hW => eLs hW.1 32 (.tmp 148) 1 (vb (kl Kf))) ?_
     refine pR_v 37 (some 153) (aV (vb (kl K17)).toArray) 274877906943 rfl hs60 ⟨h60.at_ 2 rfl, nm_z (h60.at_ 8 rfl) (kl Kf) (kl_len Kf) (fresh_new hks (by omega) hKf), h60.at_ 9 rfl, h60.at_ 10 rfl, trivial⟩ (fun W hW => eLs hW.2.2.2.1 32 (.tmp 152) 2 (vb (kl K17))) ?_
     refine pR_v 38 (some 154) (bV false) 549755813887 rfl hs60 ⟨h60.at_ 2 rfl, nm_z (h60.at_ 8 rfl) (kl Kf) (kl_len Kf) (fresh_new hks (by omega) hKf), h60.at_ 9 rfl, h60.at_ 10 rfl, trivial⟩ (fun W hW => e_keq Kf K17 32 32 (.tmp 149) (.tmp 153) (by kernel_rfl) (by kernel_rfl) (by kernel_rfl) (by kernel_rfl) (by kernel_rfl) false (decide_eq_false (key_ne hKf hK17 (by omega) (by omega) (by decide))) _) ?_
     refine pR_p 0 [39] [(155, (bV false))] 1099511627775 hs60 ⟨h60.at_ 2 rfl, nm_z (h60.at_ 8 rfl) (kl Kf) (kl_len Kf) (fresh_new hks (by omega) hKf), h60.at_ 9 rfl, h60.at_ 10 rfl, trivial⟩ ?_
     refine pR_done hs60 ?_ _
     refine seq_n hK59 (cF (wp_skip (seq_n hK58 (wp_seq_k fun K61 hK61 => ?_))))
     refine pR_go h60 7 (fun W => (rBlk g47 60 ([(D 4)] ++ vb (kl Kf) ++ [(D ((i : Int))), (sV (⟨#[107, 100, 99]⟩)), (D ((i : Int))), (D ((min 50 ((i : Int) + 100)))), O])).Φ W /\ (rZ mb28 (kl Kf)).Φ W /\ True) [(157, [12], 0), (158, [18], 0), (159, [157], 2), (160, [156, 158], 5), (161, [159], 8), (162, [156, 158], 7), (163, [161], 32), (0, [156, 162, 160], 127)] rfl (fun _ d _ _ _ h => by cases d <;> exact h) ?_
     intro hs62 w62 h62
     refine pR_p 6 [0, 1] [(157, (pt g47 1)), (156, (Value.map (some mb28)))] 3 hs62 ⟨h62.at_ 2 rfl, nm_z (h62.at_ 8 rfl) (kl Kf) (kl_len Kf) (fresh_new hks (by omega) hKf), trivial⟩ ?_
     refine pR_v 2 (some 158) (aV (vb (kl Kf)).toArray) 7 rfl hs62 ⟨h62.at_ 2 rfl, nm_z (h62.at_ 8 rfl) (kl Kf) (kl_len Kf) (fresh_new hks (by omega) hKf), trivial⟩ (fun W hW => eLs hW.1 32 (.tmp 157) 1 (vb (kl Kf))) ?_
     refine pR_v 3 (some 159) O 15 rfl hs62 ⟨h62.at_ 2 rfl, nm_z (h62.at_ 8 rfl) (kl Kf) (kl_len Kf) (fresh_new hks (by omega) hKf), trivial⟩ (fun W hW => e_lookZ hW.2.1 (.tmp 156) (.tmp 158) (by kernel_rfl) (by kernel_rfl) (by kernel_rfl)) ?_
     refine pR_p 3 [4] [(160, (D 1))] 31 hs62 ⟨h62.at_ 2 rfl, nm_z (h62.at_ 8 rfl) (kl Kf) (kl_len Kf) (fresh_new hks (by omega) hKf), trivial⟩ ?_
     refine pR_to 5 (some 161) 63 rfl hs62 (x_entN h62 8 rfl (kl Kf) (kl_len Kf) (fresh_new hks (by omega) hKf) (.tmp 156) (.tmp 158) (by kernel_rfl) (by kernel_rfl) (by kernel_rfl)) ?_
     rintro _ w63 ⟨ck63, rfl, h63⟩
     refine ⟨fun _ => ⟨h63.at_ 2 rfl, ne_z (h63.at_ 8 rfl) (fresh_new hks (by omega) hKf), trivial⟩, ?_⟩
     refine pR_p 1 [6] [(162, (D ((ck63 : Int))))] 127 hs62 ⟨h63.at_ 2 rfl, ne_z (h63.at_ 8 rfl) (fresh_new hks (by omega) hKf), trivial⟩ ?_
     refine pR_to 7 none 255 rfl hs62 (x_entS h63 8 rfl (.tmp 156) (.tmp 162) (.tmp 160) (by kernel_rfl) (by kernel_rfl) (by kernel_rfl) (by kernel_rfl)) ?_
     rintro _ w64 h64
     refine ⟨fun h => absurd h (by decide), ?_⟩
     refine pR_done hs62 ?_ _
     refine seq_n hK61 (wp_seq_k fun K65 hK65 => ?_)
     refine wp_reset 182 [(0, (sV nm)), (1, (sV pw)), (2, (sV other)), (3, (iV .i64 cnt)), (9, (pt tb15 0)), (10, (pt kb17 0)), (11, (pt g25 0)), (12, (Value.map (some mb28))), (13, (iV .i64 ((i : Int)))), (14, (lV A39 16 c39)), (16, (pt g42 0)), (17, (iV .i64 0)), (18, (pt g47 0)), (19, (iV .i64 0)), (21, (iV .i64 0)), (23, (iV .i64 13)), (27, (bV false)), (45, (bV false)), (54, (bV false)), (61, (iV .i64 ((M31 : Int)))), (62, (iV .i64 ((i : Int)))), (63, (bV (decide ((i : Int) < (M31 : Int))))), (155, (bV false))] (fun x66 => ?_)
     refine reg_lit ?_
     refine wq_p 2 [(165, (pt g47 1)), (164, (pt tb15 0))] (wV 166 (aV (vb (kl Kf)).toArray) (eLs (h64.at_ 2 rfl) 32 (.tmp 165) 1 (vb (kl Kf))) ?_)
     refine wT 167 (x_cameF h64 4 rfl Kf (by kernel_rfl) (by rw [ht1.keys]; omega) hx_o.2) ?_
     rintro _ w67 ⟨rfl, h67⟩
     refine wq_p 3 [(169, (bV true)), (168, (aV (vb (List.replicate 16 0) ++ [(sV (⟨#[]⟩)), (bV false)]).toArray)), (163, (Value.tuple #[(aV (vb (List.replicate 16 0) ++ [(sV (⟨#[]⟩)), (bV false)]).toArray), (bV true)]))] ?_
     refine wT 24 (xN h67 75 (vb (List.replicate 16 0) ++ [(sV ByteArray.empty), (bV false)])) ?_
     rintro _ w68 ⟨g68, rfl, h68⟩
     refine wq_to none (xSs h68 0 75 (.tmp 24) (.tmp 168) 0 (vb (List.replicate 16 0) ++ [(sV (⟨#[]⟩)), (bV false)]) (vb (List.replicate 16 0) ++ [(sV (⟨#[]⟩)), (bV false)])) ?_
     rintro _ w69 h69
     refine wq_p 1 [(25, (bV true))] ?_
     refine wE hK65 (wR fun K70 hK70 => ?_)
     refine wq_p 4 [(173, (pt g68 17)), (172, (bV false)), (171, (bV false)), (170, (bV true))] (wV 174 (bV false) (eL (h69.at_ 0 rfl) 4 (.tmp 173) 17 _) (wq_p 3 [(177, (pt g68 16)), (176, (bV false)), (175, (bV false))] (wV 178 (sV (⟨#[]⟩)) (eL (h69.at_ 0 rfl) 9 (.tmp 177) 16 _) ?_)))
     refine wV 179 (bV false) (eqI (bV (!((⟨#[]⟩ : ByteArray).toList == (⟨#[]⟩ : ByteArray).toList))) (by simp)) (wq_p 1 [(180, (bV false))] ?_)
     refine wE hK70 (cF (wp_skip (blk_n (seq_n hK36 (reg_lit ?_)))))
     refine wV 181 (D ((i : Int) + 1)) (exec_add _ _ _ _ rfl ((i : Int)) 1 (by kernel_rfl) (by kernel_rfl) ((i : Int) + 1) rfl (by omega) (by omega) _) (wq_p 1 [(62, (D ((i : Int) + 1)))] ?_)
     refine wl_end rfl ?_
     refine ⟨M31 - (i + 1), (by omega), (i + 1), sT2_2, FT2_1, ((ks ++ [kl Kf])), ((((bx ++ [⟨kl K21, 1, b0⟩]) ++ [⟨kl K17, 2, b1⟩]) ++ [⟨kl K21, 3, b2⟩])), (by omega), (by simp only [List.length_append, List.length_cons, List.length_nil]; omega), (show 2 + 2 * (i + 1) = 2 + 2 * i + 2 from by omega) ▸ hx_o.1, rfl, (pEq 182), h69.sel [5, 9, 10, 11, 12] [] (by kernel_rfl) rfl rfl⟩
    refine pR_cut 6 4351 (fun KJ => ∀ (gT1_0 : Nat), ∀ (KT1_1 : Fin 16 -> UInt8), ∀ (FT1_2 : Nat -> Prop), ∀ (sT1_3 : STab), (Oth sT1_3 (((bx ++ [⟨kl K21, 1, b0⟩]) ++ [⟨kl K17, 2, b1⟩]) ++ [⟨kl K21, 3, b2⟩]) pw other nm ks Kf K21 KT1_1 (2 + 2 * i + 2)) -> ∀ (xT52_1 : Nat -> Value) (aJ : Act) (wT52_1 : World), aJ = patch xT52_1 182 [(0, (sV nm)), (1, (sV pw)), (2, (sV other)), (3, (D cnt)), (9, (pt tb15 0)), (10, (pt kb17 0)), (11, (pt g25 0)), (12, (Value.map (some mb28))), (13, (D ((i : Int)))), (14, (lV A39 16 c39)), (16, (pt g42 0)), (17, O), (18, (pt g47 0)), (19, O), (20, (pt gT1_0 0)), (27, (bV false)), (45, (bV false)), (54, (bV false)), (61, (D ((M31 : Int)))), (62, (D ((i : Int)))), (63, (bV (decide ((i : Int) < (M31 : Int))))), (96, (Value.iface 24 (pt tb15 0))), (100, (aV (vb (kl KT1_1)).toArray)), (102, (lV B41 16 d41))] -> Hp (fun _ => False) w wT52_1 [] [rBlk gT1_0 60 ([O] ++ vb (List.replicate 16 0) ++ [O, (sV ByteArray.empty), O, O, O]), rBlk g47 60 ([(D 4)] ++ vb (kl Kf) ++ [(D ((i : Int))), (sV (⟨#[107, 100, 99]⟩)), (D ((i : Int))), (D ((min 50 ((i : Int) + 100)))), O]), rBlk g42 41 ([(sV nm), (sV (⟨#[107, 100, 99]⟩)), (lV A41 16 c41), (lV B41 16 d41)]), rTab FT1_2 tb15 sT1_3, rSB ((lV A41 16 c41)) (mkB 98 (3 * i + 1 + 1)), rSB ((lV B41 16 d41)) (mkB 98 (3 * i + 1 + 2)), rSB ((lV A39 16 c39)) (mkB 98 (3 * i + 1)), rNM mb28 ks, rBlk g25 32 (vb (kl K21)), rBlk kb17 73 ([(Value.iface 24 (pt tb15 0)), (pt bb17 0)] ++ vb (kl K17)), rBs G22 bb17 [(User.mk nm K21 100 0 false)]] -> KJ aJ wT52_1) ?_ (fun hT52_1 => ?_)
    ·
     rintro gT1_0 KT1_1 FT1_2 sT1_3 hx_o xT52_1 _ wT52_1 rfl hTh52_1
     refine pR_to 8 (some 103) 4607 rfl hs51 (x_oReply hTh52_1 3 rfl KT1_1 3 (by kernel_rfl) (hx_o.ok (by (try simp only [List.length_append, List.length_cons, List.length_nil]); omega) (by omega)) (hTh52_1.at_ 5 rfl) (r := (.inr (.reply 4 Kf (i : Int) ⟨#[107, 100, 99]⟩ (i : Int) (min 50 ((i : Int) + 100)) 0))) (hx_o.yes hop (app3_2 hlb) hp2 (by omega))) ?_
     rintro _ w71 ⟨rfl, h71⟩
     refine ⟨fun _ => ⟨h71.at_ 2 rfl, trivial⟩, ?_⟩
     have hoo71 := And.intro hx_o.1 hx_o.2.2.2
     refine pR_p 2 [9, 10, 11] [(105, O), (104, (aV ([(D 4)] ++ vb (kl Kf) ++ [(D ((i : Int))), (sV (⟨#[107, 100, 99]⟩)), (D ((i : Int))), (D ((min 50 ((i : Int) + 100)))), O]).toArray)), (94, (Value.tuple #[(aV ([(D 4)] ++ vb (kl Kf) ++ [(D ((i : Int))), (sV (⟨#[107, 100, 99]⟩)), (D ((i : Int))), (D ((min 50 ((i : Int) + 100)))), O]).toArray), O]))] 8191 hs51 ⟨h71.at_ 2 rfl, trivial⟩ ?_
     exact hT52_2 gT1_0 FT1_2 sT1_3 hoo71 _ _ _ (pEq 182) (h71.sel [0, 1, 2, 3, 4, 5, 6, 7, 8, 9, 10] [] (by kernel_rfl) rfl rfl)
    refine pR_cut 7 4319 (fun KJ => ∀ (gT0_0 : Nat), (TS s41 (n0 + 1) (((bx ++ [⟨kl K21, 1, b0⟩]) ++ [⟨kl K17, 2, b1⟩]) ++ [⟨kl K21, 3, b2⟩]) kn0) -> ∀ (xT52_0 : Nat -> Value) (aJ : Act) (wT52_0 : World), aJ = patch xT52_0 182 [(0, (sV nm)), (1, (sV pw)), (2, (sV other)), (3, (D cnt)), (9, (pt tb15 0)), (10, (pt kb17 0)), (11, (pt g25 0)), (12, (Value.map (some mb28))), (13, (D ((i : Int)))), (14, (lV A39 16 c39)), (16, (pt g42 0)), (17, O), (18, (pt g47 0)), (19, O), (20, (pt gT0_0 0)), (27, (bV false)), (45, (bV false)), (54, (bV false)), (61, (D ((M31 : Int)))), (62, (D ((i : Int)))), (63, (bV (decide ((i : Int) < (M31 : Int))))), (96, (Value.iface 24 (pt tb15 0))), (97, (pt tb15 0)), (98, (sV other)), (99, (sV nm)), (102, (lV B41 16 d41))] -> Hp (fun _ => False) w wT52_0 [] [rBlk gT0_0 60 ([O] ++ vb (List.replicate 16 0) ++ [O, (sV ByteArray.empty), O, O, O]), rBlk g47 60 ([(D 4)] ++ vb (kl Kf) ++ [(D ((i : Int))), (sV (⟨#[107, 100, 99]⟩)), (D ((i : Int))), (D ((min 50 ((i : Int) + 100)))), O]), rBlk g42 41 ([(sV nm), (sV (⟨#[107, 100, 99]⟩)), (lV A41 16 c41), (lV B41 16 d41)]), rTab F41 tb15 s41, rSB ((lV A41 16 c41)) (mkB 98 (3 * i + 1 + 1)), rSB ((lV B41 16 d41)) (mkB 98 (3 * i + 1 + 2)), rSB ((lV A39 16 c39)) (mkB 98 (3 * i + 1)), rNM mb28 ks, rBlk g25 32 (vb (kl K21)), rBlk kb17 73 ([(Value.iface 24 (pt tb15 0)), (pt bb17 0)] ++ vb (kl K17)), rBs G22 bb17 [(User.mk nm K21 100 0 false)]] -> KJ aJ wT52_0) ?_ (fun hT52_0 => ?_)
    ·
     rintro gT0_0 htF xT52_0 _ wT52_0 rfl hTh52_0
     refine pR_to 5 (some 100) 4351 rfl hs51 (x_text hTh52_0 3 rfl other nm (by kernel_rfl) (by omega) (by omega) (by rw [htF.keys]; omega)) ?_
     rintro _ w72 ⟨K72, F72, s72, rfl, hK72, hs72, h72⟩
     refine ⟨fun _ => ⟨h72.at_ 2 rfl, trivial⟩, ?_⟩
     have ho72 : Oth s72 (((bx ++ [⟨kl K21, 1, b0⟩]) ++ [⟨kl K17, 2, b1⟩]) ++ [⟨kl K21, 3, b2⟩]) pw other nm ks Kf K21 K72 (2 + 2 * i + 2) := mk_oth htF hko0 hn0 (by omega) hks hKf hK21 hfr hs72 hK72
     exact hT52_1 gT0_0 K72 F72 s72 ho72 _ _ _ (pEq 182) (h72.sel [0, 1, 2, 3, 4, 5, 6, 7, 8, 9, 10] [] (by kernel_rfl) rfl rfl)
    refine pR_or 5 12 hs51 ?_ ?_
    ·
     refine pR_op 5 (some 100) 255 rfl (x_text h51 2 rfl other nm (by kernel_rfl) (by omega) (by omega) (by rw [ht41.keys]; omega)) ?_
     rintro _ w73 ⟨K73, F73, s73, rfl, hK73, hs73, h73⟩
     refine ⟨fun _ => ⟨h73.at_ 1 rfl, trivial⟩, ?_⟩
     have ho73 : Oth s73 (((bx ++ [⟨kl K21, 1, b0⟩]) ++ [⟨kl K17, 2, b1⟩]) ++ [⟨kl K21, 3, b2⟩]) pw other nm ks Kf K21 K73 (2 + 2 * i + 2) := mk_oth ht41 hko0 hn0 (by omega) hks hKf hK21 hfr hs73 hK73
     refine pR_or 8 12 hs51 ?_ ?_
     ·
      refine pR_op 8 (some 103) 511 rfl (x_oReply h73 2 rfl K73 3 (by kernel_rfl) (ho73.ok (by (try simp only [List.length_append, List.length_cons, List.length_nil]); omega) (by omega)) (h73.at_ 4 rfl) (r := (.inr (.reply 4 Kf (i : Int) ⟨#[107, 100, 99]⟩ (i : Int) (min 50 ((i : Int) + 100)) 0))) (ho73.yes hop (app3_2 hlb) hp2 (by omega))) ?_
      rintro _ w74 ⟨rfl, h74⟩
      refine ⟨fun _ => ⟨h74.at_ 1 rfl, trivial⟩, ?_⟩
      have hoo74 := And.intro ho73.1 ho73.2.2.2
      refine pR_p 3 [9, 10, 11] [(105, O), (104, (aV ([(D 4)] ++ vb (kl Kf) ++ [(D ((i : Int))), (sV (⟨#[107, 100, 99]⟩)), (D ((i : Int))), (D ((min 50 ((i : Int) + 100)))), O]).toArray)), (94, (Value.tuple #[(aV ([(D 4)] ++ vb (kl Kf) ++ [(D ((i : Int))), (sV (⟨#[107, 100, 99]⟩)), (D ((i : Int))), (D ((min 50 ((i : Int) + 100)))), O]).toArray), O]))] 4095 hs51 ⟨h74.at_ 1 rfl, trivial⟩ ?_
      refine pR_to 12 (some 20) 8191 rfl hs51 (xN h74 60 ([O] ++ vb (List.replicate 16 0) ++ [O, (sV ByteArray.empty), O, O, O])) ?_
      rintro _ w75 ⟨g75, rfl, h75⟩
      refine ⟨fun _ => ⟨h75.at_ 2 rfl, trivial⟩, ?_⟩
      exact hT52_2 g75 F73 s73 hoo74 _ _ _ (pEq 182) (h75.sel [0, 1, 2, 3, 4, 5, 6, 7, 8, 9, 10] [] (by kernel_rfl) rfl rfl)
     ·
      refine pR_op 12 (some 20) 4351 rfl (xN h73 60 ([O] ++ vb (List.replicate 16 0) ++ [O, (sV ByteArray.empty), O, O, O])) ?_
      rintro _ w76 ⟨g76, rfl, h76⟩
      refine ⟨fun _ => ⟨h76.at_ 2 rfl, trivial⟩, ?_⟩
      exact hT52_1 g76 K73 F73 s73 ho73 _ _ _ (pEq 182) (h76.sel [0, 1, 2, 3, 4, 5, 6, 7, 8, 9, 10] [] (by kernel_rfl) rfl rfl)
    ·
     refine pR_op 12 (some 20) 4319 rfl (xN h51 60 ([O] ++ vb (List.replicate 16 0) ++ [O, (sV ByteArray.empty), O, O, O])) ?_
     rintro _ w77 ⟨g77, rfl, h77⟩
     refine ⟨fun _ => ⟨h77.at_ 2 rfl, trivial⟩, ?_⟩
     exact hT52_0 g77 ht41 _ _ _ (pEq 182) (h77.sel [0, 1, 2, 3, 4, 5, 6, 7, 8, 9, 10] [] (by kernel_rfl) rfl rfl)
   ·
    refine pR_go h48 14 (fun W => (rBlk g42 41 ([(sV nm), (sV (⟨#[107, 100, 99]⟩)), (lV A41 16 c41), (lV B41 16 d41)])).Φ W /\ True) [(96, [9], 0), (97, [95], 1), (98, [9], 0), (99, [2], 0), (100, [0], 0), (101, [97, 98, 99], 28), (102, [16], 0), (103, [101], 64), (104, [96, 100, 102], 162), (95, [103], 256), (105, [94], 512), (106, [94], 512), (21, [], 0), (0, [20, 104], 6143), (22, [105], 16383)] rfl (fun _ d _ _ _ h => by cases d <;> exact h) ?_
    intro hs78 w78 h78
    refine pR_p 9 [0, 1, 2, 3, 4, 6] [(101, (pt g42 3)), (99, (sV nm)), (98, (sV other)), (97, (pt tb15 0)), (96, (Value.iface 24 (pt tb15 0))), (95, (pt tb15 0))] 95 hs78 ⟨h78.at_ 1 rfl, trivial⟩ ?_
    refine pR_v 7 (some 102) (lV B41 16 d41) 223 rfl hs78 ⟨h78.at_ 1 rfl, trivial⟩ (fun W hW => eL hW.1 22 (.tmp 101) 3 _) ?_
    refine pR_cut 2 8191 (fun KJ => ∀ (gT2_0 : Nat), ∀ (FT2_1 : Nat -> Prop), ∀ (sT2_2 : STab), (FrS sT2_2 (((bx ++ [⟨kl K21, 1, b0⟩]) ++ [⟨kl K17, 2, b1⟩]) ++ [⟨kl K21, 3, b2⟩]) pw other nm (ks ++ [kl Kf]) (2 + 2 * i + 2) /\ sT2_2.came (kl Kf) = some SFrom.fresh) -> ∀ (xT79_2 : Nat -> Value) (aJ : Act) (wT79_2 : World), aJ = patch xT79_2 182 [(0, (sV nm)), (1, (sV pw)), (2, (sV other)), (3, (D cnt)), (9, (pt tb15 0)), (10, (pt kb17 0)), (11, (pt g25 0)), (12, (Value.map (some mb28))), (13, (D ((i : Int)))), (14, (lV A39 16 c39)), (16, (pt g42 0)), (17, O), (18, (pt g47 0)), (19, O), (20, (pt gT2_0 0)), (27, (bV false)), (45, (bV false)), (54, (bV false)), (61, (D ((M31 : Int)))), (62, (D ((i : Int)))), (63, (bV (decide ((i : Int) < (M31 : Int))))), (104, (aV ([O] ++ vb (List.replicate 16 0) ++ [O, (sV ByteArray.empty), O, O, O]).toArray)), (105, (D 13))] -> Hp (fun _ => False) w wT79_2 [] [rBlk gT2_0 60 ([O] ++ vb (List.replicate 16 0) ++ [O, (sV ByteArray.empty), O, O, O]), rBlk g47 60 ([(D 4)] ++ vb (kl Kf) ++ [(D ((i : Int))), (sV (⟨#[107, 100, 99]⟩)), (D ((i : Int))), (D ((min 50 ((i : Int) + 100)))), O]), rBlk g42 41 ([(sV nm), (sV (⟨#[107, 100, 99]⟩)), (lV A41 16 c41), (lV B41 16 d41)]), rTab FT2_1 tb15 sT2_2, rSB ((lV A41 16 c41)) (mkB 98 (3 * i + 1 + 1)), rSB ((lV B41 16 d41)) (mkB 98 (3 * i + 1 + 2)), rSB ((lV A39 16 c39)) (mkB 98 (3 * i + 1)), rNM mb28 ks, rBlk g25 32 (vb (kl K21)), rBlk kb17 73 ([(Value.iface 24 (pt tb15 0)), (pt bb17 0)] ++ vb (kl K17)), rBs G22 bb17 [(User.mk nm K21 100 0 false)]] -> KJ aJ wT79_2) ?_ (fun hT79_2 => ?_)
    ·
     rintro gT2_0 FT2_1 sT2_2 hx_o xT79_2 _ wT79_2 rfl hTh79_2
     refine pR_to 13 none 16383 rfl hs78 (xSs hTh79_2 0 60 (.tmp 20) (.tmp 104) 0 ([O] ++ vb (List.replicate 16 0) ++ [O, (sV ByteArray.empty), O, O, O]) ([O] ++ vb (List.replicate 16 0) ++ [O, (sV ByteArray.empty), O, O, O])) ?_
     rintro _ w80 h80
     refine ⟨fun _ => ⟨h80.at_ 2 rfl, trivial⟩, ?_⟩
     refine pR_to 14 (some 21) 32767 rfl hs78 (OpTo.run (D 13) (pureOp_run (by kernel_rfl) _) (R := fun v w => v = (D 13) /\ w80 = w) ⟨rfl, rfl⟩) ?_
     rintro _ _ ⟨rfl, rfl⟩
     refine ⟨fun h => absurd h (by decide), ?_⟩
     refine pR_done hs78 ?_ _
     refine seq_n hK49 (wp_seq_k fun K81 hK81 => ?_)
     obtain ⟨n1, kn1, ht1, hko1, hn1, hks1⟩ := hx_o.1
     skip
     refine reg_lit ?_
     refine wq_p 2 [(108, (Value.iface 24 (pt tb15 0))), (107, (pt tb15 0))] (wV 109 (aV (vb (kl K21)).toArray) (eLs (h80.at_ 8 rfl) 32 (.tmp 11) 0 (vb (kl K21))) (wq_p 2 [(111, (pt g42 2)), (110, (pt g42 1))] (wV 112 (lV A41 16 c41) (eL (h80.at_ 2 rfl) 22 (.tmp 111) 2 _) ?_)))
     refine wT 113 (x_oInside h80 3 rfl K21 2 (by kernel_rfl) ((ht1.room 9 (by (try simp only [List.length_append, List.length_cons, List.length_nil]); omega) (by (try simp only [List.length_append, List.length_cons, List.length_nil]); omega)).ok) (h80.at_ 4 rfl) (r := (.inl 13)) (ht1.opnNo (i := 3 * i + 1) (app3_1 hlb) (fun hh => key_ne hK17 hK21 (by decide) (by decide) (by decide) hh.1) (by omega))) ?_
     rintro _ w82 ⟨rfl, h82⟩
     refine wq_p 3 [(115, (D 13)), (114, (aV ([O] ++ vb (List.replicate 16 0) ++ [(sV ByteArray.empty), O, O, O]).toArray)), (106, (Value.tuple #[(aV ([O] ++ vb (List.replicate 16 0) ++ [(sV ByteArray.empty), O, O, O]).toArray), (D 13)]))] ?_
     refine wT 22 (xN h82 55 ([O] ++ vb (List.replicate 16 0) ++ [(sV ByteArray.empty), O, O, O])) ?_
     rintro _ w83 ⟨g83, rfl, h83⟩
     refine wq_to none (xSs h83 0 55 (.tmp 22) (.tmp 114) 0 ([O] ++ vb (List.replicate 16 0) ++ [(sV ByteArray.empty), O, O, O]) ([O] ++ vb (List.replicate 16 0) ++ [(sV ByteArray.empty), O, O, O])) ?_
     rintro _ w84 h84
     refine wq_p 1 [(23, (D 13))] ?_
     refine wE hK81 (wp_seq_k fun K85 hK85 => wp_seq_k fun K86 hK86 => ?_)
     refine pR_go h84 40 (fun W => (rBlk g47 60 ([(D 4)] ++ vb (kl Kf) ++ [(D ((i : Int))), (sV (⟨#[107, 100, 99]⟩)), (D ((i : Int))), (D ((min 50 ((i : Int) + 100)))), O])).Φ W /\ (rZ mb28 (kl Kf)).Φ W /\ (rBlk g25 32 (vb (kl K21))).Φ W /\ (rBlk kb17 73 ([(Value.iface 24 (pt tb15 0)), (pt bb17 0)] ++ vb (kl K17))).Φ W /\ True) [(117, [17], 0), (118, [116], 1), (119, [117], 2), (120, [19, 118], 4), (121, [119, 118], 12), (122, [118, 120], 20), (123, [121], 36), (124, [21, 122], 64), (125, [123, 122], 192), (126, [2, 122], 64), (127, [1, 122], 64), (128, [125, 126, 122], 1600), (129, [124, 127, 122], 2368), (130, [122, 128], 4160), (131, [129], 8256), (132, [23, 130], 16384), (133, [131, 130], 49152), (134, [130, 132], 81920), (135, [133], 147456), (136, [12, 134], 262144), (137, [18, 134], 262144), (138, [136, 134], 1310720), (139, [135, 137, 134], 2883584), (140, [138, 134], 4456448), (141, [134, 139], 8650752), (142, [140], 17039360), (143, [18, 141], 33554432), (144, [142, 141], 100663296), (145, [11, 141], 33554432), (146, [143, 144, 141], 436207616), (147, [141, 145], 570425344), (148, [146], 1107296256), (149, [18, 147], 2147483648), (150, [148, 147], 6442450944), (151, [10, 147], 2147483648), (152, [150, 147], 19327352832), (153, [151, 147], 36507222016), (154, [152, 147], 70866960384), (155, [149, 153, 147], 148176371712), (156, [147, 154], 277025390592)] rfl (fun _ d _ _ _ h => by cases d <;> exact h) ?_
     intro hs87 w87 h87
     refine pR_p 29 [0, 1, 2, 3, 4, 5, 6, 7, 8, 9, 10] [(126, (sV pw)), (125, (sV other)), (124, (bV false)), (123, (D 13)), (122, (bV false)), (121, (bV false)), (120, (bV false)), (119, O), (118, (bV false)), (117, (bV false)), (116, O)] 2047 hs87 ⟨h87.at_ 2 rfl, nm_z (h87.at_ 8 rfl) (kl Kf) (kl_len Kf) (fresh_new hks (by omega) hKf), h87.at_ 9 rfl, h87.at_ 10 rfl, trivial⟩ ?_
     refine pR_v 11 (some 127) (bV false) 4095 rfl hs87 ⟨h87.at_ 2 rfl, nm_z (h87.at_ 8 rfl) (kl Kf) (kl_len Kf) (fresh_new hks (by omega) hKf), h87.at_ 9 rfl, h87.at_ 10 rfl, trivial⟩ (fun W hW => eqI (bV ((other).toList == (pw).toList)) (str_eqF hop)) ?_
     refine pR_p 19 [12, 13, 14, 15, 16, 17, 18, 19, 20] [(136, (pt g47 1)), (135, (Value.map (some mb28))), (134, (bV false)), (133, (bV false)), (132, (bV false)), (131, (D 13)), (130, (bV false)), (129, (bV false)), (128, (bV false))] 2097151 hs87 ⟨h87.at_ 2 rfl, nm_z (h87.at_ 8 rfl) (kl Kf) (kl_len Kf) (fresh_new hks (by omega) hKf), h87.at_ 9 rfl, h87.at_ 10 rfl, trivial⟩ ?_
     refine pR_v 21 (some 137) (aV (vb (kl Kf)).toArray) 4194303 rfl hs87 ⟨h87.at_ 2 rfl, nm_z (h87.at_ 8 rfl) (kl Kf) (kl_len Kf) (fresh_new hks (by omega) hKf), h87.at_ 9 rfl, h87.at_ 10 rfl, trivial⟩ (fun W hW => eLs hW.1 32 (.tmp 136) 1 (vb (kl Kf))) ?_
     refine pR_v 22 (some 138) O 8388607 rfl hs87 ⟨h87.at_ 2 rfl, nm_z (h87.at_ 8 rfl) (kl Kf) (kl_len Kf) (fresh_new hks (by omega) hKf), h87.at_ 9 rfl, h87.at_ 10 rfl, trivial⟩ (fun W hW => e_lookZ hW.2.1 (.tmp 135) (.tmp 137) (by kernel_rfl) (by kernel_rfl) (by kernel_rfl)) ?_
     refine pR_p 13 [23, 24, 25, 26] [(142, (pt g47 1)), (141, (bV false)), (140, (bV false)), (139, (bV false))] 134217727 hs87 ⟨h87.at_ 2 rfl, nm_z (h87.at_ 8 rfl) (kl Kf) (kl_len Kf) (fresh_new hks (by omega) hKf), h87.at_ 9 rfl, h87.at_ 10 rfl, trivial⟩ ?_
     refine pR_v 27 (some 143) (aV (vb (kl Kf)).toArray) 268435455 rfl hs87 ⟨h87.at_ 2 rfl, nm_z (h87.at_ 8 rfl) (kl Kf) (kl_len Kf) (fresh_new hks (by omega) hKf), h87.at_ 9 rfl, h87.at_ 10 rfl, trivial⟩ (fun W hW => eLs hW.1 32 (.tmp 142) 1 (vb (kl Kf))) ?_
     refine pR_v 28 (some 144) (aV (vb (kl K21)).toArray) 536870911 rfl hs87 ⟨h87.at_ 2 rfl, nm_z (h87.at_ 8 rfl) (kl Kf) (kl_len Kf) (fresh_new hks (by omega) hKf), h87.at_ 9 rfl, h87.at_ 10 rfl, trivial⟩ (fun W hW => eLs hW.2.2.1 32 (.tmp 11) 0 (vb (kl K21))) ?_
     refine pR_v 29 (some 145) (bV false) 1073741823 rfl hs87 ⟨h87.at_ 2 rfl, nm_z (h87.at_ 8 rfl) (kl Kf) (kl_len Kf) (fresh_new hks (by omega) hKf), h87.at_ 9 rfl, h87.at_ 10 rfl, trivial⟩ (fun W hW => e_keq Kf K21 32 32 (.tmp 143) (.tmp 144) (by kernel_rfl) (by kernel_rfl) (by kernel_rfl) (by kernel_rfl) (by kernel_rfl) false (decide_eq_false (key_ne hKf hK21 (by omega) (by omega) (by decide))) _) ?_
     refine pR_p 4 [30, 31, 32, 34, 35, 36] [(152, (pt kb17 2)), (151, (pt kb17 0)), (150, (pt kb17 0)), (148, (pt g47 1)), (147, (bV false)), (146, (bV false))] 128849018879 hs87 ⟨h87.at_ 2 rfl, nm_z (h87.at_ 8 rfl) (kl Kf) (kl_len Kf) (fresh_new hks (by omega) hKf), h87.at_ 9 rfl, h87.at_ 10 rfl, trivial⟩ ?_
     refine pR_v 33 (some 149) (aV (vb (kl Kf)).toArray) 137438953471 rfl hs87 ⟨h87.at_ 2 rfl, nm_z (h87.at_ 8 rfl) (kl Kf) (kl_len Kf) (fresh_new hks (by omega) hKf), h87.at_ 9 rfl, h87.at_ 10 rfl, trivial⟩ (fun W hW => eLs hW.1 32 (.tmp 148) 1 (vb (kl Kf))) ?_
     refine pR_v 37 (some 153) (aV (vb (kl K17)).toArray) 274877906943 rfl hs87 ⟨h87.at_ 2 rfl, nm_z (h87.at_ 8 rfl) (kl Kf) (kl_len Kf) (fresh_new hks (by omega) hKf), h87.at_ 9 rfl, h87.at_ 10 rfl, trivial⟩ (fun W hW => eLs hW.2.2.2.1 32 (.tmp 152) 2 (vb (kl K17))) ?_
     refine pR_v 38 (some 154) (bV false) 549755813887 rfl hs87 ⟨h87.at_ 2 rfl, nm_z (h87.at_ 8 rfl) (kl Kf) (kl_len Kf) (fresh_new hks (by omega) hKf), h87.at_ 9 rfl, h87.at_ 10 rfl, trivial⟩ (fun W hW => e_keq Kf K17 32 32 (.tmp 149) (.tmp 153) (by kernel_rfl) (by kernel_rfl) (by kernel_rfl) (by kernel_rfl) (by kernel_rfl) false (decide_eq_false (key_ne hKf hK17 (by omega) (by omega) (by decide))) _) ?_
     refine pR_p 0 [39] [(155, (bV false))] 1099511627775 hs87 ⟨h87.at_ 2 rfl, nm_z (h87.at_ 8 rfl) (kl Kf) (kl_len Kf) (fresh_new hks (by omega) hKf), h87.at_ 9 rfl, h87.at_ 10 rfl, trivial⟩ ?_
     refine pR_done hs87 ?_ _
     refine seq_n hK86 (cF (wp_skip (seq_n hK85 (wp_seq_k fun K88 hK88 => ?_))))
     refine pR_go h87 7 (fun W => (rBlk g47 60 ([(D 4)] ++ vb (kl Kf) ++ [(D ((i : Int))), (sV (⟨#[107, 100, 99]⟩)), (D ((i : Int))), (D ((min 50 ((i : Int) + 100)))), O])).Φ W /\ (rZ mb28 (kl Kf)).Φ W /\ True) [(157, [12], 0), (158, [18], 0), (159, [157], 2), (160, [156, 158], 5), (161, [159], 8), (162, [156, 158], 7), (163, [161], 32), (0, [156, 162, 160], 127)] rfl (fun _ d _ _ _ h => by cases d <;> exact h) ?_
     intro hs89 w89 h89
     refine pR_p 6 [0, 1] [(157, (pt g47 1)), (156, (Value.map (some mb28)))] 3 hs89 ⟨h89.at_ 2 rfl, nm_z (h89.at_ 8 rfl) (kl Kf) (kl_len Kf) (fresh_new hks (by omega) hKf), trivial⟩ ?_
     refine pR_v 2 (some 158) (aV (vb (kl Kf)).toArray) 7 rfl hs89 ⟨h89.at_ 2 rfl, nm_z (h89.at_ 8 rfl) (kl Kf) (kl_len Kf) (fresh_new hks (by omega) hKf), trivial⟩ (fun W hW => eLs hW.1 32 (.tmp 157) 1 (vb (kl Kf))) ?_
     refine pR_v 3 (some 159) O 15 rfl hs89 ⟨h89.at_ 2 rfl, nm_z (h89.at_ 8 rfl) (kl Kf) (kl_len Kf) (fresh_new hks (by omega) hKf), trivial⟩ (fun W hW => e_lookZ hW.2.1 (.tmp 156) (.tmp 158) (by kernel_rfl) (by kernel_rfl) (by kernel_rfl)) ?_
     refine pR_p 3 [4] [(160, (D 1))] 31 hs89 ⟨h89.at_ 2 rfl, nm_z (h89.at_ 8 rfl) (kl Kf) (kl_len Kf) (fresh_new hks (by omega) hKf), trivial⟩ ?_
     refine pR_to 5 (some 161) 63 rfl hs89 (x_entN h89 8 rfl (kl Kf) (kl_len Kf) (fresh_new hks (by omega) hKf) (.tmp 156) (.tmp 158) (by kernel_rfl) (by kernel_rfl) (by kernel_rfl)) ?_
     rintro _ w90 ⟨ck90, rfl, h90⟩
     refine ⟨fun _ => ⟨h90.at_ 2 rfl, ne_z (h90.at_ 8 rfl) (fresh_new hks (by omega) hKf), trivial⟩, ?_⟩
     refine pR_p 1 [6] [(162, (D ((ck90 : Int))))] 127 hs89 ⟨h90.at_ 2 rfl, ne_z (h90.at_ 8 rfl) (fresh_new hks (by omega) hKf), trivial⟩ ?_
     refine pR_to 7 none 255 rfl hs89 (x_entS h90 8 rfl (.tmp 156) (.tmp 162) (.tmp 160) (by kernel_rfl) (by kernel_rfl) (by kernel_rfl) (by kernel_rfl)) ?_
     rintro _ w91 h91
     refine ⟨fun h => absurd h (by decide), ?_⟩
     refine pR_done hs89 ?_ _
     refine seq_n hK88 (wp_seq_k fun K92 hK92 => ?_)
     refine wp_reset 182 [(0, (sV nm)), (1, (sV pw)), (2, (sV other)), (3, (iV .i64 cnt)), (9, (pt tb15 0)), (10, (pt kb17 0)), (11, (pt g25 0)), (12, (Value.map (some mb28))), (13, (iV .i64 ((i : Int)))), (14, (lV A39 16 c39)), (16, (pt g42 0)), (17, (iV .i64 0)), (18, (pt g47 0)), (19, (iV .i64 0)), (21, (iV .i64 13)), (23, (iV .i64 13)), (27, (bV false)), (45, (bV false)), (54, (bV false)), (61, (iV .i64 ((M31 : Int)))), (62, (iV .i64 ((i : Int)))), (63, (bV (decide ((i : Int) < (M31 : Int))))), (155, (bV false))] (fun x93 => ?_)
     refine reg_lit ?_
     refine wq_p 2 [(165, (pt g47 1)), (164, (pt tb15 0))] (wV 166 (aV (vb (kl Kf)).toArray) (eLs (h91.at_ 2 rfl) 32 (.tmp 165) 1 (vb (kl Kf))) ?_)
     refine wT 167 (x_cameF h91 4 rfl Kf (by kernel_rfl) (by rw [ht1.keys]; omega) hx_o.2) ?_
     rintro _ w94 ⟨rfl, h94⟩
     refine wq_p 3 [(169, (bV true)), (168, (aV (vb (List.replicate 16 0) ++ [(sV (⟨#[]⟩)), (bV false)]).toArray)), (163, (Value.tuple #[(aV (vb (List.replicate 16 0) ++ [(sV (⟨#[]⟩)), (bV false)]).toArray), (bV true)]))] ?_
     refine wT 24 (xN h94 75 (vb (List.replicate 16 0) ++ [(sV ByteArray.empty), (bV false)])) ?_
     rintro _ w95 ⟨g95, rfl, h95⟩
     refine wq_to none (xSs h95 0 75 (.tmp 24) (.tmp 168) 0 (vb (List.replicate 16 0) ++ [(sV (⟨#[]⟩)), (bV false)]) (vb (List.replicate 16 0) ++ [(sV (⟨#[]⟩)), (bV false)])) ?_
     rintro _ w96 h96
     refine wq_p 1 [(25, (bV true))] ?_
     refine wE hK92 (wR fun K97 hK97 => ?_)
     refine wq_p 4 [(173, (pt g95 17)), (172, (bV false)), (171, (bV false)), (170, (bV true))] (wV 174 (bV false) (eL (h96.at_ 0 rfl) 4 (.tmp 173) 17 _) (wq_p 3 [(177, (pt g95 16)), (176, (bV false)), (175, (bV false))] (wV 178 (sV (⟨#[]⟩)) (eL (h96.at_ 0 rfl) 9 (.tmp 177) 16 _) ?_)))
     refine wV 179 (bV false) (eqI (bV (!((⟨#[]⟩ : ByteArray).toList == (⟨#[]⟩ : ByteArray).toList))) (by simp)) (wq_p 1 [(180, (bV false))] ?_)
     refine wE hK97 (cF (wp_skip (blk_n (seq_n hK36 (reg_lit ?_)))))
     refine wV 181 (D ((i : Int) + 1)) (exec_add _ _ _ _ rfl ((i : Int)) 1 (by kernel_rfl) (by kernel_rfl) ((i : Int) + 1) rfl (by omega) (by omega) _) (wq_p 1 [(62, (D ((i : Int) + 1)))] ?_)
     refine wl_end rfl ?_
     refine ⟨M31 - (i + 1), (by omega), (i + 1), sT2_2, FT2_1, ((ks ++ [kl Kf])), ((((bx ++ [⟨kl K21, 1, b0⟩]) ++ [⟨kl K17, 2, b1⟩]) ++ [⟨kl K21, 3, b2⟩])), (by omega), (by simp only [List.length_append, List.length_cons, List.length_nil]; omega), (show 2 + 2 * (i + 1) = 2 + 2 * i + 2 from by omega) ▸ hx_o.1, rfl, (pEq 182), h96.sel [5, 9, 10, 11, 12] [] (by kernel_rfl) rfl rfl⟩
    refine pR_cut 6 4351 (fun KJ => ∀ (gT1_0 : Nat), ∀ (KT1_1 : Fin 16 -> UInt8), ∀ (FT1_2 : Nat -> Prop), ∀ (sT1_3 : STab), (Oth sT1_3 (((bx ++ [⟨kl K21, 1, b0⟩]) ++ [⟨kl K17, 2, b1⟩]) ++ [⟨kl K21, 3, b2⟩]) pw other nm ks Kf K21 KT1_1 (2 + 2 * i + 2)) -> ∀ (xT79_1 : Nat -> Value) (aJ : Act) (wT79_1 : World), aJ = patch xT79_1 182 [(0, (sV nm)), (1, (sV pw)), (2, (sV other)), (3, (D cnt)), (9, (pt tb15 0)), (10, (pt kb17 0)), (11, (pt g25 0)), (12, (Value.map (some mb28))), (13, (D ((i : Int)))), (14, (lV A39 16 c39)), (16, (pt g42 0)), (17, O), (18, (pt g47 0)), (19, O), (20, (pt gT1_0 0)), (27, (bV false)), (45, (bV false)), (54, (bV false)), (61, (D ((M31 : Int)))), (62, (D ((i : Int)))), (63, (bV (decide ((i : Int) < (M31 : Int))))), (96, (Value.iface 24 (pt tb15 0))), (100, (aV (vb (kl KT1_1)).toArray)), (102, (lV B41 16 d41))] -> Hp (fun _ => False) w wT79_1 [] [rBlk gT1_0 60 ([O] ++ vb (List.replicate 16 0) ++ [O, (sV ByteArray.empty), O, O, O]), rBlk g47 60 ([(D 4)] ++ vb (kl Kf) ++ [(D ((i : Int))), (sV (⟨#[107, 100, 99]⟩)), (D ((i : Int))), (D ((min 50 ((i : Int) + 100)))), O]), rBlk g42 41 ([(sV nm), (sV (⟨#[107, 100, 99]⟩)), (lV A41 16 c41), (lV B41 16 d41)]), rTab FT1_2 tb15 sT1_3, rSB ((lV A41 16 c41)) (mkB 98 (3 * i + 1 + 1)), rSB ((lV B41 16 d41)) (mkB 98 (3 * i + 1 + 2)), rSB ((lV A39 16 c39)) (mkB 98 (3 * i + 1)), rNM mb28 ks, rBlk g25 32 (vb (kl K21)), rBlk kb17 73 ([(Value.iface 24 (pt tb15 0)), (pt bb17 0)] ++ vb (kl K17)), rBs G22 bb17 [(User.mk nm K21 100 0 false)]] -> KJ aJ wT79_1) ?_ (fun hT79_1 => ?_)
    ·
     rintro gT1_0 KT1_1 FT1_2 sT1_3 hx_o xT79_1 _ wT79_1 rfl hTh79_1
     refine pR_to 8 (some 103) 4607 rfl hs78 (x_oReply hTh79_1 3 rfl KT1_1 3 (by kernel_rfl) (hx_o.ok (by (try simp only [List.length_append, List.length_cons, List.length_nil]); omega) (by omega)) (hTh79_1.at_ 5 rfl) (r := (.inl 13)) (hx_o.no hop (app3_2 hlb) (by omega))) ?_
     rintro _ w98 ⟨rfl, h98⟩
     refine ⟨fun _ => ⟨h98.at_ 2 rfl, trivial⟩, ?_⟩
     have hoo98 := And.intro hx_o.1 hx_o.2.2.2
     refine pR_p 2 [9, 10, 11] [(105, (D 13)), (104, (aV ([O] ++ vb (List.replicate 16 0) ++ [O, (sV ByteArray.empty), O, O, O]).toArray)), (94, (Value.tuple #[(aV ([O] ++ vb (List.replicate 16 0) ++ [O, (sV ByteArray.empty), O, O, O]).toArray), (D 13)]))] 8191 hs78 ⟨h98.at_ 2 rfl, trivial⟩ ?_
     exact hT79_2 gT1_0 FT1_2 sT1_3 hoo98 _ _ _ (pEq 182) (h98.sel [0, 1, 2, 3, 4, 5, 6, 7, 8, 9, 10] [] (by kernel_rfl) rfl rfl)
    refine pR_cut 7 4319 (fun KJ => ∀ (gT0_0 : Nat), (TS s41 (n0 + 1) (((bx ++ [⟨kl K21, 1, b0⟩]) ++ [⟨kl K17, 2, b1⟩]) ++ [⟨kl K21, 3, b2⟩]) kn0) -> ∀ (xT79_0 : Nat -> Value) (aJ : Act) (wT79_0 : World), aJ = patch xT79_0 182 [(0, (sV nm)), (1, (sV pw)), (2, (sV other)), (3, (D cnt)), (9, (pt tb15 0)), (10, (pt kb17 0)), (11, (pt g25 0)), (12, (Value.map (some mb28))), (13, (D ((i : Int)))), (14, (lV A39 16 c39)), (16, (pt g42 0)), (17, O), (18, (pt g47 0)), (19, O), (20, (pt gT0_0 0)), (27, (bV false)), (45, (bV false)), (54, (bV false)), (61, (D ((M31 : Int)))), (62, (D ((i : Int)))), (63, (bV (decide ((i : Int) < (M31 : Int))))), (96, (Value.iface 24 (pt tb15 0))), (97, (pt tb15 0)), (98, (sV other)), (99, (sV nm)), (102, (lV B41 16 d41))] -> Hp (fun _ => False) w wT79_0 [] [rBlk gT0_0 60 ([O] ++ vb (List.replicate 16 0) ++ [O, (sV ByteArray.empty), O, O, O]), rBlk g47 60 ([(D 4)] ++ vb (kl Kf) ++ [(D ((i : Int))), (sV (⟨#[107, 100, 99]⟩)), (D ((i : Int))), (D ((min 50 ((i : Int) + 100)))), O]), rBlk g42 41 ([(sV nm), (sV (⟨#[107, 100, 99]⟩)), (lV A41 16 c41), (lV B41 16 d41)]), rTab F41 tb15 s41, rSB ((lV A41 16 c41)) (mkB 98 (3 * i + 1 + 1)), rSB ((lV B41 16 d41)) (mkB 98 (3 * i + 1 + 2)), rSB ((lV A39 16 c39)) (mkB 98 (3 * i + 1)), rNM mb28 ks, rBlk g25 32 (vb (kl K21)), rBlk kb17 73 ([(Value.iface 24 (pt tb15 0)), (pt bb17 0)] ++ vb (kl K17)), rBs G22 bb17 [(User.mk nm K21 100 0 false)]] -> KJ aJ wT79_0) ?_ (fun hT79_0 => ?_)
    ·
     rintro gT0_0 htF xT79_0 _ wT79_0 rfl hTh79_0
     refine pR_to 5 (some 100) 4351 rfl hs78 (x_text hTh79_0 3 rfl other nm (by kernel_rfl) (by omega) (by omega) (by rw [htF.keys]; omega)) ?_
     rintro _ w99 ⟨K99, F99, s99, rfl, hK99, hs99, h99⟩
     refine ⟨fun _ => ⟨h99.at_ 2 rfl, trivial⟩, ?_⟩
     have ho99 : Oth s99 (((bx ++ [⟨kl K21, 1, b0⟩]) ++ [⟨kl K17, 2, b1⟩]) ++ [⟨kl K21, 3, b2⟩]) pw other nm ks Kf K21 K99 (2 + 2 * i + 2) := mk_oth htF hko0 hn0 (by omega) hks hKf hK21 hfr hs99 hK99
     exact hT79_1 gT0_0 K99 F99 s99 ho99 _ _ _ (pEq 182) (h99.sel [0, 1, 2, 3, 4, 5, 6, 7, 8, 9, 10] [] (by kernel_rfl) rfl rfl)
    refine pR_or 5 12 hs78 ?_ ?_
    ·
     refine pR_op 5 (some 100) 255 rfl (x_text h78 2 rfl other nm (by kernel_rfl) (by omega) (by omega) (by rw [ht41.keys]; omega)) ?_
     rintro _ w100 ⟨K100, F100, s100, rfl, hK100, hs100, h100⟩
     refine ⟨fun _ => ⟨h100.at_ 1 rfl, trivial⟩, ?_⟩
     have ho100 : Oth s100 (((bx ++ [⟨kl K21, 1, b0⟩]) ++ [⟨kl K17, 2, b1⟩]) ++ [⟨kl K21, 3, b2⟩]) pw other nm ks Kf K21 K100 (2 + 2 * i + 2) := mk_oth ht41 hko0 hn0 (by omega) hks hKf hK21 hfr hs100 hK100
     refine pR_or 8 12 hs78 ?_ ?_
     ·
      refine pR_op 8 (some 103) 511 rfl (x_oReply h100 2 rfl K100 3 (by kernel_rfl) (ho100.ok (by (try simp only [List.length_append, List.length_cons, List.length_nil]); omega) (by omega)) (h100.at_ 4 rfl) (r := (.inl 13)) (ho100.no hop (app3_2 hlb) (by omega))) ?_
      rintro _ w101 ⟨rfl, h101⟩
      refine ⟨fun _ => ⟨h101.at_ 1 rfl, trivial⟩, ?_⟩
      have hoo101 := And.intro ho100.1 ho100.2.2.2
      refine pR_p 3 [9, 10, 11] [(105, (D 13)), (104, (aV ([O] ++ vb (List.replicate 16 0) ++ [O, (sV ByteArray.empty), O, O, O]).toArray)), (94, (Value.tuple #[(aV ([O] ++ vb (List.replicate 16 0) ++ [O, (sV ByteArray.empty), O, O, O]).toArray), (D 13)]))] 4095 hs78 ⟨h101.at_ 1 rfl, trivial⟩ ?_
      refine pR_to 12 (some 20) 8191 rfl hs78 (xN h101 60 ([O] ++ vb (List.replicate 16 0) ++ [O, (sV ByteArray.empty), O, O, O])) ?_
      rintro _ w102 ⟨g102, rfl, h102⟩
      refine ⟨fun _ => ⟨h102.at_ 2 rfl, trivial⟩, ?_⟩
      exact hT79_2 g102 F100 s100 hoo101 _ _ _ (pEq 182) (h102.sel [0, 1, 2, 3, 4, 5, 6, 7, 8, 9, 10] [] (by kernel_rfl) rfl rfl)
     ·
      refine pR_op 12 (some 20) 4351 rfl (xN h100 60 ([O] ++ vb (List.replicate 16 0) ++ [O, (sV ByteArray.empty), O, O, O])) ?_
      rintro _ w103 ⟨g103, rfl, h103⟩
      refine ⟨fun _ => ⟨h103.at_ 2 rfl, trivial⟩, ?_⟩
      exact hT79_1 g103 K100 F100 s100 ho100 _ _ _ (pEq 182) (h103.sel [0, 1, 2, 3, 4, 5, 6, 7, 8, 9, 10] [] (by kernel_rfl) rfl rfl)
    ·
     refine pR_op 12 (some 20) 4319 rfl (xN h78 60 ([O] ++ vb (List.replicate 16 0) ++ [O, (sV ByteArray.empty), O, O, O])) ?_
     rintro _ w104 ⟨g104, rfl, h104⟩
     refine ⟨fun _ => ⟨h104.at_ 2 rfl, trivial⟩, ?_⟩
     exact hT79_0 g104 ht41 _ _ _ (pEq 182) (h104.sel [0, 1, 2, 3, 4, 5, 6, 7, 8, 9, 10] [] (by kernel_rfl) rfl rfl)
  ·
   refine wp_exit (seq_e (seq_e (blk_e (seq_n hK29 (wR fun K105 hK105 => ?_)))))
   refine wq_p 1 [(8, (bV true))] ?_
   refine wE hK105 (wp_ret ?_)
   refine post_1 rfl (by kernel_rfl) (rtm (bV true)) ?_
   exact ⟨rfl, h32.below0⟩
end
section
open Go.ChangeShapes Go.WideShapes Go.ChangeAt Go.RowKit
theorem kasFresh_lifted (os : Os) (started : os.Started) (H : Type) (enc : TypeId × Value -> H) :
   ReturnsInHanded {} Try.checked os 5 .any (Rows.kasFreshSpec.pre6 enc Try.prog Try.f5 Rows.kasFreshRow.domain false) (Rows.kasFreshSpec.post enc Try.prog Try.f5 false true false false) := by
 refine returnsInHanded_of_change (C := Try.checked) Try.own started (by kernel_rfl) Try.func5
   (ChangeSpec.witness6 (enc := enc) (C := Try.checked) false ⟨#[], #[.string ⟨#[]⟩, .string ⟨#[]⟩, .string ⟨#[]⟩, .int .i64 0], []⟩ 8 (by kernel_rfl) (by kernel_rfl) (by kernel_rfl) (by kernel_rfl)) ?_
 intro W base args ds gs before hval0 hW hcnd _
 have hval : ∀ (j : Nat) t v, Try.f5.params[j]? = some t -> args[j]? = some v -> Value.okWide Try.prog W .any base t v := hval0
 have hpost : ∀ W', Below W.heap.size W W' -> Rows.kasFreshSpec.post enc Try.prog Try.f5 false true false false W args (.bool true) W' := fun W' hb =>
   law_post Try.laidOut (by kernel_rfl) Try.underlying4 rfl rfl (fun ds hds => by
     have hn : ds.length = 4 := hds
     match ds, hn with
     | [_, _, _, _], _ => rfl) hW hb
 obtain ⟨p, q, hA0, hV, rfl, hfz, hnd⟩ := hW
 have hA : DataW.TrodAll enc Try.prog W 0 (fun _ => true) true Try.f5.params.toList args.toList ds p := hA0
 rw [Try.params5] at hA hval
 clear hA0 hval0
 obtain ⟨v0, v1, v2, v3, d0, d1, d2, d3, p0, p1, p2, p3, rfl, rfl, rfl, h0, h1, h2, h3⟩ := trodAll_four hA
 obtain ⟨l0, rfl, rfl, rfl, hz0⟩ := Go.ChangeMaps.open_string (t := 9) (by kernel_rfl) (hval 0 9 v0 rfl rfl) h0
 obtain ⟨l1, rfl, rfl, rfl, hz1⟩ := Go.ChangeMaps.open_string (t := 9) (by kernel_rfl) (hval 1 9 v1 rfl rfl) h1
 obtain ⟨l2, rfl, rfl, rfl, hz2⟩ := Go.ChangeMaps.open_string (t := 9) (by kernel_rfl) (hval 2 9 v2 rfl rfl) h2
 obtain ⟨n3, rfl, rfl, rfl, hn3⟩ := open_int (t := 3) (k := .i64) (by kernel_rfl) (hval 3 3 v3 rfl rfl) h3
 refine (kasFresh_any l0 l1 l2 n3 W).mono fun e W' ⟨he, hw⟩ => ?_
 subst he
 exact ⟨_, rfl, hpost W' hw⟩
theorem kasFresh_holds : Rows.KasFreshSaid :=
 OpenClaim.holds_of_wide 5 Try.f5 rfl rfl rfl rfl rfl rfl rfl ⟨rfl, rfl, rfl, rfl, rfl⟩ rfl rfl rfl rfl rfl (by kernel_rfl) Try.func5 (by kernel_rfl)
   (of_decide_eq_true (by kernel_rfl)) (by unfold Func.isWrapper; first | (rw [if_pos (by decide +kernel)]; kernel_rfl) | (rw [if_neg (by decide +kernel)]; exact ⟨rfl, rfl⟩))
   (fun os started H enc _ => kasFresh_lifted os started H enc)
end
end Go.Proofs.Ytecomegocafocaa
