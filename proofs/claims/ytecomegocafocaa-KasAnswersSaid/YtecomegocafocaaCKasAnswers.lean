/- The row of KasAnswers: for every input the law returns true and what came in reads as it did. -/
import Derived.ChangeMaps5
import Derived.Test.YtecomegocafocaaCA20
set_option maxRecDepth 100000
set_option maxHeartbeats 4000000
namespace Go.Proofs.Ytecomegocafocaa
section
open Go.Value renaming int -> iV, slice -> lV, string -> sV, bool -> bV, agg -> aV
open Go.RowKit Go.QT
theorem as_ways (nm ask : ByteArray) (us one : Int) (near : Bool) (now till nonce : Int) : ask ≠ nm ∨ (nm = ask /\ us ≠ one) ∨ (nm = ask /\ one = us /\ near = false) ∨ (nm = ask /\ one = us /\ near = true /\ till <= now) ∨ (nm = ask /\ one = us /\ near = true /\ now < till /\ ¬ (0 <= nonce /\ nonce <= 1099511627776)) ∨ (nm = ask /\ one = us /\ near = true /\ now < till /\ 0 <= nonce /\ nonce <= 1099511627776) := by
 by_cases h : nm = ask
 · refine .inr ?_
   by_cases hu : one = us
   · refine .inr ?_
     cases near
     · exact .inl ⟨h, hu, rfl⟩
     · refine .inr ?_
       by_cases ht : till <= now
       · exact .inl ⟨h, hu, rfl, ht⟩
       · by_cases hn : 0 <= nonce /\ nonce <= 1099511627776
         · exact .inr (.inr ⟨h, hu, rfl, by omega, hn⟩)
         · exact .inr (.inl ⟨h, hu, rfl, by omega, hn⟩)
   · exact .inl ⟨h, fun e => hu e.symm⟩
 · exact .inl (fun e => h e.symm)
theorem fl_ways (now ren : Int) (h : ren <= 6000) : ∃ fl R : Int, (0 < ren /\ ren <= 6000 /\ fl = 5 /\ R = now + ren) ∨ (ren <= 0 /\ fl = 4 /\ R = 0) := by
 by_cases hr : 0 < ren
 · exact ⟨5, now + ren, .inl ⟨hr, h, rfl, rfl⟩⟩
 · exact ⟨4, 0, .inr ⟨by omega, rfl, rfl⟩⟩
theorem x_lenE {o : Oper} {a : Act} {w : World} {n : Int} {Q : World -> Prop} (h : OpTo Try.prog o a w (fun u w' => u = .int .i64 n /\ Q w')) (m : Int) (hm : n = m) : OpTo Try.prog o a w (fun u w' => u = .int .i64 m /\ Q w') := hm ▸ h
theorem kn_ways (pw kn : ByteArray) (t : Thing) : (pw = kn /\ ∃ b, packB t = .inr b) ∨ (pw = kn /\ ∃ c, packB t = .inl c) ∨ (pw ≠ kn /\ ∃ b, packB t = .inr b) ∨ (pw ≠ kn /\ ∃ c, packB t = .inl c) := by
 by_cases h : pw = kn
 · rcases packB t with c | b
   · exact .inr (.inl ⟨h, c, rfl⟩)
   · exact .inl ⟨h, b, rfl⟩
 · rcases packB t with c | b
   · exact .inr (.inr (.inr ⟨h, c, rfl⟩))
   · exact .inr (.inr (.inl ⟨h, b, rfl⟩))
theorem en_ways (b : Bool) (life ren : Int) : b = false ∨ (b = true /\ (life < 1 ∨ 600 < life ∨ ren < 0 ∨ 6000 < ren)) ∨ (b = true /\ (1 <= life /\ life <= 600 /\ 0 <= ren /\ ren <= 6000)) := by
 cases b
 · exact .inl rfl
 · refine .inr ?_
   by_cases h : 1 <= life /\ life <= 600 /\ 0 <= ren /\ ren <= 6000
   · exact .inr ⟨rfl, h⟩
   · exact .inl ⟨rfl, by omega⟩
theorem kasAnswers_any (nm pw ask kn : ByteArray) (life ren us nonce till time now : Int) (w : World) : Calls Try.prog 6 #[(aV ([(sV nm), (sV pw), (iV .i64 life), (iV .i64 ren), (sV ask), (sV kn), (iV .i64 us), (iV .i64 nonce), (iV .i64 till), (iV .i64 time), (iV .i64 now)]).toArray)] w (DPost w (.bool true)) := by
 have h0 := Hp.nil (fun _ => False) w
 refine enter 330 Try.func6 rfl rfl ?_
 refine wp_reset 331 [(0, (aV ([(sV nm), (sV pw), (D life), (D ren), (sV ask), (sV kn), (D us), (D nonce), (D till), (D time), (D now)]).toArray))] (fun x0 => ?_)
 refine wR fun K1 hK1 => ?_
 refine wT 1 (xN h0 80 ([(sV nm), (sV pw), (D life), (D ren), (sV ask), (sV kn), (D us), (D nonce), (D till), (D time), (D now)])) ?_
 rintro _ w2 ⟨g2, rfl, h2⟩
 refine wq_p 1 [(2, V)] ?_
 refine wE hK1 (wp_seq_k fun K3 hK3 => wR fun K4 hK4 => ?_)
 refine wT 19 (x_dp h2 7 [] (by kernel_rfl) (alive14_any _)) ?_
 rintro _ w5 ⟨rfl, h5⟩
 refine wq_p 1 [(20, V)] ?_
 refine wE hK4 (cF (wp_skip (seq_n hK3 (wp_seq_k fun K6 hK6 => wp_seq_k fun K7 hK7 => ?_))))
 rcases (by omega : 60 < nm.size ∨ (nm.size <= 60 /\ 60 < pw.size) ∨ (nm.size <= 60 /\ pw.size <= 60 /\ 60 < ask.size) ∨ (nm.size <= 60 /\ pw.size <= 60 /\ ask.size <= 60 /\ 60 < kn.size) ∨ (nm.size <= 60 /\ pw.size <= 60 /\ ask.size <= 60 /\ kn.size <= 60 /\ now < 0) ∨ (nm.size <= 60 /\ pw.size <= 60 /\ ask.size <= 60 /\ kn.size <= 60 /\ 0 <= now /\ 549755813888 < now) ∨ (nm.size <= 60 /\ pw.size <= 60 /\ ask.size <= 60 /\ kn.size <= 60 /\ 0 <= now /\ now <= 549755813888)) with hq | hq | hq | hq | hq | hq | ⟨z1, z2, z3, z4, z5, z6⟩
 ·
  refine reg_lit ?_
  refine wq_p 1 [(21, (pt g2 0))] (wV 22 (sV nm) (eL (h5.at_ 0 rfl) 9 (.tmp 21) 0 _) (wq_p 1 [(23, (D (((nm).size : Int))))] (wV 24 (.bool true) (eqI (bV (decide (((nm).size : Int) > 60))) (by simp; omega)) ?_)))
  refine wq_p 4 [(28, undef), (27, undef), (26, undef), (25, I)] (wq_p 1 [(29, undef)] (wq_p 5 [(34, undef), (33, undef), (32, undef), (31, I), (30, I)] (wq_p 1 [(35, undef)] ?_)))
  refine wq_p 5 [(40, undef), (39, undef), (38, undef), (37, I), (36, I)] (wq_p 1 [(41, undef)] (wq_p 4 [(45, undef), (44, undef), (43, I), (42, I)] (wq_p 1 [(46, undef)] ?_)))
  refine wq_p 4 [(50, undef), (49, undef), (48, I), (47, I)] (wq_p 1 [(51, undef)] (wq_p 1 [(52, I)] ?_))
  refine wE hK7 (cT (wR fun K9 hK9 => ?_))
  refine wq_p 1 [(2, I)] ?_
  refine wE hK9 (wp_ret (seq_r ?_))
  refine post_1 rfl (by kernel_rfl) (rtm I) ?_
  exact ⟨rfl, h5.below0⟩
 ·
  refine reg_lit ?_
  refine wq_p 1 [(21, (pt g2 0))] (wV 22 (sV nm) (eL (h5.at_ 0 rfl) 9 (.tmp 21) 0 _) (wq_p 1 [(23, (D (((nm).size : Int))))] (wV 24 (.bool false) (eqI (bV (decide (((nm).size : Int) > 60))) (by simp; omega)) ?_)))
  refine wq_p 2 [(26, (pt g2 1)), (25, V)] (wV 27 (sV pw) (eL (h5.at_ 0 rfl) 9 (.tmp 26) 1 _) (wq_p 1 [(28, (D (((pw).size : Int))))] (wV 29 (.bool true) (eqI (bV (decide (((pw).size : Int) > 60))) (by simp; omega)) ?_)))
  refine wq_p 5 [(34, undef), (33, undef), (32, undef), (31, I), (30, I)] (wq_p 1 [(35, undef)] (wq_p 5 [(40, undef), (39, undef), (38, undef), (37, I), (36, I)] (wq_p 1 [(41, undef)] ?_)))
  refine wq_p 4 [(45, undef), (44, undef), (43, I), (42, I)] (wq_p 1 [(46, undef)] (wq_p 4 [(50, undef), (49, undef), (48, I), (47, I)] (wq_p 1 [(51, undef)] ?_)))
  refine wq_p 1 [(52, I)] ?_
  refine wE hK7 (cT (wR fun K10 hK10 => ?_))
  refine wq_p 1 [(2, I)] ?_
  refine wE hK10 (wp_ret (seq_r ?_))
  refine post_1 rfl (by kernel_rfl) (rtm I) ?_
  exact ⟨rfl, h5.below0⟩
 ·
  refine reg_lit ?_
  refine wq_p 1 [(21, (pt g2 0))] (wV 22 (sV nm) (eL (h5.at_ 0 rfl) 9 (.tmp 21) 0 _) (wq_p 1 [(23, (D (((nm).size : Int))))] (wV 24 (.bool false) (eqI (bV (decide (((nm).size : Int) > 60))) (by simp; omega)) ?_)))
  refine wq_p 2 [(26, (pt g2 1)), (25, V)] (wV 27 (sV pw) (eL (h5.at_ 0 rfl) 9 (.tmp 26) 1 _) (wq_p 1 [(28, (D (((pw).size : Int))))] (wV 29 (.bool false) (eqI (bV (decide (((pw).size : Int) > 60))) (by simp; omega)) ?_)))
  refine wq_p 3 [(32, (pt g2 4)), (31, V), (30, V)] (wV 33 (sV ask) (eL (h5.at_ 0 rfl) 9 (.tmp 32) 4 _) (wq_p 1 [(34, (D (((ask).size : Int))))] (wV 35 (.bool true) (eqI (bV (decide (((ask).size : Int) > 60))) (by simp; omega)) ?_)))
  refine wq_p 5 [(40, undef), (39, undef), (38, undef), (37, I), (36, I)] (wq_p 1 [(41, undef)] (wq_p 4 [(45, undef), (44, undef), (43, I), (42, I)] (wq_p 1 [(46, undef)] ?_)))
  refine wq_p 4 [(50, undef), (49, undef), (48, I), (47, I)] (wq_p 1 [(51, undef)] (wq_p 1 [(52, I)] ?_))
  refine wE hK7 (cT (wR fun K11 hK11 => ?_))
  refine wq_p 1 [(2, I)] ?_
  refine wE hK11 (wp_ret (seq_r ?_))
  refine post_1 rfl (by kernel_rfl) (rtm I) ?_
  exact ⟨rfl, h5.below0⟩
 ·
  refine reg_lit ?_
  refine wq_p 1 [(21, (pt g2 0))] (wV 22 (sV nm) (eL (h5.at_ 0 rfl) 9 (.tmp 21) 0 _) (wq_p 1 [(23, (D (((nm).size : Int))))] (wV 24 (.bool false) (eqI (bV (decide (((nm).size : Int) > 60))) (by simp; omega)) ?_)))
  refine wq_p 2 [(26, (pt g2 1)), (25, V)] (wV 27 (sV pw) (eL (h5.at_ 0 rfl) 9 (.tmp 26) 1 _) (wq_p 1 [(28, (D (((pw).size : Int))))] (wV 29 (.bool false) (eqI (bV (decide (((pw).size : Int) > 60))) (by simp; omega)) ?_)))
  refine wq_p 3 [(32, (pt g2 4)), (31, V), (30, V)] (wV 33 (sV ask) (eL (h5.at_ 0 rfl) 9 (.tmp 32) 4 _) (wq_p 1 [(34, (D (((ask).size : Int))))] (wV 35 (.bool false) (eqI (bV (decide (((ask).size : Int) > 60))) (by simp; omega)) ?_)))
  refine wq_p 3 [(38, (pt g2 5)), (37, V), (36, V)] (wV 39 (sV kn) (eL (h5.at_ 0 rfl) 9 (.tmp 38) 5 _) (wq_p 1 [(40, (D (((kn).size : Int))))] (wV 41 (.bool true) (eqI (bV (decide (((kn).size : Int) > 60))) (by simp; omega)) ?_)))
  refine wq_p 4 [(45, undef), (44, undef), (43, I), (42, I)] (wq_p 1 [(46, undef)] (wq_p 4 [(50, undef), (49, undef), (48, I), (47, I)] (wq_p 1 [(51, undef)] ?_)))
  refine wq_p 1 [(52, I)] ?_
  refine wE hK7 (cT (wR fun K12 hK12 => ?_))
  refine wq_p 1 [(2, I)] ?_
  refine wE hK12 (wp_ret (seq_r ?_))
  refine post_1 rfl (by kernel_rfl) (rtm I) ?_
  exact ⟨rfl, h5.below0⟩
 ·
  refine reg_lit ?_
  refine wq_p 1 [(21, (pt g2 0))] (wV 22 (sV nm) (eL (h5.at_ 0 rfl) 9 (.tmp 21) 0 _) (wq_p 1 [(23, (D (((nm).size : Int))))] (wV 24 (.bool false) (eqI (bV (decide (((nm).size : Int) > 60))) (by simp; omega)) ?_)))
  refine wq_p 2 [(26, (pt g2 1)), (25, V)] (wV 27 (sV pw) (eL (h5.at_ 0 rfl) 9 (.tmp 26) 1 _) (wq_p 1 [(28, (D (((pw).size : Int))))] (wV 29 (.bool false) (eqI (bV (decide (((pw).size : Int) > 60))) (by simp; omega)) ?_)))
  refine wq_p 3 [(32, (pt g2 4)), (31, V), (30, V)] (wV 33 (sV ask) (eL (h5.at_ 0 rfl) 9 (.tmp 32) 4 _) (wq_p 1 [(34, (D (((ask).size : Int))))] (wV 35 (.bool false) (eqI (bV (decide (((ask).size : Int) > 60))) (by simp; omega)) ?_)))
  refine wq_p 3 [(38, (pt g2 5)), (37, V), (36, V)] (wV 39 (sV kn) (eL (h5.at_ 0 rfl) 9 (.tmp 38) 5 _) (wq_p 1 [(40, (D (((kn).size : Int))))] (wV 41 (.bool false) (eqI (bV (decide (((kn).size : Int) > 60))) (by simp; omega)) ?_)))
  refine wq_p 3 [(44, (pt g2 10)), (43, V), (42, V)] (wV 45 (D now) (eL (h5.at_ 0 rfl) 2 (.tmp 44) 10 _) (wV 46 (.bool true) (eqI (bV (decide (now < 0))) (by simp; omega)) (wq_p 4 [(50, undef), (49, undef), (48, I), (47, I)] ?_)))
  refine wq_p 1 [(51, undef)] (wq_p 1 [(52, I)] ?_)
  refine wE hK7 (cT (wR fun K13 hK13 => ?_))
  refine wq_p 1 [(2, I)] ?_
  refine wE hK13 (wp_ret (seq_r ?_))
  refine post_1 rfl (by kernel_rfl) (rtm I) ?_
  exact ⟨rfl, h5.below0⟩
 ·
  refine reg_lit ?_
  refine wq_p 1 [(21, (pt g2 0))] (wV 22 (sV nm) (eL (h5.at_ 0 rfl) 9 (.tmp 21) 0 _) (wq_p 1 [(23, (D (((nm).size : Int))))] (wV 24 (.bool false) (eqI (bV (decide (((nm).size : Int) > 60))) (by simp; omega)) ?_)))
  refine wq_p 2 [(26, (pt g2 1)), (25, V)] (wV 27 (sV pw) (eL (h5.at_ 0 rfl) 9 (.tmp 26) 1 _) (wq_p 1 [(28, (D (((pw).size : Int))))] (wV 29 (.bool false) (eqI (bV (decide (((pw).size : Int) > 60))) (by simp; omega)) ?_)))
  refine wq_p 3 [(32, (pt g2 4)), (31, V), (30, V)] (wV 33 (sV ask) (eL (h5.at_ 0 rfl) 9 (.tmp 32) 4 _) (wq_p 1 [(34, (D (((ask).size : Int))))] (wV 35 (.bool false) (eqI (bV (decide (((ask).size : Int) > 60))) (by simp; omega)) ?_)))
  refine wq_p 3 [(38, (pt g2 5)), (37, V), (36, V)] (wV 39 (sV kn) (eL (h5.at_ 0 rfl) 9 (.tmp 38) 5 _) (wq_p 1 [(40, (D (((kn).size : Int))))] (wV 41 (.bool false) (eqI (bV (decide (((kn).size : Int) > 60))) (by simp; omega)) ?_)))
  refine wq_p 3 [(44, (pt g2 10)), (43, V), (42, V)] (wV 45 (D now) (eL (h5.at_ 0 rfl) 2 (.tmp 44) 10 _) (wV 46 (.bool false) (eqI (bV (decide (now < 0))) (by simp; omega)) (wq_p 3 [(49, (pt g2 10)), (48, V), (47, V)] ?_)))
  refine wV 50 (D now) (eL (h5.at_ 0 rfl) 2 (.tmp 49) 10 _) (wV 51 (.bool true) (eqI (bV (decide (now > 549755813888))) (by simp; omega)) (wq_p 1 [(52, I)] ?_))
  refine wE hK7 (cT (wR fun K14 hK14 => ?_))
  refine wq_p 1 [(2, I)] ?_
  refine wE hK14 (wp_ret (seq_r ?_))
  refine post_1 rfl (by kernel_rfl) (rtm I) ?_
  exact ⟨rfl, h5.below0⟩
 ·
  refine reg_lit ?_
  refine wq_p 1 [(21, (pt g2 0))] (wV 22 (sV nm) (eL (h5.at_ 0 rfl) 9 (.tmp 21) 0 _) (wq_p 1 [(23, (D (((nm).size : Int))))] (wV 24 (.bool false) (eqI (bV (decide (((nm).size : Int) > 60))) (by simp; omega)) ?_)))
  refine wq_p 2 [(26, (pt g2 1)), (25, V)] (wV 27 (sV pw) (eL (h5.at_ 0 rfl) 9 (.tmp 26) 1 _) (wq_p 1 [(28, (D (((pw).size : Int))))] (wV 29 (.bool false) (eqI (bV (decide (((pw).size : Int) > 60))) (by simp; omega)) ?_)))
  refine wq_p 3 [(32, (pt g2 4)), (31, V), (30, V)] (wV 33 (sV ask) (eL (h5.at_ 0 rfl) 9 (.tmp 32) 4 _) (wq_p 1 [(34, (D (((ask).size : Int))))] (wV 35 (.bool false) (eqI (bV (decide (((ask).size : Int) > 60))) (by simp; omega)) ?_)))
  refine wq_p 3 [(38, (pt g2 5)), (37, V), (36, V)] (wV 39 (sV kn) (eL (h5.at_ 0 rfl) 9 (.tmp 38) 5 _) (wq_p 1 [(40, (D (((kn).size : Int))))] (wV 41 (.bool false) (eqI (bV (decide (((kn).size : Int) > 60))) (by simp; omega)) ?_)))
  refine wq_p 3 [(44, (pt g2 10)), (43, V), (42, V)] (wV 45 (D now) (eL (h5.at_ 0 rfl) 2 (.tmp 44) 10 _) (wV 46 (.bool false) (eqI (bV (decide (now < 0))) (by simp; omega)) (wq_p 3 [(49, (pt g2 10)), (48, V), (47, V)] ?_)))
  refine wV 50 (D now) (eL (h5.at_ 0 rfl) 2 (.tmp 49) 10 _) (wV 51 (.bool false) (eqI (bV (decide (now > 549755813888))) (by simp; omega)) (wq_p 1 [(52, V)] ?_))
  refine wE hK7 (cF (wp_skip (seq_n hK6 (wp_seq_k fun K15 hK15 => ?_))))
  refine wp_reset 331 [(1, (pt g2 0)), (2, V)] (fun x16 => ?_)
  refine reg_lit ?_
  refine wT 53 (x_snew h5 (by kernel_rfl)) ?_
  rintro _ w17 ⟨tb17, F17, rfl, h17⟩
  refine wq_p 1 [(3, (pt tb17 0))] ?_
  refine wE hK15 (wR fun K18 hK18 => ?_)
  refine wq_p 2 [(55, (Value.iface 24 (pt tb17 0))), (54, (pt tb17 0))] ?_
  refine wT 56 (x_knew h17 0 rfl ((TS.empty.room 9 (by first | decide | simp | omega) (by first | decide | simp | omega)).less (by decide)) (by kernel_rfl)) ?_
  rintro _ w19 ⟨kb19, G19, bb19, F19, K19, s19, rfl, hK19, hs19, h19⟩
  rw [TS.empty.keys] at hK19
  have ht19 : TS s19 1 [] [] := TS.empty.add hs19
  refine wq_p 1 [(4, (pt kb19 0))] ?_
  refine wE hK18 (wp_seq_k fun K20 hK20 => ?_)
  obtain hr | ⟨hr, hlf⟩ | ⟨hr, hlf⟩ : rightN nm = false ∨ (rightN nm = true /\ (life < 1 ∨ 600 < life ∨ ren < 0 ∨ 6000 < ren)) ∨ (rightN nm = true /\ (1 <= life /\ life <= 600 /\ 0 <= ren /\ ren <= 6000)) := en_ways _ _ _
  ·
   refine reg_lit ?_
   refine wq_p 2 [(58, (pt g2 0)), (57, (pt kb19 0))] (wV 59 (sV nm) (eL (h19.at_ 3 rfl) 9 (.tmp 58) 0 _) (wq_p 1 [(60, (pt g2 1))] (wV 61 (sV pw) (eL (h19.at_ 3 rfl) 9 (.tmp 60) 1 _) ?_)))
   refine wq_p 1 [(62, (pt g2 2))] (wV 63 (D life) (eL (h19.at_ 3 rfl) 2 (.tmp 62) 2 _) (wq_p 1 [(64, (pt g2 3))] (wV 65 (D ren) (eL (h19.at_ 3 rfl) 2 (.tmp 64) 3 _) ?_)))
   have hnum22 := (ht19.made_new (f := textF pw nm) rfl (by simp)).2
   obtain ⟨K22, hK22⟩ := ex_key 2
   refine wT 66 (x_enrol (us' := []) (f := textF pw nm) (er := 6) h19 2 1 rfl rfl rfl [(pt kb19 0), (sV nm), (sV pw), (D life), (D ren), I] (by kernel_rfl) (enrol_no (h19.at_ 2 rfl) (h19.at_ 1 rfl) (h19.dis 2 1 _ _ rfl rfl (by decide)) ((ht19.room 9 (by first | decide | simp | omega) (by first | decide | simp | omega)).less (by decide)) (h19.at_ 0 rfl) (fun hq => h19.dis 2 0 _ _ rfl rfl (by decide) _ hq rfl) (fun hq => h19.dis 1 0 _ _ rfl rfl (by decide) _ hq rfl) (by omega) (by omega) K22 (hK22.trans (by rw [hnum22])) (er := 6) (fun w hB => add_name (u := (User.mk nm K22 life ren true)) hB (by decide) (show nm.size <= _ by omega) hr))) ?_
   rintro _ w23 ⟨F23, G23, s23, rfl, hs23, h23⟩
   have hq23 := ht19.made_new hs23 (by simp)
   have ht23 : TS s23 2 [] [(textF pw nm, 2)] := hq23.1
   refine wq_p 1 [(5, (D 6))] ?_
   refine wE hK20 (wp_seq_k fun K24 hK24 => wp_block (wR fun K25 hK25 => ?_))
   refine wq_p 1 [(68, (pt g2 0))] (wV 69 (sV nm) (eL (h23.at_ 3 rfl) 9 (.tmp 68) 0 _) ?_)
   refine wT 70 (x_dp (v := .bool false) h23 22 [(sV nm)] (by kernel_rfl) (hr ▸ rright_any nm (by omega) _)) ?_
   rintro _ w26 ⟨rfl, h26⟩
   refine wq_p 2 [(67, I), (71, I)] ?_
   refine wE hK25 (cT (wR fun K27 hK27 => ?_))
   refine wq_p 6 [(77, (pt kb19 1)), (76, (pt kb19 0)), (75, (pt kb19 0)), (74, I), (73, I), (72, (D 6))] (wV 78 (pt bb19 0) (eL (h26.at_ 0 rfl) 71 (.tmp 77) 1 _) ?_)
   refine wT 79 (x_dp h26 25 [(pt bb19 0)] (by kernel_rfl) (names_nil (h26.at_ 1 rfl))) ?_
   rintro _ w28 ⟨rfl, h28⟩
   refine wq_p 4 [(2, I), (82, I), (81, I), (80, O)] ?_
   refine wE hK27 (wp_ret (blk_r (seq_r ?_)))
   refine post_1 rfl (by kernel_rfl) (rtm I) ?_
   exact ⟨rfl, h28.below0⟩
  ·
   refine reg_lit ?_
   refine wq_p 2 [(58, (pt g2 0)), (57, (pt kb19 0))] (wV 59 (sV nm) (eL (h19.at_ 3 rfl) 9 (.tmp 58) 0 _) (wq_p 1 [(60, (pt g2 1))] (wV 61 (sV pw) (eL (h19.at_ 3 rfl) 9 (.tmp 60) 1 _) ?_)))
   refine wq_p 1 [(62, (pt g2 2))] (wV 63 (D life) (eL (h19.at_ 3 rfl) 2 (.tmp 62) 2 _) (wq_p 1 [(64, (pt g2 3))] (wV 65 (D ren) (eL (h19.at_ 3 rfl) 2 (.tmp 64) 3 _) ?_)))
   have hnum29 := (ht19.made_new (f := textF pw nm) rfl (by simp)).2
   obtain ⟨K29, hK29⟩ := ex_key 2
   refine wT 66 (x_enrol (us' := []) (f := textF pw nm) (er := 7) h19 2 1 rfl rfl rfl [(pt kb19 0), (sV nm), (sV pw), (D life), (D ren), I] (by kernel_rfl) (enrol_no (h19.at_ 2 rfl) (h19.at_ 1 rfl) (h19.dis 2 1 _ _ rfl rfl (by decide)) ((ht19.room 9 (by first | decide | simp | omega) (by first | decide | simp | omega)).less (by decide)) (h19.at_ 0 rfl) (fun hq => h19.dis 2 0 _ _ rfl rfl (by decide) _ hq rfl) (fun hq => h19.dis 1 0 _ _ rfl rfl (by decide) _ hq rfl) (by omega) (by omega) K29 (hK29.trans (by rw [hnum29])) (er := 7) (fun w hB => add_arg (u := (User.mk nm K29 life ren true)) hB (by decide) (show nm.size <= _ by omega) hr hlf))) ?_
   rintro _ w30 ⟨F30, G30, s30, rfl, hs30, h30⟩
   have hq30 := ht19.made_new hs30 (by simp)
   have ht30 : TS s30 2 [] [(textF pw nm, 2)] := hq30.1
   refine wq_p 1 [(5, (D 7))] ?_
   refine wE hK20 (wp_seq_k fun K31 hK31 => wp_block (wR fun K32 hK32 => ?_))
   refine wq_p 1 [(68, (pt g2 0))] (wV 69 (sV nm) (eL (h30.at_ 3 rfl) 9 (.tmp 68) 0 _) ?_)
   refine wT 70 (x_dp (v := .bool true) h30 22 [(sV nm)] (by kernel_rfl) (hr ▸ rright_any nm (by omega) _)) ?_
   rintro _ w33 ⟨rfl, h33⟩
   refine wq_p 2 [(67, V), (71, V)] ?_
   refine wE hK32 (cF (wp_seq_k fun K34 hK34 => ?_))
   rcases (by omega : life < 1 ∨ (1 <= life /\ 600 < life) ∨ (1 <= life /\ life <= 600 /\ ren < 0) ∨ (1 <= life /\ life <= 600 /\ 0 <= ren /\ 6000 < ren)) with hq | hq | hq | hq
   ·
    refine reg_lit ?_
    refine wq_p 1 [(84, (pt g2 2))] (wV 85 (D life) (eL (h33.at_ 3 rfl) 2 (.tmp 84) 2 _) (wV 86 (.bool true) (eqI (bV (decide (life < 1))) (by simp; omega)) (wq_p 3 [(89, undef), (88, undef), (87, I)] ?_)))
    refine wq_p 1 [(90, undef)] (wq_p 4 [(94, undef), (93, undef), (92, I), (91, I)] (wq_p 1 [(95, undef)] (wq_p 4 [(99, undef), (98, undef), (97, I), (96, I)] ?_)))
    refine wq_p 1 [(100, undef)] (wq_p 2 [(83, I), (101, I)] ?_)
    refine wE hK34 (cT (wp_seq_k fun K36 hK36 => ?_))
    refine wp_reset 331 [(1, (pt g2 0)), (2, V), (3, (pt tb17 0)), (4, (pt kb19 0)), (5, (D 7)), (83, I)] (fun x37 => ?_)
    refine reg_lit ?_
    refine wq_p 6 [(107, (pt kb19 1)), (106, (pt kb19 0)), (105, (pt kb19 0)), (104, I), (103, I), (102, (D 7))] (wV 108 (pt bb19 0) (eL (h33.at_ 0 rfl) 71 (.tmp 107) 1 _) ?_)
    refine wT 109 (x_dp h33 25 [(pt bb19 0)] (by kernel_rfl) (names_nil (h33.at_ 1 rfl))) ?_
    rintro _ w38 ⟨rfl, h38⟩
    refine wq_p 4 [(2, I), (112, I), (111, I), (110, O)] ?_
    refine wE hK36 (wp_ret (blk_r (seq_r ?_)))
    refine post_1 rfl (by kernel_rfl) (rtm I) ?_
    exact ⟨rfl, h38.below0⟩
   ·
    refine reg_lit ?_
    refine wq_p 1 [(84, (pt g2 2))] (wV 85 (D life) (eL (h33.at_ 3 rfl) 2 (.tmp 84) 2 _) (wV 86 (.bool false) (eqI (bV (decide (life < 1))) (by simp; omega)) (wq_p 2 [(88, (pt g2 2)), (87, V)] ?_)))
    refine wV 89 (D life) (eL (h33.at_ 3 rfl) 2 (.tmp 88) 2 _) (wV 90 (.bool true) (eqI (bV (decide (life > 600))) (by simp; omega)) (wq_p 4 [(94, undef), (93, undef), (92, I), (91, I)] (wq_p 1 [(95, undef)] ?_)))
    refine wq_p 4 [(99, undef), (98, undef), (97, I), (96, I)] (wq_p 1 [(100, undef)] (wq_p 2 [(83, I), (101, I)] ?_))
    refine wE hK34 (cT (wp_seq_k fun K39 hK39 => ?_))
    refine wp_reset 331 [(1, (pt g2 0)), (2, V), (3, (pt tb17 0)), (4, (pt kb19 0)), (5, (D 7)), (83, I)] (fun x40 => ?_)
    refine reg_lit ?_
    refine wq_p 6 [(107, (pt kb19 1)), (106, (pt kb19 0)), (105, (pt kb19 0)), (104, I), (103, I), (102, (D 7))] (wV 108 (pt bb19 0) (eL (h33.at_ 0 rfl) 71 (.tmp 107) 1 _) ?_)
    refine wT 109 (x_dp h33 25 [(pt bb19 0)] (by kernel_rfl) (names_nil (h33.at_ 1 rfl))) ?_
    rintro _ w41 ⟨rfl, h41⟩
    refine wq_p 4 [(2, I), (112, I), (111, I), (110, O)] ?_
    refine wE hK39 (wp_ret (blk_r (seq_r ?_)))
    refine post_1 rfl (by kernel_rfl) (rtm I) ?_
    exact ⟨rfl, h41.below0⟩
   ·
    refine reg_lit ?_
    refine wq_p 1 [(84, (pt g2 2))] (wV 85 (D life) (eL (h33.at_ 3 rfl) 2 (.tmp 84) 2 _) (wV 86 (.bool false) (eqI (bV (decide (life < 1))) (by simp; omega)) (wq_p 2 [(88, (pt g2 2)), (87, V)] ?_)))
    refine wV 89 (D life) (eL (h33.at_ 3 rfl) 2 (.tmp 88) 2 _) (wV 90 (.bool false) (eqI (bV (decide (life > 600))) (by simp; omega)) (wq_p 3 [(93, (pt g2 3)), (92, V), (91, V)] (wV 94 (D ren) (eL (h33.at_ 3 rfl) 2 (.tmp 93) 3 _) ?_)))
    refine wV 95 (.bool true) (eqI (bV (decide (ren < 0))) (by simp; omega)) (wq_p 4 [(99, undef), (98, undef), (97, I), (96, I)] (wq_p 1 [(100, undef)] (wq_p 2 [(83, I), (101, I)] ?_)))
    refine wE hK34 (cT (wp_seq_k fun K42 hK42 => ?_))
    refine wp_reset 331 [(1, (pt g2 0)), (2, V), (3, (pt tb17 0)), (4, (pt kb19 0)), (5, (D 7)), (83, I)] (fun x43 => ?_)
    refine reg_lit ?_
    refine wq_p 6 [(107, (pt kb19 1)), (106, (pt kb19 0)), (105, (pt kb19 0)), (104, I), (103, I), (102, (D 7))] (wV 108 (pt bb19 0) (eL (h33.at_ 0 rfl) 71 (.tmp 107) 1 _) ?_)
    refine wT 109 (x_dp h33 25 [(pt bb19 0)] (by kernel_rfl) (names_nil (h33.at_ 1 rfl))) ?_
    rintro _ w44 ⟨rfl, h44⟩
    refine wq_p 4 [(2, I), (112, I), (111, I), (110, O)] ?_
    refine wE hK42 (wp_ret (blk_r (seq_r ?_)))
    refine post_1 rfl (by kernel_rfl) (rtm I) ?_
    exact ⟨rfl, h44.below0⟩
   ·
    refine reg_lit ?_
    refine wq_p 1 [(84, (pt g2 2))] (wV 85 (D life) (eL (h33.at_ 3 rfl) 2 (.tmp 84) 2 _) (wV 86 (.bool false) (eqI (bV (decide (life < 1))) (by simp; omega)) (wq_p 2 [(88, (pt g2 2)), (87, V)] ?_)))
    refine wV 89 (D life) (eL (h33.at_ 3 rfl) 2 (.tmp 88) 2 _) (wV 90 (.bool false) (eqI (bV (decide (life > 600))) (by simp; omega)) (wq_p 3 [(93, (pt g2 3)), (92, V), (91, V)] (wV 94 (D ren) (eL (h33.at_ 3 rfl) 2 (.tmp 93) 3 _) ?_)))
    refine wV 95 (.bool false) (eqI (bV (decide (ren < 0))) (by simp; omega)) (wq_p 3 [(98, (pt g2 3)), (97, V), (96, V)] (wV 99 (D ren) (eL (h33.at_ 3 rfl) 2 (.tmp 98) 3 _) (wV 100 (.bool true) (eqI (bV (decide (ren > 6000))) (by simp; omega)) ?_)))
    refine wq_p 2 [(83, I), (101, I)] ?_
    refine wE hK34 (cT (wp_seq_k fun K45 hK45 => ?_))
    refine wp_reset 331 [(1, (pt g2 0)), (2, V), (3, (pt tb17 0)), (4, (pt kb19 0)), (5, (D 7)), (83, I)] (fun x46 => ?_)
    refine reg_lit ?_
    refine wq_p 6 [(107, (pt kb19 1)), (106, (pt kb19 0)), (105, (pt kb19 0)), (104, I), (103, I), (102, (D 7))] (wV 108 (pt bb19 0) (eL (h33.at_ 0 rfl) 71 (.tmp 107) 1 _) ?_)
    refine wT 109 (x_dp h33 25 [(pt bb19 0)] (by kernel_rfl) (names_nil (h33.at_ 1 rfl))) ?_
    rintro _ w47 ⟨rfl, h47⟩
    refine wq_p 4 [(2, I), (112, I), (111, I), (110, O)] ?_
    refine wE hK45 (wp_ret (blk_r (seq_r ?_)))
    refine post_1 rfl (by kernel_rfl) (rtm I) ?_
    exact ⟨rfl, h47.below0⟩
  ·
   refine reg_lit ?_
   refine wq_p 2 [(58, (pt g2 0)), (57, (pt kb19 0))] (wV 59 (sV nm) (eL (h19.at_ 3 rfl) 9 (.tmp 58) 0 _) (wq_p 1 [(60, (pt g2 1))] (wV 61 (sV pw) (eL (h19.at_ 3 rfl) 9 (.tmp 60) 1 _) ?_)))
   refine wq_p 1 [(62, (pt g2 2))] (wV 63 (D life) (eL (h19.at_ 3 rfl) 2 (.tmp 62) 2 _) (wq_p 1 [(64, (pt g2 3))] (wV 65 (D ren) (eL (h19.at_ 3 rfl) 2 (.tmp 64) 3 _) ?_)))
   have hnum48 := (ht19.made_new (f := textF pw nm) rfl (by simp)).2
   obtain ⟨K48, hK48⟩ := ex_key 2
   refine wT 66 (x_enrol (us' := [(User.mk nm K48 life ren true)]) (f := textF pw nm) (er := 0) h19 2 1 rfl rfl rfl [(pt kb19 0), (sV nm), (sV pw), (D life), (D ren), I] (by kernel_rfl) (enrol_ok (h19.at_ 2 rfl) (h19.at_ 1 rfl) (h19.dis 2 1 _ _ rfl rfl (by decide)) ((ht19.room 9 (by first | decide | simp | omega) (by first | decide | simp | omega)).less (by decide)) (h19.at_ 0 rfl) (fun hq => h19.dis 2 0 _ _ rfl rfl (by decide) _ hq rfl) (fun hq => h19.dis 1 0 _ _ rfl rfl (by decide) _ hq rfl) (by omega) (by omega) K48 (hK48.trans (by rw [hnum48])) (by decide) hr hlf rfl (by decide) rfl)) ?_
   rintro _ w49 ⟨F49, G49, s49, rfl, hs49, h49⟩
   have hq49 := ht19.made_new hs49 (by simp)
   have ht49 : TS s49 2 [] [(textF pw nm, 2)] := hq49.1
   refine wq_p 1 [(5, O)] ?_
   refine wE hK20 (wp_seq_k fun K50 hK50 => wp_block (wR fun K51 hK51 => ?_))
   refine wq_p 1 [(68, (pt g2 0))] (wV 69 (sV nm) (eL (h49.at_ 3 rfl) 9 (.tmp 68) 0 _) ?_)
   refine wT 70 (x_dp (v := .bool true) h49 22 [(sV nm)] (by kernel_rfl) (hr ▸ rright_any nm (by omega) _)) ?_
   rintro _ w52 ⟨rfl, h52⟩
   refine wq_p 2 [(67, V), (71, V)] ?_
   refine wE hK51 (cF (wp_seq_k fun K53 hK53 => ?_))
   skip
   ·
    refine reg_lit ?_
    refine wq_p 1 [(84, (pt g2 2))] (wV 85 (D life) (eL (h52.at_ 3 rfl) 2 (.tmp 84) 2 _) (wV 86 (.bool false) (eqI (bV (decide (life < 1))) (by simp; omega)) (wq_p 2 [(88, (pt g2 2)), (87, V)] ?_)))
    refine wV 89 (D life) (eL (h52.at_ 3 rfl) 2 (.tmp 88) 2 _) (wV 90 (.bool false) (eqI (bV (decide (life > 600))) (by simp; omega)) (wq_p 3 [(93, (pt g2 3)), (92, V), (91, V)] (wV 94 (D ren) (eL (h52.at_ 3 rfl) 2 (.tmp 93) 3 _) ?_)))
    refine wV 95 (.bool false) (eqI (bV (decide (ren < 0))) (by simp; omega)) (wq_p 3 [(98, (pt g2 3)), (97, V), (96, V)] (wV 99 (D ren) (eL (h52.at_ 3 rfl) 2 (.tmp 98) 3 _) (wV 100 (.bool false) (eqI (bV (decide (ren > 6000))) (by simp; omega)) ?_)))
    refine wq_p 2 [(83, V), (101, V)] ?_
    refine wE hK53 (cF (wp_skip (blk_n (seq_n hK50 (wp_seq_k fun K55 hK55 => ?_)))))
    obtain ⟨hk, b0, hp0⟩ | ⟨hk, c0, hp0⟩ | ⟨hk, b0, hp0⟩ | ⟨hk, c0, hp0⟩ := kn_ways pw kn (.stamp time 0)
    ·
     refine wp_reset 331 [(1, (pt g2 0)), (2, V), (3, (pt tb17 0)), (4, (pt kb19 0)), (5, O)] (fun x57 => ?_)
     subst hk
     refine pR_go h52 19 (fun W => (rBlk g2 80 ([(sV nm), (sV pw), (D life), (D ren), (sV ask), (sV pw), (D us), (D nonce), (D till), (D time), (D now)])).Φ W /\ True) [(115, [3], 0), (116, [114], 1), (117, [3], 0), (118, [1], 0), (119, [117], 8), (120, [1], 0), (121, [119], 32), (122, [116, 118, 120], 84), (123, [1], 0), (124, [122], 256), (125, [1], 0), (126, [124], 1024), (127, [125], 2048), (128, [126], 4096), (129, [115, 121, 123, 127], 8834), (114, [128], 16384), (130, [113], 32768), (131, [113], 32768), (7, [129], 131071), (8, [130], 524287)] rfl (fun _ d _ _ _ h => by cases d <;> exact h) ?_
     intro hs58 w58 h58
     refine pR_p 13 [0, 1, 2, 3, 5, 8, 10] [(124, (pt g2 9)), (122, (pt g2 6)), (119, (pt g2 0)), (117, (pt g2 5)), (116, (pt tb17 0)), (115, (Value.iface 24 (pt tb17 0))), (114, (pt tb17 0))] 1327 hs58 ⟨h58.at_ 3 rfl, trivial⟩ ?_
     refine pR_v 4 (some 118) (sV pw) 1343 rfl hs58 ⟨h58.at_ 3 rfl, trivial⟩ (fun W hW => eL hW.1 9 (.tmp 117) 5 _) ?_
     refine pR_v 6 (some 120) (sV nm) 1407 rfl hs58 ⟨h58.at_ 3 rfl, trivial⟩ (fun W hW => eL hW.1 9 (.tmp 119) 0 _) ?_
     refine pR_v 9 (some 123) (D us) 1919 rfl hs58 ⟨h58.at_ 3 rfl, trivial⟩ (fun W hW => eL hW.1 3 (.tmp 122) 6 _) ?_
     refine pR_v 11 (some 125) (D time) 3967 rfl hs58 ⟨h58.at_ 3 rfl, trivial⟩ (fun W hW => eL hW.1 2 (.tmp 124) 9 _) ?_
     refine pR_p 7 [12, 13] [(127, (Value.iface 49 (aV ([(D time), O]).toArray))), (126, (aV ([(D time), O]).toArray))] 16255 hs58 ⟨h58.at_ 3 rfl, trivial⟩ ?_
     refine pR_to 7 (some 121) 16383 rfl hs58 (x_text h58 2 rfl pw nm (by kernel_rfl) (by omega) (by omega) (by rw [ht49.keys]; decide)) ?_
     rintro _ w59 ⟨K59, F59, s59, rfl, hK59, hs59, h59⟩
     refine ⟨fun _ => ⟨h59.at_ 3 rfl, trivial⟩, ?_⟩
     have hq59 := ht49.made_old (m := 2) hs59 (by simp)
     have ht59 : TS s59 2 [] [(textF pw nm, 2)] := hq59.1
     rw [hq59.2] at hK59
     obtain rfl : K48 = K59 := kl_inj (hK48.trans hK59.symm)
     refine pR_to 14 (some 128) 32767 rfl hs58 (x_tseal h59 2 rfl K48 us hp0 (by kernel_rfl) ((ht59.room 9 (by first | decide | simp | omega) (by first | decide | simp | omega)).ok) (rTh_stamp _ time 0) (fun _ hf => hf.elim) True.intro) ?_
     rintro _ w60 ⟨A60, c60, F60, s60, rfl, hs60, h60⟩
     refine ⟨fun _ => ⟨h60.at_ 4 rfl, trivial⟩, ?_⟩
     have hbn60 : s59.boxes.length + 1 = 1 := by rw [ht59.boxes]; rfl
     rw [hbn60] at h60
     have ht60 : TS s60 2 [⟨kl K48, us, b0⟩] [(textF pw nm, 2)] := ht59.seal hs60 (pack_le6 hp0)
     refine pR_p 1 [15, 16, 17, 18] [(6, (lV A60 16 c60)), (130, O), (129, (lV A60 16 c60)), (113, (Value.tuple #[(lV A60 16 c60), O]))] 524287 hs58 ⟨h60.at_ 4 rfl, trivial⟩ ?_
     refine pR_to 19 (some 7) 1048575 rfl hs58 (OpTo.run O (pureOp_run (by kernel_rfl) _) (R := fun v w => v = O /\ w60 = w) ⟨rfl, rfl⟩) ?_
     rintro _ _ ⟨rfl, rfl⟩
     refine ⟨fun h => absurd h (by decide), ?_⟩
     refine pR_done hs58 ?_ _
     refine seq_n hK55 (wp_seq_k fun K61 hK61 => wR fun K62 hK62 => ?_)
     refine wq_p 1 [(131, O)] (wq_p 1 [(132, V)] ?_)
     refine wE hK62 (cF (wp_skip (seq_n hK61 (wR fun K63 hK63 => ?_))))
     refine wq_p 1 [(133, (pt tb17 0))] ?_
     refine wT 134 (x_lenE (x_nkeys h60 0 rfl (by kernel_rfl)) (2 : Int) (by rw [ht60.keys]; rfl)) ?_
     rintro _ w64 ⟨rfl, h64⟩
     refine wq_p 1 [(135, (pt tb17 0))] ?_
     refine wT 136 (x_lenE (x_nboxesK h64 0 rfl (by kernel_rfl)) (1 : Int) (by rw [ht60.boxes]; rfl)) ?_
     rintro _ w65 ⟨rfl, h65⟩
     refine wq_p 2 [(9, (D 1)), (8, (D 2))] ?_
     refine wE hK63 (wp_seq_k fun K66 hK66 => ?_)
     obtain ha | ⟨ha, hu⟩ | ⟨ha, hu, hn⟩ | ⟨ha, hu, hn, ht⟩ | ⟨ha, hu, hn, ht, ho⟩ | ⟨ha, hu, hn, ht, ho1, ho2⟩ := as_ways nm ask us 1 (nearF now time) now till nonce
     ·
      refine reg_lit ?_
      refine wq_p 2 [(139, (pt g2 10)), (138, (pt kb19 0))] (wV 140 (D now) (eL (h65.at_ 4 rfl) 2 (.tmp 139) 10 _) (wq_p 1 [(141, (pt g2 4))] (wV 142 (sV ask) (eL (h65.at_ 4 rfl) 9 (.tmp 141) 4 _) ?_)))
      refine wq_p 1 [(143, (pt g2 7))] (wV 144 (D nonce) (eL (h65.at_ 4 rfl) 2 (.tmp 143) 7 _) (wq_p 1 [(145, (pt g2 8))] (wV 146 (D till) (eL (h65.at_ 4 rfl) 2 (.tmp 145) 8 _) ?_)))
      refine wq_p 2 [(148, (aV ([(sV ask), (D nonce), (D till), (lV A60 16 c60)]).toArray)), (147, (lV A60 16 c60))] ?_
      refine wT 149 (x_asN (s2 := s60) (v := .tuple #[(aV ([eS, eS, nS, nS]).toArray), .int .i64 9]) h65 0 rfl [(pt kb19 0), (D now), (aV ([(sV ask), (D nonce), (D till), (lV A60 16 c60)]).toArray)] (by kernel_rfl) (as_none (pre := mkB 98 1) (h65.at_ 0 rfl) (h65.at_ 3 rfl) (h65.dis 0 3 _ _ rfl rfl (by decide)) (h65.at_ 2 rfl) (fun hq => h65.dis 0 2 _ _ rfl rfl (by decide) _ hq rfl) (h65.at_ 1 rfl) (h65.dis 1 0 _ _ rfl rfl (by decide)) (by simp) (place_other ha.symm))) ?_
      rintro _ w68 ⟨F68, s68, rfl, hs68, h68⟩
      have ht68 : TS s68 2 [⟨kl K48, us, b0⟩] [(textF pw nm, 2)] := hs68 ▸ ht60
      refine wq_p 3 [(151, (D 9)), (150, (aV ([eS, eS, nS, nS]).toArray)), (137, (Value.tuple #[(aV ([eS, eS, nS, nS]).toArray), (D 9)]))] ?_
      refine wT 10 (xN h68 41 ([eS, eS, nS, nS])) ?_
      rintro _ w69 ⟨g69, rfl, h69⟩
      refine wq_to none (xSs h69 0 41 (.tmp 10) (.tmp 150) 0 ([eS, eS, nS, nS]) ([eS, eS, nS, nS])) ?_
      rintro _ w70 h70
      refine wq_p 1 [(11, (D 9))] ?_
      refine wE hK66 (wp_seq_k fun K71 hK71 => ?_)
      refine wp_reset 331 [(1, (pt g2 0)), (2, V), (3, (pt tb17 0)), (4, (pt kb19 0)), (5, O), (7, O), (8, (D 2)), (9, (D 1)), (10, (pt g69 0)), (11, (D 9))] (fun x72 => ?_)
      refine reg_lit ?_
      refine wq_p 1 [(12, O)] ?_
      refine wE hK71 (wp_seq_k fun K73 hK73 => wp_block (wR fun K74 hK74 => ?_))
      refine wq_p 1 [(153, (pt g2 4))] (wV 154 (sV ask) (eL (h70.at_ 5 rfl) 9 (.tmp 153) 4 _) (wq_p 1 [(155, (pt g2 0))] (wV 156 (sV nm) (eL (h70.at_ 5 rfl) 9 (.tmp 155) 0 _) ?_)))
      refine wV 157 I (eqI (bV (!((ask).toList == (nm).toList))) (str_neT ha)) (wq_p 1 [(152, I)] ?_)
      refine wE hK74 (cT (reg_lit ?_))
      refine wq_p 1 [(12, (D 9))] ?_
      refine wl_end rfl (blk_n (seq_n hK73 (wp_seq_k fun K75 hK75 => wR fun K76 hK76 => ?_)))
      refine wq_p 5 [(199, (D 9)), (198, (D 9)), (197, V), (196, V), (195, O)] (wV 200 V (pureOp_run (by kernel_rfl) _) (wq_p 1 [(201, V)] ?_))
      refine wE hK76 (cF (wp_skip (seq_n hK75 (wp_seq_k fun K77 hK77 => wR fun K78 hK78 => ?_))))
      refine wq_p 1 [(202, (D 9))] (wV 203 I (pureOp_run (by kernel_rfl) _) ?_)
      refine wE hK78 (cT (wR fun K79 hK79 => ?_))
      refine wq_p 1 [(204, (pt g69 0))] (wV 205 eS (eL (h70.at_ 0 rfl) 9 (.tmp 204) 0 _) (wV 206 I (eqI (bV ((ByteArray.empty).toList == (⟨#[]⟩ : ByteArray).toList)) empty_eq) (wq_p 2 [(208, (pt g69 3)), (207, I)] ?_)))
      refine wV 209 nS (eL (h70.at_ 0 rfl) 22 (.tmp 208) 3 _) (wq_p 6 [(215, (pt g69 2)), (214, (pt g69 1)), (213, I), (212, I), (211, I), (210, O)] (wV 216 nS (eL (h70.at_ 0 rfl) 22 (.tmp 215) 2 _) (wq_p 4 [(2, I), (219, I), (218, I), (217, O)] ?_)))
      refine wE hK79 (wp_ret (seq_r ?_))
      refine post_1 rfl (by kernel_rfl) (rtm I) ?_
      exact ⟨rfl, h70.below0⟩
     ·
      subst ha
      refine reg_lit ?_
      refine wq_p 2 [(139, (pt g2 10)), (138, (pt kb19 0))] (wV 140 (D now) (eL (h65.at_ 4 rfl) 2 (.tmp 139) 10 _) (wq_p 1 [(141, (pt g2 4))] (wV 142 (sV nm) (eL (h65.at_ 4 rfl) 9 (.tmp 141) 4 _) ?_)))
      refine wq_p 1 [(143, (pt g2 7))] (wV 144 (D nonce) (eL (h65.at_ 4 rfl) 2 (.tmp 143) 7 _) (wq_p 1 [(145, (pt g2 8))] (wV 146 (D till) (eL (h65.at_ 4 rfl) 2 (.tmp 145) 8 _) ?_)))
      refine wq_p 2 [(148, (aV ([(sV nm), (D nonce), (D till), (lV A60 16 c60)]).toArray)), (147, (lV A60 16 c60))] ?_
      refine wT 149 (x_asN (s2 := s60) (v := .tuple #[(aV ([eS, eS, nS, nS]).toArray), .int .i64 22]) h65 0 rfl [(pt kb19 0), (D now), (aV ([(sV nm), (D nonce), (D till), (lV A60 16 c60)]).toArray)] (by kernel_rfl) (as_auth (pre := mkB 98 1) (h65.at_ 0 rfl) (h65.at_ 3 rfl) (h65.dis 0 3 _ _ rfl rfl (by decide)) (ht60.room 9 (by first | decide | simp | omega) (by first | decide | simp | omega)) (h65.at_ 2 rfl) (fun hq => h65.dis 0 2 _ _ rfl rfl (by decide) _ hq rfl) (h65.at_ 1 rfl) (h65.dis 1 0 _ _ rfl rfl (by decide)) (by simp) (u := (User.mk nm K48 life ren true)) (place_self rfl).1 (place_self rfl).2 (cc := 13) (by decide) (by rw [ht60.opnNo (i := 0) rfl (fun hh => hu hh.2) (by decide)]; rfl))) ?_
      rintro _ w80 ⟨F80, s80, rfl, hs80, h80⟩
      have ht80 : TS s80 2 [⟨kl K48, us, b0⟩] [(textF pw nm, 2)] := hs80 ▸ ht60
      refine wq_p 3 [(151, (D 22)), (150, (aV ([eS, eS, nS, nS]).toArray)), (137, (Value.tuple #[(aV ([eS, eS, nS, nS]).toArray), (D 22)]))] ?_
      refine wT 10 (xN h80 41 ([eS, eS, nS, nS])) ?_
      rintro _ w81 ⟨g81, rfl, h81⟩
      refine wq_to none (xSs h81 0 41 (.tmp 10) (.tmp 150) 0 ([eS, eS, nS, nS]) ([eS, eS, nS, nS])) ?_
      rintro _ w82 h82
      refine wq_p 1 [(11, (D 22))] ?_
      refine wE hK66 (wp_seq_k fun K83 hK83 => ?_)
      refine wp_reset 331 [(1, (pt g2 0)), (2, V), (3, (pt tb17 0)), (4, (pt kb19 0)), (5, O), (7, O), (8, (D 2)), (9, (D 1)), (10, (pt g81 0)), (11, (D 22))] (fun x84 => ?_)
      refine reg_lit ?_
      refine wq_p 1 [(12, O)] ?_
      refine wE hK83 (wp_seq_k fun K85 hK85 => wp_block (wR fun K86 hK86 => ?_))
      refine wq_p 1 [(153, (pt g2 4))] (wV 154 (sV nm) (eL (h82.at_ 5 rfl) 9 (.tmp 153) 4 _) (wq_p 1 [(155, (pt g2 0))] (wV 156 (sV nm) (eL (h82.at_ 5 rfl) 9 (.tmp 155) 0 _) ?_)))
      refine wV 157 V (eqI (bV (!((nm).toList == (nm).toList))) (by simp)) (wq_p 1 [(152, V)] ?_)
      refine wE hK86 (cF (wp_seq_k fun K87 hK87 => ?_))
      skip
      ·
       refine reg_lit ?_
       refine wq_p 1 [(159, (pt g2 5))] (wV 160 (sV pw) (eL (h82.at_ 5 rfl) 9 (.tmp 159) 5 _) (wq_p 1 [(161, (pt g2 1))] (wV 162 (sV pw) (eL (h82.at_ 5 rfl) 9 (.tmp 161) 1 _) ?_)))
       refine wV 163 V (eqI (bV (!((pw).toList == (pw).toList))) (by simp)) (wq_p 2 [(165, (pt g2 6)), (164, V)] (wV 166 (D us) (eL (h82.at_ 5 rfl) 3 (.tmp 165) 6 _) (wV 167 I (eqI (bV (us != 1)) (congrArg bV (by rw [bne_iff_ne]; exact hu))) ?_)))
       refine wq_p 3 [(170, undef), (169, I), (168, I)] (wq_p 1 [(171, undef)] (wq_p 2 [(158, I), (172, I)] ?_))
       refine wE hK87 (cT (reg_lit ?_))
       refine wq_p 1 [(12, (D 22))] ?_
       refine wl_end rfl (blk_n (seq_n hK85 (wp_seq_k fun K89 hK89 => wR fun K90 hK90 => ?_)))
       refine wq_p 5 [(199, (D 22)), (198, (D 22)), (197, V), (196, V), (195, O)] (wV 200 V (pureOp_run (by kernel_rfl) _) (wq_p 1 [(201, V)] ?_))
       refine wE hK90 (cF (wp_skip (seq_n hK89 (wp_seq_k fun K91 hK91 => wp_seq_k fun K92 hK92 => ?_))))
       refine wp_reset 331 [(1, (pt g2 0)), (2, V), (3, (pt tb17 0)), (4, (pt kb19 0)), (8, (D 2)), (9, (D 1)), (10, (pt g81 0)), (11, (D 22))] (fun x93 => ?_)
       refine reg_lit ?_
       refine wq_p 1 [(202, (D 22))] (wV 203 I (pureOp_run (by kernel_rfl) _) ?_)
       refine wE hK92 (cT (wR fun K94 hK94 => ?_))
       refine wq_p 1 [(204, (pt g81 0))] (wV 205 eS (eL (h82.at_ 0 rfl) 9 (.tmp 204) 0 _) (wV 206 I (eqI (bV ((ByteArray.empty).toList == (⟨#[]⟩ : ByteArray).toList)) empty_eq) (wq_p 2 [(208, (pt g81 3)), (207, I)] ?_)))
       refine wV 209 nS (eL (h82.at_ 0 rfl) 22 (.tmp 208) 3 _) (wq_p 6 [(215, (pt g81 2)), (214, (pt g81 1)), (213, I), (212, I), (211, I), (210, O)] (wV 216 nS (eL (h82.at_ 0 rfl) 22 (.tmp 215) 2 _) (wq_p 4 [(2, I), (219, I), (218, I), (217, O)] ?_)))
       refine wE hK94 (wp_ret (seq_r ?_))
       refine post_1 rfl (by kernel_rfl) (rtm I) ?_
       exact ⟨rfl, h82.below0⟩
     ·
      subst ha
      subst hu
      refine reg_lit ?_
      refine wq_p 2 [(139, (pt g2 10)), (138, (pt kb19 0))] (wV 140 (D now) (eL (h65.at_ 4 rfl) 2 (.tmp 139) 10 _) (wq_p 1 [(141, (pt g2 4))] (wV 142 (sV nm) (eL (h65.at_ 4 rfl) 9 (.tmp 141) 4 _) ?_)))
      refine wq_p 1 [(143, (pt g2 7))] (wV 144 (D nonce) (eL (h65.at_ 4 rfl) 2 (.tmp 143) 7 _) (wq_p 1 [(145, (pt g2 8))] (wV 146 (D till) (eL (h65.at_ 4 rfl) 2 (.tmp 145) 8 _) ?_)))
      refine wq_p 2 [(148, (aV ([(sV nm), (D nonce), (D till), (lV A60 16 c60)]).toArray)), (147, (lV A60 16 c60))] ?_
      refine wT 149 (x_asN (s2 := s60) (v := .tuple #[(aV ([eS, eS, nS, nS]).toArray), .int .i64 11]) h65 0 rfl [(pt kb19 0), (D now), (aV ([(sV nm), (D nonce), (D till), (lV A60 16 c60)]).toArray)] (by kernel_rfl) (as_skew (pre := mkB 98 1) (h65.at_ 0 rfl) (h65.at_ 3 rfl) (h65.dis 0 3 _ _ rfl rfl (by decide)) (ht60.room 9 (by first | decide | simp | omega) (by first | decide | simp | omega)) (h65.at_ 2 rfl) (fun hq => h65.dis 0 2 _ _ rfl rfl (by decide) _ hq rfl) (h65.at_ 1 rfl) (h65.dis 1 0 _ _ rfl rfl (by decide)) (by simp) (u := (User.mk nm K48 life ren true)) (place_self rfl).1 (place_self rfl).2 (t := time) (q := 0) (ht60.opn (i := 0) rfl hp0 (by decide)) hn)) ?_
      rintro _ w95 ⟨F95, s95, rfl, hs95, h95⟩
      have ht95 : TS s95 2 [⟨kl K48, 1, b0⟩] [(textF pw nm, 2)] := hs95 ▸ ht60
      refine wq_p 3 [(151, (D 11)), (150, (aV ([eS, eS, nS, nS]).toArray)), (137, (Value.tuple #[(aV ([eS, eS, nS, nS]).toArray), (D 11)]))] ?_
      refine wT 10 (xN h95 41 ([eS, eS, nS, nS])) ?_
      rintro _ w96 ⟨g96, rfl, h96⟩
      refine wq_to none (xSs h96 0 41 (.tmp 10) (.tmp 150) 0 ([eS, eS, nS, nS]) ([eS, eS, nS, nS])) ?_
      rintro _ w97 h97
      refine wq_p 1 [(11, (D 11))] ?_
      refine wE hK66 (wp_seq_k fun K98 hK98 => ?_)
      refine wp_reset 331 [(1, (pt g2 0)), (2, V), (3, (pt tb17 0)), (4, (pt kb19 0)), (5, O), (7, O), (8, (D 2)), (9, (D 1)), (10, (pt g96 0)), (11, (D 11))] (fun x99 => ?_)
      refine reg_lit ?_
      refine wq_p 1 [(12, O)] ?_
      refine wE hK98 (wp_seq_k fun K100 hK100 => wp_block (wR fun K101 hK101 => ?_))
      refine wq_p 1 [(153, (pt g2 4))] (wV 154 (sV nm) (eL (h97.at_ 5 rfl) 9 (.tmp 153) 4 _) (wq_p 1 [(155, (pt g2 0))] (wV 156 (sV nm) (eL (h97.at_ 5 rfl) 9 (.tmp 155) 0 _) ?_)))
      refine wV 157 V (eqI (bV (!((nm).toList == (nm).toList))) (by simp)) (wq_p 1 [(152, V)] ?_)
      refine wE hK101 (cF (wp_seq_k fun K102 hK102 => ?_))
      skip
      ·
       refine reg_lit ?_
       refine wq_p 1 [(159, (pt g2 5))] (wV 160 (sV pw) (eL (h97.at_ 5 rfl) 9 (.tmp 159) 5 _) (wq_p 1 [(161, (pt g2 1))] (wV 162 (sV pw) (eL (h97.at_ 5 rfl) 9 (.tmp 161) 1 _) ?_)))
       refine wV 163 V (eqI (bV (!((pw).toList == (pw).toList))) (by simp)) (wq_p 2 [(165, (pt g2 6)), (164, V)] (wV 166 (D 1) (eL (h97.at_ 5 rfl) 3 (.tmp 165) 6 _) (wV 167 V (pureOp_run (by kernel_rfl) _) ?_)))
       refine wq_p 3 [(170, O), (169, V), (168, V)] (wq_p 1 [(171, V)] (wq_p 2 [(158, V), (172, V)] ?_))
       refine wE hK102 (cF (wR fun K104 hK104 => ?_))
       refine wq_p 1 [(174, (pt g2 10))] (wV 175 (D now) (eL (h97.at_ 5 rfl) 2 (.tmp 174) 10 _) (wq_p 1 [(176, (pt g2 9))] (wV 177 (D time) (eL (h97.at_ 5 rfl) 2 (.tmp 176) 9 _) ?_)))
       refine wT 178 (x_dp (v := .bool false) h97 16 [(D now), (D time)] (by kernel_rfl) (hn ▸ rnear_any now time _)) ?_
       rintro _ w105 ⟨rfl, h105⟩
       refine wq_p 2 [(173, I), (179, I)] ?_
       refine wE hK104 (cT (reg_lit ?_))
       refine wq_p 1 [(12, (D 11))] ?_
       refine wl_end rfl (blk_n (seq_n hK100 (wp_seq_k fun K106 hK106 => wp_seq_k fun K107 hK107 => ?_)))
       refine wp_reset 331 [(1, (pt g2 0)), (2, V), (3, (pt tb17 0)), (4, (pt kb19 0)), (5, O), (8, (D 2)), (9, (D 1)), (10, (pt g96 0)), (11, (D 11)), (12, (D 11))] (fun x108 => ?_)
       refine reg_lit ?_
       refine wq_p 5 [(199, (D 11)), (198, (D 11)), (197, V), (196, V), (195, O)] (wV 200 V (pureOp_run (by kernel_rfl) _) (wq_p 1 [(201, V)] ?_))
       refine wE hK107 (cF (wp_skip (seq_n hK106 (wp_seq_k fun K109 hK109 => wR fun K110 hK110 => ?_))))
       refine wq_p 1 [(202, (D 11))] (wV 203 I (pureOp_run (by kernel_rfl) _) ?_)
       refine wE hK110 (cT (wR fun K111 hK111 => ?_))
       refine wq_p 1 [(204, (pt g96 0))] (wV 205 eS (eL (h105.at_ 0 rfl) 9 (.tmp 204) 0 _) (wV 206 I (eqI (bV ((ByteArray.empty).toList == (⟨#[]⟩ : ByteArray).toList)) empty_eq) (wq_p 2 [(208, (pt g96 3)), (207, I)] ?_)))
       refine wV 209 nS (eL (h105.at_ 0 rfl) 22 (.tmp 208) 3 _) (wq_p 6 [(215, (pt g96 2)), (214, (pt g96 1)), (213, I), (212, I), (211, I), (210, O)] (wV 216 nS (eL (h105.at_ 0 rfl) 22 (.tmp 215) 2 _) (wq_p 4 [(2, I), (219, I), (218, I), (217, O)] ?_)))
       refine wE hK111 (wp_ret (seq_r ?_))
       refine post_1 rfl (by kernel_rfl) (rtm I) ?_
       exact ⟨rfl, h105.below0⟩
     ·
      subst ha
      subst hu
      refine reg_lit ?_
      refine wq_p 2 [(139, (pt g2 10)), (138, (pt kb19 0))] (wV 140 (D now) (eL (h65.at_ 4 rfl) 2 (.tmp 139) 10 _) (wq_p 1 [(141, (pt g2 4))] (wV 142 (sV nm) (eL (h65.at_ 4 rfl) 9 (.tmp 141) 4 _) ?_)))
      refine wq_p 1 [(143, (pt g2 7))] (wV 144 (D nonce) (eL (h65.at_ 4 rfl) 2 (.tmp 143) 7 _) (wq_p 1 [(145, (pt g2 8))] (wV 146 (D till) (eL (h65.at_ 4 rfl) 2 (.tmp 145) 8 _) ?_)))
      refine wq_p 2 [(148, (aV ([(sV nm), (D nonce), (D till), (lV A60 16 c60)]).toArray)), (147, (lV A60 16 c60))] ?_
      refine wT 149 (x_asN (s2 := s60) (v := .tuple #[(aV ([eS, eS, nS, nS]).toArray), .int .i64 12]) h65 0 rfl [(pt kb19 0), (D now), (aV ([(sV nm), (D nonce), (D till), (lV A60 16 c60)]).toArray)] (by kernel_rfl) (as_exp (pre := mkB 98 1) (h65.at_ 0 rfl) (h65.at_ 3 rfl) (h65.dis 0 3 _ _ rfl rfl (by decide)) (ht60.room 9 (by first | decide | simp | omega) (by first | decide | simp | omega)) (h65.at_ 2 rfl) (fun hq => h65.dis 0 2 _ _ rfl rfl (by decide) _ hq rfl) (h65.at_ 1 rfl) (h65.dis 1 0 _ _ rfl rfl (by decide)) (by simp) (u := (User.mk nm K48 life ren true)) (place_self rfl).1 (place_self rfl).2 (t := time) (q := 0) (ht60.opn (i := 0) rfl hp0 (by decide)) hn ht)) ?_
      rintro _ w112 ⟨F112, s112, rfl, hs112, h112⟩
      have ht112 : TS s112 2 [⟨kl K48, 1, b0⟩] [(textF pw nm, 2)] := hs112 ▸ ht60
      refine wq_p 3 [(151, (D 12)), (150, (aV ([eS, eS, nS, nS]).toArray)), (137, (Value.tuple #[(aV ([eS, eS, nS, nS]).toArray), (D 12)]))] ?_
      refine wT 10 (xN h112 41 ([eS, eS, nS, nS])) ?_
      rintro _ w113 ⟨g113, rfl, h113⟩
      refine wq_to none (xSs h113 0 41 (.tmp 10) (.tmp 150) 0 ([eS, eS, nS, nS]) ([eS, eS, nS, nS])) ?_
      rintro _ w114 h114
      refine wq_p 1 [(11, (D 12))] ?_
      refine wE hK66 (wp_seq_k fun K115 hK115 => ?_)
      refine wp_reset 331 [(1, (pt g2 0)), (2, V), (3, (pt tb17 0)), (4, (pt kb19 0)), (5, O), (7, O), (8, (D 2)), (9, (D 1)), (10, (pt g113 0)), (11, (D 12))] (fun x116 => ?_)
      refine reg_lit ?_
      refine wq_p 1 [(12, O)] ?_
      refine wE hK115 (wp_seq_k fun K117 hK117 => wp_block (wR fun K118 hK118 => ?_))
      refine wq_p 1 [(153, (pt g2 4))] (wV 154 (sV nm) (eL (h114.at_ 5 rfl) 9 (.tmp 153) 4 _) (wq_p 1 [(155, (pt g2 0))] (wV 156 (sV nm) (eL (h114.at_ 5 rfl) 9 (.tmp 155) 0 _) ?_)))
      refine wV 157 V (eqI (bV (!((nm).toList == (nm).toList))) (by simp)) (wq_p 1 [(152, V)] ?_)
      refine wE hK118 (cF (wp_seq_k fun K119 hK119 => ?_))
      skip
      ·
       refine reg_lit ?_
       refine wq_p 1 [(159, (pt g2 5))] (wV 160 (sV pw) (eL (h114.at_ 5 rfl) 9 (.tmp 159) 5 _) (wq_p 1 [(161, (pt g2 1))] (wV 162 (sV pw) (eL (h114.at_ 5 rfl) 9 (.tmp 161) 1 _) ?_)))
       refine wV 163 V (eqI (bV (!((pw).toList == (pw).toList))) (by simp)) (wq_p 2 [(165, (pt g2 6)), (164, V)] (wV 166 (D 1) (eL (h114.at_ 5 rfl) 3 (.tmp 165) 6 _) (wV 167 V (pureOp_run (by kernel_rfl) _) ?_)))
       refine wq_p 3 [(170, O), (169, V), (168, V)] (wq_p 1 [(171, V)] (wq_p 2 [(158, V), (172, V)] ?_))
       refine wE hK119 (cF (wR fun K121 hK121 => ?_))
       refine wq_p 1 [(174, (pt g2 10))] (wV 175 (D now) (eL (h114.at_ 5 rfl) 2 (.tmp 174) 10 _) (wq_p 1 [(176, (pt g2 9))] (wV 177 (D time) (eL (h114.at_ 5 rfl) 2 (.tmp 176) 9 _) ?_)))
       refine wT 178 (x_dp (v := .bool true) h114 16 [(D now), (D time)] (by kernel_rfl) (hn ▸ rnear_any now time _)) ?_
       rintro _ w122 ⟨rfl, h122⟩
       refine wq_p 2 [(173, V), (179, V)] ?_
       refine wE hK121 (cF (wR fun K123 hK123 => ?_))
       refine wq_p 1 [(181, (pt g2 8))] (wV 182 (D till) (eL (h122.at_ 5 rfl) 2 (.tmp 181) 8 _) (wq_p 1 [(183, (pt g2 10))] (wV 184 (D now) (eL (h122.at_ 5 rfl) 2 (.tmp 183) 10 _) ?_)))
       refine wV 185 (.bool true) (eqI (bV (decide (till <= now))) (by simp; omega)) (wq_p 1 [(180, I)] ?_)
       refine wE hK123 (cT ?_)
       refine wp_reset 331 [(1, (pt g2 0)), (2, V), (3, (pt tb17 0)), (4, (pt kb19 0)), (5, O), (8, (D 2)), (9, (D 1)), (10, (pt g113 0)), (11, (D 12)), (12, O), (180, I)] (fun x124 => ?_)
       refine reg_lit ?_
       refine wq_p 1 [(12, (D 12))] ?_
       refine wl_end rfl (blk_n (seq_n hK117 (wp_seq_k fun K125 hK125 => wR fun K126 hK126 => ?_)))
       refine wq_p 5 [(199, (D 12)), (198, (D 12)), (197, V), (196, V), (195, O)] (wV 200 V (pureOp_run (by kernel_rfl) _) (wq_p 1 [(201, V)] ?_))
       refine wE hK126 (cF (wp_skip (seq_n hK125 (wp_seq_k fun K127 hK127 => wR fun K128 hK128 => ?_))))
       refine wq_p 1 [(202, (D 12))] (wV 203 I (pureOp_run (by kernel_rfl) _) ?_)
       refine wE hK128 (cT (wR fun K129 hK129 => ?_))
       refine wq_p 1 [(204, (pt g113 0))] (wV 205 eS (eL (h122.at_ 0 rfl) 9 (.tmp 204) 0 _) (wV 206 I (eqI (bV ((ByteArray.empty).toList == (⟨#[]⟩ : ByteArray).toList)) empty_eq) (wq_p 2 [(208, (pt g113 3)), (207, I)] ?_)))
       refine wV 209 nS (eL (h122.at_ 0 rfl) 22 (.tmp 208) 3 _) (wq_p 6 [(215, (pt g113 2)), (214, (pt g113 1)), (213, I), (212, I), (211, I), (210, O)] (wV 216 nS (eL (h122.at_ 0 rfl) 22 (.tmp 215) 2 _) (wq_p 4 [(2, I), (219, I), (218, I), (217, O)] ?_)))
       refine wE hK129 (wp_ret (seq_r ?_))
       refine post_1 rfl (by kernel_rfl) (rtm I) ?_
       exact ⟨rfl, h122.below0⟩
     ·
      subst ha
      subst hu
      refine reg_lit ?_
      refine wq_p 2 [(139, (pt g2 10)), (138, (pt kb19 0))] (wV 140 (D now) (eL (h65.at_ 4 rfl) 2 (.tmp 139) 10 _) (wq_p 1 [(141, (pt g2 4))] (wV 142 (sV nm) (eL (h65.at_ 4 rfl) 9 (.tmp 141) 4 _) ?_)))
      refine wq_p 1 [(143, (pt g2 7))] (wV 144 (D nonce) (eL (h65.at_ 4 rfl) 2 (.tmp 143) 7 _) (wq_p 1 [(145, (pt g2 8))] (wV 146 (D till) (eL (h65.at_ 4 rfl) 2 (.tmp 145) 8 _) ?_)))
      refine wq_p 2 [(148, (aV ([(sV nm), (D nonce), (D till), (lV A60 16 c60)]).toArray)), (147, (lV A60 16 c60))] ?_
      obtain ⟨fl, R, hfr⟩ := fl_ways now ren hlf.2.2.2
      obtain ⟨Kf, hKf⟩ := ex_key 3
      obtain ⟨b1, hp1⟩ := pack_inside (f := fl) (K := Kf) (s := nm) (a := now) (u := (min till (now + life))) (r := R) (rightM_is hr (by intro x hx; simp only [List.mem_cons, List.not_mem_nil, or_false] at hx; rcases hx with rfl | rfl | rfl | rfl <;> exact inN_is (by omega) (by omega))) (by omega)
      have hp2 : packB (.reply fl Kf nonce ⟨#[107, 100, 99]⟩ now (min till (now + life)) R) = .inl 7 := pack_not (by show rightM _ _ = false; exact rightM_no (k := 1) (x := nonce) rfl (by rcases (by omega : nonce < 0 ∨ 1099511627776 < nonce) with h | h; exact inN_lo h; exact inN_hi h))
      refine wT 149 (x_asN (s2 := ((s60.add SFrom.fresh).seal (kl K19) 2 b1)) (v := .tuple #[(aV ([eS, eS, nS, nS]).toArray), .int .i64 ((7 : Nat) : Int)]) h65 0 rfl [(pt kb19 0), (D now), (aV ([(sV nm), (D nonce), (D till), (lV A60 16 c60)]).toArray)] (by kernel_rfl) (as_main (pre := mkB 98 1) (h65.at_ 0 rfl) (h65.at_ 3 rfl) (h65.dis 0 3 _ _ rfl rfl (by decide)) (ht60.room 9 (by first | decide | simp | omega) (by first | decide | simp | omega)) (h65.at_ 2 rfl) (fun hq => h65.dis 0 2 _ _ rfl rfl (by decide) _ hq rfl) (h65.at_ 1 rfl) (h65.dis 1 0 _ _ rfl rfl (by decide)) (by simp) (u := (User.mk nm K48 life ren true)) (place_self rfl).1 (place_self rfl).2 (t := time) (q := 0) (ht60.opn (i := 0) rfl hp0 (by decide)) hn ht ⟨by omega, by omega⟩ (show 0 <= life /\ life <= 600 from by omega) (show nm.size <= 1000 from by omega) Kf (hKf.trans (by rw [ht60.keys])) hfr hp1 hp2)) ?_
      rintro _ w130 ⟨F130, s130, rfl, hs130, h130⟩
      have ht130 : TS s130 3 [⟨kl K48, 1, b0⟩, ⟨kl K19, 2, b1⟩] [(textF pw nm, 2)] := (ht60.add rfl).seal hs130 (pack_le6 hp1)
      refine wq_p 3 [(151, (D (((7 : Nat) : Int)))), (150, (aV ([eS, eS, nS, nS]).toArray)), (137, (Value.tuple #[(aV ([eS, eS, nS, nS]).toArray), (D (((7 : Nat) : Int)))]))] ?_
      refine wT 10 (xN h130 41 ([eS, eS, nS, nS])) ?_
      rintro _ w131 ⟨g131, rfl, h131⟩
      refine wq_to none (xSs h131 0 41 (.tmp 10) (.tmp 150) 0 ([eS, eS, nS, nS]) ([eS, eS, nS, nS])) ?_
      rintro _ w132 h132
      refine wq_p 1 [(11, (D (((7 : Nat) : Int))))] ?_
      refine wE hK66 (wp_seq_k fun K133 hK133 => ?_)
      refine wp_reset 331 [(1, (pt g2 0)), (2, V), (3, (pt tb17 0)), (4, (pt kb19 0)), (5, O), (7, O), (8, (D 2)), (9, (D 1)), (10, (pt g131 0)), (11, (D (((7 : Nat) : Int))))] (fun x134 => ?_)
      refine reg_lit ?_
      refine wq_p 1 [(12, O)] ?_
      refine wE hK133 (wp_seq_k fun K135 hK135 => wp_block (wR fun K136 hK136 => ?_))
      refine wq_p 1 [(153, (pt g2 4))] (wV 154 (sV nm) (eL (h132.at_ 5 rfl) 9 (.tmp 153) 4 _) (wq_p 1 [(155, (pt g2 0))] (wV 156 (sV nm) (eL (h132.at_ 5 rfl) 9 (.tmp 155) 0 _) ?_)))
      refine wV 157 V (eqI (bV (!((nm).toList == (nm).toList))) (by simp)) (wq_p 1 [(152, V)] ?_)
      refine wE hK136 (cF (wp_seq_k fun K137 hK137 => ?_))
      skip
      ·
       refine reg_lit ?_
       refine wq_p 1 [(159, (pt g2 5))] (wV 160 (sV pw) (eL (h132.at_ 5 rfl) 9 (.tmp 159) 5 _) (wq_p 1 [(161, (pt g2 1))] (wV 162 (sV pw) (eL (h132.at_ 5 rfl) 9 (.tmp 161) 1 _) ?_)))
       refine wV 163 V (eqI (bV (!((pw).toList == (pw).toList))) (by simp)) (wq_p 2 [(165, (pt g2 6)), (164, V)] (wV 166 (D 1) (eL (h132.at_ 5 rfl) 3 (.tmp 165) 6 _) (wV 167 V (pureOp_run (by kernel_rfl) _) ?_)))
       refine wq_p 3 [(170, O), (169, V), (168, V)] (wq_p 1 [(171, V)] (wq_p 2 [(158, V), (172, V)] ?_))
       refine wE hK137 (cF (wR fun K139 hK139 => ?_))
       refine wq_p 1 [(174, (pt g2 10))] (wV 175 (D now) (eL (h132.at_ 5 rfl) 2 (.tmp 174) 10 _) (wq_p 1 [(176, (pt g2 9))] (wV 177 (D time) (eL (h132.at_ 5 rfl) 2 (.tmp 176) 9 _) ?_)))
       refine wT 178 (x_dp (v := .bool true) h132 16 [(D now), (D time)] (by kernel_rfl) (hn ▸ rnear_any now time _)) ?_
       rintro _ w140 ⟨rfl, h140⟩
       refine wq_p 2 [(173, V), (179, V)] ?_
       refine wE hK139 (cF (wR fun K141 hK141 => ?_))
       refine wq_p 1 [(181, (pt g2 8))] (wV 182 (D till) (eL (h140.at_ 5 rfl) 2 (.tmp 181) 8 _) (wq_p 1 [(183, (pt g2 10))] (wV 184 (D now) (eL (h140.at_ 5 rfl) 2 (.tmp 183) 10 _) ?_)))
       refine wV 185 (.bool false) (eqI (bV (decide (till <= now))) (by simp; omega)) (wq_p 1 [(180, V)] ?_)
       refine wE hK141 (cF (wp_seq_k fun K142 hK142 => ?_))
       rcases (by omega : nonce < 0 ∨ (0 <= nonce /\ 1099511627776 < nonce)) with hq | hq
       ·
        refine wp_reset 331 [(1, (pt g2 0)), (2, V), (3, (pt tb17 0)), (4, (pt kb19 0)), (5, O), (8, (D 2)), (9, (D 1)), (10, (pt g131 0)), (11, (D (((7 : Nat) : Int)))), (12, O)] (fun x144 => ?_)
        refine reg_lit ?_
        refine wq_p 1 [(187, (pt g2 7))] (wV 188 (D nonce) (eL (h140.at_ 5 rfl) 2 (.tmp 187) 7 _) (wV 189 (.bool true) (eqI (bV (decide (nonce < 0))) (by simp; omega)) (wq_p 3 [(192, undef), (191, undef), (190, I)] ?_)))
        refine wq_p 1 [(193, undef)] (wq_p 2 [(186, I), (194, I)] ?_)
        refine wE hK142 (cT (reg_lit ?_))
        refine wq_p 1 [(12, (D 7))] ?_
        refine wl_end rfl (blk_n (seq_n hK135 (wp_seq_k fun K145 hK145 => wR fun K146 hK146 => ?_)))
        refine wq_p 5 [(199, (D 7)), (198, (D (((7 : Nat) : Int)))), (197, V), (196, V), (195, O)] (wV 200 V (eqI (bV ((((7 : Nat) : Int)) != 7)) rfl) (wq_p 1 [(201, V)] ?_))
        refine wE hK146 (cF (wp_skip (seq_n hK145 (wp_seq_k fun K147 hK147 => wR fun K148 hK148 => ?_))))
        refine wq_p 1 [(202, (D (((7 : Nat) : Int))))] (wV 203 I (eqI (bV ((((7 : Nat) : Int)) != 0)) rfl) ?_)
        refine wE hK148 (cT (wR fun K149 hK149 => ?_))
        refine wq_p 1 [(204, (pt g131 0))] (wV 205 eS (eL (h140.at_ 0 rfl) 9 (.tmp 204) 0 _) (wV 206 I (eqI (bV ((ByteArray.empty).toList == (⟨#[]⟩ : ByteArray).toList)) empty_eq) (wq_p 2 [(208, (pt g131 3)), (207, I)] ?_)))
        refine wV 209 nS (eL (h140.at_ 0 rfl) 22 (.tmp 208) 3 _) (wq_p 6 [(215, (pt g131 2)), (214, (pt g131 1)), (213, I), (212, I), (211, I), (210, O)] (wV 216 nS (eL (h140.at_ 0 rfl) 22 (.tmp 215) 2 _) (wq_p 4 [(2, I), (219, I), (218, I), (217, O)] ?_)))
        refine wE hK149 (wp_ret (seq_r ?_))
        refine post_1 rfl (by kernel_rfl) (rtm I) ?_
        exact ⟨rfl, h140.below0⟩
       ·
        refine wp_reset 331 [(1, (pt g2 0)), (2, V), (3, (pt tb17 0)), (4, (pt kb19 0)), (5, O), (8, (D 2)), (9, (D 1)), (10, (pt g131 0)), (11, (D (((7 : Nat) : Int)))), (12, O)] (fun x150 => ?_)
        refine reg_lit ?_
        refine wq_p 1 [(187, (pt g2 7))] (wV 188 (D nonce) (eL (h140.at_ 5 rfl) 2 (.tmp 187) 7 _) (wV 189 (.bool false) (eqI (bV (decide (nonce < 0))) (by simp; omega)) (wq_p 2 [(191, (pt g2 7)), (190, V)] ?_)))
        refine wV 192 (D nonce) (eL (h140.at_ 5 rfl) 2 (.tmp 191) 7 _) (wV 193 (.bool true) (eqI (bV (decide (nonce > 1099511627776))) (by simp; omega)) (wq_p 2 [(186, I), (194, I)] ?_))
        refine wE hK142 (cT (reg_lit ?_))
        refine wq_p 1 [(12, (D 7))] ?_
        refine wl_end rfl (blk_n (seq_n hK135 (wp_seq_k fun K151 hK151 => wR fun K152 hK152 => ?_)))
        refine wq_p 5 [(199, (D 7)), (198, (D (((7 : Nat) : Int)))), (197, V), (196, V), (195, O)] (wV 200 V (eqI (bV ((((7 : Nat) : Int)) != 7)) rfl) (wq_p 1 [(201, V)] ?_))
        refine wE hK152 (cF (wp_skip (seq_n hK151 (wp_seq_k fun K153 hK153 => wR fun K154 hK154 => ?_))))
        refine wq_p 1 [(202, (D (((7 : Nat) : Int))))] (wV 203 I (eqI (bV ((((7 : Nat) : Int)) != 0)) rfl) ?_)
        refine wE hK154 (cT (wR fun K155 hK155 => ?_))
        refine wq_p 1 [(204, (pt g131 0))] (wV 205 eS (eL (h140.at_ 0 rfl) 9 (.tmp 204) 0 _) (wV 206 I (eqI (bV ((ByteArray.empty).toList == (⟨#[]⟩ : ByteArray).toList)) empty_eq) (wq_p 2 [(208, (pt g131 3)), (207, I)] ?_)))
        refine wV 209 nS (eL (h140.at_ 0 rfl) 22 (.tmp 208) 3 _) (wq_p 6 [(215, (pt g131 2)), (214, (pt g131 1)), (213, I), (212, I), (211, I), (210, O)] (wV 216 nS (eL (h140.at_ 0 rfl) 22 (.tmp 215) 2 _) (wq_p 4 [(2, I), (219, I), (218, I), (217, O)] ?_)))
        refine wE hK155 (wp_ret (seq_r ?_))
        refine post_1 rfl (by kernel_rfl) (rtm I) ?_
        exact ⟨rfl, h140.below0⟩
     ·
      subst ha
      subst hu
      refine reg_lit ?_
      refine wq_p 2 [(139, (pt g2 10)), (138, (pt kb19 0))] (wV 140 (D now) (eL (h65.at_ 4 rfl) 2 (.tmp 139) 10 _) (wq_p 1 [(141, (pt g2 4))] (wV 142 (sV nm) (eL (h65.at_ 4 rfl) 9 (.tmp 141) 4 _) ?_)))
      refine wq_p 1 [(143, (pt g2 7))] (wV 144 (D nonce) (eL (h65.at_ 4 rfl) 2 (.tmp 143) 7 _) (wq_p 1 [(145, (pt g2 8))] (wV 146 (D till) (eL (h65.at_ 4 rfl) 2 (.tmp 145) 8 _) ?_)))
      refine wq_p 2 [(148, (aV ([(sV nm), (D nonce), (D till), (lV A60 16 c60)]).toArray)), (147, (lV A60 16 c60))] ?_
      obtain ⟨fl, R, hfr⟩ := fl_ways now ren hlf.2.2.2
      obtain ⟨Kf, hKf⟩ := ex_key 3
      obtain ⟨b1, hp1⟩ := pack_inside (f := fl) (K := Kf) (s := nm) (a := now) (u := (min till (now + life))) (r := R) (rightM_is hr (by intro x hx; simp only [List.mem_cons, List.not_mem_nil, or_false] at hx; rcases hx with rfl | rfl | rfl | rfl <;> exact inN_is (by omega) (by omega))) (by omega)
      obtain ⟨b2, hp2⟩ := pack_reply (f := fl) (K := Kf) (n := nonce) (s := ⟨#[107, 100, 99]⟩) (a := now) (u := (min till (now + life))) (r := R) (rightM_is right_kdc (by intro x hx; simp only [List.mem_cons, List.not_mem_nil, or_false] at hx; rcases hx with rfl | rfl | rfl | rfl | rfl <;> exact inN_is (by omega) (by omega))) (by decide)
      refine wT 149 (x_asY (s2 := (((s60.add SFrom.fresh).seal (kl K19) 2 b1).seal (kl K48) 3 b2)) (nm := nm) (m1 := mkB 98 (s60.boxes.length + 1)) (m2 := mkB 98 (s60.boxes.length + 2)) h65 0 rfl [(pt kb19 0), (D now), (aV ([(sV nm), (D nonce), (D till), (lV A60 16 c60)]).toArray)] (by kernel_rfl) (as_main (pre := mkB 98 1) (h65.at_ 0 rfl) (h65.at_ 3 rfl) (h65.dis 0 3 _ _ rfl rfl (by decide)) (ht60.room 9 (by first | decide | simp | omega) (by first | decide | simp | omega)) (h65.at_ 2 rfl) (fun hq => h65.dis 0 2 _ _ rfl rfl (by decide) _ hq rfl) (h65.at_ 1 rfl) (h65.dis 1 0 _ _ rfl rfl (by decide)) (by simp) (u := (User.mk nm K48 life ren true)) (place_self rfl).1 (place_self rfl).2 (t := time) (q := 0) (ht60.opn (i := 0) rfl hp0 (by decide)) hn ht ⟨by omega, by omega⟩ (show 0 <= life /\ life <= 600 from by omega) (show nm.size <= 1000 from by omega) Kf (hKf.trans (by rw [ht60.keys])) hfr hp1 hp2)) ?_
      rintro _ w156 ⟨A156, c156, B156, d156, F156, s156, rfl, hs156, h156⟩
      have hbn156 : s60.boxes.length = 1 := by rw [ht60.boxes]; rfl
      rw [hbn156] at h156
      have ht156 : TS s156 3 [⟨kl K48, 1, b0⟩, ⟨kl K19, 2, b1⟩, ⟨kl K48, 3, b2⟩] [(textF pw nm, 2)] := ((ht60.add rfl).seal rfl (pack_le6 hp1)).seal hs156 (pack_le6 hp2)
      refine wq_p 3 [(151, O), (150, (aV ([(sV nm), (sV (⟨#[107, 100, 99]⟩)), (lV A156 16 c156), (lV B156 16 d156)]).toArray)), (137, (Value.tuple #[(aV ([(sV nm), (sV (⟨#[107, 100, 99]⟩)), (lV A156 16 c156), (lV B156 16 d156)]).toArray), O]))] ?_
      refine wT 10 (xN h156 41 ([eS, eS, nS, nS])) ?_
      rintro _ w157 ⟨g157, rfl, h157⟩
      refine wq_to none (xSs h157 0 41 (.tmp 10) (.tmp 150) 0 ([(sV nm), (sV (⟨#[107, 100, 99]⟩)), (lV A156 16 c156), (lV B156 16 d156)]) ([(sV nm), (sV (⟨#[107, 100, 99]⟩)), (lV A156 16 c156), (lV B156 16 d156)])) ?_
      rintro _ w158 h158
      refine wq_p 1 [(11, O)] ?_
      refine wE hK66 (wp_seq_k fun K159 hK159 => ?_)
      refine wp_reset 331 [(1, (pt g2 0)), (2, V), (3, (pt tb17 0)), (4, (pt kb19 0)), (5, O), (7, O), (8, (D 2)), (9, (D 1)), (10, (pt g157 0)), (11, O)] (fun x160 => ?_)
      refine reg_lit ?_
      refine wq_p 1 [(12, O)] ?_
      refine wE hK159 (wp_seq_k fun K161 hK161 => wp_block (wR fun K162 hK162 => ?_))
      refine wq_p 1 [(153, (pt g2 4))] (wV 154 (sV nm) (eL (h158.at_ 7 rfl) 9 (.tmp 153) 4 _) (wq_p 1 [(155, (pt g2 0))] (wV 156 (sV nm) (eL (h158.at_ 7 rfl) 9 (.tmp 155) 0 _) ?_)))
      refine wV 157 V (eqI (bV (!((nm).toList == (nm).toList))) (by simp)) (wq_p 1 [(152, V)] ?_)
      refine wE hK162 (cF (wp_seq_k fun K163 hK163 => ?_))
      skip
      ·
       refine reg_lit ?_
       refine wq_p 1 [(159, (pt g2 5))] (wV 160 (sV pw) (eL (h158.at_ 7 rfl) 9 (.tmp 159) 5 _) (wq_p 1 [(161, (pt g2 1))] (wV 162 (sV pw) (eL (h158.at_ 7 rfl) 9 (.tmp 161) 1 _) ?_)))
       refine wV 163 V (eqI (bV (!((pw).toList == (pw).toList))) (by simp)) (wq_p 2 [(165, (pt g2 6)), (164, V)] (wV 166 (D 1) (eL (h158.at_ 7 rfl) 3 (.tmp 165) 6 _) (wV 167 V (pureOp_run (by kernel_rfl) _) ?_)))
       refine wq_p 3 [(170, O), (169, V), (168, V)] (wq_p 1 [(171, V)] (wq_p 2 [(158, V), (172, V)] ?_))
       refine wE hK163 (cF (wR fun K165 hK165 => ?_))
       refine wq_p 1 [(174, (pt g2 10))] (wV 175 (D now) (eL (h158.at_ 7 rfl) 2 (.tmp 174) 10 _) (wq_p 1 [(176, (pt g2 9))] (wV 177 (D time) (eL (h158.at_ 7 rfl) 2 (.tmp 176) 9 _) ?_)))
       refine wT 178 (x_dp (v := .bool true) h158 16 [(D now), (D time)] (by kernel_rfl) (hn ▸ rnear_any now time _)) ?_
       rintro _ w166 ⟨rfl, h166⟩
       refine wq_p 2 [(173, V), (179, V)] ?_
       refine wE hK165 (cF (wR fun K167 hK167 => ?_))
       refine wq_p 1 [(181, (pt g2 8))] (wV 182 (D till) (eL (h166.at_ 7 rfl) 2 (.tmp 181) 8 _) (wq_p 1 [(183, (pt g2 10))] (wV 184 (D now) (eL (h166.at_ 7 rfl) 2 (.tmp 183) 10 _) ?_)))
       refine wV 185 (.bool false) (eqI (bV (decide (till <= now))) (by simp; omega)) (wq_p 1 [(180, V)] ?_)
       refine wE hK167 (cF (wp_seq_k fun K168 hK168 => ?_))
       skip
       ·
        refine wp_reset 331 [(1, (pt g2 0)), (2, V), (3, (pt tb17 0)), (4, (pt kb19 0)), (5, O), (8, (D 2)), (9, (D 1)), (10, (pt g157 0)), (11, O), (12, O)] (fun x170 => ?_)
        refine reg_lit ?_
        refine wq_p 1 [(187, (pt g2 7))] (wV 188 (D nonce) (eL (h166.at_ 7 rfl) 2 (.tmp 187) 7 _) (wV 189 (.bool false) (eqI (bV (decide (nonce < 0))) (by simp; omega)) (wq_p 2 [(191, (pt g2 7)), (190, V)] ?_)))
        refine wV 192 (D nonce) (eL (h166.at_ 7 rfl) 2 (.tmp 191) 7 _) (wV 193 (.bool false) (eqI (bV (decide (nonce > 1099511627776))) (by simp; omega)) (wq_p 2 [(186, V), (194, V)] ?_))
        refine wE hK168 (cF (wp_skip (blk_n (seq_n hK161 (wp_seq_k fun K171 hK171 => wR fun K172 hK172 => ?_)))))
        refine wq_p 5 [(199, O), (198, O), (197, V), (196, V), (195, O)] (wV 200 V (pureOp_run (by kernel_rfl) _) (wq_p 1 [(201, V)] ?_))
        refine wE hK172 (cF (wp_skip (seq_n hK171 (wp_seq_k fun K173 hK173 => wR fun K174 hK174 => ?_))))
        refine wq_p 1 [(202, O)] (wV 203 V (pureOp_run (by kernel_rfl) _) ?_)
        refine wE hK174 (cF (wp_skip (seq_n hK173 (wp_seq_k fun K175 hK175 => ?_))))
        have hJ177 : ∀ (gJ176_0 : Nat), (TS s156 3 [⟨kl K48, 1, b0⟩, ⟨kl K19, 2, b1⟩, ⟨kl K48, 3, b2⟩] [(textF pw nm, 2)]) -> ∀ (xJ177 : Nat -> Value) (aJ : Act) (wJ177 : World), aJ = patch xJ177 331 [(1, (pt g2 0)), (2, V), (3, (pt tb17 0)), (4, (pt kb19 0)), (5, O), (8, (D 2)), (9, (D 1)), (10, (pt g157 0)), (11, O), (12, O), (13, (pt gJ176_0 0)), (14, O), (186, V), (201, V), (203, V)] -> Hp (fun _ => False) w wJ177 [] [rBlk gJ176_0 55 ([(D fl)] ++ vb (kl Kf) ++ [(sV nm), (D now), (D ((min till (now + life)))), (D R)]), rBlk g157 41 ([(sV nm), (sV (⟨#[107, 100, 99]⟩)), (lV A156 16 c156), (lV B156 16 d156)]), rTab F156 tb17 s156, rSB ((lV A156 16 c156)) (mkB 98 2), rSB ((lV B156 16 d156)) (mkB 98 3), rSB ((lV A60 16 c60)) (mkB 98 1), rBlk kb19 73 ([(Value.iface 24 (pt tb17 0)), (pt bb19 0)] ++ vb (kl K19)), rBs G49 bb19 [(User.mk nm K48 life ren true)], rBlk g2 80 ([(sV nm), (sV pw), (D life), (D ren), (sV nm), (sV pw), (D 1), (D nonce), (D till), (D time), (D now)])] -> K175 aJ wJ177 := by
          rintro gJ176_0 htJ xJ177 _ wJ177 rfl hJh177
          refine seq_n hK175 (wp_seq_k fun K178 hK178 => ?_)
          refine pR_go hJh177 16 (fun W => (rBlk g2 80 ([(sV nm), (sV pw), (D life), (D ren), (sV nm), (sV pw), (D 1), (D nonce), (D till), (D time), (D now)])).Φ W /\ (rBlk g157 41 ([(sV nm), (sV (⟨#[107, 100, 99]⟩)), (lV A156 16 c156), (lV B156 16 d156)])).Φ W /\ True) [(235, [3], 0), (236, [234], 1), (237, [3], 0), (238, [1], 0), (239, [237], 8), (240, [1], 0), (241, [239], 32), (242, [236, 238, 240], 84), (243, [10], 0), (244, [242], 256), (245, [235, 241, 243], 642), (234, [244], 1024), (246, [233], 2048), (247, [233], 2048), (16, [], 0), (0, [15, 245], 24575), (17, [246], 65535)] rfl (fun _ d _ _ _ h => by cases d <;> exact h) ?_
          intro hs179 w179 h179
          refine pR_p 11 [0, 1, 2, 3, 5, 8] [(242, (pt g157 3)), (239, (pt g2 0)), (237, (pt g2 1)), (236, (pt tb17 0)), (235, (Value.iface 24 (pt tb17 0))), (234, (pt tb17 0))] 303 hs179 ⟨h179.at_ 8 rfl, h179.at_ 1 rfl, trivial⟩ ?_
          refine pR_v 4 (some 238) (sV pw) 319 rfl hs179 ⟨h179.at_ 8 rfl, h179.at_ 1 rfl, trivial⟩ (fun W hW => eL hW.1 9 (.tmp 237) 1 _) ?_
          refine pR_v 6 (some 240) (sV nm) 383 rfl hs179 ⟨h179.at_ 8 rfl, h179.at_ 1 rfl, trivial⟩ (fun W hW => eL hW.1 9 (.tmp 239) 0 _) ?_
          refine pR_v 9 (some 243) (lV B156 16 d156) 895 rfl hs179 ⟨h179.at_ 8 rfl, h179.at_ 1 rfl, trivial⟩ (fun W hW => eL hW.2.1 22 (.tmp 242) 3 _) ?_
          refine pR_cut 2 32767 (fun KJ => ∀ (gT2_0 : Nat), ∀ (FT2_1 : Nat -> Prop), ∀ (sT2_2 : STab), (TS sT2_2 3 [⟨kl K48, 1, b0⟩, ⟨kl K19, 2, b1⟩, ⟨kl K48, 3, b2⟩] [(textF pw nm, 2)]) -> ∀ (xT180_2 : Nat -> Value) (aJ : Act) (wT180_2 : World), aJ = patch xT180_2 331 [(1, (pt g2 0)), (2, V), (3, (pt tb17 0)), (4, (pt kb19 0)), (5, O), (8, (D 2)), (9, (D 1)), (10, (pt g157 0)), (11, O), (12, O), (13, (pt gJ176_0 0)), (14, O), (15, (pt gT2_0 0)), (186, V), (201, V), (203, V), (245, (aV ([(D fl)] ++ vb (kl Kf) ++ [(D nonce), (sV (⟨#[107, 100, 99]⟩)), (D now), (D ((min till (now + life)))), (D R)]).toArray)), (246, O)] -> Hp (fun _ => False) w wT180_2 [] [rBlk gT2_0 60 ([O] ++ vb (List.replicate 16 0) ++ [O, eS, O, O, O]), rBlk gJ176_0 55 ([(D fl)] ++ vb (kl Kf) ++ [(sV nm), (D now), (D ((min till (now + life)))), (D R)]), rBlk g157 41 ([(sV nm), (sV (⟨#[107, 100, 99]⟩)), (lV A156 16 c156), (lV B156 16 d156)]), rTab FT2_1 tb17 sT2_2, rSB ((lV A156 16 c156)) (mkB 98 2), rSB ((lV B156 16 d156)) (mkB 98 3), rSB ((lV A60 16 c60)) (mkB 98 1), rBlk kb19 73 ([(Value.iface 24 (pt tb17 0)), (pt bb19 0)] ++ vb (kl K19)), rBs G49 bb19 [(User.mk nm K48 life ren true)], rBlk g2 80 ([(sV nm), (sV pw), (D life), (D ren), (sV nm), (sV pw), (D 1), (D nonce), (D till), (D time), (D now)])] -> KJ aJ wT180_2) ?_ (fun hT180_2 => ?_)
          ·
           rintro gT2_0 FT2_1 sT2_2 htF xT180_2 _ wT180_2 rfl hTh180_2
           refine pR_to 15 none 65535 rfl hs179 (xSs hTh180_2 0 60 (.tmp 15) (.tmp 245) 0 ([(D fl)] ++ vb (kl Kf) ++ [(D nonce), (sV (⟨#[107, 100, 99]⟩)), (D now), (D ((min till (now + life)))), (D R)]) ([(D fl)] ++ vb (kl Kf) ++ [(D nonce), (sV (⟨#[107, 100, 99]⟩)), (D now), (D ((min till (now + life)))), (D R)])) ?_
           rintro _ w181 h181
           refine ⟨fun _ => ⟨h181.at_ 9 rfl, h181.at_ 2 rfl, trivial⟩, ?_⟩
           refine pR_to 16 (some 16) 131071 rfl hs179 (OpTo.run O (pureOp_run (by kernel_rfl) _) (R := fun v w => v = O /\ w181 = w) ⟨rfl, rfl⟩) ?_
           rintro _ _ ⟨rfl, rfl⟩
           refine ⟨fun h => absurd h (by decide), ?_⟩
           refine pR_done hs179 ?_ _
           refine seq_n hK178 (wR fun K182 hK182 => ?_)
           refine wq_p 2 [(18, O), (17, (D 4))] ?_
           refine wE hK182 (wp_seq_k fun K183 hK183 => wR fun K184 hK184 => ?_)
           refine wq_p 1 [(247, (pt g2 3))] (wV 248 (D ren) (eL (h181.at_ 9 rfl) 2 (.tmp 247) 3 _) (wq_p 1 [(249, (bV (decide (ren > 0))))] ?_))
           refine wE hK184 ?_
           have hJ186 : (TS sT2_2 3 [⟨kl K48, 1, b0⟩, ⟨kl K19, 2, b1⟩, ⟨kl K48, 3, b2⟩] [(textF pw nm, 2)]) -> ∀ (xJ186 : Nat -> Value) (aJ : Act) (wJ186 : World), aJ = patch xJ186 331 [(1, (pt g2 0)), (2, V), (3, (pt tb17 0)), (4, (pt kb19 0)), (5, O), (8, (D 2)), (9, (D 1)), (10, (pt g157 0)), (11, O), (12, O), (13, (pt gJ176_0 0)), (14, O), (15, (pt gT2_0 0)), (16, O), (17, (D fl)), (18, (D R)), (186, V), (201, V), (203, V), (249, (bV (decide (ren > 0))))] -> Hp (fun _ => False) w wJ186 [] [rBlk gT2_0 60 ([(D fl)] ++ vb (kl Kf) ++ [(D nonce), (sV (⟨#[107, 100, 99]⟩)), (D now), (D ((min till (now + life)))), (D R)]), rBlk gJ176_0 55 ([(D fl)] ++ vb (kl Kf) ++ [(sV nm), (D now), (D ((min till (now + life)))), (D R)]), rBlk g157 41 ([(sV nm), (sV (⟨#[107, 100, 99]⟩)), (lV A156 16 c156), (lV B156 16 d156)]), rTab FT2_1 tb17 sT2_2, rSB ((lV A156 16 c156)) (mkB 98 2), rSB ((lV B156 16 d156)) (mkB 98 3), rSB ((lV A60 16 c60)) (mkB 98 1), rBlk kb19 73 ([(Value.iface 24 (pt tb17 0)), (pt bb19 0)] ++ vb (kl K19)), rBs G49 bb19 [(User.mk nm K48 life ren true)], rBlk g2 80 ([(sV nm), (sV pw), (D life), (D ren), (sV nm), (sV pw), (D 1), (D nonce), (D till), (D time), (D now)])] -> K183 aJ wJ186 := by
             rintro htJ xJ186 _ wJ186 rfl hJh186
             refine seq_n hK183 (wp_seq_k fun K187 hK187 => wp_seq_k fun K188 hK188 => ?_)
             refine pR_go hJh186 42 (fun W => (rBlk gJ176_0 55 ([(D fl)] ++ vb (kl Kf) ++ [(sV nm), (D now), (D ((min till (now + life)))), (D R)])).Φ W /\ (rBlk g157 41 ([(sV nm), (sV (⟨#[107, 100, 99]⟩)), (lV A156 16 c156), (lV B156 16 d156)])).Φ W /\ (rBlk g2 80 ([(sV nm), (sV pw), (D life), (D ren), (sV nm), (sV pw), (D 1), (D nonce), (D till), (D time), (D now)])).Φ W /\ True) [(256, [14], 0), (257, [255], 1), (258, [256], 2), (259, [16, 257], 4), (260, [258, 257], 12), (261, [257, 259], 20), (262, [260], 36), (263, [3, 261], 64), (264, [262, 261], 192), (265, [8, 261], 64), (266, [264, 261], 576), (267, [263, 265, 261], 1344), (268, [261, 266], 2112), (269, [267], 4352), (270, [3, 268], 8192), (271, [269, 268], 24576), (272, [9, 268], 8192), (273, [271, 268], 73728), (274, [270, 272, 268], 172032), (275, [268, 273], 270336), (276, [274], 557056), (277, [13, 275], 1048576), (278, [276, 275], 3145728), (279, [3, 275], 1048576), (280, [8, 275], 1048576), (281, [279, 275], 17825792), (282, [278, 280, 275], 42991616), (283, [277, 281, 275], 72351744), (284, [275, 282], 135266304), (285, [283], 335544320), (286, [10, 284], 536870912), (287, [285, 284], 1610612736), (288, [1, 284], 536870912), (289, [287, 284], 4831838208), (290, [286, 288, 284], 11274289152), (291, [284, 289], 17716740096), (292, [290], 34896609280), (293, [10, 291], 68719476736), (294, [292, 291], 206158430208), (295, [293, 291], 343597383680), (296, [294, 291], 618475290624), (297, [291, 295], 1168231104512)] rfl (fun _ d _ _ _ h => by cases d <;> exact h) ?_
             intro hs189 w189 h189
             refine pR_p 32 [0, 1, 2, 3, 4, 5, 6, 7, 9, 10] [(265, (D 3)), (264, (D 2)), (262, (pt tb17 0)), (261, V), (260, V), (259, V), (258, O), (257, V), (256, V), (255, O)] 1791 hs189 ⟨h189.at_ 1 rfl, h189.at_ 2 rfl, h189.at_ 9 rfl, trivial⟩ ?_
             refine pR_to 8 (some 263) 2047 rfl hs189 (x_lenE (x_nkeys h189 3 rfl (by kernel_rfl)) (3 : Int) (by rw [htJ.keys]; rfl)) ?_
             rintro _ w190 ⟨rfl, h190⟩
             refine ⟨fun _ => ⟨h190.at_ 1 rfl, h190.at_ 2 rfl, h190.at_ 9 rfl, trivial⟩, ?_⟩
             refine pR_p 25 [11, 12, 13, 14, 16, 17] [(272, (D 3)), (271, (D 1)), (269, (pt tb17 0)), (268, V), (267, V), (266, V)] 229375 hs189 ⟨h190.at_ 1 rfl, h190.at_ 2 rfl, h190.at_ 9 rfl, trivial⟩ ?_
             refine pR_to 15 (some 270) 262143 rfl hs189 (x_lenE (x_nboxesK h190 3 rfl (by kernel_rfl)) (3 : Int) (by rw [htJ.boxes]; rfl)) ?_
             rintro _ w191 ⟨rfl, h191⟩
             refine ⟨fun _ => ⟨h191.at_ 1 rfl, h191.at_ 2 rfl, h191.at_ 9 rfl, trivial⟩, ?_⟩
             refine pR_p 17 [18, 19, 20, 21, 23, 24, 25] [(280, (D 3)), (279, (D 2)), (278, (pt tb17 0)), (276, (pt gJ176_0 1)), (275, V), (274, V), (273, V)] 62914559 hs189 ⟨h191.at_ 1 rfl, h191.at_ 2 rfl, h191.at_ 9 rfl, trivial⟩ ?_
             refine pR_v 22 (some 277) (aV (vb (kl Kf)).toArray) 67108863 rfl hs189 ⟨h191.at_ 1 rfl, h191.at_ 2 rfl, h191.at_ 9 rfl, trivial⟩ (fun W hW => eLs hW.1 32 (.tmp 276) 1 (vb (kl Kf))) ?_
             refine pR_to 26 (some 281) 134217727 rfl hs189 (x_nth (tb := tb17) h191 3 (by kernel_rfl) (by decide)) ?_
             rintro _ w192 ⟨K192, rfl, hK192, h192⟩
             refine ⟨fun _ => ⟨h192.at_ 1 rfl, h192.at_ 2 rfl, h192.at_ 9 rfl, trivial⟩, ?_⟩
             obtain rfl : Kf = K192 := kl_inj (hKf.trans hK192.symm)
             refine pR_v 27 (some 282) V 268435455 rfl hs189 ⟨h192.at_ 1 rfl, h192.at_ 2 rfl, h192.at_ 9 rfl, trivial⟩ (fun W hW => e_kne Kf Kf 32 32 (.tmp 277) (.tmp 281) (by kernel_rfl) (by kernel_rfl) (by kernel_rfl) (by kernel_rfl) (by kernel_rfl) false (by simp) _) ?_
             refine pR_p 10 [28, 29, 30, 32] [(287, (pt g2 0)), (285, (pt g157 0)), (284, V), (283, V)] 6442450943 hs189 ⟨h192.at_ 1 rfl, h192.at_ 2 rfl, h192.at_ 9 rfl, trivial⟩ ?_
             refine pR_v 31 (some 286) (sV nm) 8589934591 rfl hs189 ⟨h192.at_ 1 rfl, h192.at_ 2 rfl, h192.at_ 9 rfl, trivial⟩ (fun W hW => eL hW.2.1 9 (.tmp 285) 0 _) ?_
             refine pR_v 33 (some 288) (sV nm) 17179869183 rfl hs189 ⟨h192.at_ 1 rfl, h192.at_ 2 rfl, h192.at_ 9 rfl, trivial⟩ (fun W hW => eL hW.2.2.1 9 (.tmp 287) 0 _) ?_
             refine pR_v 34 (some 289) V 34359738367 rfl hs189 ⟨h192.at_ 1 rfl, h192.at_ 2 rfl, h192.at_ 9 rfl, trivial⟩ (fun W hW => eqI (bV (!((nm).toList == (nm).toList))) (by simp)) ?_
             refine pR_p 3 [35, 36, 37, 38] [(293, (pt g157 1)), (292, (pt g157 1)), (291, V), (290, V)] 549755813887 hs189 ⟨h192.at_ 1 rfl, h192.at_ 2 rfl, h192.at_ 9 rfl, trivial⟩ ?_
             refine pR_v 39 (some 294) (sV (⟨#[107, 100, 99]⟩)) 1099511627775 rfl hs189 ⟨h192.at_ 1 rfl, h192.at_ 2 rfl, h192.at_ 9 rfl, trivial⟩ (fun W hW => eL hW.2.1 9 (.tmp 293) 1 _) ?_
             refine pR_v 40 (some 295) V 2199023255551 rfl hs189 ⟨h192.at_ 1 rfl, h192.at_ 2 rfl, h192.at_ 9 rfl, trivial⟩ (fun W hW => eqI (bV (!((⟨#[107, 100, 99]⟩ : ByteArray).toList == (⟨#[107, 100, 99]⟩ : ByteArray).toList))) (by simp)) ?_
             refine pR_p 0 [41] [(296, V)] 4398046511103 hs189 ⟨h192.at_ 1 rfl, h192.at_ 2 rfl, h192.at_ 9 rfl, trivial⟩ ?_
             refine pR_done hs189 ?_ _
             refine seq_n hK188 (cF (wp_skip (seq_n hK187 (wR fun K193 hK193 => ?_))))
             refine wV 297 (aV ([(D fl)] ++ vb (kl Kf) ++ [(sV nm), (D now), (D ((min till (now + life)))), (D R)]).toArray) (eLs (h192.at_ 1 rfl) 55 (.tmp 13) 0 ([(D fl)] ++ vb (kl Kf) ++ [(sV nm), (D now), (D ((min till (now + life)))), (D R)])) (wq_p 2 [(299, (pt gJ176_0 1)), (298, (D fl))] (wV 300 (aV (vb (kl Kf)).toArray) (eLs (h192.at_ 1 rfl) 32 (.tmp 299) 1 (vb (kl Kf))) (wq_p 1 [(301, (pt g2 0))] ?_)))
             refine wV 302 (sV nm) (eL (h192.at_ 9 rfl) 9 (.tmp 301) 0 _) (wq_p 1 [(303, (pt g2 10))] (wV 304 (D now) (eL (h192.at_ 9 rfl) 2 (.tmp 303) 10 _) (wq_p 1 [(305, (pt g2 8))] ?_)))
             refine wV 306 (D till) (eL (h192.at_ 9 rfl) 2 (.tmp 305) 8 _) (wq_p 1 [(307, (pt g2 10))] (wV 308 (D now) (eL (h192.at_ 9 rfl) 2 (.tmp 307) 10 _) (wq_p 1 [(309, (pt g2 2))] ?_)))
             refine wV 310 (D life) (eL (h192.at_ 9 rfl) 2 (.tmp 309) 2 _) (wV 311 (D (now + life)) (exec_add _ _ _ _ rfl now life (by kernel_rfl) (by kernel_rfl) (now + life) rfl (by omega) (by omega) _) (wV 312 (D (min till (now + life))) (e_min (.tmp 306) (.tmp 311) #[2, 2] (by kernel_rfl) .i64 .i64 till (now + life) (by kernel_rfl) (by kernel_rfl) (min till (now + life)) (by split <;> omega) _) (wq_p 2 [(314, (aV ([(D fl)] ++ vb (kl Kf) ++ [(sV nm), (D now), (D (min till (now + life))), (D R)]).toArray)), (313, (D R))] ?_)))
             refine wV 315 I (e_selfB 55 _ (.tmp 297) (.tmp 314) 55 (by kernel_rfl) (by kernel_rfl) (by kernel_rfl) (by kernel_rfl) (self_inside fl Kf nm now ((min till (now + life))) R) _) (wq_p 1 [(316, I)] (wV 317 (aV ([(D fl)] ++ vb (kl Kf) ++ [(D nonce), (sV (⟨#[107, 100, 99]⟩)), (D now), (D ((min till (now + life)))), (D R)]).toArray) (eLs (h192.at_ 0 rfl) 60 (.tmp 15) 0 ([(D fl)] ++ vb (kl Kf) ++ [(D nonce), (sV (⟨#[107, 100, 99]⟩)), (D now), (D ((min till (now + life)))), (D R)])) (wq_p 2 [(319, (pt gJ176_0 1)), (318, (D fl))] ?_)))
             refine wV 320 (aV (vb (kl Kf)).toArray) (eLs (h192.at_ 1 rfl) 32 (.tmp 319) 1 (vb (kl Kf))) (wq_p 1 [(321, (pt g2 7))] (wV 322 (D nonce) (eL (h192.at_ 9 rfl) 2 (.tmp 321) 7 _) (wq_p 1 [(323, (pt g2 10))] ?_)))
             refine wV 324 (D now) (eL (h192.at_ 9 rfl) 2 (.tmp 323) 10 _) (wq_p 1 [(325, (pt gJ176_0 19))] (wV 326 (D ((min till (now + life)))) (eL (h192.at_ 1 rfl) 2 (.tmp 325) 19 _) (wq_p 2 [(328, (aV ([(D fl)] ++ vb (kl Kf) ++ [(D nonce), (sV (⟨#[107, 100, 99]⟩)), (D now), (D ((min till (now + life)))), (D R)]).toArray)), (327, (D R))] ?_)))
             refine wV 329 I (e_selfB 60 _ (.tmp 317) (.tmp 328) 60 (by kernel_rfl) (by kernel_rfl) (by kernel_rfl) (by kernel_rfl) (self_reply fl Kf nonce ⟨#[107, 100, 99]⟩ now ((min till (now + life))) R) _) (wq_p 2 [(2, I), (330, I)] ?_)
             refine wE hK193 (wp_ret ?_)
             refine post_1 rfl (by kernel_rfl) (rtm I) ?_
             exact ⟨rfl, h192.below0⟩
           refine wp_if (ren > 0) (by kernel_rfl) (fun b194 => ?_) (fun b194 => ?_)
           ·
            have hf : fl = 5 /\ R = now + ren := by
              rcases hfr with h | h
              · exact h.2.2
              · exact absurd b194 (by have := h.1; omega)
            refine pR_go h181 6 (fun W => (rBlk g2 80 ([(sV nm), (sV pw), (D life), (D ren), (sV nm), (sV pw), (D 1), (D nonce), (D till), (D time), (D now)])).Φ W /\ True) [(251, [1], 0), (252, [250], 1), (253, [1], 0), (254, [252], 4), (255, [251, 253], 10), (18, [], 0), (19, [254], 63)] rfl (fun _ d _ _ _ h => by cases d <;> exact h) ?_
            intro hs195 w195 h195
            refine pR_p 5 [0, 2] [(252, (pt g2 3)), (250, (pt g2 10))] 5 hs195 ⟨h195.at_ 9 rfl, trivial⟩ ?_
            refine pR_v 5 (some 17) (D fl) 37 rfl hs195 ⟨h195.at_ 9 rfl, trivial⟩ (fun W hW => eqI (D 5) (by rw [hf.1])) ?_
            refine pR_v 1 (some 251) (D now) 39 rfl hs195 ⟨h195.at_ 9 rfl, trivial⟩ (fun W hW => eL hW.1 2 (.tmp 250) 10 _) ?_
            refine pR_v 3 (some 253) (D ren) 47 rfl hs195 ⟨h195.at_ 9 rfl, trivial⟩ (fun W hW => eL hW.1 2 (.tmp 252) 3 _) ?_
            refine pR_v 4 (some 254) (D (now + ren)) 63 rfl hs195 ⟨h195.at_ 9 rfl, trivial⟩ (fun W hW => exec_add _ _ _ _ rfl now ren (by kernel_rfl) (by kernel_rfl) (now + ren) rfl (by omega) (by omega) _) ?_
            refine pR_to 6 (some 18) 127 rfl hs195 (OpTo.run (D R) (eqI (D (now + ren)) (by rw [hf.2])) (R := fun v w => v = (D R) /\ w195 = w) ⟨rfl, rfl⟩) ?_
            rintro _ _ ⟨rfl, rfl⟩
            refine ⟨fun h => absurd h (by decide), ?_⟩
            refine pR_done hs195 ?_ _
            exact hJ186 htF _ _ _ (pEq 331) (h195.sel [0, 1, 2, 3, 4, 5, 6, 7, 8, 9] [] (by kernel_rfl) rfl rfl)
           ·
            have hf : fl = 4 /\ R = 0 := by
              rcases hfr with h | h
              · exact absurd h.1 b194
              · exact h.2
            obtain ⟨rfl, rfl⟩ := hf
            refine wp_skip ?_
            exact hJ186 htF _ _ _ (pEq 331) (h181.sel [0, 1, 2, 3, 4, 5, 6, 7, 8, 9] [] (by kernel_rfl) rfl rfl)
          refine pR_cut 6 17407 (fun KJ => ∀ (gT1_0 : Nat), ∀ (FT1_1 : Nat -> Prop), ∀ (sT1_2 : STab), (TS sT1_2 3 [⟨kl K48, 1, b0⟩, ⟨kl K19, 2, b1⟩, ⟨kl K48, 3, b2⟩] [(textF pw nm, 2)]) -> ∀ (xT180_1 : Nat -> Value) (aJ : Act) (wT180_1 : World), aJ = patch xT180_1 331 [(1, (pt g2 0)), (2, V), (3, (pt tb17 0)), (4, (pt kb19 0)), (5, O), (8, (D 2)), (9, (D 1)), (10, (pt g157 0)), (11, O), (12, O), (13, (pt gJ176_0 0)), (14, O), (15, (pt gT1_0 0)), (186, V), (201, V), (203, V), (235, (Value.iface 24 (pt tb17 0))), (241, (aV (vb (kl K48)).toArray)), (243, (lV B156 16 d156))] -> Hp (fun _ => False) w wT180_1 [] [rBlk gT1_0 60 ([O] ++ vb (List.replicate 16 0) ++ [O, eS, O, O, O]), rBlk gJ176_0 55 ([(D fl)] ++ vb (kl Kf) ++ [(sV nm), (D now), (D ((min till (now + life)))), (D R)]), rBlk g157 41 ([(sV nm), (sV (⟨#[107, 100, 99]⟩)), (lV A156 16 c156), (lV B156 16 d156)]), rTab FT1_1 tb17 sT1_2, rSB ((lV A156 16 c156)) (mkB 98 2), rSB ((lV B156 16 d156)) (mkB 98 3), rSB ((lV A60 16 c60)) (mkB 98 1), rBlk kb19 73 ([(Value.iface 24 (pt tb17 0)), (pt bb19 0)] ++ vb (kl K19)), rBs G49 bb19 [(User.mk nm K48 life ren true)], rBlk g2 80 ([(sV nm), (sV pw), (D life), (D ren), (sV nm), (sV pw), (D 1), (D nonce), (D till), (D time), (D now)])] -> KJ aJ wT180_1) ?_ (fun hT180_1 => ?_)
          ·
           rintro gT1_0 FT1_1 sT1_2 htF xT180_1 _ wT180_1 rfl hTh180_1
           refine pR_to 10 (some 244) 18431 rfl hs179 (x_oReply hTh180_1 3 rfl K48 3 (by kernel_rfl) ((htF.room 9 (by first | decide | simp | omega) (by first | decide | simp | omega)).ok) (hTh180_1.at_ 5 rfl) (r := (.inr (.reply fl Kf nonce ⟨#[107, 100, 99]⟩ now (min till (now + life)) R))) (htF.opn (i := 2) rfl hp2 (by decide))) ?_
           rintro _ w196 ⟨rfl, h196⟩
           refine ⟨fun _ => ⟨h196.at_ 9 rfl, h196.at_ 2 rfl, trivial⟩, ?_⟩
           refine pR_p 2 [11, 12, 13] [(246, O), (245, (aV ([(D fl)] ++ vb (kl Kf) ++ [(D nonce), (sV (⟨#[107, 100, 99]⟩)), (D now), (D ((min till (now + life)))), (D R)]).toArray)), (233, (Value.tuple #[(aV ([(D fl)] ++ vb (kl Kf) ++ [(D nonce), (sV (⟨#[107, 100, 99]⟩)), (D now), (D ((min till (now + life)))), (D R)]).toArray), O]))] 32767 hs179 ⟨h196.at_ 9 rfl, h196.at_ 2 rfl, trivial⟩ ?_
           exact hT180_2 gT1_0 FT1_1 sT1_2 htF _ _ _ (pEq 331) (h196.sel [0, 1, 2, 3, 4, 5, 6, 7, 8, 9] [] (by kernel_rfl) rfl rfl)
          refine pR_cut 7 17279 (fun KJ => ∀ (gT0_0 : Nat), (TS s156 3 [⟨kl K48, 1, b0⟩, ⟨kl K19, 2, b1⟩, ⟨kl K48, 3, b2⟩] [(textF pw nm, 2)]) -> ∀ (xT180_0 : Nat -> Value) (aJ : Act) (wT180_0 : World), aJ = patch xT180_0 331 [(1, (pt g2 0)), (2, V), (3, (pt tb17 0)), (4, (pt kb19 0)), (5, O), (8, (D 2)), (9, (D 1)), (10, (pt g157 0)), (11, O), (12, O), (13, (pt gJ176_0 0)), (14, O), (15, (pt gT0_0 0)), (186, V), (201, V), (203, V), (235, (Value.iface 24 (pt tb17 0))), (236, (pt tb17 0)), (238, (sV pw)), (240, (sV nm)), (243, (lV B156 16 d156))] -> Hp (fun _ => False) w wT180_0 [] [rBlk gT0_0 60 ([O] ++ vb (List.replicate 16 0) ++ [O, eS, O, O, O]), rBlk gJ176_0 55 ([(D fl)] ++ vb (kl Kf) ++ [(sV nm), (D now), (D ((min till (now + life)))), (D R)]), rBlk g157 41 ([(sV nm), (sV (⟨#[107, 100, 99]⟩)), (lV A156 16 c156), (lV B156 16 d156)]), rTab F156 tb17 s156, rSB ((lV A156 16 c156)) (mkB 98 2), rSB ((lV B156 16 d156)) (mkB 98 3), rSB ((lV A60 16 c60)) (mkB 98 1), rBlk kb19 73 ([(Value.iface 24 (pt tb17 0)), (pt bb19 0)] ++ vb (kl K19)), rBs G49 bb19 [(User.mk nm K48 life ren true)], rBlk g2 80 ([(sV nm), (sV pw), (D life), (D ren), (sV nm), (sV pw), (D 1), (D nonce), (D till), (D time), (D now)])] -> KJ aJ wT180_0) ?_ (fun hT180_0 => ?_)
          ·
           rintro gT0_0 htF xT180_0 _ wT180_0 rfl hTh180_0
           refine pR_to 7 (some 241) 17407 rfl hs179 (x_text hTh180_0 3 rfl pw nm (by kernel_rfl) (by omega) (by omega) (by rw [htF.keys]; decide)) ?_
           rintro _ w197 ⟨K197, F197, s197, rfl, hK197, hs197, h197⟩
           refine ⟨fun _ => ⟨h197.at_ 9 rfl, h197.at_ 2 rfl, trivial⟩, ?_⟩
           have hq197 := htF.made_old (m := 2) hs197 (by simp)
           have ht197 : TS s197 3 [⟨kl K48, 1, b0⟩, ⟨kl K19, 2, b1⟩, ⟨kl K48, 3, b2⟩] [(textF pw nm, 2)] := hq197.1
           rw [hq197.2] at hK197
           obtain rfl : K48 = K197 := kl_inj (hK48.trans hK197.symm)
           exact hT180_1 gT0_0 F197 s197 ht197 _ _ _ (pEq 331) (h197.sel [0, 1, 2, 3, 4, 5, 6, 7, 8, 9] [] (by kernel_rfl) rfl rfl)
          refine pR_or 7 14 hs179 ?_ ?_
          ·
           refine pR_op 7 (some 241) 1023 rfl (x_text h179 2 rfl pw nm (by kernel_rfl) (by omega) (by omega) (by rw [htJ.keys]; decide)) ?_
           rintro _ w198 ⟨K198, F198, s198, rfl, hK198, hs198, h198⟩
           refine ⟨fun _ => ⟨h198.at_ 8 rfl, h198.at_ 1 rfl, trivial⟩, ?_⟩
           have hq198 := htJ.made_old (m := 2) hs198 (by simp)
           have ht198 : TS s198 3 [⟨kl K48, 1, b0⟩, ⟨kl K19, 2, b1⟩, ⟨kl K48, 3, b2⟩] [(textF pw nm, 2)] := hq198.1
           rw [hq198.2] at hK198
           obtain rfl : K48 = K198 := kl_inj (hK48.trans hK198.symm)
           refine pR_or 10 14 hs179 ?_ ?_
           ·
            refine pR_op 10 (some 244) 2047 rfl (x_oReply h198 2 rfl K48 3 (by kernel_rfl) ((ht198.room 9 (by first | decide | simp | omega) (by first | decide | simp | omega)).ok) (h198.at_ 4 rfl) (r := (.inr (.reply fl Kf nonce ⟨#[107, 100, 99]⟩ now (min till (now + life)) R))) (ht198.opn (i := 2) rfl hp2 (by decide))) ?_
            rintro _ w199 ⟨rfl, h199⟩
            refine ⟨fun _ => ⟨h199.at_ 8 rfl, h199.at_ 1 rfl, trivial⟩, ?_⟩
            refine pR_p 3 [11, 12, 13] [(246, O), (245, (aV ([(D fl)] ++ vb (kl Kf) ++ [(D nonce), (sV (⟨#[107, 100, 99]⟩)), (D now), (D ((min till (now + life)))), (D R)]).toArray)), (233, (Value.tuple #[(aV ([(D fl)] ++ vb (kl Kf) ++ [(D nonce), (sV (⟨#[107, 100, 99]⟩)), (D now), (D ((min till (now + life)))), (D R)]).toArray), O]))] 16383 hs179 ⟨h199.at_ 8 rfl, h199.at_ 1 rfl, trivial⟩ ?_
            refine pR_to 14 (some 15) 32767 rfl hs179 (xN h199 60 ([O] ++ vb (List.replicate 16 0) ++ [O, eS, O, O, O])) ?_
            rintro _ w200 ⟨g200, rfl, h200⟩
            refine ⟨fun _ => ⟨h200.at_ 9 rfl, h200.at_ 2 rfl, trivial⟩, ?_⟩
            exact hT180_2 g200 F198 s198 ht198 _ _ _ (pEq 331) (h200.sel [0, 1, 2, 3, 4, 5, 6, 7, 8, 9] [] (by kernel_rfl) rfl rfl)
           ·
            refine pR_op 14 (some 15) 17407 rfl (xN h198 60 ([O] ++ vb (List.replicate 16 0) ++ [O, eS, O, O, O])) ?_
            rintro _ w201 ⟨g201, rfl, h201⟩
            refine ⟨fun _ => ⟨h201.at_ 9 rfl, h201.at_ 2 rfl, trivial⟩, ?_⟩
            exact hT180_1 g201 F198 s198 ht198 _ _ _ (pEq 331) (h201.sel [0, 1, 2, 3, 4, 5, 6, 7, 8, 9] [] (by kernel_rfl) rfl rfl)
          ·
           refine pR_op 14 (some 15) 17279 rfl (xN h179 60 ([O] ++ vb (List.replicate 16 0) ++ [O, eS, O, O, O])) ?_
           rintro _ w202 ⟨g202, rfl, h202⟩
           refine ⟨fun _ => ⟨h202.at_ 9 rfl, h202.at_ 2 rfl, trivial⟩, ?_⟩
           exact hT180_0 g202 htJ _ _ _ (pEq 331) (h202.sel [0, 1, 2, 3, 4, 5, 6, 7, 8, 9] [] (by kernel_rfl) rfl rfl)
        refine pR_go h166 15 (fun W => (rBlk kb19 73 ([(Value.iface 24 (pt tb17 0)), (pt bb19 0)] ++ vb (kl K19))).Φ W /\ (rBlk g157 41 ([(sV nm), (sV (⟨#[107, 100, 99]⟩)), (lV A156 16 c156), (lV B156 16 d156)])).Φ W /\ True) [(222, [3], 0), (223, [221], 1), (224, [4], 0), (225, [223], 4), (226, [224], 8), (227, [225], 16), (228, [10], 0), (229, [227], 64), (230, [228], 128), (231, [222, 226, 229], 290), (221, [230], 512), (232, [220], 1024), (233, [220], 1024), (14, [], 0), (0, [13, 231], 12287), (15, [232], 32767)] rfl (fun _ d _ _ _ h => by cases d <;> exact h) ?_
        intro hs203 w203 h203
        refine pR_p 9 [0, 1, 2, 3, 4, 6, 7] [(228, (pt g157 2)), (227, (pt g157 1)), (225, (pt kb19 2)), (224, (pt kb19 0)), (223, (pt kb19 0)), (222, (Value.iface 24 (pt tb17 0))), (221, (pt tb17 0))] 223 hs203 ⟨h203.at_ 5 rfl, h203.at_ 0 rfl, trivial⟩ ?_
        refine pR_v 5 (some 226) (aV (vb (kl K19)).toArray) 255 rfl hs203 ⟨h203.at_ 5 rfl, h203.at_ 0 rfl, trivial⟩ (fun W hW => eLs hW.1 32 (.tmp 225) 2 (vb (kl K19))) ?_
        refine pR_v 8 (some 229) (lV A156 16 c156) 511 rfl hs203 ⟨h203.at_ 5 rfl, h203.at_ 0 rfl, trivial⟩ (fun W hW => eL hW.2.1 22 (.tmp 228) 2 _) ?_
        refine pR_or 9 13 hs203 ?_ ?_
        ·
         refine pR_op 9 (some 230) 1023 rfl (x_oInside h203 1 rfl K19 2 (by kernel_rfl) ((ht156.room 9 (by first | decide | simp | omega) (by first | decide | simp | omega)).ok) (h203.at_ 2 rfl) (r := (.inr (.inside fl Kf nm now (min till (now + life)) R))) (ht156.opn (i := 1) rfl hp1 (by decide))) ?_
         rintro _ w204 ⟨rfl, h204⟩
         refine ⟨fun _ => ⟨h204.at_ 5 rfl, h204.at_ 0 rfl, trivial⟩, ?_⟩
         refine pR_p 3 [10, 11, 12] [(232, O), (231, (aV ([(D fl)] ++ vb (kl Kf) ++ [(sV nm), (D now), (D ((min till (now + life)))), (D R)]).toArray)), (220, (Value.tuple #[(aV ([(D fl)] ++ vb (kl Kf) ++ [(sV nm), (D now), (D ((min till (now + life)))), (D R)]).toArray), O]))] 8191 hs203 ⟨h204.at_ 5 rfl, h204.at_ 0 rfl, trivial⟩ ?_
         refine pR_to 13 (some 13) 16383 rfl hs203 (xN h204 55 ([O] ++ vb (List.replicate 16 0) ++ [eS, O, O, O])) ?_
         rintro _ w205 ⟨g205, rfl, h205⟩
         refine ⟨fun _ => ⟨h205.at_ 6 rfl, h205.at_ 1 rfl, trivial⟩, ?_⟩
         refine pR_to 14 none 32767 rfl hs203 (xSs h205 0 55 (.tmp 13) (.tmp 231) 0 ([(D fl)] ++ vb (kl Kf) ++ [(sV nm), (D now), (D ((min till (now + life)))), (D R)]) ([(D fl)] ++ vb (kl Kf) ++ [(sV nm), (D now), (D ((min till (now + life)))), (D R)])) ?_
         rintro _ w206 h206
         refine ⟨fun _ => ⟨h206.at_ 6 rfl, h206.at_ 1 rfl, trivial⟩, ?_⟩
         refine pR_to 15 (some 14) 65535 rfl hs203 (OpTo.run O (pureOp_run (by kernel_rfl) _) (R := fun v w => v = O /\ w206 = w) ⟨rfl, rfl⟩) ?_
         rintro _ _ ⟨rfl, rfl⟩
         refine ⟨fun h => absurd h (by decide), ?_⟩
         refine pR_done hs203 ?_ _
         exact hJ177 g205 ht156 _ _ _ (pEq 331) (h206.sel [0, 1, 2, 3, 4, 5, 6, 7, 8] [] (by kernel_rfl) rfl rfl)
        ·
         refine pR_op 13 (some 13) 8703 rfl (xN h203 55 ([O] ++ vb (List.replicate 16 0) ++ [eS, O, O, O])) ?_
         rintro _ w207 ⟨g207, rfl, h207⟩
         refine ⟨fun _ => ⟨h207.at_ 6 rfl, h207.at_ 1 rfl, trivial⟩, ?_⟩
         refine pR_to 9 (some 230) 9215 rfl hs203 (x_oInside h207 2 rfl K19 2 (by kernel_rfl) ((ht156.room 9 (by first | decide | simp | omega) (by first | decide | simp | omega)).ok) (h207.at_ 3 rfl) (r := (.inr (.inside fl Kf nm now (min till (now + life)) R))) (ht156.opn (i := 1) rfl hp1 (by decide))) ?_
         rintro _ w208 ⟨rfl, h208⟩
         refine ⟨fun _ => ⟨h208.at_ 6 rfl, h208.at_ 1 rfl, trivial⟩, ?_⟩
         refine pR_p 2 [10, 11, 12] [(232, O), (231, (aV ([(D fl)] ++ vb (kl Kf) ++ [(sV nm), (D now), (D ((min till (now + life)))), (D R)]).toArray)), (220, (Value.tuple #[(aV ([(D fl)] ++ vb (kl Kf) ++ [(sV nm), (D now), (D ((min till (now + life)))), (D R)]).toArray), O]))] 16383 hs203 ⟨h208.at_ 6 rfl, h208.at_ 1 rfl, trivial⟩ ?_
         refine pR_to 14 none 32767 rfl hs203 (xSs h208 0 55 (.tmp 13) (.tmp 231) 0 ([(D fl)] ++ vb (kl Kf) ++ [(sV nm), (D now), (D ((min till (now + life)))), (D R)]) ([(D fl)] ++ vb (kl Kf) ++ [(sV nm), (D now), (D ((min till (now + life)))), (D R)])) ?_
         rintro _ w209 h209
         refine ⟨fun _ => ⟨h209.at_ 6 rfl, h209.at_ 1 rfl, trivial⟩, ?_⟩
         refine pR_to 15 (some 14) 65535 rfl hs203 (OpTo.run O (pureOp_run (by kernel_rfl) _) (R := fun v w => v = O /\ w209 = w) ⟨rfl, rfl⟩) ?_
         rintro _ _ ⟨rfl, rfl⟩
         refine ⟨fun h => absurd h (by decide), ?_⟩
         refine pR_done hs203 ?_ _
         exact hJ177 g207 ht156 _ _ _ (pEq 331) (h209.sel [0, 1, 2, 3, 4, 5, 6, 7, 8] [] (by kernel_rfl) rfl rfl)
    ·
     refine wp_reset 331 [(1, (pt g2 0)), (2, V), (3, (pt tb17 0)), (4, (pt kb19 0)), (5, O)] (fun x210 => ?_)
     subst hk
     refine pR_go h52 19 (fun W => (rBlk g2 80 ([(sV nm), (sV pw), (D life), (D ren), (sV ask), (sV pw), (D us), (D nonce), (D till), (D time), (D now)])).Φ W /\ True) [(115, [3], 0), (116, [114], 1), (117, [3], 0), (118, [1], 0), (119, [117], 8), (120, [1], 0), (121, [119], 32), (122, [116, 118, 120], 84), (123, [1], 0), (124, [122], 256), (125, [1], 0), (126, [124], 1024), (127, [125], 2048), (128, [126], 4096), (129, [115, 121, 123, 127], 8834), (114, [128], 16384), (130, [113], 32768), (131, [113], 32768), (7, [129], 131071), (8, [130], 524287)] rfl (fun _ d _ _ _ h => by cases d <;> exact h) ?_
     intro hs211 w211 h211
     refine pR_p 13 [0, 1, 2, 3, 5, 8, 10] [(124, (pt g2 9)), (122, (pt g2 6)), (119, (pt g2 0)), (117, (pt g2 5)), (116, (pt tb17 0)), (115, (Value.iface 24 (pt tb17 0))), (114, (pt tb17 0))] 1327 hs211 ⟨h211.at_ 3 rfl, trivial⟩ ?_
     refine pR_v 4 (some 118) (sV pw) 1343 rfl hs211 ⟨h211.at_ 3 rfl, trivial⟩ (fun W hW => eL hW.1 9 (.tmp 117) 5 _) ?_
     refine pR_v 6 (some 120) (sV nm) 1407 rfl hs211 ⟨h211.at_ 3 rfl, trivial⟩ (fun W hW => eL hW.1 9 (.tmp 119) 0 _) ?_
     refine pR_v 9 (some 123) (D us) 1919 rfl hs211 ⟨h211.at_ 3 rfl, trivial⟩ (fun W hW => eL hW.1 3 (.tmp 122) 6 _) ?_
     refine pR_v 11 (some 125) (D time) 3967 rfl hs211 ⟨h211.at_ 3 rfl, trivial⟩ (fun W hW => eL hW.1 2 (.tmp 124) 9 _) ?_
     refine pR_p 7 [12, 13] [(127, (Value.iface 49 (aV ([(D time), O]).toArray))), (126, (aV ([(D time), O]).toArray))] 16255 hs211 ⟨h211.at_ 3 rfl, trivial⟩ ?_
     refine pR_to 7 (some 121) 16383 rfl hs211 (x_text h211 2 rfl pw nm (by kernel_rfl) (by omega) (by omega) (by rw [ht49.keys]; decide)) ?_
     rintro _ w212 ⟨K212, F212, s212, rfl, hK212, hs212, h212⟩
     refine ⟨fun _ => ⟨h212.at_ 3 rfl, trivial⟩, ?_⟩
     have hq212 := ht49.made_old (m := 2) hs212 (by simp)
     have ht212 : TS s212 2 [] [(textF pw nm, 2)] := hq212.1
     rw [hq212.2] at hK212
     obtain rfl : K48 = K212 := kl_inj (hK48.trans hK212.symm)
     refine pR_to 14 (some 128) 32767 rfl hs211 (x_tsealN (tb := tb17) h212 K48 us hp0 (by kernel_rfl) (rTh_stamp _ time 0) True.intro) ?_
     rintro _ w213 ⟨rfl, h213⟩
     refine ⟨fun _ => ⟨h213.at_ 3 rfl, trivial⟩, ?_⟩
     refine pR_p 1 [15, 16, 17, 18] [(6, nS), (130, (D ((c0 : Int)))), (129, nS), (113, (Value.tuple #[nS, (D ((c0 : Int)))]))] 524287 hs211 ⟨h213.at_ 3 rfl, trivial⟩ ?_
     refine pR_to 19 (some 7) 1048575 rfl hs211 (OpTo.run (D ((c0 : Int))) (pureOp_run (by kernel_rfl) _) (R := fun v w => v = (D ((c0 : Int))) /\ w213 = w) ⟨rfl, rfl⟩) ?_
     rintro _ _ ⟨rfl, rfl⟩
     refine ⟨fun h => absurd h (by decide), ?_⟩
     refine pR_done hs211 ?_ _
     refine seq_n hK55 (wp_seq_k fun K214 hK214 => wR fun K215 hK215 => ?_)
     refine wq_p 1 [(131, (D ((c0 : Int))))] (wV 132 (.bool true) (eqI (bV (((c0 : Int)) != 0)) (ine (b := 0) (pack_er hp0))) ?_)
     refine wE hK215 (cT (reg_lit ?_))
     refine wq_p 1 [(6, nS)] ?_
     refine wE hK214 (wR fun K216 hK216 => ?_)
     refine wq_p 1 [(133, (pt tb17 0))] ?_
     refine wT 134 (x_lenE (x_nkeys h213 2 rfl (by kernel_rfl)) (2 : Int) (by rw [ht212.keys]; rfl)) ?_
     rintro _ w217 ⟨rfl, h217⟩
     refine wq_p 1 [(135, (pt tb17 0))] ?_
     refine wT 136 (x_lenE (x_nboxesK h217 2 rfl (by kernel_rfl)) (0 : Int) (by rw [ht212.boxes]; rfl)) ?_
     rintro _ w218 ⟨rfl, h218⟩
     refine wq_p 2 [(9, O), (8, (D 2))] ?_
     refine wE hK216 (wp_seq_k fun K219 hK219 => ?_)
     obtain ha | ha : ask ≠ nm ∨ nm = ask := (Classical.em (nm = ask)).elim .inr (fun h => .inl (Ne.symm h))
     ·
      refine reg_lit ?_
      refine wq_p 2 [(139, (pt g2 10)), (138, (pt kb19 0))] (wV 140 (D now) (eL (h218.at_ 3 rfl) 2 (.tmp 139) 10 _) (wq_p 1 [(141, (pt g2 4))] (wV 142 (sV ask) (eL (h218.at_ 3 rfl) 9 (.tmp 141) 4 _) ?_)))
      refine wq_p 1 [(143, (pt g2 7))] (wV 144 (D nonce) (eL (h218.at_ 3 rfl) 2 (.tmp 143) 7 _) (wq_p 1 [(145, (pt g2 8))] (wV 146 (D till) (eL (h218.at_ 3 rfl) 2 (.tmp 145) 8 _) ?_)))
      refine wq_p 2 [(148, (aV ([(sV ask), (D nonce), (D till), nS]).toArray)), (147, nS)] ?_
      refine wT 149 (x_asN (s2 := s212) (v := .tuple #[(aV ([eS, eS, nS, nS]).toArray), .int .i64 9]) h218 2 rfl [(pt kb19 0), (D now), (aV ([(sV ask), (D nonce), (D till), nS]).toArray)] (by kernel_rfl) (as_none (pre := []) (h218.at_ 2 rfl) (h218.at_ 1 rfl) (h218.dis 2 1 _ _ rfl rfl (by decide)) (h218.at_ 0 rfl) (fun hq => h218.dis 2 0 _ _ rfl rfl (by decide) _ hq rfl) (SB.nil _ 0 (by unfold maxLen; omega) none) (fun q hq => absurd rfl hq.1) (by simp) (place_other ha.symm))) ?_
      rintro _ w221 ⟨F221, s221, rfl, hs221, h221⟩
      have ht221 : TS s221 2 [] [(textF pw nm, 2)] := hs221 ▸ ht212
      refine wq_p 3 [(151, (D 9)), (150, (aV ([eS, eS, nS, nS]).toArray)), (137, (Value.tuple #[(aV ([eS, eS, nS, nS]).toArray), (D 9)]))] ?_
      refine wT 10 (xN h221 41 ([eS, eS, nS, nS])) ?_
      rintro _ w222 ⟨g222, rfl, h222⟩
      refine wq_to none (xSs h222 0 41 (.tmp 10) (.tmp 150) 0 ([eS, eS, nS, nS]) ([eS, eS, nS, nS])) ?_
      rintro _ w223 h223
      refine wq_p 1 [(11, (D 9))] ?_
      refine wE hK219 (wp_seq_k fun K224 hK224 => ?_)
      refine wp_reset 331 [(1, (pt g2 0)), (2, V), (3, (pt tb17 0)), (4, (pt kb19 0)), (5, O), (7, (D ((c0 : Int)))), (8, (D 2)), (9, O), (10, (pt g222 0)), (11, (D 9))] (fun x225 => ?_)
      refine reg_lit ?_
      refine wq_p 1 [(12, O)] ?_
      refine wE hK224 (wp_seq_k fun K226 hK226 => wp_block (wR fun K227 hK227 => ?_))
      refine wq_p 1 [(153, (pt g2 4))] (wV 154 (sV ask) (eL (h223.at_ 4 rfl) 9 (.tmp 153) 4 _) (wq_p 1 [(155, (pt g2 0))] (wV 156 (sV nm) (eL (h223.at_ 4 rfl) 9 (.tmp 155) 0 _) ?_)))
      refine wV 157 I (eqI (bV (!((ask).toList == (nm).toList))) (str_neT ha)) (wq_p 1 [(152, I)] ?_)
      refine wE hK227 (cT (reg_lit ?_))
      refine wq_p 1 [(12, (D 9))] ?_
      refine wl_end rfl (blk_n (seq_n hK226 (wp_seq_k fun K228 hK228 => wR fun K229 hK229 => ?_)))
      refine wq_p 5 [(199, (D 9)), (198, (D 9)), (197, V), (196, V), (195, O)] (wV 200 V (pureOp_run (by kernel_rfl) _) (wq_p 1 [(201, V)] ?_))
      refine wE hK229 (cF (wp_skip (seq_n hK228 (wp_seq_k fun K230 hK230 => wR fun K231 hK231 => ?_))))
      refine wq_p 1 [(202, (D 9))] (wV 203 I (pureOp_run (by kernel_rfl) _) ?_)
      refine wE hK231 (cT (wR fun K232 hK232 => ?_))
      refine wq_p 1 [(204, (pt g222 0))] (wV 205 eS (eL (h223.at_ 0 rfl) 9 (.tmp 204) 0 _) (wV 206 I (eqI (bV ((ByteArray.empty).toList == (⟨#[]⟩ : ByteArray).toList)) empty_eq) (wq_p 2 [(208, (pt g222 3)), (207, I)] ?_)))
      refine wV 209 nS (eL (h223.at_ 0 rfl) 22 (.tmp 208) 3 _) (wq_p 6 [(215, (pt g222 2)), (214, (pt g222 1)), (213, I), (212, I), (211, I), (210, O)] (wV 216 nS (eL (h223.at_ 0 rfl) 22 (.tmp 215) 2 _) (wq_p 4 [(2, I), (219, I), (218, I), (217, O)] ?_)))
      refine wE hK232 (wp_ret (seq_r ?_))
      refine post_1 rfl (by kernel_rfl) (rtm I) ?_
      exact ⟨rfl, h223.below0⟩
     ·
      subst ha
      refine reg_lit ?_
      refine wq_p 2 [(139, (pt g2 10)), (138, (pt kb19 0))] (wV 140 (D now) (eL (h218.at_ 3 rfl) 2 (.tmp 139) 10 _) (wq_p 1 [(141, (pt g2 4))] (wV 142 (sV nm) (eL (h218.at_ 3 rfl) 9 (.tmp 141) 4 _) ?_)))
      refine wq_p 1 [(143, (pt g2 7))] (wV 144 (D nonce) (eL (h218.at_ 3 rfl) 2 (.tmp 143) 7 _) (wq_p 1 [(145, (pt g2 8))] (wV 146 (D till) (eL (h218.at_ 3 rfl) 2 (.tmp 145) 8 _) ?_)))
      refine wq_p 2 [(148, (aV ([(sV nm), (D nonce), (D till), nS]).toArray)), (147, nS)] ?_
      refine wT 149 (x_asN (s2 := s212) (v := .tuple #[(aV ([eS, eS, nS, nS]).toArray), .int .i64 22]) h218 2 rfl [(pt kb19 0), (D now), (aV ([(sV nm), (D nonce), (D till), nS]).toArray)] (by kernel_rfl) (as_auth (pre := []) (h218.at_ 2 rfl) (h218.at_ 1 rfl) (h218.dis 2 1 _ _ rfl rfl (by decide)) (ht212.room 9 (by first | decide | simp | omega) (by first | decide | simp | omega)) (h218.at_ 0 rfl) (fun hq => h218.dis 2 0 _ _ rfl rfl (by decide) _ hq rfl) (SB.nil _ 0 (by unfold maxLen; omega) none) (fun q hq => absurd rfl hq.1) (by simp) (u := (User.mk nm K48 life ren true)) (place_self rfl).1 (place_self rfl).2 (cc := 13) (by decide) (by rw [openTh_nomark _ _ _ (markOf_short (by decide))]; rfl))) ?_
      rintro _ w233 ⟨F233, s233, rfl, hs233, h233⟩
      have ht233 : TS s233 2 [] [(textF pw nm, 2)] := hs233 ▸ ht212
      refine wq_p 3 [(151, (D 22)), (150, (aV ([eS, eS, nS, nS]).toArray)), (137, (Value.tuple #[(aV ([eS, eS, nS, nS]).toArray), (D 22)]))] ?_
      refine wT 10 (xN h233 41 ([eS, eS, nS, nS])) ?_
      rintro _ w234 ⟨g234, rfl, h234⟩
      refine wq_to none (xSs h234 0 41 (.tmp 10) (.tmp 150) 0 ([eS, eS, nS, nS]) ([eS, eS, nS, nS])) ?_
      rintro _ w235 h235
      refine wq_p 1 [(11, (D 22))] ?_
      refine wE hK219 (wp_seq_k fun K236 hK236 => ?_)
      refine wp_reset 331 [(1, (pt g2 0)), (2, V), (3, (pt tb17 0)), (4, (pt kb19 0)), (5, O), (7, (D ((c0 : Int)))), (8, (D 2)), (9, O), (10, (pt g234 0)), (11, (D 22))] (fun x237 => ?_)
      refine reg_lit ?_
      refine wq_p 1 [(12, O)] ?_
      refine wE hK236 (wp_seq_k fun K238 hK238 => wp_block (wR fun K239 hK239 => ?_))
      refine wq_p 1 [(153, (pt g2 4))] (wV 154 (sV nm) (eL (h235.at_ 4 rfl) 9 (.tmp 153) 4 _) (wq_p 1 [(155, (pt g2 0))] (wV 156 (sV nm) (eL (h235.at_ 4 rfl) 9 (.tmp 155) 0 _) ?_)))
      refine wV 157 V (eqI (bV (!((nm).toList == (nm).toList))) (by simp)) (wq_p 1 [(152, V)] ?_)
      refine wE hK239 (cF (wp_seq_k fun K240 hK240 => ?_))
      rcases Classical.em (us = 1) with hu1 | hu1
      ·
       subst hu1
       refine reg_lit ?_
       refine wq_p 1 [(159, (pt g2 5))] (wV 160 (sV pw) (eL (h235.at_ 4 rfl) 9 (.tmp 159) 5 _) (wq_p 1 [(161, (pt g2 1))] (wV 162 (sV pw) (eL (h235.at_ 4 rfl) 9 (.tmp 161) 1 _) ?_)))
       refine wV 163 V (eqI (bV (!((pw).toList == (pw).toList))) (by simp)) (wq_p 2 [(165, (pt g2 6)), (164, V)] (wV 166 (D 1) (eL (h235.at_ 4 rfl) 3 (.tmp 165) 6 _) (wV 167 V (pureOp_run (by kernel_rfl) _) ?_)))
       refine wq_p 3 [(170, (D ((c0 : Int)))), (169, V), (168, V)] (wV 171 (.bool true) (eqI (bV (((c0 : Int)) != 0)) (ine (b := 0) (pack_er hp0))) (wq_p 2 [(158, I), (172, I)] ?_))
       refine wE hK240 (cT (reg_lit ?_))
       refine wq_p 1 [(12, (D 22))] ?_
       refine wl_end rfl (blk_n (seq_n hK238 (wp_seq_k fun K242 hK242 => wR fun K243 hK243 => ?_)))
       refine wq_p 5 [(199, (D 22)), (198, (D 22)), (197, V), (196, V), (195, O)] (wV 200 V (pureOp_run (by kernel_rfl) _) (wq_p 1 [(201, V)] ?_))
       refine wE hK243 (cF (wp_skip (seq_n hK242 (wp_seq_k fun K244 hK244 => wp_seq_k fun K245 hK245 => ?_))))
       refine wp_reset 331 [(1, (pt g2 0)), (2, V), (3, (pt tb17 0)), (4, (pt kb19 0)), (8, (D 2)), (9, O), (10, (pt g234 0)), (11, (D 22))] (fun x246 => ?_)
       refine reg_lit ?_
       refine wq_p 1 [(202, (D 22))] (wV 203 I (pureOp_run (by kernel_rfl) _) ?_)
       refine wE hK245 (cT (wR fun K247 hK247 => ?_))
       refine wq_p 1 [(204, (pt g234 0))] (wV 205 eS (eL (h235.at_ 0 rfl) 9 (.tmp 204) 0 _) (wV 206 I (eqI (bV ((ByteArray.empty).toList == (⟨#[]⟩ : ByteArray).toList)) empty_eq) (wq_p 2 [(208, (pt g234 3)), (207, I)] ?_)))
       refine wV 209 nS (eL (h235.at_ 0 rfl) 22 (.tmp 208) 3 _) (wq_p 6 [(215, (pt g234 2)), (214, (pt g234 1)), (213, I), (212, I), (211, I), (210, O)] (wV 216 nS (eL (h235.at_ 0 rfl) 22 (.tmp 215) 2 _) (wq_p 4 [(2, I), (219, I), (218, I), (217, O)] ?_)))
       refine wE hK247 (wp_ret (seq_r ?_))
       refine post_1 rfl (by kernel_rfl) (rtm I) ?_
       exact ⟨rfl, h235.below0⟩
      ·
       refine reg_lit ?_
       refine wq_p 1 [(159, (pt g2 5))] (wV 160 (sV pw) (eL (h235.at_ 4 rfl) 9 (.tmp 159) 5 _) (wq_p 1 [(161, (pt g2 1))] (wV 162 (sV pw) (eL (h235.at_ 4 rfl) 9 (.tmp 161) 1 _) ?_)))
       refine wV 163 V (eqI (bV (!((pw).toList == (pw).toList))) (by simp)) (wq_p 2 [(165, (pt g2 6)), (164, V)] (wV 166 (D us) (eL (h235.at_ 4 rfl) 3 (.tmp 165) 6 _) (wV 167 I (eqI (bV (us != 1)) (congrArg bV (by rw [bne_iff_ne]; exact hu1))) ?_)))
       refine wq_p 3 [(170, undef), (169, I), (168, I)] (wq_p 1 [(171, undef)] (wq_p 2 [(158, I), (172, I)] ?_))
       refine wE hK240 (cT (reg_lit ?_))
       refine wq_p 1 [(12, (D 22))] ?_
       refine wl_end rfl (blk_n (seq_n hK238 (wp_seq_k fun K248 hK248 => wR fun K249 hK249 => ?_)))
       refine wq_p 5 [(199, (D 22)), (198, (D 22)), (197, V), (196, V), (195, O)] (wV 200 V (pureOp_run (by kernel_rfl) _) (wq_p 1 [(201, V)] ?_))
       refine wE hK249 (cF (wp_skip (seq_n hK248 (wp_seq_k fun K250 hK250 => wp_seq_k fun K251 hK251 => ?_))))
       refine wp_reset 331 [(1, (pt g2 0)), (2, V), (3, (pt tb17 0)), (4, (pt kb19 0)), (8, (D 2)), (9, O), (10, (pt g234 0)), (11, (D 22))] (fun x252 => ?_)
       refine reg_lit ?_
       refine wq_p 1 [(202, (D 22))] (wV 203 I (pureOp_run (by kernel_rfl) _) ?_)
       refine wE hK251 (cT (wR fun K253 hK253 => ?_))
       refine wq_p 1 [(204, (pt g234 0))] (wV 205 eS (eL (h235.at_ 0 rfl) 9 (.tmp 204) 0 _) (wV 206 I (eqI (bV ((ByteArray.empty).toList == (⟨#[]⟩ : ByteArray).toList)) empty_eq) (wq_p 2 [(208, (pt g234 3)), (207, I)] ?_)))
       refine wV 209 nS (eL (h235.at_ 0 rfl) 22 (.tmp 208) 3 _) (wq_p 6 [(215, (pt g234 2)), (214, (pt g234 1)), (213, I), (212, I), (211, I), (210, O)] (wV 216 nS (eL (h235.at_ 0 rfl) 22 (.tmp 215) 2 _) (wq_p 4 [(2, I), (219, I), (218, I), (217, O)] ?_)))
       refine wE hK253 (wp_ret (seq_r ?_))
       refine post_1 rfl (by kernel_rfl) (rtm I) ?_
       exact ⟨rfl, h235.below0⟩
    ·
     refine wp_reset 331 [(1, (pt g2 0)), (2, V), (3, (pt tb17 0)), (4, (pt kb19 0)), (5, O)] (fun x254 => ?_)
     refine pR_go h52 19 (fun W => (rBlk g2 80 ([(sV nm), (sV pw), (D life), (D ren), (sV ask), (sV kn), (D us), (D nonce), (D till), (D time), (D now)])).Φ W /\ True) [(115, [3], 0), (116, [114], 1), (117, [3], 0), (118, [1], 0), (119, [117], 8), (120, [1], 0), (121, [119], 32), (122, [116, 118, 120], 84), (123, [1], 0), (124, [122], 256), (125, [1], 0), (126, [124], 1024), (127, [125], 2048), (128, [126], 4096), (129, [115, 121, 123, 127], 8834), (114, [128], 16384), (130, [113], 32768), (131, [113], 32768), (7, [129], 131071), (8, [130], 524287)] rfl (fun _ d _ _ _ h => by cases d <;> exact h) ?_
     intro hs255 w255 h255
     refine pR_p 13 [0, 1, 2, 3, 5, 8, 10] [(124, (pt g2 9)), (122, (pt g2 6)), (119, (pt g2 0)), (117, (pt g2 5)), (116, (pt tb17 0)), (115, (Value.iface 24 (pt tb17 0))), (114, (pt tb17 0))] 1327 hs255 ⟨h255.at_ 3 rfl, trivial⟩ ?_
     refine pR_v 4 (some 118) (sV kn) 1343 rfl hs255 ⟨h255.at_ 3 rfl, trivial⟩ (fun W hW => eL hW.1 9 (.tmp 117) 5 _) ?_
     refine pR_v 6 (some 120) (sV nm) 1407 rfl hs255 ⟨h255.at_ 3 rfl, trivial⟩ (fun W hW => eL hW.1 9 (.tmp 119) 0 _) ?_
     refine pR_v 9 (some 123) (D us) 1919 rfl hs255 ⟨h255.at_ 3 rfl, trivial⟩ (fun W hW => eL hW.1 3 (.tmp 122) 6 _) ?_
     refine pR_v 11 (some 125) (D time) 3967 rfl hs255 ⟨h255.at_ 3 rfl, trivial⟩ (fun W hW => eL hW.1 2 (.tmp 124) 9 _) ?_
     refine pR_p 7 [12, 13] [(127, (Value.iface 49 (aV ([(D time), O]).toArray))), (126, (aV ([(D time), O]).toArray))] 16255 hs255 ⟨h255.at_ 3 rfl, trivial⟩ ?_
     refine pR_to 7 (some 121) 16383 rfl hs255 (x_text h255 2 rfl kn nm (by kernel_rfl) (by omega) (by omega) (by rw [ht49.keys]; decide)) ?_
     rintro _ w256 ⟨K256, F256, s256, rfl, hK256, hs256, h256⟩
     refine ⟨fun _ => ⟨h256.at_ 3 rfl, trivial⟩, ?_⟩
     have hq256 := ht49.made_new hs256 (other_text hk (by omega) (by omega))
     have ht256 : TS s256 3 [] [(textF pw nm, 2), (textF kn nm, 3)] := hq256.1
     rw [hq256.2] at hK256
     refine pR_to 14 (some 128) 32767 rfl hs255 (x_tseal h256 2 rfl K256 us hp0 (by kernel_rfl) ((ht256.room 9 (by first | decide | simp | omega) (by first | decide | simp | omega)).ok) (rTh_stamp _ time 0) (fun _ hf => hf.elim) True.intro) ?_
     rintro _ w257 ⟨A257, c257, F257, s257, rfl, hs257, h257⟩
     refine ⟨fun _ => ⟨h257.at_ 4 rfl, trivial⟩, ?_⟩
     have hbn257 : s256.boxes.length + 1 = 1 := by rw [ht256.boxes]; rfl
     rw [hbn257] at h257
     have ht257 : TS s257 3 [⟨kl K256, us, b0⟩] [(textF pw nm, 2), (textF kn nm, 3)] := ht256.seal hs257 (pack_le6 hp0)
     refine pR_p 1 [15, 16, 17, 18] [(6, (lV A257 16 c257)), (130, O), (129, (lV A257 16 c257)), (113, (Value.tuple #[(lV A257 16 c257), O]))] 524287 hs255 ⟨h257.at_ 4 rfl, trivial⟩ ?_
     refine pR_to 19 (some 7) 1048575 rfl hs255 (OpTo.run O (pureOp_run (by kernel_rfl) _) (R := fun v w => v = O /\ w257 = w) ⟨rfl, rfl⟩) ?_
     rintro _ _ ⟨rfl, rfl⟩
     refine ⟨fun h => absurd h (by decide), ?_⟩
     refine pR_done hs255 ?_ _
     refine seq_n hK55 (wp_seq_k fun K258 hK258 => wR fun K259 hK259 => ?_)
     refine wq_p 1 [(131, O)] (wq_p 1 [(132, V)] ?_)
     refine wE hK259 (cF (wp_skip (seq_n hK258 (wR fun K260 hK260 => ?_))))
     refine wq_p 1 [(133, (pt tb17 0))] ?_
     refine wT 134 (x_lenE (x_nkeys h257 0 rfl (by kernel_rfl)) (3 : Int) (by rw [ht257.keys]; rfl)) ?_
     rintro _ w261 ⟨rfl, h261⟩
     refine wq_p 1 [(135, (pt tb17 0))] ?_
     refine wT 136 (x_lenE (x_nboxesK h261 0 rfl (by kernel_rfl)) (1 : Int) (by rw [ht257.boxes]; rfl)) ?_
     rintro _ w262 ⟨rfl, h262⟩
     refine wq_p 2 [(9, (D 1)), (8, (D 3))] ?_
     refine wE hK260 (wp_seq_k fun K263 hK263 => ?_)
     obtain ha | ha : ask ≠ nm ∨ nm = ask := (Classical.em (nm = ask)).elim .inr (fun h => .inl (Ne.symm h))
     ·
      refine reg_lit ?_
      refine wq_p 2 [(139, (pt g2 10)), (138, (pt kb19 0))] (wV 140 (D now) (eL (h262.at_ 4 rfl) 2 (.tmp 139) 10 _) (wq_p 1 [(141, (pt g2 4))] (wV 142 (sV ask) (eL (h262.at_ 4 rfl) 9 (.tmp 141) 4 _) ?_)))
      refine wq_p 1 [(143, (pt g2 7))] (wV 144 (D nonce) (eL (h262.at_ 4 rfl) 2 (.tmp 143) 7 _) (wq_p 1 [(145, (pt g2 8))] (wV 146 (D till) (eL (h262.at_ 4 rfl) 2 (.tmp 145) 8 _) ?_)))
      refine wq_p 2 [(148, (aV ([(sV ask), (D nonce), (D till), (lV A257 16 c257)]).toArray)), (147, (lV A257 16 c257))] ?_
      refine wT 149 (x_asN (s2 := s257) (v := .tuple #[(aV ([eS, eS, nS, nS]).toArray), .int .i64 9]) h262 0 rfl [(pt kb19 0), (D now), (aV ([(sV ask), (D nonce), (D till), (lV A257 16 c257)]).toArray)] (by kernel_rfl) (as_none (pre := mkB 98 1) (h262.at_ 0 rfl) (h262.at_ 3 rfl) (h262.dis 0 3 _ _ rfl rfl (by decide)) (h262.at_ 2 rfl) (fun hq => h262.dis 0 2 _ _ rfl rfl (by decide) _ hq rfl) (h262.at_ 1 rfl) (h262.dis 1 0 _ _ rfl rfl (by decide)) (by simp) (place_other ha.symm))) ?_
      rintro _ w265 ⟨F265, s265, rfl, hs265, h265⟩
      have ht265 : TS s265 3 [⟨kl K256, us, b0⟩] [(textF pw nm, 2), (textF kn nm, 3)] := hs265 ▸ ht257
      refine wq_p 3 [(151, (D 9)), (150, (aV ([eS, eS, nS, nS]).toArray)), (137, (Value.tuple #[(aV ([eS, eS, nS, nS]).toArray), (D 9)]))] ?_
      refine wT 10 (xN h265 41 ([eS, eS, nS, nS])) ?_
      rintro _ w266 ⟨g266, rfl, h266⟩
      refine wq_to none (xSs h266 0 41 (.tmp 10) (.tmp 150) 0 ([eS, eS, nS, nS]) ([eS, eS, nS, nS])) ?_
      rintro _ w267 h267
      refine wq_p 1 [(11, (D 9))] ?_
      refine wE hK263 (wp_seq_k fun K268 hK268 => ?_)
      refine wp_reset 331 [(1, (pt g2 0)), (2, V), (3, (pt tb17 0)), (4, (pt kb19 0)), (5, O), (7, O), (8, (D 3)), (9, (D 1)), (10, (pt g266 0)), (11, (D 9))] (fun x269 => ?_)
      refine reg_lit ?_
      refine wq_p 1 [(12, O)] ?_
      refine wE hK268 (wp_seq_k fun K270 hK270 => wp_block (wR fun K271 hK271 => ?_))
      refine wq_p 1 [(153, (pt g2 4))] (wV 154 (sV ask) (eL (h267.at_ 5 rfl) 9 (.tmp 153) 4 _) (wq_p 1 [(155, (pt g2 0))] (wV 156 (sV nm) (eL (h267.at_ 5 rfl) 9 (.tmp 155) 0 _) ?_)))
      refine wV 157 I (eqI (bV (!((ask).toList == (nm).toList))) (str_neT ha)) (wq_p 1 [(152, I)] ?_)
      refine wE hK271 (cT (reg_lit ?_))
      refine wq_p 1 [(12, (D 9))] ?_
      refine wl_end rfl (blk_n (seq_n hK270 (wp_seq_k fun K272 hK272 => wR fun K273 hK273 => ?_)))
      refine wq_p 5 [(199, (D 9)), (198, (D 9)), (197, V), (196, V), (195, O)] (wV 200 V (pureOp_run (by kernel_rfl) _) (wq_p 1 [(201, V)] ?_))
      refine wE hK273 (cF (wp_skip (seq_n hK272 (wp_seq_k fun K274 hK274 => wR fun K275 hK275 => ?_))))
      refine wq_p 1 [(202, (D 9))] (wV 203 I (pureOp_run (by kernel_rfl) _) ?_)
      refine wE hK275 (cT (wR fun K276 hK276 => ?_))
      refine wq_p 1 [(204, (pt g266 0))] (wV 205 eS (eL (h267.at_ 0 rfl) 9 (.tmp 204) 0 _) (wV 206 I (eqI (bV ((ByteArray.empty).toList == (⟨#[]⟩ : ByteArray).toList)) empty_eq) (wq_p 2 [(208, (pt g266 3)), (207, I)] ?_)))
      refine wV 209 nS (eL (h267.at_ 0 rfl) 22 (.tmp 208) 3 _) (wq_p 6 [(215, (pt g266 2)), (214, (pt g266 1)), (213, I), (212, I), (211, I), (210, O)] (wV 216 nS (eL (h267.at_ 0 rfl) 22 (.tmp 215) 2 _) (wq_p 4 [(2, I), (219, I), (218, I), (217, O)] ?_)))
      refine wE hK276 (wp_ret (seq_r ?_))
      refine post_1 rfl (by kernel_rfl) (rtm I) ?_
      exact ⟨rfl, h267.below0⟩
     ·
      subst ha
      refine reg_lit ?_
      refine wq_p 2 [(139, (pt g2 10)), (138, (pt kb19 0))] (wV 140 (D now) (eL (h262.at_ 4 rfl) 2 (.tmp 139) 10 _) (wq_p 1 [(141, (pt g2 4))] (wV 142 (sV nm) (eL (h262.at_ 4 rfl) 9 (.tmp 141) 4 _) ?_)))
      refine wq_p 1 [(143, (pt g2 7))] (wV 144 (D nonce) (eL (h262.at_ 4 rfl) 2 (.tmp 143) 7 _) (wq_p 1 [(145, (pt g2 8))] (wV 146 (D till) (eL (h262.at_ 4 rfl) 2 (.tmp 145) 8 _) ?_)))
      refine wq_p 2 [(148, (aV ([(sV nm), (D nonce), (D till), (lV A257 16 c257)]).toArray)), (147, (lV A257 16 c257))] ?_
      refine wT 149 (x_asN (s2 := s257) (v := .tuple #[(aV ([eS, eS, nS, nS]).toArray), .int .i64 22]) h262 0 rfl [(pt kb19 0), (D now), (aV ([(sV nm), (D nonce), (D till), (lV A257 16 c257)]).toArray)] (by kernel_rfl) (as_auth (pre := mkB 98 1) (h262.at_ 0 rfl) (h262.at_ 3 rfl) (h262.dis 0 3 _ _ rfl rfl (by decide)) (ht257.room 9 (by first | decide | simp | omega) (by first | decide | simp | omega)) (h262.at_ 2 rfl) (fun hq => h262.dis 0 2 _ _ rfl rfl (by decide) _ hq rfl) (h262.at_ 1 rfl) (h262.dis 1 0 _ _ rfl rfl (by decide)) (by simp) (u := (User.mk nm K48 life ren true)) (place_self rfl).1 (place_self rfl).2 (cc := 13) (by decide) (by rw [ht257.opnNo (i := 0) rfl (fun hh => key_ne hK256 hK48 (by decide) (by decide) (by decide) hh.1) (by decide)]; rfl))) ?_
      rintro _ w277 ⟨F277, s277, rfl, hs277, h277⟩
      have ht277 : TS s277 3 [⟨kl K256, us, b0⟩] [(textF pw nm, 2), (textF kn nm, 3)] := hs277 ▸ ht257
      refine wq_p 3 [(151, (D 22)), (150, (aV ([eS, eS, nS, nS]).toArray)), (137, (Value.tuple #[(aV ([eS, eS, nS, nS]).toArray), (D 22)]))] ?_
      refine wT 10 (xN h277 41 ([eS, eS, nS, nS])) ?_
      rintro _ w278 ⟨g278, rfl, h278⟩
      refine wq_to none (xSs h278 0 41 (.tmp 10) (.tmp 150) 0 ([eS, eS, nS, nS]) ([eS, eS, nS, nS])) ?_
      rintro _ w279 h279
      refine wq_p 1 [(11, (D 22))] ?_
      refine wE hK263 (wp_seq_k fun K280 hK280 => ?_)
      refine wp_reset 331 [(1, (pt g2 0)), (2, V), (3, (pt tb17 0)), (4, (pt kb19 0)), (5, O), (7, O), (8, (D 3)), (9, (D 1)), (10, (pt g278 0)), (11, (D 22))] (fun x281 => ?_)
      refine reg_lit ?_
      refine wq_p 1 [(12, O)] ?_
      refine wE hK280 (wp_seq_k fun K282 hK282 => wp_block (wR fun K283 hK283 => ?_))
      refine wq_p 1 [(153, (pt g2 4))] (wV 154 (sV nm) (eL (h279.at_ 5 rfl) 9 (.tmp 153) 4 _) (wq_p 1 [(155, (pt g2 0))] (wV 156 (sV nm) (eL (h279.at_ 5 rfl) 9 (.tmp 155) 0 _) ?_)))
      refine wV 157 V (eqI (bV (!((nm).toList == (nm).toList))) (by simp)) (wq_p 1 [(152, V)] ?_)
      refine wE hK283 (cF (wp_seq_k fun K284 hK284 => ?_))
      skip
      ·
       refine reg_lit ?_
       refine wq_p 1 [(159, (pt g2 5))] (wV 160 (sV kn) (eL (h279.at_ 5 rfl) 9 (.tmp 159) 5 _) (wq_p 1 [(161, (pt g2 1))] (wV 162 (sV pw) (eL (h279.at_ 5 rfl) 9 (.tmp 161) 1 _) ?_)))
       refine wV 163 I (eqI (bV (!((kn).toList == (pw).toList))) (str_neT (Ne.symm hk))) (wq_p 3 [(166, undef), (165, undef), (164, I)] (wq_p 1 [(167, undef)] (wq_p 3 [(170, undef), (169, I), (168, I)] ?_)))
       refine wq_p 1 [(171, undef)] (wq_p 2 [(158, I), (172, I)] ?_)
       refine wE hK284 (cT (reg_lit ?_))
       refine wq_p 1 [(12, (D 22))] ?_
       refine wl_end rfl (blk_n (seq_n hK282 (wp_seq_k fun K286 hK286 => wR fun K287 hK287 => ?_)))
       refine wq_p 5 [(199, (D 22)), (198, (D 22)), (197, V), (196, V), (195, O)] (wV 200 V (pureOp_run (by kernel_rfl) _) (wq_p 1 [(201, V)] ?_))
       refine wE hK287 (cF (wp_skip (seq_n hK286 (wp_seq_k fun K288 hK288 => wR fun K289 hK289 => ?_))))
       refine wq_p 1 [(202, (D 22))] (wV 203 I (pureOp_run (by kernel_rfl) _) ?_)
       refine wE hK289 (cT (wp_seq_k fun K290 hK290 => ?_))
       refine wp_reset 331 [(1, (pt g2 0)), (2, V), (3, (pt tb17 0)), (4, (pt kb19 0)), (8, (D 3)), (9, (D 1)), (10, (pt g278 0)), (203, I)] (fun x291 => ?_)
       refine reg_lit ?_
       refine wq_p 1 [(204, (pt g278 0))] (wV 205 eS (eL (h279.at_ 0 rfl) 9 (.tmp 204) 0 _) (wV 206 I (eqI (bV ((ByteArray.empty).toList == (⟨#[]⟩ : ByteArray).toList)) empty_eq) (wq_p 2 [(208, (pt g278 3)), (207, I)] ?_)))
       refine wV 209 nS (eL (h279.at_ 0 rfl) 22 (.tmp 208) 3 _) (wq_p 6 [(215, (pt g278 2)), (214, (pt g278 1)), (213, I), (212, I), (211, I), (210, O)] (wV 216 nS (eL (h279.at_ 0 rfl) 22 (.tmp 215) 2 _) (wq_p 4 [(2, I), (219, I), (218, I), (217, O)] ?_)))
       refine wE hK290 (wp_ret (seq_r ?_))
       refine post_1 rfl (by kernel_rfl) (rtm I) ?_
       exact ⟨rfl, h279.below0⟩
    ·
     refine wp_reset 331 [(1, (pt g2 0)), (2, V), (3, (pt tb17 0)), (4, (pt kb19 0)), (5, O)] (fun x292 => ?_)
     refine pR_go h52 19 (fun W => (rBlk g2 80 ([(sV nm), (sV pw), (D life), (D ren), (sV ask), (sV kn), (D us), (D nonce), (D till), (D time), (D now)])).Φ W /\ True) [(115, [3], 0), (116, [114], 1), (117, [3], 0), (118, [1], 0), (119, [117], 8), (120, [1], 0), (121, [119], 32), (122, [116, 118, 120], 84), (123, [1], 0), (124, [122], 256), (125, [1], 0), (126, [124], 1024), (127, [125], 2048), (128, [126], 4096), (129, [115, 121, 123, 127], 8834), (114, [128], 16384), (130, [113], 32768), (131, [113], 32768), (7, [129], 131071), (8, [130], 524287)] rfl (fun _ d _ _ _ h => by cases d <;> exact h) ?_
     intro hs293 w293 h293
     refine pR_p 13 [0, 1, 2, 3, 5, 8, 10] [(124, (pt g2 9)), (122, (pt g2 6)), (119, (pt g2 0)), (117, (pt g2 5)), (116, (pt tb17 0)), (115, (Value.iface 24 (pt tb17 0))), (114, (pt tb17 0))] 1327 hs293 ⟨h293.at_ 3 rfl, trivial⟩ ?_
     refine pR_v 4 (some 118) (sV kn) 1343 rfl hs293 ⟨h293.at_ 3 rfl, trivial⟩ (fun W hW => eL hW.1 9 (.tmp 117) 5 _) ?_
     refine pR_v 6 (some 120) (sV nm) 1407 rfl hs293 ⟨h293.at_ 3 rfl, trivial⟩ (fun W hW => eL hW.1 9 (.tmp 119) 0 _) ?_
     refine pR_v 9 (some 123) (D us) 1919 rfl hs293 ⟨h293.at_ 3 rfl, trivial⟩ (fun W hW => eL hW.1 3 (.tmp 122) 6 _) ?_
     refine pR_v 11 (some 125) (D time) 3967 rfl hs293 ⟨h293.at_ 3 rfl, trivial⟩ (fun W hW => eL hW.1 2 (.tmp 124) 9 _) ?_
     refine pR_p 7 [12, 13] [(127, (Value.iface 49 (aV ([(D time), O]).toArray))), (126, (aV ([(D time), O]).toArray))] 16255 hs293 ⟨h293.at_ 3 rfl, trivial⟩ ?_
     refine pR_to 7 (some 121) 16383 rfl hs293 (x_text h293 2 rfl kn nm (by kernel_rfl) (by omega) (by omega) (by rw [ht49.keys]; decide)) ?_
     rintro _ w294 ⟨K294, F294, s294, rfl, hK294, hs294, h294⟩
     refine ⟨fun _ => ⟨h294.at_ 3 rfl, trivial⟩, ?_⟩
     have hq294 := ht49.made_new hs294 (other_text hk (by omega) (by omega))
     have ht294 : TS s294 3 [] [(textF pw nm, 2), (textF kn nm, 3)] := hq294.1
     rw [hq294.2] at hK294
     refine pR_to 14 (some 128) 32767 rfl hs293 (x_tsealN (tb := tb17) h294 K294 us hp0 (by kernel_rfl) (rTh_stamp _ time 0) True.intro) ?_
     rintro _ w295 ⟨rfl, h295⟩
     refine ⟨fun _ => ⟨h295.at_ 3 rfl, trivial⟩, ?_⟩
     refine pR_p 1 [15, 16, 17, 18] [(6, nS), (130, (D ((c0 : Int)))), (129, nS), (113, (Value.tuple #[nS, (D ((c0 : Int)))]))] 524287 hs293 ⟨h295.at_ 3 rfl, trivial⟩ ?_
     refine pR_to 19 (some 7) 1048575 rfl hs293 (OpTo.run (D ((c0 : Int))) (pureOp_run (by kernel_rfl) _) (R := fun v w => v = (D ((c0 : Int))) /\ w295 = w) ⟨rfl, rfl⟩) ?_
     rintro _ _ ⟨rfl, rfl⟩
     refine ⟨fun h => absurd h (by decide), ?_⟩
     refine pR_done hs293 ?_ _
     refine seq_n hK55 (wp_seq_k fun K296 hK296 => wR fun K297 hK297 => ?_)
     refine wq_p 1 [(131, (D ((c0 : Int))))] (wV 132 (.bool true) (eqI (bV (((c0 : Int)) != 0)) (ine (b := 0) (pack_er hp0))) ?_)
     refine wE hK297 (cT (reg_lit ?_))
     refine wq_p 1 [(6, nS)] ?_
     refine wE hK296 (wR fun K298 hK298 => ?_)
     refine wq_p 1 [(133, (pt tb17 0))] ?_
     refine wT 134 (x_lenE (x_nkeys h295 2 rfl (by kernel_rfl)) (3 : Int) (by rw [ht294.keys]; rfl)) ?_
     rintro _ w299 ⟨rfl, h299⟩
     refine wq_p 1 [(135, (pt tb17 0))] ?_
     refine wT 136 (x_lenE (x_nboxesK h299 2 rfl (by kernel_rfl)) (0 : Int) (by rw [ht294.boxes]; rfl)) ?_
     rintro _ w300 ⟨rfl, h300⟩
     refine wq_p 2 [(9, O), (8, (D 3))] ?_
     refine wE hK298 (wp_seq_k fun K301 hK301 => ?_)
     obtain ha | ha : ask ≠ nm ∨ nm = ask := (Classical.em (nm = ask)).elim .inr (fun h => .inl (Ne.symm h))
     ·
      refine reg_lit ?_
      refine wq_p 2 [(139, (pt g2 10)), (138, (pt kb19 0))] (wV 140 (D now) (eL (h300.at_ 3 rfl) 2 (.tmp 139) 10 _) (wq_p 1 [(141, (pt g2 4))] (wV 142 (sV ask) (eL (h300.at_ 3 rfl) 9 (.tmp 141) 4 _) ?_)))
      refine wq_p 1 [(143, (pt g2 7))] (wV 144 (D nonce) (eL (h300.at_ 3 rfl) 2 (.tmp 143) 7 _) (wq_p 1 [(145, (pt g2 8))] (wV 146 (D till) (eL (h300.at_ 3 rfl) 2 (.tmp 145) 8 _) ?_)))
      refine wq_p 2 [(148, (aV ([(sV ask), (D nonce), (D till), nS]).toArray)), (147, nS)] ?_
      refine wT 149 (x_asN (s2 := s294) (v := .tuple #[(aV ([eS, eS, nS, nS]).toArray), .int .i64 9]) h300 2 rfl [(pt kb19 0), (D now), (aV ([(sV ask), (D nonce), (D till), nS]).toArray)] (by kernel_rfl) (as_none (pre := []) (h300.at_ 2 rfl) (h300.at_ 1 rfl) (h300.dis 2 1 _ _ rfl rfl (by decide)) (h300.at_ 0 rfl) (fun hq => h300.dis 2 0 _ _ rfl rfl (by decide) _ hq rfl) (SB.nil _ 0 (by unfold maxLen; omega) none) (fun q hq => absurd rfl hq.1) (by simp) (place_other ha.symm))) ?_
      rintro _ w303 ⟨F303, s303, rfl, hs303, h303⟩
      have ht303 : TS s303 3 [] [(textF pw nm, 2), (textF kn nm, 3)] := hs303 ▸ ht294
      refine wq_p 3 [(151, (D 9)), (150, (aV ([eS, eS, nS, nS]).toArray)), (137, (Value.tuple #[(aV ([eS, eS, nS, nS]).toArray), (D 9)]))] ?_
      refine wT 10 (xN h303 41 ([eS, eS, nS, nS])) ?_
      rintro _ w304 ⟨g304, rfl, h304⟩
      refine wq_to none (xSs h304 0 41 (.tmp 10) (.tmp 150) 0 ([eS, eS, nS, nS]) ([eS, eS, nS, nS])) ?_
      rintro _ w305 h305
      refine wq_p 1 [(11, (D 9))] ?_
      refine wE hK301 (wp_seq_k fun K306 hK306 => ?_)
      refine wp_reset 331 [(1, (pt g2 0)), (2, V), (3, (pt tb17 0)), (4, (pt kb19 0)), (5, O), (7, (D ((c0 : Int)))), (8, (D 3)), (9, O), (10, (pt g304 0)), (11, (D 9))] (fun x307 => ?_)
      refine reg_lit ?_
      refine wq_p 1 [(12, O)] ?_
      refine wE hK306 (wp_seq_k fun K308 hK308 => wp_block (wR fun K309 hK309 => ?_))
      refine wq_p 1 [(153, (pt g2 4))] (wV 154 (sV ask) (eL (h305.at_ 4 rfl) 9 (.tmp 153) 4 _) (wq_p 1 [(155, (pt g2 0))] (wV 156 (sV nm) (eL (h305.at_ 4 rfl) 9 (.tmp 155) 0 _) ?_)))
      refine wV 157 I (eqI (bV (!((ask).toList == (nm).toList))) (str_neT ha)) (wq_p 1 [(152, I)] ?_)
      refine wE hK309 (cT (reg_lit ?_))
      refine wq_p 1 [(12, (D 9))] ?_
      refine wl_end rfl (blk_n (seq_n hK308 (wp_seq_k fun K310 hK310 => wR fun K311 hK311 => ?_)))
      refine wq_p 5 [(199, (D 9)), (198, (D 9)), (197, V), (196, V), (195, O)] (wV 200 V (pureOp_run (by kernel_rfl) _) (wq_p 1 [(201, V)] ?_))
      refine wE hK311 (cF (wp_skip (seq_n hK310 (wp_seq_k fun K312 hK312 => wR fun K313 hK313 => ?_))))
      refine wq_p 1 [(202, (D 9))] (wV 203 I (pureOp_run (by kernel_rfl) _) ?_)
      refine wE hK313 (cT (wR fun K314 hK314 => ?_))
      refine wq_p 1 [(204, (pt g304 0))] (wV 205 eS (eL (h305.at_ 0 rfl) 9 (.tmp 204) 0 _) (wV 206 I (eqI (bV ((ByteArray.empty).toList == (⟨#[]⟩ : ByteArray).toList)) empty_eq) (wq_p 2 [(208, (pt g304 3)), (207, I)] ?_)))
      refine wV 209 nS (eL (h305.at_ 0 rfl) 22 (.tmp 208) 3 _) (wq_p 6 [(215, (pt g304 2)), (214, (pt g304 1)), (213, I), (212, I), (211, I), (210, O)] (wV 216 nS (eL (h305.at_ 0 rfl) 22 (.tmp 215) 2 _) (wq_p 4 [(2, I), (219, I), (218, I), (217, O)] ?_)))
      refine wE hK314 (wp_ret (seq_r ?_))
      refine post_1 rfl (by kernel_rfl) (rtm I) ?_
      exact ⟨rfl, h305.below0⟩
     ·
      subst ha
      refine reg_lit ?_
      refine wq_p 2 [(139, (pt g2 10)), (138, (pt kb19 0))] (wV 140 (D now) (eL (h300.at_ 3 rfl) 2 (.tmp 139) 10 _) (wq_p 1 [(141, (pt g2 4))] (wV 142 (sV nm) (eL (h300.at_ 3 rfl) 9 (.tmp 141) 4 _) ?_)))
      refine wq_p 1 [(143, (pt g2 7))] (wV 144 (D nonce) (eL (h300.at_ 3 rfl) 2 (.tmp 143) 7 _) (wq_p 1 [(145, (pt g2 8))] (wV 146 (D till) (eL (h300.at_ 3 rfl) 2 (.tmp 145) 8 _) ?_)))
      refine wq_p 2 [(148, (aV ([(sV nm), (D nonce), (D till), nS]).toArray)), (147, nS)] ?_
      refine wT 149 (x_asN (s2 := s294) (v := .tuple #[(aV ([eS, eS, nS, nS]).toArray), .int .i64 22]) h300 2 rfl [(pt kb19 0), (D now), (aV ([(sV nm), (D nonce), (D till), nS]).toArray)] (by kernel_rfl) (as_auth (pre := []) (h300.at_ 2 rfl) (h300.at_ 1 rfl) (h300.dis 2 1 _ _ rfl rfl (by decide)) (ht294.room 9 (by first | decide | simp | omega) (by first | decide | simp | omega)) (h300.at_ 0 rfl) (fun hq => h300.dis 2 0 _ _ rfl rfl (by decide) _ hq rfl) (SB.nil _ 0 (by unfold maxLen; omega) none) (fun q hq => absurd rfl hq.1) (by simp) (u := (User.mk nm K48 life ren true)) (place_self rfl).1 (place_self rfl).2 (cc := 13) (by decide) (by rw [openTh_nomark _ _ _ (markOf_short (by decide))]; rfl))) ?_
      rintro _ w315 ⟨F315, s315, rfl, hs315, h315⟩
      have ht315 : TS s315 3 [] [(textF pw nm, 2), (textF kn nm, 3)] := hs315 ▸ ht294
      refine wq_p 3 [(151, (D 22)), (150, (aV ([eS, eS, nS, nS]).toArray)), (137, (Value.tuple #[(aV ([eS, eS, nS, nS]).toArray), (D 22)]))] ?_
      refine wT 10 (xN h315 41 ([eS, eS, nS, nS])) ?_
      rintro _ w316 ⟨g316, rfl, h316⟩
      refine wq_to none (xSs h316 0 41 (.tmp 10) (.tmp 150) 0 ([eS, eS, nS, nS]) ([eS, eS, nS, nS])) ?_
      rintro _ w317 h317
      refine wq_p 1 [(11, (D 22))] ?_
      refine wE hK301 (wp_seq_k fun K318 hK318 => ?_)
      refine wp_reset 331 [(1, (pt g2 0)), (2, V), (3, (pt tb17 0)), (4, (pt kb19 0)), (5, O), (7, (D ((c0 : Int)))), (8, (D 3)), (9, O), (10, (pt g316 0)), (11, (D 22))] (fun x319 => ?_)
      refine reg_lit ?_
      refine wq_p 1 [(12, O)] ?_
      refine wE hK318 (wp_seq_k fun K320 hK320 => wp_block (wR fun K321 hK321 => ?_))
      refine wq_p 1 [(153, (pt g2 4))] (wV 154 (sV nm) (eL (h317.at_ 4 rfl) 9 (.tmp 153) 4 _) (wq_p 1 [(155, (pt g2 0))] (wV 156 (sV nm) (eL (h317.at_ 4 rfl) 9 (.tmp 155) 0 _) ?_)))
      refine wV 157 V (eqI (bV (!((nm).toList == (nm).toList))) (by simp)) (wq_p 1 [(152, V)] ?_)
      refine wE hK321 (cF (wp_seq_k fun K322 hK322 => ?_))
      skip
      ·
       refine reg_lit ?_
       refine wq_p 1 [(159, (pt g2 5))] (wV 160 (sV kn) (eL (h317.at_ 4 rfl) 9 (.tmp 159) 5 _) (wq_p 1 [(161, (pt g2 1))] (wV 162 (sV pw) (eL (h317.at_ 4 rfl) 9 (.tmp 161) 1 _) ?_)))
       refine wV 163 I (eqI (bV (!((kn).toList == (pw).toList))) (str_neT (Ne.symm hk))) (wq_p 3 [(166, undef), (165, undef), (164, I)] (wq_p 1 [(167, undef)] (wq_p 3 [(170, undef), (169, I), (168, I)] ?_)))
       refine wq_p 1 [(171, undef)] (wq_p 2 [(158, I), (172, I)] ?_)
       refine wE hK322 (cT (reg_lit ?_))
       refine wq_p 1 [(12, (D 22))] ?_
       refine wl_end rfl (blk_n (seq_n hK320 (wp_seq_k fun K324 hK324 => wR fun K325 hK325 => ?_)))
       refine wq_p 5 [(199, (D 22)), (198, (D 22)), (197, V), (196, V), (195, O)] (wV 200 V (pureOp_run (by kernel_rfl) _) (wq_p 1 [(201, V)] ?_))
       refine wE hK325 (cF (wp_skip (seq_n hK324 (wp_seq_k fun K326 hK326 => wR fun K327 hK327 => ?_))))
       refine wq_p 1 [(202, (D 22))] (wV 203 I (pureOp_run (by kernel_rfl) _) ?_)
       refine wE hK327 (cT (wp_seq_k fun K328 hK328 => ?_))
       refine wp_reset 331 [(1, (pt g2 0)), (2, V), (3, (pt tb17 0)), (4, (pt kb19 0)), (8, (D 3)), (9, O), (10, (pt g316 0)), (203, I)] (fun x329 => ?_)
       refine reg_lit ?_
       refine wq_p 1 [(204, (pt g316 0))] (wV 205 eS (eL (h317.at_ 0 rfl) 9 (.tmp 204) 0 _) (wV 206 I (eqI (bV ((ByteArray.empty).toList == (⟨#[]⟩ : ByteArray).toList)) empty_eq) (wq_p 2 [(208, (pt g316 3)), (207, I)] ?_)))
       refine wV 209 nS (eL (h317.at_ 0 rfl) 22 (.tmp 208) 3 _) (wq_p 6 [(215, (pt g316 2)), (214, (pt g316 1)), (213, I), (212, I), (211, I), (210, O)] (wV 216 nS (eL (h317.at_ 0 rfl) 22 (.tmp 215) 2 _) (wq_p 4 [(2, I), (219, I), (218, I), (217, O)] ?_)))
       refine wE hK328 (wp_ret (seq_r ?_))
       refine post_1 rfl (by kernel_rfl) (rtm I) ?_
       exact ⟨rfl, h317.below0⟩
end
section
open Go.ChangeShapes Go.WideShapes Go.ChangeAt Go.RowKit
theorem kasAnswers_lifted (os : Os) (started : os.Started) (H : Type) (enc : TypeId × Value -> H) :
   ReturnsInHanded {} Try.checked os 6 .any (Rows.kasAnswersSpec.pre6 enc Try.prog Try.f6 Rows.kasAnswersRow.domain false) (Rows.kasAnswersSpec.post enc Try.prog Try.f6 false true false false) := by
 refine returnsInHanded_of_change (C := Try.checked) Try.own started (by kernel_rfl) Try.func6
   (ChangeSpec.witness6 (enc := enc) (C := Try.checked) false ⟨#[], #[.agg #[.string ⟨#[]⟩, .string ⟨#[]⟩, .int .i64 0, .int .i64 0, .string ⟨#[]⟩, .string ⟨#[]⟩, .int .i64 0, .int .i64 0, .int .i64 0, .int .i64 0, .int .i64 0]], []⟩ 8 (by kernel_rfl) (by kernel_rfl) (by kernel_rfl) (by kernel_rfl)) ?_
 intro W base args ds gs before hval0 hW hcnd _
 have hval : ∀ (j : Nat) t v, Try.f6.params[j]? = some t -> args[j]? = some v -> Value.okWide Try.prog W .any base t v := hval0
 have hpost : ∀ W', Below W.heap.size W W' -> Rows.kasAnswersSpec.post enc Try.prog Try.f6 false true false false W args (.bool true) W' := fun W' hb =>
   law_post Try.laidOut (by kernel_rfl) Try.underlying4 rfl rfl (fun ds hds => by
     have hn : ds.length = 1 := hds
     match ds, hn with
     | [_], _ => rfl) hW hb
 obtain ⟨p, q, hA0, hV, rfl, hfz, hnd⟩ := hW
 have hA : DataW.TrodAll enc Try.prog W 0 (fun _ => true) true Try.f6.params.toList args.toList ds p := hA0
 rw [Try.params6] at hA hval
 clear hA0 hval0
 obtain ⟨v0, d0, rfl, rfl, h0⟩ := trodAll_one hA
 obtain ⟨s00, s01, n02, n03, s04, s05, n06, n07, n08, n09, n010, rfl⟩ := open_in14 (hval 0 80 v0 rfl rfl) h0
 refine (kasAnswers_any s00 s01 s04 s05 n02 n03 n06 n07 n08 n09 n010 W).mono fun e W' ⟨he, hw⟩ => ?_
 subst he
 exact ⟨_, rfl, hpost W' hw⟩
theorem kasAnswers_holds : Rows.KasAnswersSaid :=
 OpenClaim.holds_of_wide 6 Try.f6 rfl rfl rfl rfl rfl rfl rfl ⟨rfl, rfl, rfl, rfl, rfl⟩ rfl rfl rfl rfl rfl (by kernel_rfl) Try.func6 (by kernel_rfl)
   (of_decide_eq_true (by kernel_rfl)) (by unfold Func.isWrapper; first | (rw [if_pos (by decide +kernel)]; kernel_rfl) | (rw [if_neg (by decide +kernel)]; exact ⟨rfl, rfl⟩))
   (fun os started H enc _ => kasAnswers_lifted os started H enc)
end
end Go.Proofs.Ytecomegocafocaa
