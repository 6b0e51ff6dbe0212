/- The row of KasBad: for every input the law returns true and what came in reads as it did. -/
import Derived.ChangeMaps5
import Derived.Test.YtecomegocafocaaCA17
set_option maxRecDepth 100000
set_option maxHeartbeats 4000000
namespace Go.Proofs.Ytecomegocafocaa
section
open Go.RowKit Go.QT
end
section
open Go.Value renaming int -> iV, slice -> lV, string -> sV, bool -> bV, agg -> aV
open Go.RowKit Go.QT
theorem ieqF {a : Nat} (h : a ≠ 0) : bV ((a : Int) == (0 : Int)) = bV false := by
 congr 1; rw [beq_eq_false_iff_ne]; omega
theorem kasBad_any {L : Bytes} {A : Option Addr} {c : Nat} {w : World} (hv : SB w (.slice A L.length c) L) (now : Int) : Calls Try.prog 3 #[.slice A L.length c, .int .i64 now] w (DPost w (.bool true)) := by
 have h0 := Hp.ro1 (rSB (.slice A L.length c) L) hv
 refine enter 125 Try.func3 rfl rfl ?_
 refine wp_reset 127 [(0, (lV A L.length c)), (1, (iV .i64 now))] (fun x0 => ?_)
 refine wp_seq_k fun K1 hK1 => reg_lit ?_
 refine wq_p 1 [(4, (bV false))] ?_
 refine wl_end rfl (seq_n hK1 (wp_seq_k fun K2 hK2 => wp_seq_k fun K3 hK3 => reg_lit ?_))
 refine wq_to (some 22) (x_dp h0 7 [] (by kernel_rfl) (alive14_any _)) ?_
 rintro _ w4 ⟨rfl, h4⟩
 refine wq_p 1 [(23, (bV false))] ?_
 refine wl_end rfl (seq_n hK3 (cF (wp_skip (seq_n hK2 (wp_seq_k fun K5 hK5 => wp_seq_k fun K6 hK6 => ?_)))))
 rcases (by omega : 100 < L.length ∨ (L.length <= 100 /\ now < 0) ∨ (L.length <= 100 /\ 0 <= now /\ 549755813888 < now) ∨ (L.length <= 100 /\ 0 <= now /\ now <= 549755813888)) with hq | hq | hq | ⟨z1, z5, z6⟩
 ·
  refine reg_lit ?_
  refine wq_p 2 [(25, (iV .i64 ((L.length : Int)))), (24, (lV A L.length c))] (wq_v (some 26) (.bool true) (eqI (bV (decide ((L.length : Int) > 100))) (by simp; omega)) (wq_p 2 [(28, undef), (27, (bV true))] (wq_p 1 [(29, undef)] ?_)))
  refine wq_p 3 [(32, undef), (31, (bV true)), (30, (bV true))] (wq_p 1 [(33, undef)] (wq_p 1 [(34, (bV true))] ?_))
  refine wl_end rfl (seq_n hK6 (cT (wp_seq_k fun K8 hK8 => reg_lit ?_)))
  refine wq_p 1 [(4, (bV true))] ?_
  refine wl_end rfl (seq_n hK8 (wp_ret (seq_r ?_)))
  refine post_1 rfl (by kernel_rfl) (rtm (bV true)) ?_
  exact ⟨rfl, h4.below0⟩
 ·
  refine reg_lit ?_
  refine wq_p 2 [(25, (iV .i64 ((L.length : Int)))), (24, (lV A L.length c))] (wq_v (some 26) (.bool false) (eqI (bV (decide ((L.length : Int) > 100))) (by simp; omega)) (wq_p 2 [(28, (iV .i64 now)), (27, (bV false))] (wq_v (some 29) (.bool true) (eqI (bV (decide (now < 0))) (by simp; omega)) ?_)))
  refine wq_p 3 [(32, undef), (31, (bV true)), (30, (bV true))] (wq_p 1 [(33, undef)] (wq_p 1 [(34, (bV true))] ?_))
  refine wl_end rfl (seq_n hK6 (cT (wp_seq_k fun K9 hK9 => reg_lit ?_)))
  refine wq_p 1 [(4, (bV true))] ?_
  refine wl_end rfl (seq_n hK9 (wp_ret (seq_r ?_)))
  refine post_1 rfl (by kernel_rfl) (rtm (bV true)) ?_
  exact ⟨rfl, h4.below0⟩
 ·
  refine reg_lit ?_
  refine wq_p 2 [(25, (iV .i64 ((L.length : Int)))), (24, (lV A L.length c))] (wq_v (some 26) (.bool false) (eqI (bV (decide ((L.length : Int) > 100))) (by simp; omega)) (wq_p 2 [(28, (iV .i64 now)), (27, (bV false))] (wq_v (some 29) (.bool false) (eqI (bV (decide (now < 0))) (by simp; omega)) ?_)))
  refine wq_p 3 [(32, (iV .i64 now)), (31, (bV false)), (30, (bV false))] (wq_v (some 33) (.bool true) (eqI (bV (decide (now > 549755813888))) (by simp; omega)) (wq_p 1 [(34, (bV true))] ?_))
  refine wl_end rfl (seq_n hK6 (cT (wp_seq_k fun K10 hK10 => reg_lit ?_)))
  refine wq_p 1 [(4, (bV true))] ?_
  refine wl_end rfl (seq_n hK10 (wp_ret (seq_r ?_)))
  refine post_1 rfl (by kernel_rfl) (rtm (bV true)) ?_
  exact ⟨rfl, h4.below0⟩
 ·
  refine reg_lit ?_
  refine wq_p 2 [(25, (iV .i64 ((L.length : Int)))), (24, (lV A L.length c))] (wq_v (some 26) (.bool false) (eqI (bV (decide ((L.length : Int) > 100))) (by simp; omega)) (wq_p 2 [(28, (iV .i64 now)), (27, (bV false))] (wq_v (some 29) (.bool false) (eqI (bV (decide (now < 0))) (by simp; omega)) ?_)))
  refine wq_p 3 [(32, (iV .i64 now)), (31, (bV false)), (30, (bV false))] (wq_v (some 33) (.bool false) (eqI (bV (decide (now > 549755813888))) (by simp; omega)) (wq_p 1 [(34, (bV false))] ?_))
  refine wl_end rfl (seq_n hK6 (cF (wp_skip (seq_n hK5 (wp_seq_k fun K11 hK11 => reg_lit ?_)))))
  refine wq_to (some 35) (x_snew h4 (by kernel_rfl)) ?_
  rintro _ w12 ⟨tb12, F12, rfl, h12⟩
  refine wq_p 1 [(5, (pt tb12 0))] ?_
  refine wl_end rfl (seq_n hK11 (wp_seq_k fun K13 hK13 => reg_lit ?_))
  refine wq_p 2 [(37, (Value.iface 24 (pt tb12 0))), (36, (pt tb12 0))] ?_
  refine wq_to (some 38) (x_knew h12 0 rfl ((TS.empty.room 9 (by first | decide | simp | omega) (by first | decide | simp | omega)).less (by decide)) (by kernel_rfl)) ?_
  rintro _ w14 ⟨kb14, G14, bb14, F14, K14, s14, rfl, hK14, hs14, h14⟩
  rw [TS.empty.keys] at hK14
  have ht14 : TS s14 1 [] [] := TS.empty.add hs14
  refine wq_p 1 [(6, (pt kb14 0))] ?_
  refine wl_end rfl (seq_n hK13 (wp_seq_k fun K15 hK15 => wp_seq_k fun K16 hK16 => ?_))
  refine wp_reset 127 [(0, (lV A L.length c)), (1, (iV .i64 now)), (4, (bV false)), (5, (pt tb12 0)), (6, (pt kb14 0)), (23, (bV false)), (34, (bV false))] (fun x17 => ?_)
  refine reg_lit ?_
  refine wq_p 1 [(39, (pt kb14 0))] ?_
  have hnum18 := (ht14.made_new (f := textF (⟨#[112, 119]⟩) (⟨#[97, 110, 110]⟩)) rfl (by simp)).2
  obtain ⟨K18, hK18⟩ := ex_key 2
  refine wq_to (some 40) (x_enrol (us' := [(User.mk (⟨#[97, 110, 110]⟩) K18 100 100 false)]) (f := textF (⟨#[112, 119]⟩) (⟨#[97, 110, 110]⟩)) (er := 0) h14 2 1 rfl rfl rfl [(pt kb14 0), (sV (⟨#[97, 110, 110]⟩)), (sV (⟨#[112, 119]⟩)), (iV .i64 100), (iV .i64 100), (bV false)] (by kernel_rfl) (enrol_ok (h14.at_ 2 rfl) (h14.at_ 1 rfl) (h14.dis 2 1 _ _ rfl rfl (by decide)) ((ht14.room 9 (by first | decide | simp | omega) (by first | decide | simp | omega)).less (by decide)) (h14.at_ 0 rfl) (fun hq => h14.dis 2 0 _ _ rfl rfl (by decide) _ hq rfl) (fun hq => h14.dis 1 0 _ _ rfl rfl (by decide) _ hq rfl) (by first | decide | omega) (by first | decide | omega) K18 (hK18.trans (by rw [hnum18])) (by decide) right_ann (by decide) rfl (by decide) rfl)) ?_
  rintro _ w19 ⟨F19, G19, s19, rfl, hs19, h19⟩
  have hq19 := ht14.made_new hs19 (by simp)
  have ht19 : TS s19 2 [] [(textF (⟨#[112, 119]⟩) (⟨#[97, 110, 110]⟩), 2)] := hq19.1
  refine wq_p 1 [(41, (bV false))] ?_
  refine wl_end rfl (seq_n hK16 (cF (wp_skip (seq_n hK15 (wp_seq_k fun K20 hK20 => reg_lit ?_)))))
  refine wq_p 2 [(43, (pt tb12 0)), (42, (pt tb12 0))] ?_
  refine wq_to (some 44) (x_text h19 2 rfl (⟨#[112, 119]⟩) (⟨#[97, 110, 110]⟩) (by kernel_rfl) (by first | decide | omega) (by first | decide | omega) (by rw [ht19.keys]; decide)) ?_
  rintro _ w21 ⟨K21, F21, s21, rfl, hK21, hs21, h21⟩
  have hq21 := ht19.made_old (m := 2) hs21 (by simp)
  have ht21 : TS s21 2 [] [(textF (⟨#[112, 119]⟩) (⟨#[97, 110, 110]⟩), 2)] := hq21.1
  rw [hq21.2] at hK21
  obtain rfl : K18 = K21 := kl_inj (hK18.trans hK21.symm)
  refine wq_p 1 [(45, (lV A L.length c))] ?_
  refine wq_to (some 46) (x_sealS h21 2 rfl K18 1 L (lV A L.length c) (by kernel_rfl) (h21.rd 0 rfl) (by omega) (by rw [ht21.boxes]; simp)) ?_
  rintro _ w22 ⟨A22, c22, F22, rfl, h22⟩
  have hbn22 : s21.boxes.length + 1 = 1 := by rw [ht21.boxes]; rfl
  obtain ⟨s22, hs22⟩ : ∃ s2, s2 = s21.seal (kl K18) 1 L := ⟨_, rfl⟩
  rw [hbn22, ← hs22] at h22
  have ht22 : TS s22 2 [⟨kl K18, 1, L⟩] [(textF (⟨#[112, 119]⟩) (⟨#[97, 110, 110]⟩), 2)] := ht21.seal hs22 (Nat.le_trans z1 (by decide))
  refine wq_p 1 [(7, (lV A22 16 c22))] ?_
  refine wl_end rfl (seq_n hK20 (wp_seq_k fun K23 hK23 => reg_lit ?_))
  refine wq_p 3 [(50, (Value.iface 37 (aV ([(lV A L.length c)]).toArray))), (49, (aV ([(lV A L.length c)]).toArray)), (48, (lV A L.length c))] ?_
  obtain ⟨b1, hp1⟩ := pack_plain (L := L) (by omega)
  refine wq_to (some 51) (x_wrT h22 13 [(Value.iface 37 (aV ([(lV A L.length c)]).toArray))] (by kernel_rfl) (pk_b hp1 (pack_any (rTh_plain (h22.rd 0 rfl)) (show L.length <= 100000 from by omega)))) ?_
  rintro _ w24 ⟨A24, c24, rfl, h24⟩
  refine wq_p 5 [(9, (iV .i64 0)), (8, (lV A24 b1.length c24)), (53, (iV .i64 0)), (52, (lV A24 b1.length c24)), (47, (Value.tuple #[(lV A24 b1.length c24), (iV .i64 0)]))] ?_
  refine wl_end rfl (seq_n hK23 (wp_seq_k fun K25 hK25 => reg_lit ?_))
  refine wq_p 2 [(55, (pt tb12 0)), (54, (pt tb12 0))] ?_
  refine wq_to (some 56) (x_text h24 4 rfl (⟨#[112, 119]⟩) (⟨#[97, 110, 110]⟩) (by kernel_rfl) (by first | decide | omega) (by first | decide | omega) (by rw [ht22.keys]; decide)) ?_
  rintro _ w26 ⟨K26, F26, s26, rfl, hK26, hs26, h26⟩
  have hq26 := ht22.made_old (m := 2) hs26 (by simp)
  have ht26 : TS s26 2 [⟨kl K18, 1, L⟩] [(textF (⟨#[112, 119]⟩) (⟨#[97, 110, 110]⟩), 2)] := hq26.1
  rw [hq26.2] at hK26
  obtain rfl : K18 = K26 := kl_inj (hK18.trans hK26.symm)
  refine wq_p 1 [(57, (lV A24 b1.length c24))] ?_
  refine wq_to (some 58) (x_sealS h26 4 rfl K18 1 b1 (lV A24 b1.length c24) (by kernel_rfl) (OB.sb (h26.at_ 0 rfl)) (pack_le6 hp1) (by rw [ht26.boxes]; simp)) ?_
  rintro _ w27 ⟨A27, c27, F27, rfl, h27⟩
  have hbn27 : s26.boxes.length + 1 = 2 := by rw [ht26.boxes]; rfl
  obtain ⟨s27, hs27⟩ : ∃ s2, s2 = s26.seal (kl K18) 1 b1 := ⟨_, rfl⟩
  rw [hbn27, ← hs27] at h27
  have ht27 : TS s27 2 [⟨kl K18, 1, L⟩, ⟨kl K18, 1, b1⟩] [(textF (⟨#[112, 119]⟩) (⟨#[97, 110, 110]⟩), 2)] := ht26.seal hs27 (pack_le6 hp1)
  refine wq_p 1 [(10, (lV A27 16 c27))] ?_
  refine wl_end rfl (seq_n hK25 (wp_seq_k fun K28 hK28 => ?_))
  refine wp_reset 127 [(0, (lV A L.length c)), (1, (iV .i64 now)), (4, (bV false)), (5, (pt tb12 0)), (6, (pt kb14 0)), (7, (lV A22 16 c22)), (8, (lV A24 b1.length c24)), (10, (lV A27 16 c27)), (23, (bV false)), (34, (bV false)), (41, (bV false))] (fun x29 => ?_)
  refine reg_lit ?_
  refine wq_p 3 [(62, (iV .i64 now)), (61, (iV .i64 now)), (60, (pt kb14 0))] (wq_v (some 63) (iV .i64 (now + 9)) (exec_add _ _ _ _ rfl now 9 (by kernel_rfl) (by kernel_rfl) (now + 9) rfl (by omega) (by omega) _) (wq_p 2 [(65, (aV ([(sV (⟨#[97, 110, 110]⟩)), (iV .i64 0), (iV .i64 (now + 9)), (lV A27 16 c27)]).toArray)), (64, (lV A27 16 c27))] ?_))
  refine wq_to (some 66) (x_asN (s2 := s27) (v := .tuple #[(aV ([(sV ByteArray.empty), (sV ByteArray.empty), (lV none 0 0), (lV none 0 0)]).toArray), .int .i64 22]) h27 5 rfl [(pt kb14 0), (iV .i64 now), (aV ([(sV (⟨#[97, 110, 110]⟩)), (iV .i64 0), (iV .i64 (now + 9)), (lV A27 16 c27)]).toArray)] (by kernel_rfl) (as_auth (pre := mkB 98 2) (h27.at_ 5 rfl) (h27.at_ 4 rfl) (h27.dis 5 4 _ _ rfl rfl (by decide)) (ht27.room 9 (by first | decide | simp | omega) (by first | decide | simp | omega)) (h27.at_ 3 rfl) (fun hq => h27.dis 5 3 _ _ rfl rfl (by decide) _ hq rfl) (h27.at_ 0 rfl) (h27.dis 0 5 _ _ rfl rfl (by decide)) (by simp) (u := (User.mk (⟨#[97, 110, 110]⟩) K18 100 100 false)) (place_self rfl).1 (place_self rfl).2 (cc := 4) (by decide) (by rw [ht27.opn (i := 1) rfl hp1 (by decide)]; rfl))) ?_
  rintro _ w30 ⟨F30, s30, rfl, hs30, h30⟩
  have ht30 : TS s30 2 [⟨kl K18, 1, L⟩, ⟨kl K18, 1, b1⟩] [(textF (⟨#[112, 119]⟩) (⟨#[97, 110, 110]⟩), 2)] := hs30 ▸ ht27
  refine wq_p 3 [(68, (iV .i64 22)), (67, (aV ([(sV ByteArray.empty), (sV ByteArray.empty), (lV none 0 0), (lV none 0 0)]).toArray)), (59, (Value.tuple #[(aV ([(sV ByteArray.empty), (sV ByteArray.empty), (lV none 0 0), (lV none 0 0)]).toArray), (iV .i64 22)]))] ?_
  refine wq_to (some 11) (xN h30 41 ([(sV ByteArray.empty), (sV ByteArray.empty), (lV none 0 0), (lV none 0 0)])) ?_
  rintro _ w31 ⟨g31, rfl, h31⟩
  refine wq_to none (xSs h31 0 41 (.tmp 11) (.tmp 67) 0 ([(sV ByteArray.empty), (sV ByteArray.empty), (lV none 0 0), (lV none 0 0)]) ([(sV ByteArray.empty), (sV ByteArray.empty), (lV none 0 0), (lV none 0 0)])) ?_
  rintro _ w32 h32
  refine wq_p 1 [(12, (iV .i64 22))] ?_
  refine wl_end rfl (seq_n hK28 (wp_seq_k fun K33 hK33 => reg_lit ?_))
  refine wq_p 3 [(72, (iV .i64 now)), (71, (iV .i64 now)), (70, (pt kb14 0))] (wq_v (some 73) (iV .i64 (now + 9)) (exec_add _ _ _ _ rfl now 9 (by kernel_rfl) (by kernel_rfl) (now + 9) rfl (by omega) (by omega) _) (wq_p 2 [(75, (aV ([(sV (⟨#[97, 110, 110]⟩)), (iV .i64 0), (iV .i64 (now + 9)), (lV A L.length c)]).toArray)), (74, (lV A L.length c))] ?_))
  obtain ⟨cc1, hcc1, ho1⟩ := bad_pre (k' := kl K18) ht30 hp1
  refine wq_to (some 76) (x_asN (s2 := s30) (v := .tuple #[(aV ([(sV ByteArray.empty), (sV ByteArray.empty), (lV none 0 0), (lV none 0 0)]).toArray), .int .i64 22]) h32 1 rfl [(pt kb14 0), (iV .i64 now), (aV ([(sV (⟨#[97, 110, 110]⟩)), (iV .i64 0), (iV .i64 (now + 9)), (lV A L.length c)]).toArray)] (by kernel_rfl) (as_auth (pre := L) (h32.at_ 1 rfl) (h32.at_ 6 rfl) (h32.dis 1 6 _ _ rfl rfl (by decide)) (ht30.room 9 (by first | decide | simp | omega) (by first | decide | simp | omega)) (h32.at_ 5 rfl) (fun hq => h32.dis 1 5 _ _ rfl rfl (by decide) _ hq rfl) (h32.rd 0 rfl) (h32.rdis 0 1 _ _ rfl rfl) (by simp) (u := (User.mk (⟨#[97, 110, 110]⟩) K18 100 100 false)) (place_self rfl).1 (place_self rfl).2 (cc := cc1) hcc1 ho1)) ?_
  rintro _ w34 ⟨F34, s34, rfl, hs34, h34⟩
  have ht34 : TS s34 2 [⟨kl K18, 1, L⟩, ⟨kl K18, 1, b1⟩] [(textF (⟨#[112, 119]⟩) (⟨#[97, 110, 110]⟩), 2)] := hs34 ▸ ht30
  refine wq_p 3 [(78, (iV .i64 22)), (77, (aV ([(sV ByteArray.empty), (sV ByteArray.empty), (lV none 0 0), (lV none 0 0)]).toArray)), (69, (Value.tuple #[(aV ([(sV ByteArray.empty), (sV ByteArray.empty), (lV none 0 0), (lV none 0 0)]).toArray), (iV .i64 22)]))] ?_
  refine wq_to (some 13) (xN h34 41 ([(sV ByteArray.empty), (sV ByteArray.empty), (lV none 0 0), (lV none 0 0)])) ?_
  rintro _ w35 ⟨g35, rfl, h35⟩
  refine wq_to none (xSs h35 0 41 (.tmp 13) (.tmp 77) 0 ([(sV ByteArray.empty), (sV ByteArray.empty), (lV none 0 0), (lV none 0 0)]) ([(sV ByteArray.empty), (sV ByteArray.empty), (lV none 0 0), (lV none 0 0)])) ?_
  rintro _ w36 h36
  refine wq_p 1 [(14, (iV .i64 22))] ?_
  refine wl_end rfl (seq_n hK33 (wp_seq_k fun K37 hK37 => ?_))
  obtain ⟨c0, hu⟩ | ⟨t0, hu, hty⟩ | ⟨t1, q1, hu, hn⟩ | ⟨t1, q1, hu, hn⟩ := bad_ways now L
  ·
   refine reg_lit ?_
   refine wq_p 3 [(82, (iV .i64 now)), (81, (iV .i64 now)), (80, (pt kb14 0))] (wq_v (some 83) (iV .i64 (now + 9)) (exec_add _ _ _ _ rfl now 9 (by kernel_rfl) (by kernel_rfl) (now + 9) rfl (by omega) (by omega) _) (wq_p 2 [(85, (aV ([(sV (⟨#[97, 110, 110]⟩)), (iV .i64 0), (iV .i64 (now + 9)), (lV A22 16 c22)]).toArray)), (84, (lV A22 16 c22))] ?_))
   refine wq_to (some 86) (x_asN (s2 := s34) (v := .tuple #[(aV ([(sV ByteArray.empty), (sV ByteArray.empty), (lV none 0 0), (lV none 0 0)]).toArray), .int .i64 22]) h36 1 rfl [(pt kb14 0), (iV .i64 now), (aV ([(sV (⟨#[97, 110, 110]⟩)), (iV .i64 0), (iV .i64 (now + 9)), (lV A22 16 c22)]).toArray)] (by kernel_rfl) (as_auth (pre := mkB 98 1) (h36.at_ 1 rfl) (h36.at_ 7 rfl) (h36.dis 1 7 _ _ rfl rfl (by decide)) (ht34.room 9 (by first | decide | simp | omega) (by first | decide | simp | omega)) (h36.at_ 6 rfl) (fun hq => h36.dis 1 6 _ _ rfl rfl (by decide) _ hq rfl) (h36.at_ 5 rfl) (h36.dis 5 1 _ _ rfl rfl (by decide)) (by simp) (u := (User.mk (⟨#[97, 110, 110]⟩) K18 100 100 false)) (place_self rfl).1 (place_self rfl).2 (cc := c0) (unp_er hu) (by rw [ht34.opnRaw (i := 0) rfl (by decide), hu]; rfl))) ?_
   rintro _ w39 ⟨F39, s39, rfl, hs39, h39⟩
   have ht39 : TS s39 2 [⟨kl K18, 1, L⟩, ⟨kl K18, 1, b1⟩] [(textF (⟨#[112, 119]⟩) (⟨#[97, 110, 110]⟩), 2)] := hs39 ▸ ht34
   refine wq_p 3 [(88, (iV .i64 22)), (87, (aV ([(sV ByteArray.empty), (sV ByteArray.empty), (lV none 0 0), (lV none 0 0)]).toArray)), (79, (Value.tuple #[(aV ([(sV ByteArray.empty), (sV ByteArray.empty), (lV none 0 0), (lV none 0 0)]).toArray), (iV .i64 22)]))] ?_
   refine wq_to (some 15) (xN h39 41 ([(sV ByteArray.empty), (sV ByteArray.empty), (lV none 0 0), (lV none 0 0)])) ?_
   rintro _ w40 ⟨g40, rfl, h40⟩
   refine wq_to none (xSs h40 0 41 (.tmp 15) (.tmp 87) 0 ([(sV ByteArray.empty), (sV ByteArray.empty), (lV none 0 0), (lV none 0 0)]) ([(sV ByteArray.empty), (sV ByteArray.empty), (lV none 0 0), (lV none 0 0)])) ?_
   rintro _ w41 h41
   refine wq_p 1 [(16, (iV .i64 22))] ?_
   refine wl_end rfl (seq_n hK37 (wp_seq_k fun K42 hK42 => reg_lit ?_))
   refine wq_p 1 [(90, (lV A L.length c))] ?_
   refine wq_to (some 91) (x_dp h41 15 [(lV A L.length c)] (by kernel_rfl) (up_e hu (unp_any (h41.rd 0 rfl)))) ?_
   rintro _ w43 ⟨rfl, h43⟩
   refine wq_p 5 [(18, (iV .i64 ((c0 : Int)))), (17, Value.nilIface), (93, (iV .i64 ((c0 : Int)))), (92, Value.nilIface), (89, (Value.tuple #[Value.nilIface, (iV .i64 ((c0 : Int)))]))] ?_
   refine wl_end rfl (seq_n hK42 (wp_seq_k fun K44 hK44 => ?_))
   refine wp_reset 127 [(0, (lV A L.length c)), (1, (iV .i64 now)), (4, (bV false)), (5, (pt tb12 0)), (6, (pt kb14 0)), (7, (lV A22 16 c22)), (8, (lV A24 b1.length c24)), (10, (lV A27 16 c27)), (12, (iV .i64 22)), (14, (iV .i64 22)), (16, (iV .i64 22)), (17, Value.nilIface), (18, (iV .i64 ((c0 : Int)))), (23, (bV false)), (34, (bV false)), (41, (bV false))] (fun x45 => ?_)
   refine reg_lit ?_
   refine wq_p 1 [(95, Value.nilIface)] (wq_v (some 96) (Value.tuple #[(aV ([(iV .i64 0), (iV .i64 0)]).toArray), (bV false)]) (pureOp_run (by kernel_rfl) _) (wq_p 3 [(98, (bV false)), (97, (aV ([(iV .i64 0), (iV .i64 0)]).toArray)), (94, (Value.tuple #[(aV ([(iV .i64 0), (iV .i64 0)]).toArray), (bV false)]))] ?_))
   refine wq_to (some 19) (xN h43 49 ([(iV .i64 0), (iV .i64 0)])) ?_
   rintro _ w46 ⟨g46, rfl, h46⟩
   refine wq_to none (xSs h46 0 49 (.tmp 19) (.tmp 97) 0 ([(iV .i64 0), (iV .i64 0)]) ([(iV .i64 0), (iV .i64 0)])) ?_
   rintro _ w47 h47
   refine wq_p 1 [(20, (bV false))] ?_
   refine wl_end rfl (seq_n hK44 (wp_seq_k fun K48 hK48 => reg_lit ?_))
   refine wq_p 1 [(99, (iV .i64 ((c0 : Int))))] (wq_v (some 100) (bV false) (eqI (bV (((c0 : Int)) == 0)) (ieqF (unp_er hu))) (wq_p 10 [(21, (bV false)), (109, (bV false)), (108, undef), (107, undef), (106, undef), (105, undef), (104, (bV false)), (103, (bV false)), (102, undef), (101, (bV false))] ?_))
   refine wl_end rfl (seq_n hK48 (wp_seq_k fun K49 hK49 => reg_lit ?_))
   refine wq_p 18 [(4, (bV true)), (126, (bV true)), (125, (bV true)), (124, (bV false)), (123, (bV false)), (122, (iV .i64 22)), (121, (bV true)), (120, (bV true)), (119, (bV true)), (118, undef), (117, undef), (116, undef), (115, (bV true)), (114, (bV true)), (113, (iV .i64 22)), (112, (bV true)), (111, (bV true)), (110, (iV .i64 22))] ?_
   refine wl_end rfl (seq_n hK49 (wp_ret ?_))
   refine post_1 rfl (by kernel_rfl) (rtm (bV true)) ?_
   exact ⟨rfl, h47.below0⟩
  ·
   refine reg_lit ?_
   refine wq_p 3 [(82, (iV .i64 now)), (81, (iV .i64 now)), (80, (pt kb14 0))] (wq_v (some 83) (iV .i64 (now + 9)) (exec_add _ _ _ _ rfl now 9 (by kernel_rfl) (by kernel_rfl) (now + 9) rfl (by omega) (by omega) _) (wq_p 2 [(85, (aV ([(sV (⟨#[97, 110, 110]⟩)), (iV .i64 0), (iV .i64 (now + 9)), (lV A22 16 c22)]).toArray)), (84, (lV A22 16 c22))] ?_))
   refine wq_to (some 86) (x_asN (s2 := s34) (v := .tuple #[(aV ([(sV ByteArray.empty), (sV ByteArray.empty), (lV none 0 0), (lV none 0 0)]).toArray), .int .i64 22]) h36 1 rfl [(pt kb14 0), (iV .i64 now), (aV ([(sV (⟨#[97, 110, 110]⟩)), (iV .i64 0), (iV .i64 (now + 9)), (lV A22 16 c22)]).toArray)] (by kernel_rfl) (as_auth (pre := mkB 98 1) (h36.at_ 1 rfl) (h36.at_ 7 rfl) (h36.dis 1 7 _ _ rfl rfl (by decide)) (ht34.room 9 (by first | decide | simp | omega) (by first | decide | simp | omega)) (h36.at_ 6 rfl) (fun hq => h36.dis 1 6 _ _ rfl rfl (by decide) _ hq rfl) (h36.at_ 5 rfl) (h36.dis 5 1 _ _ rfl rfl (by decide)) (by simp) (u := (User.mk (⟨#[97, 110, 110]⟩) K18 100 100 false)) (place_self rfl).1 (place_self rfl).2 (cc := 4) (by decide) (by rw [ht34.opnRaw (i := 0) rfl (by decide), hu]; exact outStamp_no hty))) ?_
   rintro _ w50 ⟨F50, s50, rfl, hs50, h50⟩
   have ht50 : TS s50 2 [⟨kl K18, 1, L⟩, ⟨kl K18, 1, b1⟩] [(textF (⟨#[112, 119]⟩) (⟨#[97, 110, 110]⟩), 2)] := hs50 ▸ ht34
   refine wq_p 3 [(88, (iV .i64 22)), (87, (aV ([(sV ByteArray.empty), (sV ByteArray.empty), (lV none 0 0), (lV none 0 0)]).toArray)), (79, (Value.tuple #[(aV ([(sV ByteArray.empty), (sV ByteArray.empty), (lV none 0 0), (lV none 0 0)]).toArray), (iV .i64 22)]))] ?_
   refine wq_to (some 15) (xN h50 41 ([(sV ByteArray.empty), (sV ByteArray.empty), (lV none 0 0), (lV none 0 0)])) ?_
   rintro _ w51 ⟨g51, rfl, h51⟩
   refine wq_to none (xSs h51 0 41 (.tmp 15) (.tmp 87) 0 ([(sV ByteArray.empty), (sV ByteArray.empty), (lV none 0 0), (lV none 0 0)]) ([(sV ByteArray.empty), (sV ByteArray.empty), (lV none 0 0), (lV none 0 0)])) ?_
   rintro _ w52 h52
   refine wq_p 1 [(16, (iV .i64 22))] ?_
   refine wl_end rfl (seq_n hK37 (wp_seq_k fun K53 hK53 => reg_lit ?_))
   refine wq_p 1 [(90, (lV A L.length c))] ?_
   refine wq_to (some 91) (x_unp h52 hu [(lV A L.length c)] (by kernel_rfl) (unp_any (h52.rd 0 rfl))) ?_
   rintro _ w54 ⟨G54, x54, rfl, h54⟩
   obtain ⟨v54, rfl⟩ := (h54.at_ 0 rfl).2.ty
   refine wq_p 5 [(18, (iV .i64 0)), (17, (Value.iface (tyTh t0) v54)), (93, (iV .i64 0)), (92, (Value.iface (tyTh t0) v54)), (89, (Value.tuple #[(Value.iface (tyTh t0) v54), (iV .i64 0)]))] ?_
   refine wl_end rfl (seq_n hK53 (wp_seq_k fun K55 hK55 => ?_))
   refine wp_reset 127 [(0, (lV A L.length c)), (1, (iV .i64 now)), (4, (bV false)), (5, (pt tb12 0)), (6, (pt kb14 0)), (7, (lV A22 16 c22)), (8, (lV A24 b1.length c24)), (10, (lV A27 16 c27)), (12, (iV .i64 22)), (14, (iV .i64 22)), (16, (iV .i64 22)), (17, (Value.iface (tyTh t0) v54)), (18, (iV .i64 0)), (23, (bV false)), (34, (bV false)), (41, (bV false))] (fun x56 => ?_)
   refine reg_lit ?_
   refine wq_p 1 [(95, (Value.iface (tyTh t0) v54))] (wq_v (some 96) (Value.tuple #[(aV ([(iV .i64 0), (iV .i64 0)]).toArray), (bV false)]) (e_asNo (T' := tyTh t0) (ta := 49) (xt := 20) (v := v54) (.tmp 95) (by kernel_rfl) (by kernel_rfl) hty (by kernel_rfl) (by kernel_rfl) _) (wq_p 3 [(98, (bV false)), (97, (aV ([(iV .i64 0), (iV .i64 0)]).toArray)), (94, (Value.tuple #[(aV ([(iV .i64 0), (iV .i64 0)]).toArray), (bV false)]))] ?_))
   refine wq_to (some 19) (xN h54 49 ([(iV .i64 0), (iV .i64 0)])) ?_
   rintro _ w57 ⟨g57, rfl, h57⟩
   refine wq_to none (xSs h57 0 49 (.tmp 19) (.tmp 97) 0 ([(iV .i64 0), (iV .i64 0)]) ([(iV .i64 0), (iV .i64 0)])) ?_
   rintro _ w58 h58
   refine wq_p 1 [(20, (bV false))] ?_
   refine wl_end rfl (seq_n hK55 (wp_seq_k fun K59 hK59 => reg_lit ?_))
   refine wq_p 1 [(99, (iV .i64 0))] (wq_v (some 100) (bV true) (pureOp_run (by kernel_rfl) _) (wq_p 10 [(21, (bV false)), (109, (bV false)), (108, undef), (107, undef), (106, undef), (105, undef), (104, (bV false)), (103, (bV false)), (102, (bV false)), (101, (bV true))] ?_))
   refine wl_end rfl (seq_n hK59 (wp_seq_k fun K60 hK60 => reg_lit ?_))
   refine wq_p 18 [(4, (bV true)), (126, (bV true)), (125, (bV true)), (124, (bV false)), (123, (bV false)), (122, (iV .i64 22)), (121, (bV true)), (120, (bV true)), (119, (bV true)), (118, undef), (117, undef), (116, undef), (115, (bV true)), (114, (bV true)), (113, (iV .i64 22)), (112, (bV true)), (111, (bV true)), (110, (iV .i64 22))] ?_
   refine wl_end rfl (seq_n hK60 (wp_ret ?_))
   refine post_1 rfl (by kernel_rfl) (rtm (bV true)) ?_
   exact ⟨rfl, h58.below0⟩
  ·
   refine reg_lit ?_
   refine wq_p 3 [(82, (iV .i64 now)), (81, (iV .i64 now)), (80, (pt kb14 0))] (wq_v (some 83) (iV .i64 (now + 9)) (exec_add _ _ _ _ rfl now 9 (by kernel_rfl) (by kernel_rfl) (now + 9) rfl (by omega) (by omega) _) (wq_p 2 [(85, (aV ([(sV (⟨#[97, 110, 110]⟩)), (iV .i64 0), (iV .i64 (now + 9)), (lV A22 16 c22)]).toArray)), (84, (lV A22 16 c22))] ?_))
   refine wq_to (some 86) (x_asN (s2 := s34) (v := .tuple #[(aV ([(sV ByteArray.empty), (sV ByteArray.empty), (lV none 0 0), (lV none 0 0)]).toArray), .int .i64 11]) h36 1 rfl [(pt kb14 0), (iV .i64 now), (aV ([(sV (⟨#[97, 110, 110]⟩)), (iV .i64 0), (iV .i64 (now + 9)), (lV A22 16 c22)]).toArray)] (by kernel_rfl) (as_skew (pre := mkB 98 1) (h36.at_ 1 rfl) (h36.at_ 7 rfl) (h36.dis 1 7 _ _ rfl rfl (by decide)) (ht34.room 9 (by first | decide | simp | omega) (by first | decide | simp | omega)) (h36.at_ 6 rfl) (fun hq => h36.dis 1 6 _ _ rfl rfl (by decide) _ hq rfl) (h36.at_ 5 rfl) (h36.dis 5 1 _ _ rfl rfl (by decide)) (by simp) (u := (User.mk (⟨#[97, 110, 110]⟩) K18 100 100 false)) (place_self rfl).1 (place_self rfl).2 (t := t1) (q := q1) ((ht34.opnRaw (i := 0) rfl (by decide)).trans hu) hn)) ?_
   rintro _ w61 ⟨F61, s61, rfl, hs61, h61⟩
   have ht61 : TS s61 2 [⟨kl K18, 1, L⟩, ⟨kl K18, 1, b1⟩] [(textF (⟨#[112, 119]⟩) (⟨#[97, 110, 110]⟩), 2)] := hs61 ▸ ht34
   refine wq_p 3 [(88, (iV .i64 11)), (87, (aV ([(sV ByteArray.empty), (sV ByteArray.empty), (lV none 0 0), (lV none 0 0)]).toArray)), (79, (Value.tuple #[(aV ([(sV ByteArray.empty), (sV ByteArray.empty), (lV none 0 0), (lV none 0 0)]).toArray), (iV .i64 11)]))] ?_
   refine wq_to (some 15) (xN h61 41 ([(sV ByteArray.empty), (sV ByteArray.empty), (lV none 0 0), (lV none 0 0)])) ?_
   rintro _ w62 ⟨g62, rfl, h62⟩
   refine wq_to none (xSs h62 0 41 (.tmp 15) (.tmp 87) 0 ([(sV ByteArray.empty), (sV ByteArray.empty), (lV none 0 0), (lV none 0 0)]) ([(sV ByteArray.empty), (sV ByteArray.empty), (lV none 0 0), (lV none 0 0)])) ?_
   rintro _ w63 h63
   refine wq_p 1 [(16, (iV .i64 11))] ?_
   refine wl_end rfl (seq_n hK37 (wp_seq_k fun K64 hK64 => reg_lit ?_))
   refine wq_p 1 [(90, (lV A L.length c))] ?_
   refine wq_to (some 91) (x_unp h63 hu [(lV A L.length c)] (by kernel_rfl) (unp_any (h63.rd 0 rfl))) ?_
   rintro _ w65 ⟨G65, x65, rfl, h65⟩
   obtain rfl : x65 = (Value.iface 49 (aV ([(iV .i64 t1), (iV .i64 q1)]).toArray)) := (h65.at_ 0 rfl).2
   refine wq_p 5 [(18, (iV .i64 0)), (17, (Value.iface 49 (aV ([(iV .i64 t1), (iV .i64 q1)]).toArray))), (93, (iV .i64 0)), (92, (Value.iface 49 (aV ([(iV .i64 t1), (iV .i64 q1)]).toArray))), (89, (Value.tuple #[(Value.iface 49 (aV ([(iV .i64 t1), (iV .i64 q1)]).toArray)), (iV .i64 0)]))] ?_
   refine wl_end rfl (seq_n hK64 (wp_seq_k fun K66 hK66 => ?_))
   refine wp_reset 127 [(0, (lV A L.length c)), (1, (iV .i64 now)), (4, (bV false)), (5, (pt tb12 0)), (6, (pt kb14 0)), (7, (lV A22 16 c22)), (8, (lV A24 b1.length c24)), (10, (lV A27 16 c27)), (12, (iV .i64 22)), (14, (iV .i64 22)), (16, (iV .i64 11)), (17, (Value.iface 49 (aV ([(iV .i64 t1), (iV .i64 q1)]).toArray))), (18, (iV .i64 0)), (23, (bV false)), (34, (bV false)), (41, (bV false))] (fun x67 => ?_)
   refine reg_lit ?_
   refine wq_p 1 [(95, (Value.iface 49 (aV ([(iV .i64 t1), (iV .i64 q1)]).toArray)))] (wq_v (some 96) (Value.tuple #[(aV ([(iV .i64 t1), (iV .i64 q1)]).toArray), (bV true)]) (pureOp_run (by kernel_rfl) _) (wq_p 3 [(98, (bV true)), (97, (aV ([(iV .i64 t1), (iV .i64 q1)]).toArray)), (94, (Value.tuple #[(aV ([(iV .i64 t1), (iV .i64 q1)]).toArray), (bV true)]))] ?_))
   refine wq_to (some 19) (xN h65 49 ([(iV .i64 0), (iV .i64 0)])) ?_
   rintro _ w68 ⟨g68, rfl, h68⟩
   refine wq_to none (xSs h68 0 49 (.tmp 19) (.tmp 97) 0 ([(iV .i64 t1), (iV .i64 q1)]) ([(iV .i64 t1), (iV .i64 q1)])) ?_
   rintro _ w69 h69
   refine wq_p 1 [(20, (bV true))] ?_
   refine wl_end rfl (seq_n hK66 (wp_seq_k fun K70 hK70 => reg_lit ?_))
   refine wq_p 1 [(99, (iV .i64 0))] (wq_v (some 100) (bV true) (pureOp_run (by kernel_rfl) _) (wq_p 6 [(106, (pt g68 0)), (105, (iV .i64 now)), (104, (bV true)), (103, (bV true)), (102, (bV true)), (101, (bV true))] (wq_v (some 107) (iV .i64 t1) (eL (h69.at_ 0 rfl) 2 (.tmp 106) 0 _) ?_)))
   refine wq_to (some 108) (x_dp (v := .bool false) h69 16 [(iV .i64 now), (iV .i64 t1)] (by kernel_rfl) (hn ▸ rnear_any now t1 _)) ?_
   rintro _ w71 ⟨rfl, h71⟩
   refine wq_p 2 [(21, (bV false)), (109, (bV false))] ?_
   refine wl_end rfl (seq_n hK70 (wp_seq_k fun K72 hK72 => reg_lit ?_))
   refine wq_p 18 [(4, (bV true)), (126, (bV true)), (125, (bV true)), (124, (bV false)), (123, (bV false)), (122, (iV .i64 11)), (121, (bV true)), (120, (bV true)), (119, (bV true)), (118, undef), (117, undef), (116, undef), (115, (bV true)), (114, (bV true)), (113, (iV .i64 22)), (112, (bV true)), (111, (bV true)), (110, (iV .i64 22))] ?_
   refine wl_end rfl (seq_n hK72 (wp_ret ?_))
   refine post_1 rfl (by kernel_rfl) (rtm (bV true)) ?_
   exact ⟨rfl, h71.below0⟩
  ·
   refine reg_lit ?_
   refine wq_p 3 [(82, (iV .i64 now)), (81, (iV .i64 now)), (80, (pt kb14 0))] (wq_v (some 83) (iV .i64 (now + 9)) (exec_add _ _ _ _ rfl now 9 (by kernel_rfl) (by kernel_rfl) (now + 9) rfl (by omega) (by omega) _) (wq_p 2 [(85, (aV ([(sV (⟨#[97, 110, 110]⟩)), (iV .i64 0), (iV .i64 (now + 9)), (lV A22 16 c22)]).toArray)), (84, (lV A22 16 c22))] ?_))
   obtain ⟨Kf, hKf⟩ := ex_key 3
   obtain ⟨b2, hp2⟩ := pack_inside (f := 5) (K := Kf) (s := ⟨#[97, 110, 110]⟩) (a := now) (u := (min (now + 9) (now + 100))) (r := (now + 100)) (rightM_is right_ann (by intro x hx; simp only [List.mem_cons, List.not_mem_nil, or_false] at hx; rcases hx with rfl | rfl | rfl | rfl <;> exact inN_is (by omega) (by omega))) (by decide)
   obtain ⟨b3, hp3⟩ := pack_reply (f := 5) (K := Kf) (n := 0) (s := ⟨#[107, 100, 99]⟩) (a := now) (u := (min (now + 9) (now + 100))) (r := (now + 100)) (rightM_is right_kdc (by intro x hx; simp only [List.mem_cons, List.not_mem_nil, or_false] at hx; rcases hx with rfl | rfl | rfl | rfl | rfl <;> exact inN_is (by omega) (by omega))) (by decide)
   refine wq_to (some 86) (x_asY (s2 := (((s34.add SFrom.fresh).seal (kl K14) 2 b2).seal (kl K18) 3 b3)) (nm := ⟨#[97, 110, 110]⟩) (m1 := mkB 98 (s34.boxes.length + 1)) (m2 := mkB 98 (s34.boxes.length + 2)) h36 1 rfl [(pt kb14 0), (iV .i64 now), (aV ([(sV (⟨#[97, 110, 110]⟩)), (iV .i64 0), (iV .i64 (now + 9)), (lV A22 16 c22)]).toArray)] (by kernel_rfl) (as_ok_r (pre := mkB 98 1) (h36.at_ 1 rfl) (h36.at_ 7 rfl) (h36.dis 1 7 _ _ rfl rfl (by decide)) (ht34.room 9 (by first | decide | simp | omega) (by first | decide | simp | omega)) (h36.at_ 6 rfl) (fun hq => h36.dis 1 6 _ _ rfl rfl (by decide) _ hq rfl) (h36.at_ 5 rfl) (h36.dis 5 1 _ _ rfl rfl (by decide)) (by simp) (u := (User.mk (⟨#[97, 110, 110]⟩) K18 100 100 false)) (place_self rfl).1 (place_self rfl).2 (t := t1) (q := q1) ((ht34.opnRaw (i := 0) rfl (by decide)).trans hu) hn (by omega) ⟨by omega, by omega⟩ (show (0 : Int) <= 100 /\ (100 : Int) <= 600 from by decide) (show (0 : Int) < 100 /\ (100 : Int) <= 6000 from by decide) (show (3 : Nat) <= 1000 from by decide) Kf (hKf.trans (by rw [ht34.keys])) hp2 hp3)) ?_
   rintro _ w73 ⟨A73, c73, B73, d73, F73, s73, rfl, hs73, h73⟩
   have hbn73 : s34.boxes.length = 2 := by rw [ht34.boxes]; rfl
   rw [hbn73] at h73
   have ht73 : TS s73 3 [⟨kl K18, 1, L⟩, ⟨kl K18, 1, b1⟩, ⟨kl K14, 2, b2⟩, ⟨kl K18, 3, b3⟩] [(textF (⟨#[112, 119]⟩) (⟨#[97, 110, 110]⟩), 2)] := ((ht34.add rfl).seal rfl (pack_le6 hp2)).seal hs73 (pack_le6 hp3)
   refine wq_p 3 [(88, (iV .i64 0)), (87, (aV ([(sV (⟨#[97, 110, 110]⟩)), (sV (⟨#[107, 100, 99]⟩)), (lV A73 16 c73), (lV B73 16 d73)]).toArray)), (79, (Value.tuple #[(aV ([(sV (⟨#[97, 110, 110]⟩)), (sV (⟨#[107, 100, 99]⟩)), (lV A73 16 c73), (lV B73 16 d73)]).toArray), (iV .i64 0)]))] ?_
   refine wq_to (some 15) (xN h73 41 ([(sV ByteArray.empty), (sV ByteArray.empty), (lV none 0 0), (lV none 0 0)])) ?_
   rintro _ w74 ⟨g74, rfl, h74⟩
   refine wq_to none (xSs h74 0 41 (.tmp 15) (.tmp 87) 0 ([(sV (⟨#[97, 110, 110]⟩)), (sV (⟨#[107, 100, 99]⟩)), (lV A73 16 c73), (lV B73 16 d73)]) ([(sV (⟨#[97, 110, 110]⟩)), (sV (⟨#[107, 100, 99]⟩)), (lV A73 16 c73), (lV B73 16 d73)])) ?_
   rintro _ w75 h75
   refine wq_p 1 [(16, (iV .i64 0))] ?_
   refine wl_end rfl (seq_n hK37 (wp_seq_k fun K76 hK76 => reg_lit ?_))
   refine wq_p 1 [(90, (lV A L.length c))] ?_
   refine wq_to (some 91) (x_unp h75 hu [(lV A L.length c)] (by kernel_rfl) (unp_any (h75.rd 0 rfl))) ?_
   rintro _ w77 ⟨G77, x77, rfl, h77⟩
   obtain rfl : x77 = (Value.iface 49 (aV ([(iV .i64 t1), (iV .i64 q1)]).toArray)) := (h77.at_ 0 rfl).2
   refine wq_p 5 [(18, (iV .i64 0)), (17, (Value.iface 49 (aV ([(iV .i64 t1), (iV .i64 q1)]).toArray))), (93, (iV .i64 0)), (92, (Value.iface 49 (aV ([(iV .i64 t1), (iV .i64 q1)]).toArray))), (89, (Value.tuple #[(Value.iface 49 (aV ([(iV .i64 t1), (iV .i64 q1)]).toArray)), (iV .i64 0)]))] ?_
   refine wl_end rfl (seq_n hK76 (wp_seq_k fun K78 hK78 => ?_))
   refine wp_reset 127 [(0, (lV A L.length c)), (1, (iV .i64 now)), (4, (bV false)), (5, (pt tb12 0)), (6, (pt kb14 0)), (7, (lV A22 16 c22)), (8, (lV A24 b1.length c24)), (10, (lV A27 16 c27)), (12, (iV .i64 22)), (14, (iV .i64 22)), (16, (iV .i64 0)), (17, (Value.iface 49 (aV ([(iV .i64 t1), (iV .i64 q1)]).toArray))), (18, (iV .i64 0)), (23, (bV false)), (34, (bV false)), (41, (bV false))] (fun x79 => ?_)
   refine reg_lit ?_
   refine wq_p 1 [(95, (Value.iface 49 (aV ([(iV .i64 t1), (iV .i64 q1)]).toArray)))] (wq_v (some 96) (Value.tuple #[(aV ([(iV .i64 t1), (iV .i64 q1)]).toArray), (bV true)]) (pureOp_run (by kernel_rfl) _) (wq_p 3 [(98, (bV true)), (97, (aV ([(iV .i64 t1), (iV .i64 q1)]).toArray)), (94, (Value.tuple #[(aV ([(iV .i64 t1), (iV .i64 q1)]).toArray), (bV true)]))] ?_))
   refine wq_to (some 19) (xN h77 49 ([(iV .i64 0), (iV .i64 0)])) ?_
   rintro _ w80 ⟨g80, rfl, h80⟩
   refine wq_to none (xSs h80 0 49 (.tmp 19) (.tmp 97) 0 ([(iV .i64 t1), (iV .i64 q1)]) ([(iV .i64 t1), (iV .i64 q1)])) ?_
   rintro _ w81 h81
   refine wq_p 1 [(20, (bV true))] ?_
   refine wl_end rfl (seq_n hK78 (wp_seq_k fun K82 hK82 => reg_lit ?_))
   refine wq_p 1 [(99, (iV .i64 0))] (wq_v (some 100) (bV true) (pureOp_run (by kernel_rfl) _) (wq_p 6 [(106, (pt g80 0)), (105, (iV .i64 now)), (104, (bV true)), (103, (bV true)), (102, (bV true)), (101, (bV true))] (wq_v (some 107) (iV .i64 t1) (eL (h81.at_ 0 rfl) 2 (.tmp 106) 0 _) ?_)))
   refine wq_to (some 108) (x_dp (v := .bool true) h81 16 [(iV .i64 now), (iV .i64 t1)] (by kernel_rfl) (hn ▸ rnear_any now t1 _)) ?_
   rintro _ w83 ⟨rfl, h83⟩
   refine wq_p 2 [(21, (bV true)), (109, (bV true))] ?_
   refine wl_end rfl (seq_n hK82 (wp_seq_k fun K84 hK84 => reg_lit ?_))
   refine wq_p 18 [(4, (bV true)), (126, (bV true)), (125, (bV true)), (124, (bV true)), (123, (bV true)), (122, (iV .i64 0)), (121, (bV true)), (120, (bV true)), (119, (bV true)), (118, undef), (117, undef), (116, undef), (115, (bV true)), (114, (bV true)), (113, (iV .i64 22)), (112, (bV true)), (111, (bV true)), (110, (iV .i64 22))] ?_
   refine wl_end rfl (seq_n hK84 (wp_ret ?_))
   refine post_1 rfl (by kernel_rfl) (rtm (bV true)) ?_
   exact ⟨rfl, h83.below0⟩
theorem kasBad_all (x : Value) (L : Bytes) (now : Int) (w : World) (hv : SB w x L) : Calls Try.prog 3 #[x, .int .i64 now] w (DPost w (.bool true)) := by
 obtain ⟨A, c, rfl, _⟩ := id hv
 exact kasBad_any hv now
end
section
open Go.ChangeShapes Go.WideShapes Go.ChangeAt Go.RowKit
theorem kasBad_lifted (os : Os) (started : os.Started) (H : Type) (enc : TypeId × Value -> H) :
   ReturnsInHanded {} Try.checked os 3 .any (Rows.kasBadSpec.pre6 enc Try.prog Try.f3 Rows.kasBadRow.domain false) (Rows.kasBadSpec.post enc Try.prog Try.f3 false true false false) := by
 refine returnsInHanded_of_change (C := Try.checked) Try.own started (by kernel_rfl) Try.func3
   (ChangeSpec.witness6 (enc := enc) (C := Try.checked) false ⟨#[], #[.slice none 0 0, .int .i64 0], []⟩ 8 (by kernel_rfl) (by kernel_rfl) (by kernel_rfl) (by kernel_rfl)) ?_
 intro W base args ds gs before hval0 hW hcnd _
 have hval : ∀ (j : Nat) t v, Try.f3.params[j]? = some t -> args[j]? = some v -> Value.okWide Try.prog W .any base t v := hval0
 have hpost : ∀ W', Below W.heap.size W W' -> Rows.kasBadSpec.post enc Try.prog Try.f3 false true false false W args (.bool true) W' := fun W' hb =>
   law_post Try.laidOut (by kernel_rfl) Try.underlying4 rfl rfl (fun ds hds => by
     have hn : ds.length = 2 := hds
     match ds, hn with
     | [_, _], _ => rfl) hW hb
 obtain ⟨p, q, hA0, hV, rfl, hfz, hnd⟩ := hW
 have hA : DataW.TrodAll enc Try.prog W 0 (fun _ => true) true Try.f3.params.toList args.toList ds p := hA0
 rw [Try.params3] at hA hval
 clear hA0 hval0
 obtain ⟨v0, v1, d0, d1, p0, p1, rfl, rfl, rfl, h0, h1⟩ := trodAll_two hA
 obtain ⟨b0, hb0⟩ := open_bs (hval 0 22 v0 rfl rfl) h0
 obtain ⟨n1, rfl, rfl, rfl, hn1⟩ := open_int (t := 2) (k := .i64) (by kernel_rfl) (hval 1 2 v1 rfl rfl) h1
 refine (kasBad_all v0 b0 n1 W hb0).mono fun e W' ⟨he, hw⟩ => ?_
 subst he
 exact ⟨_, rfl, hpost W' hw⟩
theorem kasBad_holds : Rows.KasBadSaid :=
 OpenClaim.holds_of_wide 3 Try.f3 rfl rfl rfl rfl rfl rfl rfl ⟨rfl, rfl, rfl, rfl, rfl⟩ rfl rfl rfl rfl rfl (by kernel_rfl) Try.func3 (by kernel_rfl)
   (of_decide_eq_true (by kernel_rfl)) (by unfold Func.isWrapper; first | (rw [if_pos (by decide +kernel)]; kernel_rfl) | (rw [if_neg (by decide +kernel)]; exact ⟨rfl, rfl⟩))
   (fun os started H enc _ => kasBad_lifted os started H enc)
end
end Go.Proofs.Ytecomegocafocaa
