/- Structs of numbers, strings and keys that come in: opened (law14). -/
import Derived.ProofKit
import Derived.Carry
import Derived.ChangeShapes
import Derived.ChangeMaps5
import Derived.Test.YtecomegocafocaaCA17
set_option maxRecDepth 100000
set_option maxHeartbeats 4000000
namespace Go.Proofs.Ytecomegocafocaa
section
open Go.Value renaming int -> iV, slice -> lV, string -> sV, bool -> bV, agg -> aV
open Go.RowKit Go.QT
theorem right_ann : rightN ⟨#[97, 110, 110]⟩ = true := by decide +kernel
theorem right_kdc : rightN ⟨#[107, 100, 99]⟩ = true := by decide +kernel
theorem alive14_any (w : World) : Calls Try.prog 7 #[] w (DPost w (.bool true)) := by
 have h0 := Hp.nil (fun _ => False) w
 refine enter 104 Try.func7 rfl rfl ?_
 refine wp_reset 104 [] (fun x0 => ?_)
 refine wp_seq_k fun K1 hK1 => reg_lit ?_
 refine wq_p 1 [(0, (bV false))] ?_
 refine wl_end rfl (seq_n hK1 (wp_seq_k fun K2 hK2 => reg_lit ?_))
 refine wq_to (some 11) (x_snew h0 (by kernel_rfl)) ?_
 rintro _ w3 ⟨tb3, F3, rfl, h3⟩
 refine wq_p 1 [(1, (pt tb3 0))] ?_
 refine wl_end rfl (seq_n hK2 (wp_seq_k fun K4 hK4 => reg_lit ?_))
 refine wq_p 2 [(13, (Value.iface 24 (pt tb3 0))), (12, (pt tb3 0))] ?_
 refine wq_to (some 14) (x_knew h3 0 rfl ((TS.empty.room 9 (by first | decide | simp | omega) (by first | decide | simp | omega)).less (by decide)) (by kernel_rfl)) ?_
 rintro _ w5 ⟨kb5, G5, bb5, F5, K5, s5, rfl, hK5, hs5, h5⟩
 rw [TS.empty.keys] at hK5
 have ht5 : TS s5 1 [] [] := TS.empty.add hs5
 refine wq_p 1 [(2, (pt kb5 0))] ?_
 refine wl_end rfl (seq_n hK4 (wp_seq_k fun K6 hK6 => wp_seq_k fun K7 hK7 => reg_lit ?_))
 refine wq_p 6 [(20, (pt kb5 1)), (19, (pt kb5 0)), (18, (pt kb5 0)), (17, (bV false)), (16, (bV false)), (15, (pt kb5 0))] (wq_v (some 21) (pt bb5 0) (eL (h5.at_ 0 rfl) 71 (.tmp 20) 1 _) (wq_p 4 [(25, (pt kb5 0)), (24, (bV false)), (23, (bV false)), (22, (bV false))] ?_))
 have hnum8 := (ht5.made_new (f := textF (⟨#[112, 119]⟩) (⟨#[97, 110, 110]⟩)) rfl (by simp)).2
 obtain ⟨K8, hK8⟩ := ex_key 2
 refine wq_to (some 26) (x_enrol (us' := [(User.mk (⟨#[97, 110, 110]⟩) K8 60 300 true)]) (f := textF (⟨#[112, 119]⟩) (⟨#[97, 110, 110]⟩)) (er := 0) h5 2 1 rfl rfl rfl [(pt kb5 0), (sV (⟨#[97, 110, 110]⟩)), (sV (⟨#[112, 119]⟩)), (iV .i64 60), (iV .i64 300), (bV true)] (by kernel_rfl) (enrol_ok (h5.at_ 2 rfl) (h5.at_ 1 rfl) (h5.dis 2 1 _ _ rfl rfl (by decide)) ((ht5.room 9 (by first | decide | simp | omega) (by first | decide | simp | omega)).less (by decide)) (h5.at_ 0 rfl) (fun hq => h5.dis 2 0 _ _ rfl rfl (by decide) _ hq rfl) (fun hq => h5.dis 1 0 _ _ rfl rfl (by decide) _ hq rfl) (by first | decide | omega) (by first | decide | omega) K8 (hK8.trans (by rw [hnum8])) (by decide) right_ann (by decide) rfl (by decide) rfl)) ?_
 rintro _ w9 ⟨F9, G9, s9, rfl, hs9, h9⟩
 have hq9 := ht5.made_new hs9 (by simp)
 have ht9 : TS s9 2 [] [(textF (⟨#[112, 119]⟩) (⟨#[97, 110, 110]⟩), 2)] := hq9.1
 refine wq_p 2 [(28, (bV false)), (27, (bV false))] ?_
 refine wl_end rfl (seq_n hK7 (cF (wp_skip (seq_n hK6 (wp_seq_k fun K10 hK10 => reg_lit ?_)))))
 refine wq_p 3 [(32, (pt tb3 0)), (31, (Value.iface 24 (pt tb3 0))), (30, (pt tb3 0))] ?_
 refine wq_to (some 33) (x_text h9 2 rfl (⟨#[112, 119]⟩) (⟨#[97, 110, 110]⟩) (by kernel_rfl) (by first | decide | omega) (by first | decide | omega) (by rw [ht9.keys]; decide)) ?_
 rintro _ w11 ⟨K11, F11, s11, rfl, hK11, hs11, h11⟩
 have hq11 := ht9.made_old (m := 2) hs11 (by simp)
 have ht11 : TS s11 2 [] [(textF (⟨#[112, 119]⟩) (⟨#[97, 110, 110]⟩), 2)] := hq11.1
 rw [hq11.2] at hK11
 obtain rfl : K8 = K11 := kl_inj (hK8.trans hK11.symm)
 refine wq_p 2 [(35, (Value.iface 49 (aV ([(iV .i64 100), (iV .i64 0)]).toArray))), (34, (aV ([(iV .i64 100), (iV .i64 0)]).toArray))] ?_
 obtain ⟨b0, hp0⟩ := pack_stamp (t := 100) (q := 0) rfl rfl
 refine wq_to (some 36) (x_tseal h11 2 rfl K8 1 hp0 (by kernel_rfl) ((ht11.room 9 (by first | decide | simp | omega) (by first | decide | simp | omega)).ok) (rTh_stamp _ 100 0) (fun _ hf => hf.elim) True.intro) ?_
 rintro _ w12 ⟨A12, c12, F12, s12, rfl, hs12, h12⟩
 have hbn12 : s11.boxes.length + 1 = 1 := by rw [ht11.boxes]; rfl
 rw [hbn12] at h12
 have ht12 : TS s12 2 [⟨kl K8, 1, b0⟩] [(textF (⟨#[112, 119]⟩) (⟨#[97, 110, 110]⟩), 2)] := ht11.seal hs12 (pack_le6 hp0)
 refine wq_p 5 [(4, (iV .i64 0)), (3, (lV A12 16 c12)), (38, (iV .i64 0)), (37, (lV A12 16 c12)), (29, (Value.tuple #[(lV A12 16 c12), (iV .i64 0)]))] ?_
 refine wl_end rfl (seq_n hK10 (wp_seq_k fun K13 hK13 => ?_))
 refine wp_reset 104 [(0, (bV false)), (1, (pt tb3 0)), (2, (pt kb5 0)), (3, (lV A12 16 c12)), (28, (bV false))] (fun x14 => ?_)
 refine reg_lit ?_
 refine wq_p 3 [(42, (aV ([(sV (⟨#[97, 110, 110]⟩)), (iV .i64 7), (iV .i64 1000), (lV A12 16 c12)]).toArray)), (41, (lV A12 16 c12)), (40, (pt kb5 0))] ?_
 obtain ⟨Kf, hKf⟩ := ex_key 3
 obtain ⟨b1, hp1⟩ := pack_inside (f := 5) (K := Kf) (s := ⟨#[97, 110, 110]⟩) (a := 110) (u := min 1000 (110 + 60)) (r := 110 + 300) (rightM_is right_ann (by decide)) (by decide)
 obtain ⟨b2, hp2⟩ := pack_reply (f := 5) (K := Kf) (n := 7) (s := ⟨#[107, 100, 99]⟩) (a := 110) (u := min 1000 (110 + 60)) (r := 110 + 300) (rightM_is right_kdc (by decide)) (by decide)
 refine wq_to (some 43) (x_asY (s2 := (((s12.add SFrom.fresh).seal (kl K5) 2 b1).seal (kl K8) 3 b2)) (nm := ⟨#[97, 110, 110]⟩) (m1 := mkB 98 (s12.boxes.length + 1)) (m2 := mkB 98 (s12.boxes.length + 2)) h12 0 rfl [(pt kb5 0), (iV .i64 110), (aV ([(sV (⟨#[97, 110, 110]⟩)), (iV .i64 7), (iV .i64 1000), (lV A12 16 c12)]).toArray)] (by kernel_rfl) (as_ok_r (pre := mkB 98 1) (h12.at_ 0 rfl) (h12.at_ 3 rfl) (h12.dis 0 3 _ _ rfl rfl (by decide)) (ht12.room 9 (by first | decide | simp | omega) (by first | decide | simp | omega)) (h12.at_ 2 rfl) (fun hq => h12.dis 0 2 _ _ rfl rfl (by decide) _ hq rfl) (h12.at_ 1 rfl) (h12.dis 1 0 _ _ rfl rfl (by decide)) (by simp) (u := (User.mk (⟨#[97, 110, 110]⟩) K8 60 300 true)) (place_self rfl).1 (place_self rfl).2 (t := 100) (q := 0) (ht12.opn (i := 0) rfl hp0 (by decide)) rfl (by decide) (by decide) (by simp) (by simp) (show (3 : Nat) <= 1000 from by decide) Kf (hKf.trans (by rw [ht12.keys])) hp1 hp2)) ?_
 rintro _ w15 ⟨A15, c15, B15, d15, F15, s15, rfl, hs15, h15⟩
 have hbn15 : s12.boxes.length = 1 := by rw [ht12.boxes]; rfl
 rw [hbn15] at h15
 have ht15 : TS s15 3 [⟨kl K8, 1, b0⟩, ⟨kl K5, 2, b1⟩, ⟨kl K8, 3, b2⟩] [(textF (⟨#[112, 119]⟩) (⟨#[97, 110, 110]⟩), 2)] := ((ht12.add rfl).seal rfl (pack_le6 hp1)).seal hs15 (pack_le6 hp2)
 refine wq_p 3 [(45, (iV .i64 0)), (44, (aV ([(sV (⟨#[97, 110, 110]⟩)), (sV (⟨#[107, 100, 99]⟩)), (lV A15 16 c15), (lV B15 16 d15)]).toArray)), (39, (Value.tuple #[(aV ([(sV (⟨#[97, 110, 110]⟩)), (sV (⟨#[107, 100, 99]⟩)), (lV A15 16 c15), (lV B15 16 d15)]).toArray), (iV .i64 0)]))] ?_
 refine wq_to (some 5) (xN h15 41 ([(sV ByteArray.empty), (sV ByteArray.empty), (lV none 0 0), (lV none 0 0)])) ?_
 rintro _ w16 ⟨g16, rfl, h16⟩
 refine wq_to none (xSs h16 0 41 (.tmp 5) (.tmp 44) 0 ([(sV (⟨#[97, 110, 110]⟩)), (sV (⟨#[107, 100, 99]⟩)), (lV A15 16 c15), (lV B15 16 d15)]) ([(sV (⟨#[97, 110, 110]⟩)), (sV (⟨#[107, 100, 99]⟩)), (lV A15 16 c15), (lV B15 16 d15)])) ?_
 rintro _ w17 h17
 refine wq_p 1 [(6, (iV .i64 0))] ?_
 refine wl_end rfl (seq_n hK13 (wp_seq_k fun K18 hK18 => reg_lit ?_))
 refine wq_p 3 [(49, (aV ([(sV (⟨#[98, 111, 98]⟩)), (iV .i64 7), (iV .i64 1000), (lV A12 16 c12)]).toArray)), (48, (lV A12 16 c12)), (47, (pt kb5 0))] ?_
 refine wq_to (some 50) (x_asN (s2 := s15) (v := .tuple #[(aV ([(sV ByteArray.empty), (sV ByteArray.empty), (lV none 0 0), (lV none 0 0)]).toArray), .int .i64 9]) h17 1 rfl [(pt kb5 0), (iV .i64 110), (aV ([(sV (⟨#[98, 111, 98]⟩)), (iV .i64 7), (iV .i64 1000), (lV A12 16 c12)]).toArray)] (by kernel_rfl) (as_none (pre := mkB 98 1) (h17.at_ 1 rfl) (h17.at_ 6 rfl) (h17.dis 1 6 _ _ rfl rfl (by decide)) (h17.at_ 5 rfl) (fun hq => h17.dis 1 5 _ _ rfl rfl (by decide) _ hq rfl) (h17.at_ 4 rfl) (h17.dis 4 1 _ _ rfl rfl (by decide)) (by simp) (place_other (show (⟨#[97, 110, 110]⟩ : ByteArray) ≠ ⟨#[98, 111, 98]⟩ from by decide)))) ?_
 rintro _ w19 ⟨F19, s19, rfl, hs19, h19⟩
 have ht19 : TS s19 3 [⟨kl K8, 1, b0⟩, ⟨kl K5, 2, b1⟩, ⟨kl K8, 3, b2⟩] [(textF (⟨#[112, 119]⟩) (⟨#[97, 110, 110]⟩), 2)] := hs19 ▸ ht15
 refine wq_p 3 [(52, (iV .i64 9)), (51, (aV ([(sV ByteArray.empty), (sV ByteArray.empty), (lV none 0 0), (lV none 0 0)]).toArray)), (46, (Value.tuple #[(aV ([(sV ByteArray.empty), (sV ByteArray.empty), (lV none 0 0), (lV none 0 0)]).toArray), (iV .i64 9)]))] ?_
 refine wq_to (some 7) (xN h19 41 ([(sV ByteArray.empty), (sV ByteArray.empty), (lV none 0 0), (lV none 0 0)])) ?_
 rintro _ w20 ⟨g20, rfl, h20⟩
 refine wq_to none (xSs h20 0 41 (.tmp 7) (.tmp 51) 0 ([(sV ByteArray.empty), (sV ByteArray.empty), (lV none 0 0), (lV none 0 0)]) ([(sV ByteArray.empty), (sV ByteArray.empty), (lV none 0 0), (lV none 0 0)])) ?_
 rintro _ w21 h21
 refine wq_p 1 [(8, (iV .i64 9))] ?_
 refine wl_end rfl (seq_n hK18 (wp_seq_k fun K22 hK22 => ?_))
 refine pR_go h21 12 (fun W => (rBlk g16 41 ([(sV (⟨#[97, 110, 110]⟩)), (sV (⟨#[107, 100, 99]⟩)), (lV A15 16 c15), (lV B15 16 d15)])).Φ W /\ True) [(55, [1], 0), (56, [54], 1), (57, [1], 0), (58, [56], 4), (59, [5], 0), (60, [58], 16), (61, [55, 57, 59], 42), (54, [60], 64), (62, [53], 128), (63, [53], 128), (10, [], 0), (0, [9, 61], 1535), (11, [62], 4095)] rfl (fun _ d _ _ _ h => by cases d <;> exact h) ?_
 intro hs23 w23 h23
 refine pR_p 9 [0, 1, 2, 4] [(58, (pt g16 3)), (56, (pt tb3 0)), (55, (Value.iface 24 (pt tb3 0))), (54, (pt tb3 0))] 23 hs23 ⟨h23.at_ 2 rfl, trivial⟩ ?_
 refine pR_v 5 (some 59) (lV B15 16 d15) 55 rfl hs23 ⟨h23.at_ 2 rfl, trivial⟩ (fun W hW => eL hW.1 22 (.tmp 58) 3 _) ?_
 refine pR_or 3 10 hs23 ?_ ?_
 ·
  refine pR_op 3 (some 57) 63 rfl (x_text h23 1 rfl (⟨#[112, 119]⟩) (⟨#[97, 110, 110]⟩) (by kernel_rfl) (by first | decide | omega) (by first | decide | omega) (by rw [ht19.keys]; decide)) ?_
  rintro _ w24 ⟨K24, F24, s24, rfl, hK24, hs24, h24⟩
  refine ⟨fun _ => ⟨h24.at_ 2 rfl, trivial⟩, ?_⟩
  have hq24 := ht19.made_old (m := 2) hs24 (by simp)
  have ht24 : TS s24 3 [⟨kl K8, 1, b0⟩, ⟨kl K5, 2, b1⟩, ⟨kl K8, 3, b2⟩] [(textF (⟨#[112, 119]⟩) (⟨#[97, 110, 110]⟩), 2)] := hq24.1
  rw [hq24.2] at hK24
  obtain rfl : K8 = K24 := kl_inj (hK8.trans hK24.symm)
  refine pR_or 6 10 hs23 ?_ ?_
  ·
   refine pR_op 6 (some 60) 127 rfl (x_oReply h24 1 rfl K8 3 (by kernel_rfl) ((ht24.room 9 (by first | decide | simp | omega) (by first | decide | simp | omega)).ok) (h24.at_ 4 rfl) (r := (.inr (.reply 5 Kf 7 ⟨#[107, 100, 99]⟩ 110 (min 1000 (110 + 60)) (110 + 300)))) (ht24.opn (i := 2) rfl hp2 (by decide))) ?_
   rintro _ w25 ⟨rfl, h25⟩
   refine ⟨fun _ => ⟨h25.at_ 2 rfl, trivial⟩, ?_⟩
   refine pR_p 3 [7, 8, 9] [(62, (iV .i64 0)), (61, (aV ([(iV .i64 5)] ++ vb (kl Kf) ++ [(iV .i64 7), (sV (⟨#[107, 100, 99]⟩)), (iV .i64 110), (iV .i64 170), (iV .i64 410)]).toArray)), (53, (Value.tuple #[(aV ([(iV .i64 5)] ++ vb (kl Kf) ++ [(iV .i64 7), (sV (⟨#[107, 100, 99]⟩)), (iV .i64 110), (iV .i64 170), (iV .i64 410)]).toArray), (iV .i64 0)]))] 1023 hs23 ⟨h25.at_ 2 rfl, trivial⟩ ?_
   refine pR_to 10 (some 9) 2047 rfl hs23 (xN h25 60 ([(iV .i64 0)] ++ vb (List.replicate 16 0) ++ [(iV .i64 0), (sV ByteArray.empty), (iV .i64 0), (iV .i64 0), (iV .i64 0)])) ?_
   rintro _ w26 ⟨g26, rfl, h26⟩
   refine ⟨fun _ => ⟨h26.at_ 3 rfl, trivial⟩, ?_⟩
   refine pR_to 11 none 4095 rfl hs23 (xSs h26 0 60 (.tmp 9) (.tmp 61) 0 ([(iV .i64 5)] ++ vb (kl Kf) ++ [(iV .i64 7), (sV (⟨#[107, 100, 99]⟩)), (iV .i64 110), (iV .i64 170), (iV .i64 410)]) ([(iV .i64 5)] ++ vb (kl Kf) ++ [(iV .i64 7), (sV (⟨#[107, 100, 99]⟩)), (iV .i64 110), (iV .i64 170), (iV .i64 410)])) ?_
   rintro _ w27 h27
   refine ⟨fun _ => ⟨h27.at_ 3 rfl, trivial⟩, ?_⟩
   refine pR_to 12 (some 10) 8191 rfl hs23 (OpTo.run (iV .i64 0) (pureOp_run (by kernel_rfl) _) (R := fun v w => v = (iV .i64 0) /\ w27 = w) ⟨rfl, rfl⟩) ?_
   rintro _ _ ⟨rfl, rfl⟩
   refine ⟨fun h => absurd h (by decide), ?_⟩
   refine pR_done hs23 ?_ _
   refine seq_n hK22 (wp_seq_k fun K28 hK28 => reg_lit ?_)
   refine wq_p 12 [(74, (pt g16 0)), (73, (bV true)), (72, (bV true)), (71, (bV true)), (70, (iV .i64 0)), (69, (bV true)), (68, (bV true)), (67, (bV true)), (66, (iV .i64 9)), (65, (bV true)), (64, (bV true)), (63, (iV .i64 0))] (wq_v (some 75) (sV (⟨#[97, 110, 110]⟩)) (eL (h27.at_ 3 rfl) 9 (.tmp 74) 0 _) (wq_v (some 76) (bV true) (eqI (bV ((⟨#[97, 110, 110]⟩ : ByteArray).toList == (⟨#[97, 110, 110]⟩ : ByteArray).toList)) (by simp)) (wq_p 4 [(80, (pt g16 1)), (79, (pt g16 1)), (78, (bV true)), (77, (bV true))] ?_)))
   refine wq_v (some 81) (sV (⟨#[107, 100, 99]⟩)) (eL (h27.at_ 3 rfl) 9 (.tmp 80) 1 _) (wq_v (some 82) (bV true) (eqI (bV ((⟨#[107, 100, 99]⟩ : ByteArray).toList == (⟨#[107, 100, 99]⟩ : ByteArray).toList)) (by simp)) (wq_p 3 [(85, (pt g26 20)), (84, (bV true)), (83, (bV true))] (wq_v (some 86) (iV .i64 170) (eL (h27.at_ 0 rfl) 2 (.tmp 85) 20 _) ?_)))
   refine wq_p 4 [(90, (pt g26 21)), (89, (bV true)), (88, (bV true)), (87, (bV true))] (wq_v (some 91) (iV .i64 410) (eL (h27.at_ 0 rfl) 2 (.tmp 90) 21 _) (wq_p 4 [(95, (pt g26 17)), (94, (bV true)), (93, (bV true)), (92, (bV true))] (wq_v (some 96) (iV .i64 7) (eL (h27.at_ 0 rfl) 2 (.tmp 95) 17 _) ?_)))
   refine wq_p 4 [(100, (pt g26 0)), (99, (bV true)), (98, (bV true)), (97, (bV true))] (wq_v (some 101) (iV .i64 5) (eL (h27.at_ 0 rfl) 3 (.tmp 100) 0 _) (wq_p 3 [(0, (bV true)), (103, (bV true)), (102, (bV true))] ?_))
   refine wl_end rfl (seq_n hK28 (wp_ret ?_))
   refine post_1 rfl (by kernel_rfl) (rtm (bV true)) ?_
   exact ⟨rfl, h27.below0⟩
  ·
   refine pR_op 10 (some 9) 1087 rfl (xN h24 60 ([(iV .i64 0)] ++ vb (List.replicate 16 0) ++ [(iV .i64 0), (sV ByteArray.empty), (iV .i64 0), (iV .i64 0), (iV .i64 0)])) ?_
   rintro _ w29 ⟨g29, rfl, h29⟩
   refine ⟨fun _ => ⟨h29.at_ 3 rfl, trivial⟩, ?_⟩
   refine pR_to 6 (some 60) 1151 rfl hs23 (x_oReply h29 2 rfl K8 3 (by kernel_rfl) ((ht24.room 9 (by first | decide | simp | omega) (by first | decide | simp | omega)).ok) (h29.at_ 5 rfl) (r := (.inr (.reply 5 Kf 7 ⟨#[107, 100, 99]⟩ 110 (min 1000 (110 + 60)) (110 + 300)))) (ht24.opn (i := 2) rfl hp2 (by decide))) ?_
   rintro _ w30 ⟨rfl, h30⟩
   refine ⟨fun _ => ⟨h30.at_ 3 rfl, trivial⟩, ?_⟩
   refine pR_p 2 [7, 8, 9] [(62, (iV .i64 0)), (61, (aV ([(iV .i64 5)] ++ vb (kl Kf) ++ [(iV .i64 7), (sV (⟨#[107, 100, 99]⟩)), (iV .i64 110), (iV .i64 170), (iV .i64 410)]).toArray)), (53, (Value.tuple #[(aV ([(iV .i64 5)] ++ vb (kl Kf) ++ [(iV .i64 7), (sV (⟨#[107, 100, 99]⟩)), (iV .i64 110), (iV .i64 170), (iV .i64 410)]).toArray), (iV .i64 0)]))] 2047 hs23 ⟨h30.at_ 3 rfl, trivial⟩ ?_
   refine pR_to 11 none 4095 rfl hs23 (xSs h30 0 60 (.tmp 9) (.tmp 61) 0 ([(iV .i64 5)] ++ vb (kl Kf) ++ [(iV .i64 7), (sV (⟨#[107, 100, 99]⟩)), (iV .i64 110), (iV .i64 170), (iV .i64 410)]) ([(iV .i64 5)] ++ vb (kl Kf) ++ [(iV .i64 7), (sV (⟨#[107, 100, 99]⟩)), (iV .i64 110), (iV .i64 170), (iV .i64 410)])) ?_
   rintro _ w31 h31
   refine ⟨fun _ => ⟨h31.at_ 3 rfl, trivial⟩, ?_⟩
   refine pR_to 12 (some 10) 8191 rfl hs23 (OpTo.run (iV .i64 0) (pureOp_run (by kernel_rfl) _) (R := fun v w => v = (iV .i64 0) /\ w31 = w) ⟨rfl, rfl⟩) ?_
   rintro _ _ ⟨rfl, rfl⟩
   refine ⟨fun h => absurd h (by decide), ?_⟩
   refine pR_done hs23 ?_ _
   refine seq_n hK22 (wp_seq_k fun K32 hK32 => reg_lit ?_)
   refine wq_p 12 [(74, (pt g16 0)), (73, (bV true)), (72, (bV true)), (71, (bV true)), (70, (iV .i64 0)), (69, (bV true)), (68, (bV true)), (67, (bV true)), (66, (iV .i64 9)), (65, (bV true)), (64, (bV true)), (63, (iV .i64 0))] (wq_v (some 75) (sV (⟨#[97, 110, 110]⟩)) (eL (h31.at_ 3 rfl) 9 (.tmp 74) 0 _) (wq_v (some 76) (bV true) (eqI (bV ((⟨#[97, 110, 110]⟩ : ByteArray).toList == (⟨#[97, 110, 110]⟩ : ByteArray).toList)) (by simp)) (wq_p 4 [(80, (pt g16 1)), (79, (pt g16 1)), (78, (bV true)), (77, (bV true))] ?_)))
   refine wq_v (some 81) (sV (⟨#[107, 100, 99]⟩)) (eL (h31.at_ 3 rfl) 9 (.tmp 80) 1 _) (wq_v (some 82) (bV true) (eqI (bV ((⟨#[107, 100, 99]⟩ : ByteArray).toList == (⟨#[107, 100, 99]⟩ : ByteArray).toList)) (by simp)) (wq_p 3 [(85, (pt g29 20)), (84, (bV true)), (83, (bV true))] (wq_v (some 86) (iV .i64 170) (eL (h31.at_ 0 rfl) 2 (.tmp 85) 20 _) ?_)))
   refine wq_p 4 [(90, (pt g29 21)), (89, (bV true)), (88, (bV true)), (87, (bV true))] (wq_v (some 91) (iV .i64 410) (eL (h31.at_ 0 rfl) 2 (.tmp 90) 21 _) (wq_p 4 [(95, (pt g29 17)), (94, (bV true)), (93, (bV true)), (92, (bV true))] (wq_v (some 96) (iV .i64 7) (eL (h31.at_ 0 rfl) 2 (.tmp 95) 17 _) ?_)))
   refine wq_p 4 [(100, (pt g29 0)), (99, (bV true)), (98, (bV true)), (97, (bV true))] (wq_v (some 101) (iV .i64 5) (eL (h31.at_ 0 rfl) 3 (.tmp 100) 0 _) (wq_p 3 [(0, (bV true)), (103, (bV true)), (102, (bV true))] ?_))
   refine wl_end rfl (seq_n hK32 (wp_ret ?_))
   refine post_1 rfl (by kernel_rfl) (rtm (bV true)) ?_
   exact ⟨rfl, h31.below0⟩
 ·
  refine pR_op 10 (some 9) 1079 rfl (xN h23 60 ([(iV .i64 0)] ++ vb (List.replicate 16 0) ++ [(iV .i64 0), (sV ByteArray.empty), (iV .i64 0), (iV .i64 0), (iV .i64 0)])) ?_
  rintro _ w33 ⟨g33, rfl, h33⟩
  refine ⟨fun _ => ⟨h33.at_ 3 rfl, trivial⟩, ?_⟩
  refine pR_to 3 (some 57) 1087 rfl hs23 (x_text h33 2 rfl (⟨#[112, 119]⟩) (⟨#[97, 110, 110]⟩) (by kernel_rfl) (by first | decide | omega) (by first | decide | omega) (by rw [ht19.keys]; decide)) ?_
  rintro _ w34 ⟨K34, F34, s34, rfl, hK34, hs34, h34⟩
  refine ⟨fun _ => ⟨h34.at_ 3 rfl, trivial⟩, ?_⟩
  have hq34 := ht19.made_old (m := 2) hs34 (by simp)
  have ht34 : TS s34 3 [⟨kl K8, 1, b0⟩, ⟨kl K5, 2, b1⟩, ⟨kl K8, 3, b2⟩] [(textF (⟨#[112, 119]⟩) (⟨#[97, 110, 110]⟩), 2)] := hq34.1
  rw [hq34.2] at hK34
  obtain rfl : K8 = K34 := kl_inj (hK8.trans hK34.symm)
  refine pR_to 6 (some 60) 1151 rfl hs23 (x_oReply h34 2 rfl K8 3 (by kernel_rfl) ((ht34.room 9 (by first | decide | simp | omega) (by first | decide | simp | omega)).ok) (h34.at_ 5 rfl) (r := (.inr (.reply 5 Kf 7 ⟨#[107, 100, 99]⟩ 110 (min 1000 (110 + 60)) (110 + 300)))) (ht34.opn (i := 2) rfl hp2 (by decide))) ?_
  rintro _ w35 ⟨rfl, h35⟩
  refine ⟨fun _ => ⟨h35.at_ 3 rfl, trivial⟩, ?_⟩
  refine pR_p 2 [7, 8, 9] [(62, (iV .i64 0)), (61, (aV ([(iV .i64 5)] ++ vb (kl Kf) ++ [(iV .i64 7), (sV (⟨#[107, 100, 99]⟩)), (iV .i64 110), (iV .i64 170), (iV .i64 410)]).toArray)), (53, (Value.tuple #[(aV ([(iV .i64 5)] ++ vb (kl Kf) ++ [(iV .i64 7), (sV (⟨#[107, 100, 99]⟩)), (iV .i64 110), (iV .i64 170), (iV .i64 410)]).toArray), (iV .i64 0)]))] 2047 hs23 ⟨h35.at_ 3 rfl, trivial⟩ ?_
  refine pR_to 11 none 4095 rfl hs23 (xSs h35 0 60 (.tmp 9) (.tmp 61) 0 ([(iV .i64 5)] ++ vb (kl Kf) ++ [(iV .i64 7), (sV (⟨#[107, 100, 99]⟩)), (iV .i64 110), (iV .i64 170), (iV .i64 410)]) ([(iV .i64 5)] ++ vb (kl Kf) ++ [(iV .i64 7), (sV (⟨#[107, 100, 99]⟩)), (iV .i64 110), (iV .i64 170), (iV .i64 410)])) ?_
  rintro _ w36 h36
  refine ⟨fun _ => ⟨h36.at_ 3 rfl, trivial⟩, ?_⟩
  refine pR_to 12 (some 10) 8191 rfl hs23 (OpTo.run (iV .i64 0) (pureOp_run (by kernel_rfl) _) (R := fun v w => v = (iV .i64 0) /\ w36 = w) ⟨rfl, rfl⟩) ?_
  rintro _ _ ⟨rfl, rfl⟩
  refine ⟨fun h => absurd h (by decide), ?_⟩
  refine pR_done hs23 ?_ _
  refine seq_n hK22 (wp_seq_k fun K37 hK37 => reg_lit ?_)
  refine wq_p 12 [(74, (pt g16 0)), (73, (bV true)), (72, (bV true)), (71, (bV true)), (70, (iV .i64 0)), (69, (bV true)), (68, (bV true)), (67, (bV true)), (66, (iV .i64 9)), (65, (bV true)), (64, (bV true)), (63, (iV .i64 0))] (wq_v (some 75) (sV (⟨#[97, 110, 110]⟩)) (eL (h36.at_ 3 rfl) 9 (.tmp 74) 0 _) (wq_v (some 76) (bV true) (eqI (bV ((⟨#[97, 110, 110]⟩ : ByteArray).toList == (⟨#[97, 110, 110]⟩ : ByteArray).toList)) (by simp)) (wq_p 4 [(80, (pt g16 1)), (79, (pt g16 1)), (78, (bV true)), (77, (bV true))] ?_)))
  refine wq_v (some 81) (sV (⟨#[107, 100, 99]⟩)) (eL (h36.at_ 3 rfl) 9 (.tmp 80) 1 _) (wq_v (some 82) (bV true) (eqI (bV ((⟨#[107, 100, 99]⟩ : ByteArray).toList == (⟨#[107, 100, 99]⟩ : ByteArray).toList)) (by simp)) (wq_p 3 [(85, (pt g33 20)), (84, (bV true)), (83, (bV true))] (wq_v (some 86) (iV .i64 170) (eL (h36.at_ 0 rfl) 2 (.tmp 85) 20 _) ?_)))
  refine wq_p 4 [(90, (pt g33 21)), (89, (bV true)), (88, (bV true)), (87, (bV true))] (wq_v (some 91) (iV .i64 410) (eL (h36.at_ 0 rfl) 2 (.tmp 90) 21 _) (wq_p 4 [(95, (pt g33 17)), (94, (bV true)), (93, (bV true)), (92, (bV true))] (wq_v (some 96) (iV .i64 7) (eL (h36.at_ 0 rfl) 2 (.tmp 95) 17 _) ?_)))
  refine wq_p 4 [(100, (pt g33 0)), (99, (bV true)), (98, (bV true)), (97, (bV true))] (wq_v (some 101) (iV .i64 5) (eL (h36.at_ 0 rfl) 3 (.tmp 100) 0 _) (wq_p 3 [(0, (bV true)), (103, (bV true)), (102, (bV true))] ?_))
  refine wl_end rfl (seq_n hK37 (wp_ret ?_))
  refine post_1 rfl (by kernel_rfl) (rtm (bV true)) ?_
  exact ⟨rfl, h36.below0⟩
end
section
open Go.ChangeShapes Go.WideShapes Go.ChangeAt Go.RowKit
set_option maxRecDepth 100000
variable {H : Type} {enc : TypeId × Value -> H} {w : World} {base : Nat} {spare : Nat -> Bool} {held : Bool}
theorem all_vb (cs : List Value) (h : ∀ c ∈ cs, ∃ a, c = .int .u8 (ub a)) : ∃ b : Bytes, cs = vb b := by
 induction cs with
 | nil => exact ⟨[], rfl⟩
 | cons c cs ih =>
   obtain ⟨a, rfl⟩ := h c (by simp)
   obtain ⟨b, rfl⟩ := ih fun c hc => h c (by simp [hc])
   exact ⟨a :: b, rfl⟩
theorem c5 : Try.prog.cellsOf 5 = 1 := by kernel_rfl
theorem tb_int {m : Nat} {c : Value} {x : DataW H × List MemPlace} (h : DataW.trod enc Try.prog w base spare held m 5 [c] = some x) : ∃ a, c = .int .u8 (ub a) := by
 obtain ⟨n, hc, _, hw⟩ := DataW.trod_int Try.underlying5 h
 have := bounds_u8 hw
 exact ⟨toB n, by rw [ub_u8 (by omega) (by omega)]; simpa using hc⟩
end
section
open Go.ChangeShapes Go.WideShapes Go.ChangeAt Go.RowKit
theorem Try.own : ownKnob Try.prog.godebug = none := by kernel_rfl
theorem Try.laidOut : laidOutB Try.prog = true := by kernel_rfl
section
variable {H : Type} {enc : TypeId × Value -> H} {P : Program}
theorem trodAll_stays {W W' : World} {sp' : Nat -> Bool} (hl : laidOutB P = true) : ∀ (ts : List TypeId) (vs : List Value) (ds : List (DataW H)) (ps : List MemPlace),
   (ts.all fun t => P.readableRec t && decide (t < P.types.size)) = true -> DataW.TrodAll enc P W 0 (fun _ => true) true ts vs ds ps ->
   (∀ p ∈ ps, W.sameAt W' p) -> (∀ p ∈ ps, sp' p.block = true) -> DataW.TrodAll enc P W' 0 sp' true ts vs ds ps
 | [], _, _, _, _, h, _, _ => by
   obtain ⟨rfl, rfl, rfl⟩ := trodAll_nil h
   exact rfl
 | t :: ts, _, _, _, ht, h, hs, hsp => by
   obtain ⟨v, vs, d, ds, a, b, rfl, rfl, rfl, h1, h2⟩ := trodAll_cons h
   rw [List.all_cons, Bool.and_eq_true, Bool.and_eq_true, decide_eq_true_eq] at ht
   exact ⟨a, b, WideElems.Trod_stays hl ht.1.1 ht.1.2 h1 (fun p hp => hs p (by simp [hp])) (fun p hp => hsp p (by simp [hp])),
     trodAll_stays hl ts vs ds b ht.2 h2 (fun p hp => hs p (by simp [hp])) (fun p hp => hsp p (by simp [hp])), rfl⟩
theorem post_of_below {f : Func} {s : ChangeSpec} {apart fresh handsOn again : Bool} {W W' : World} {args : Array Value} {v : Value} {ds gs : List (DataW H)} {before pa pv : List MemPlace}
   (hW : DataW.Whole enc P f.params.toList s.vars apart W args.toList ds gs before)
   (hres : ∀ (b : Nat) (sp : Nat -> Bool) (hd : Bool), DataW.TrodAll enc P W' b sp hd f.resultTypes.toList (v.resultList f.resultTypes.size) (s.fn H (ds ++ gs)).results [])
   (hargs : ∀ sp : Nat -> Bool, (∀ p ∈ before, sp p.block = true) -> DataW.TrodAll enc P W' 0 sp true f.params.toList args.toList (s.fn H (ds ++ gs)).args pa)
   (hvars : ∀ sp : Nat -> Bool, (∀ p ∈ before, sp p.block = true) -> DataW.TrodVars enc P W' sp s.vars (s.fn H (ds ++ gs)).vars pv)
   (hps : before = pa ++ pv) (hb : Below W.heap.size W W')
   (hok : ∀ (j : Nat) (t : TypeId) (r : Value), f.resultTypes[j]? = some t -> (v.resultList f.resultTypes.size)[j]? = some r -> Value.okWide P W' .any 0 t r) :
   s.post enc P f apart fresh handsOn again W args v W' := by
 have hlt : ∀ p ∈ before, p.block < W.heap.size := fun p hp => hW.lt p hp
 have hold : ∀ p ∈ before, (fun b => decide (b < W.heap.size)) p.block = true := fun p hp => by simpa using hlt p hp
 refine ⟨ds, gs, before, [], pa, pv, hW, hres _ _ _, hargs _ hold, hvars _ hold, World.keptBut_mono (fun p hp => ⟨hp, ?_⟩) (hb.frame (· ∈ before)), fun _ => ?_⟩
 · rw [hps, List.mem_append] at hp
   exact Or.inr hp
 · obtain ⟨_, _, _, _, _, hz, hn⟩ := hW
   refine ⟨hok, _, _, ([] ++ pa) ++ pv, ⟨[] ++ pa, pv, trodAll_append (hargs _ (fun _ _ => rfl)) (hres _ _ _), hvars _ (fun _ _ => rfl), rfl, ?_, ?_⟩, ?_⟩
   · intro b off hp
     have hin : MemPlace.cell b off ∈ before := by rw [hps]; simpa using hp
     rw [hb.frozen (hlt _ hin)]
     exact hz b off hin
   · intro ha
     have := hn ha
     rw [hps] at this
     simpa using this
   · intro p hp _
     rw [hps]
     simpa using hp
/-- A law's post: it returned true, and what was there is as it was. -/
theorem law_post {f : Func} {s : ChangeSpec} {apart fresh handsOn again : Bool} {W W' : World} {args : Array Value} {ds gs : List (DataW H)} {before : List MemPlace} {tb : TypeId}
   (hl : laidOutB P = true) (hts : (f.params.toList.all fun t => P.readableRec t && decide (t < P.types.size)) = true) (htb : P.underlying tb = some .bool) (hr : f.resultTypes = #[tb]) (hv : s.vars = [])
   (hfn : ∀ ds : List (DataW H), ds.length = f.params.size -> s.fn H ds = ⟨[.lit (.bool true)], ds, []⟩)
   (hW : DataW.Whole enc P f.params.toList s.vars apart W args.toList ds gs before) (hb : Below W.heap.size W W') :
   s.post enc P f apart fresh handsOn again W args (.bool true) W' := by
 have hW' := hW
 have hlt : ∀ p ∈ before, p.block < W.heap.size := fun p hp => hW.lt p hp
 obtain ⟨p, q, hA, hV, rfl, hfz, hnd⟩ := hW
 rw [hv] at hV
 obtain ⟨rfl, rfl⟩ := trodVars_none hV
 have hlen : ds.length = f.params.size := by
   have : ∀ (ts : List TypeId) (vs : List Value) (ds : List (DataW H)) (p : List MemPlace), DataW.TrodAll enc P W 0 (fun _ => true) true ts vs ds p -> ds.length = ts.length := by
     intro ts
     induction ts with
     | nil => intro vs ds p h; obtain ⟨rfl, rfl, rfl⟩ := trodAll_nil h; rfl
     | cons t ts ih =>
       intro vs ds p h
       obtain ⟨v, vs, d, ds, a, b, rfl, rfl, rfl, h1, h2⟩ := trodAll_cons h
       simp [ih _ _ _ h2]
   simpa using this _ _ _ _ hA
 simp only [List.append_nil] at hW' hlt
 have hds : s.fn H (ds ++ []) = ⟨[.lit (.bool true)], ds, []⟩ := by rw [List.append_nil]; exact hfn ds hlen
 refine post_of_below (pa := p) (pv := []) (gs := []) hW' ?_ ?_ ?_ (by simp) hb ?_
 · intro b sp hd
   rw [hds, hr]
   exact trodAll_mk1 (shut_bool htb true)
 · intro sp hsp
   rw [hds]
   exact trodAll_stays hl _ _ _ _ hts hA (fun x hx => hb.same (hlt x hx)) hsp
 · intro sp _
   rw [hds, hv]
   exact rfl
 · exact ok_one hr rfl (okWide_bool_mk htb true)
end
section
variable {H : Type} {enc : TypeId × Value -> H} {w : World} {base : Nat}
end
end
section
open Go.ChangeShapes
variable {H : Type} {enc : TypeId × Value -> H} {P : Program} {w : World} {base : Nat} {spare : Nat -> Bool} {held : Bool}
end
section
open Go.ChangeShapes Go.WideShapes Go.ChangeAt Go.RowKit Go.QT
set_option maxRecDepth 100000
section
variable {H : Type} {enc : TypeId × Value -> H} {w : World} {base : Nat}
theorem kInt : Try.prog.cellsOf 3 = 1 := by kernel_rfl
theorem kI64 : Try.prog.cellsOf 2 = 1 := by kernel_rfl
theorem kStr : Try.prog.cellsOf 9 = 1 := by kernel_rfl
theorem kKey : Try.prog.cellsOf 32 = 16 := by kernel_rfl
theorem uIntK : Try.prog.underlying 3 = some (.int .i64) := by kernel_rfl
theorem uI64K : Try.prog.underlying 2 = some (.int .i64) := by kernel_rfl
theorem uStrK : Try.prog.underlying 9 = some .string := by kernel_rfl
theorem uKeyK : Try.prog.underlying 32 = some (.array 16 5) := by kernel_rfl
theorem fldK {S : TypeId} {k : Nat} {l : List (Nat × Nat)} {n : Nat} {cs : List Value} {xs : List (DataW H × List MemPlace)} {sp : Nat -> Bool} (hF : (Try.prog.fieldsOf S).toList.map (fun f => (f.type, f.offset)) = l) (hk : l.length = k) (hxl : xs.length = (Try.prog.fieldsOf S).size)
   (hx : ∀ (i : Nat) (f : Field), (Try.prog.fieldsOf S)[i]? = some f -> xs[i]? = DataW.trod enc Try.prog w base sp true n f.type ((cs.drop f.offset).take (Try.prog.cellsOf f.type))) : ∀ (i : Nat) (t o : Nat), l[i]? = some (t, o) -> ∃ y, DataW.trod enc Try.prog w base sp true n t ((cs.drop o).take (Try.prog.cellsOf t)) = some y := by
 intro i t o h
 have hi : i < k := by rw [← hk]; exact (List.getElem?_eq_some_iff.1 h).1
 have hs : (Try.prog.fieldsOf S).size = k := by
   have := congrArg List.length hF
   rw [← hk, ← this]; simp
 rw [← hF, List.getElem?_map, Option.map_eq_some_iff] at h
 obtain ⟨f, hf1, hf2⟩ := h
 injection hf2 with h1 h2
 have := hx i f (by rw [← Array.getElem?_toList]; exact hf1)
 rw [h1, h2, List.getElem?_eq_getElem (by omega)] at this
 exact ⟨_, this.symm⟩
theorem key_of_trod {fuel : Nat} {l : List Value} {x : DataW H × List MemPlace} {sp : Nat -> Bool} (hl : l.length = 16) (h : DataW.trod enc Try.prog w base sp true fuel 32 l = some x) : ∃ b : Bytes, b.length = 16 /\ l = vb b := by
 obtain ⟨xs, m, rfl, hx, _, hxs, hi⟩ := DataW.trod_array uKeyK h
 rw [c5] at hi
 obtain ⟨b, rfl⟩ := all_vb l (by
   intro c hcm
   obtain ⟨i, hil, rfl⟩ := List.getElem_of_mem hcm
   have hi' := hi i (by omega)
   have : (l.drop (i * 1)).take 1 = [l[i]] := by
     rw [Nat.mul_one, List.drop_eq_getElem_cons hil]; rfl
   rw [this, List.getElem?_eq_getElem (by omega)] at hi'
   exact tb_int hi')
 exact ⟨b, by simpa [vb] using hl, rfl⟩
theorem inUnd : Try.prog.underlying 55 = some (.struct (Try.prog.fieldsOf 55)) := by kernel_rfl
theorem inFields : (Try.prog.fieldsOf 55).toList.map (fun f => (f.type, f.offset)) = [(3, 0), (32, 1), (9, 17), (2, 18), (2, 19), (2, 20)] := by kernel_rfl
theorem inCellsOf : Try.prog.cellsOf 55 = 21 := by kernel_rfl
theorem open_inside {b0 : Nat} {v : Value} {dd : DataW H} {p : List MemPlace} {sp : Nat -> Bool} (hv : Value.okWide Try.prog w .any b0 55 v) (h : DataW.Trod enc Try.prog w base sp true 55 v dd p) :
   ∃ f K s a u r, v = .agg ([Value.int .i64 f] ++ vb (kl K) ++ [Value.string s, .int .i64 a, .int .i64 u, .int .i64 r]).toArray := by
 obtain ⟨cs, rfl, hcl⟩ := okWide_struct inUnd hv
 obtain ⟨fuel, hf⟩ := h
 have hc : (Value.agg cs).cells = cs := rfl
 rw [hc] at hf
 obtain ⟨xs, n, rfl, _, hl, hxl, hx⟩ := DataW.trod_struct inUnd hf
 rw [inCellsOf] at hl
 have fld := fldK inFields rfl (by omega) (fun i f h => (hx i f h).symm)
 obtain ⟨l⟩ := cs
 simp only at hl fld
 match l, hl with
 | [c0, c1, c2, c3, c4, c5, c6, c7, c8, c9, c10, c11, c12, c13, c14, c15, c16, c17, c18, c19, c20], _ =>
   obtain ⟨y0, h0⟩ := fld 0 3 0 rfl
   obtain ⟨y1, h1⟩ := fld 1 32 1 rfl
   obtain ⟨y2, h2⟩ := fld 2 9 17 rfl
   obtain ⟨y3, h3⟩ := fld 3 2 18 rfl
   obtain ⟨y4, h4⟩ := fld 4 2 19 rfl
   obtain ⟨y5, h5⟩ := fld 5 2 20 rfl
   rw [kInt] at h0
   rw [kKey] at h1
   rw [kStr] at h2
   rw [kI64] at h3
   rw [kI64] at h4
   rw [kI64] at h5
   obtain ⟨n0, e0, _, w0⟩ := DataW.trod_int uIntK h0
   obtain ⟨b1, hb1, e1⟩ := key_of_trod (l := [c1, c2, c3, c4, c5, c6, c7, c8, c9, c10, c11, c12, c13, c14, c15, c16]) rfl (by simpa using h1)
   obtain ⟨K1, rfl⟩ := kl_of b1 hb1
   obtain ⟨n2, e2, _, _⟩ := DataW.trod_string uStrK h2
   obtain ⟨n3, e3, _, w3⟩ := DataW.trod_int uI64K h3
   obtain ⟨n4, e4, _, w4⟩ := DataW.trod_int uI64K h4
   obtain ⟨n5, e5, _, w5⟩ := DataW.trod_int uI64K h5
   obtain rfl : c0 = _ := by simpa using e0
   obtain rfl : c17 = _ := by simpa using e2
   obtain rfl : c18 = _ := by simpa using e3
   obtain rfl : c19 = _ := by simpa using e4
   obtain rfl : c20 = _ := by simpa using e5
   refine ⟨n0, K1, n2, n3, n4, n5, ?_⟩
   rw [← e1]
   rfl
end
end
end Go.Proofs.Ytecomegocafocaa
