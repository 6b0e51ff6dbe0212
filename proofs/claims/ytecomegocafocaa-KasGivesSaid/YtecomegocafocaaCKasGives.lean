/- The row of KasGives: for every input the law returns true and what came in reads as it did. -/
import Derived.ChangeMaps5
import Derived.Test.YtecomegocafocaaCA18
set_option maxRecDepth 100000
set_option maxHeartbeats 4000000
namespace Go.Proofs.Ytecomegocafocaa
section
open Go.Value renaming int -> iV, slice -> lV, string -> sV, bool -> bV, agg -> aV
open Go.RowKit Go.QT
theorem empty_eq : bV ((ByteArray.empty).toList == (⟨#[]⟩ : ByteArray).toList) = bV true := by
 rw [show ByteArray.empty = (⟨#[]⟩ : ByteArray) from rfl]; simp
theorem two_packs (t v : Thing) : (∃ cc, packB t = .inl cc) ∨ (∃ b1 cc, packB t = .inr b1 /\ packB v = .inl cc) ∨ ∃ b1 b2, packB t = .inr b1 /\ packB v = .inr b2 := by
 rcases packB t with cc | b1
 · exact .inl ⟨cc, rfl⟩
 · rcases packB v with cc | b2
   · exact .inr (.inl ⟨b1, cc, rfl, rfl⟩)
   · exact .inr (.inr ⟨b1, b2, rfl, rfl⟩)
theorem kasGives_any (server s1 : ByteArray) (f a u r nonce us : Int) (Ki : Fin 16 -> UInt8) (w : World) : Calls Try.prog 4 #[(sV server), (aV ([(iV .i64 f)] ++ vb (kl Ki) ++ [(sV s1), (iV .i64 a), (iV .i64 u), (iV .i64 r)]).toArray), (iV .i64 nonce), (iV .i64 us)] w (DPost w (.bool true)) := by
 have h0 := Hp.nil (fun _ => False) w
 refine enter 166 Try.func4 rfl rfl ?_
 refine wp_reset 170 [(0, (sV server)), (1, (aV ([(iV .i64 f)] ++ vb (kl Ki) ++ [(sV s1), (iV .i64 a), (iV .i64 u), (iV .i64 r)]).toArray)), (2, (iV .i64 nonce)), (3, (iV .i64 us))] (fun x0 => ?_)
 refine wp_seq_k fun K1 hK1 => reg_lit ?_
 refine wq_to (some 5) (xN h0 55 ([(iV .i64 f)] ++ vb (kl Ki) ++ [(sV s1), (iV .i64 a), (iV .i64 u), (iV .i64 r)])) ?_
 rintro _ w2 ⟨g2, rfl, h2⟩
 refine wq_p 1 [(8, (bV false))] ?_
 refine wl_end rfl (seq_n hK1 (wp_seq_k fun K3 hK3 => wp_seq_k fun K4 hK4 => reg_lit ?_))
 refine wq_to (some 27) (x_dp h2 7 [] (by kernel_rfl) (alive14_any _)) ?_
 rintro _ w5 ⟨rfl, h5⟩
 refine wq_p 1 [(28, (bV false))] ?_
 refine wl_end rfl (seq_n hK4 (cF (wp_skip (seq_n hK3 (wp_seq_k fun K6 hK6 => wp_seq_k fun K7 hK7 => ?_)))))
 rcases (by omega : 60 < server.size ∨ (server.size <= 60 /\ 60 < s1.size) ∨ (server.size <= 60 /\ s1.size <= 60)) with hq | hq | ⟨hl2, hl1⟩
 ·
  refine reg_lit ?_
  refine wq_p 2 [(30, (iV .i64 (((server).size : Int)))), (29, (sV server))] (wq_v (some 31) (.bool true) (eqI (bV (decide (((server).size : Int) > 60))) (by simp; omega)) (wq_p 4 [(35, undef), (34, undef), (33, undef), (32, (bV true))] (wq_p 1 [(36, undef)] ?_)))
  refine wq_p 1 [(37, (bV true))] ?_
  refine wl_end rfl (seq_n hK7 (cT (wp_seq_k fun K9 hK9 => reg_lit ?_)))
  refine wq_p 1 [(8, (bV true))] ?_
  refine wl_end rfl (seq_n hK9 (wp_ret (seq_r ?_)))
  refine post_1 rfl (by kernel_rfl) (rtm (bV true)) ?_
  exact ⟨rfl, h5.below0⟩
 ·
  refine reg_lit ?_
  refine wq_p 2 [(30, (iV .i64 (((server).size : Int)))), (29, (sV server))] (wq_v (some 31) (.bool false) (eqI (bV (decide (((server).size : Int) > 60))) (by simp; omega)) (wq_p 2 [(33, (pt g2 17)), (32, (bV false))] (wq_v (some 34) (sV s1) (eL (h5.at_ 0 rfl) 9 (.tmp 33) 17 _) ?_)))
  refine wq_p 1 [(35, (iV .i64 (((s1).size : Int))))] (wq_v (some 36) (.bool true) (eqI (bV (decide (((s1).size : Int) > 60))) (by simp; omega)) (wq_p 1 [(37, (bV true))] ?_))
  refine wl_end rfl (seq_n hK7 (cT (wp_seq_k fun K10 hK10 => reg_lit ?_)))
  refine wq_p 1 [(8, (bV true))] ?_
  refine wl_end rfl (seq_n hK10 (wp_ret (seq_r ?_)))
  refine post_1 rfl (by kernel_rfl) (rtm (bV true)) ?_
  exact ⟨rfl, h5.below0⟩
 ·
  refine reg_lit ?_
  refine wq_p 2 [(30, (iV .i64 (((server).size : Int)))), (29, (sV server))] (wq_v (some 31) (.bool false) (eqI (bV (decide (((server).size : Int) > 60))) (by simp; omega)) (wq_p 2 [(33, (pt g2 17)), (32, (bV false))] (wq_v (some 34) (sV s1) (eL (h5.at_ 0 rfl) 9 (.tmp 33) 17 _) ?_)))
  refine wq_p 1 [(35, (iV .i64 (((s1).size : Int))))] (wq_v (some 36) (.bool false) (eqI (bV (decide (((s1).size : Int) > 60))) (by simp; omega)) (wq_p 1 [(37, (bV false))] ?_))
  refine wl_end rfl (seq_n hK7 (cF (wp_skip (seq_n hK6 (wp_seq_k fun K11 hK11 => reg_lit ?_)))))
  refine wq_to (some 38) (x_snew h5 (by kernel_rfl)) ?_
  rintro _ w12 ⟨tb12, F12, rfl, h12⟩
  refine wq_p 1 [(9, (pt tb12 0))] ?_
  refine wl_end rfl (seq_n hK11 (wp_seq_k fun K13 hK13 => reg_lit ?_))
  refine wq_p 2 [(40, (Value.iface 24 (pt tb12 0))), (39, (pt tb12 0))] ?_
  refine wq_to (some 41) (x_knew h12 0 rfl ((TS.empty.room 9 (by first | decide | simp | omega) (by first | decide | simp | omega)).less (by decide)) (by kernel_rfl)) ?_
  rintro _ w14 ⟨kb14, G14, bb14, F14, K14, s14, rfl, hK14, hs14, h14⟩
  rw [TS.empty.keys] at hK14
  have ht14 : TS s14 1 [] [] := TS.empty.add hs14
  refine wq_p 1 [(10, (pt kb14 0))] ?_
  refine wl_end rfl (seq_n hK13 (wp_seq_k fun K15 hK15 => ?_))
  refine wp_reset 170 [(0, (sV server)), (1, (aV ([(iV .i64 f)] ++ vb (kl Ki) ++ [(sV s1), (iV .i64 a), (iV .i64 u), (iV .i64 r)]).toArray)), (2, (iV .i64 nonce)), (3, (iV .i64 us)), (5, (pt g2 0)), (8, (bV false)), (9, (pt tb12 0)), (10, (pt kb14 0)), (28, (bV false)), (37, (bV false))] (fun x16 => ?_)
  refine reg_lit ?_
  refine wq_p 1 [(42, (pt tb12 0))] ?_
  refine wq_to (some 43) (x_fresh h14 2 rfl  (by kernel_rfl) (by rw [ht14.keys]; decide)) ?_
  rintro _ w17 ⟨K17, F17, s17, rfl, hK17, hs17, h17⟩
  rw [ht14.keys] at hK17
  have ht17 : TS s17 2 [] [] := ht14.add hs17
  refine wq_p 1 [(44, (pt tb12 0))] ?_
  refine wq_to (some 45) (x_fresh h17 2 rfl  (by kernel_rfl) (by rw [ht17.keys]; decide)) ?_
  rintro _ w18 ⟨K18, F18, s18, rfl, hK18, hs18, h18⟩
  rw [ht17.keys] at hK18
  have ht18 : TS s18 3 [] [] := ht17.add hs18
  refine wq_to (some 11) (xN h18 32 (vb (List.replicate 16 0))) ?_
  rintro _ w19 ⟨g19, rfl, h19⟩
  refine wq_to (some 12) (xN h19 32 (vb (List.replicate 16 0))) ?_
  rintro _ w20 ⟨g20, rfl, h20⟩
  refine wq_to none (xSs h20 1 32 (.tmp 11) (.tmp 43) 0 (vb (kl K17)) (vb (kl K17))) ?_
  rintro _ w21 h21
  refine wq_to none (xSs h21 0 32 (.tmp 12) (.tmp 45) 0 (vb (kl K18)) (vb (kl K18))) ?_
  rintro _ w22 h22
  refine wl_end rfl (seq_n hK15 (wp_seq_k fun K23 hK23 => ?_))
  obtain ⟨cc, hp1⟩ | ⟨b1, cc, hp1, hp2⟩ | ⟨b1, b2, hp1, hp2⟩ := two_packs (.inside f Ki s1 a u r) (.reply f Ki nonce server a u r)
  ·
   refine reg_lit ?_
   refine wq_p 2 [(48, (sV server)), (47, (pt kb14 0))] (wq_v (some 49) (aV (vb (kl K17)).toArray) (eLs (h22.at_ 1 rfl) 32 (.tmp 11) 0 (vb (kl K17))) (wq_v (some 50) (aV ([(iV .i64 f)] ++ vb (kl Ki) ++ [(sV s1), (iV .i64 a), (iV .i64 u), (iV .i64 r)]).toArray) (eLs (h22.at_ 5 rfl) 55 (.tmp 5) 0 ([(iV .i64 f)] ++ vb (kl Ki) ++ [(sV s1), (iV .i64 a), (iV .i64 u), (iV .i64 r)])) (wq_p 1 [(51, (iV .i64 nonce))] ?_)))
   refine wq_v (some 52) (aV (vb (kl K18)).toArray) (eLs (h22.at_ 0 rfl) 32 (.tmp 12) 0 (vb (kl K18))) (wq_p 1 [(53, (iV .i64 us))] ?_)
   refine wq_to (some 54) (x_giveN (s' := s18) h22 4 rfl [(pt kb14 0), (sV server), (aV (vb (kl K17)).toArray), (aV ([(iV .i64 f)] ++ vb (kl Ki) ++ [(sV s1), (iV .i64 a), (iV .i64 u), (iV .i64 r)]).toArray), (iV .i64 nonce), (aV (vb (kl K18)).toArray), (iV .i64 us)] (by kernel_rfl) (give_1 (h22.at_ 4 rfl) (h22.at_ 2 rfl) (fun hq => h22.dis 4 2 _ _ rfl rfl (by decide) _ hq rfl) (by omega)  hp1)) ?_
   rintro _ w25 ⟨F25, rfl, h25⟩
   obtain ⟨s25, hs25⟩ : ∃ s2, s2 = s18 := ⟨_, rfl⟩
   rw [← hs25] at h25
   have ht25 : TS s25 3 [] [] := hs25 ▸ ht18
   refine wq_p 4 [(57, (iV .i64 ((cc : Int)))), (56, (lV none 0 0)), (55, (aV ([(sV ByteArray.empty), (lV none 0 0)]).toArray)), (46, (Value.tuple #[(aV ([(sV ByteArray.empty), (lV none 0 0)]).toArray), (lV none 0 0), (iV .i64 ((cc : Int)))]))] ?_
   refine wq_to (some 13) (xN h25 39 ([(sV ByteArray.empty), (lV none 0 0)])) ?_
   rintro _ w26 ⟨g26, rfl, h26⟩
   refine wq_to none (xSs h26 0 39 (.tmp 13) (.tmp 55) 0 ([(sV ByteArray.empty), (lV none 0 0)]) ([(sV ByteArray.empty), (lV none 0 0)])) ?_
   rintro _ w27 h27
   refine wq_p 2 [(15, (iV .i64 ((cc : Int)))), (14, (lV none 0 0))] ?_
   refine wl_end rfl (seq_n hK23 (wp_seq_k fun K28 hK28 => wp_seq_k fun K29 hK29 => reg_lit ?_))
   refine wq_v (some 59) (aV ([(iV .i64 f)] ++ vb (kl Ki) ++ [(sV s1), (iV .i64 a), (iV .i64 u), (iV .i64 r)]).toArray) (eLs (h27.at_ 6 rfl) 55 (.tmp 5) 0 ([(iV .i64 f)] ++ vb (kl Ki) ++ [(sV s1), (iV .i64 a), (iV .i64 u), (iV .i64 r)])) (wq_p 1 [(60, (Value.iface 55 (aV ([(iV .i64 f)] ++ vb (kl Ki) ++ [(sV s1), (iV .i64 a), (iV .i64 u), (iV .i64 r)]).toArray)))] ?_)
   refine wq_to (some 61) (x_dp h27 13 [(Value.iface 55 (aV ([(iV .i64 f)] ++ vb (kl Ki) ++ [(sV s1), (iV .i64 a), (iV .i64 u), (iV .i64 r)]).toArray))] (by kernel_rfl) (pk_e hp1 (pack_any (rTh_inside _ f Ki s1 a u r) (show s1.size <= 100000 from by omega)))) ?_
   rintro _ w30 ⟨rfl, h30⟩
   refine wq_p 5 [(17, (iV .i64 ((cc : Int)))), (16, (lV none 0 0)), (63, (iV .i64 ((cc : Int)))), (62, (lV none 0 0)), (58, (Value.tuple #[(lV none 0 0), (iV .i64 ((cc : Int)))]))] ?_
   refine wl_end rfl (seq_n hK29 (wp_seq_k fun K31 hK31 => reg_lit ?_))
   refine wq_p 1 [(64, (iV .i64 ((cc : Int))))] (wq_v (some 65) (.bool true) (eqI (bV (((cc : Int)) != 0)) (ine (b := 0) (pack_er hp1))) ?_)
   refine wl_end rfl (seq_n hK31 (cT (wp_seq_k fun K32 hK32 => ?_)))
   refine wp_reset 170 [(0, (sV server)), (1, (aV ([(iV .i64 f)] ++ vb (kl Ki) ++ [(sV s1), (iV .i64 a), (iV .i64 u), (iV .i64 r)]).toArray)), (2, (iV .i64 nonce)), (3, (iV .i64 us)), (5, (pt g2 0)), (8, (bV false)), (9, (pt tb12 0)), (10, (pt kb14 0)), (11, (pt g19 0)), (12, (pt g20 0)), (13, (pt g26 0)), (14, (lV none 0 0)), (15, (iV .i64 ((cc : Int)))), (17, (iV .i64 ((cc : Int)))), (28, (bV false)), (37, (bV false)), (65, (bV true))] (fun x33 => ?_)
   refine reg_lit ?_
   refine wq_p 2 [(67, (iV .i64 ((cc : Int)))), (66, (iV .i64 ((cc : Int))))] (wq_v (some 68) (bV true) (eqI (bV (((cc : Int)) == ((cc : Int)))) (by simp)) (wq_p 7 [(75, (pt g26 0)), (74, (bV true)), (73, (bV true)), (72, (bV true)), (71, (iV .i64 0)), (70, (lV none 0 0)), (69, (bV true))] (wq_v (some 76) (sV ByteArray.empty) (eL (h30.at_ 0 rfl) 9 (.tmp 75) 0 _) ?_)))
   refine wq_v (some 77) (bV true) (eqI (bV ((ByteArray.empty).toList == (⟨#[]⟩ : ByteArray).toList)) empty_eq) (wq_p 2 [(8, (bV true)), (78, (bV true))] ?_)
   refine wl_end rfl (seq_n hK32 (wp_ret (seq_r ?_)))
   refine post_1 rfl (by kernel_rfl) (rtm (bV true)) ?_
   exact ⟨rfl, h30.below0⟩
  ·
   refine reg_lit ?_
   refine wq_p 2 [(48, (sV server)), (47, (pt kb14 0))] (wq_v (some 49) (aV (vb (kl K17)).toArray) (eLs (h22.at_ 1 rfl) 32 (.tmp 11) 0 (vb (kl K17))) (wq_v (some 50) (aV ([(iV .i64 f)] ++ vb (kl Ki) ++ [(sV s1), (iV .i64 a), (iV .i64 u), (iV .i64 r)]).toArray) (eLs (h22.at_ 5 rfl) 55 (.tmp 5) 0 ([(iV .i64 f)] ++ vb (kl Ki) ++ [(sV s1), (iV .i64 a), (iV .i64 u), (iV .i64 r)])) (wq_p 1 [(51, (iV .i64 nonce))] ?_)))
   refine wq_v (some 52) (aV (vb (kl K18)).toArray) (eLs (h22.at_ 0 rfl) 32 (.tmp 12) 0 (vb (kl K18))) (wq_p 1 [(53, (iV .i64 us))] ?_)
   refine wq_to (some 54) (x_giveN (s' := (s18.seal (kl K17) 2 b1)) h22 4 rfl [(pt kb14 0), (sV server), (aV (vb (kl K17)).toArray), (aV ([(iV .i64 f)] ++ vb (kl Ki) ++ [(sV s1), (iV .i64 a), (iV .i64 u), (iV .i64 r)]).toArray), (iV .i64 nonce), (aV (vb (kl K18)).toArray), (iV .i64 us)] (by kernel_rfl) (give_2 (h22.at_ 4 rfl) ((ht18.room 9 (by first | decide | simp | omega) (by first | decide | simp | omega)).less (by decide)) (h22.at_ 2 rfl) (fun hq => h22.dis 4 2 _ _ rfl rfl (by decide) _ hq rfl) (by omega) (by omega)  hp1 hp2)) ?_
   rintro _ w34 ⟨F34, rfl, h34⟩
   obtain ⟨s34, hs34⟩ : ∃ s2, s2 = (s18.seal (kl K17) 2 b1) := ⟨_, rfl⟩
   rw [← hs34] at h34
   have ht34 : TS s34 3 [⟨kl K17, 2, b1⟩] [] := ht18.seal hs34 (pack_le6 hp1)
   refine wq_p 4 [(57, (iV .i64 ((cc : Int)))), (56, (lV none 0 0)), (55, (aV ([(sV ByteArray.empty), (lV none 0 0)]).toArray)), (46, (Value.tuple #[(aV ([(sV ByteArray.empty), (lV none 0 0)]).toArray), (lV none 0 0), (iV .i64 ((cc : Int)))]))] ?_
   refine wq_to (some 13) (xN h34 39 ([(sV ByteArray.empty), (lV none 0 0)])) ?_
   rintro _ w35 ⟨g35, rfl, h35⟩
   refine wq_to none (xSs h35 0 39 (.tmp 13) (.tmp 55) 0 ([(sV ByteArray.empty), (lV none 0 0)]) ([(sV ByteArray.empty), (lV none 0 0)])) ?_
   rintro _ w36 h36
   refine wq_p 2 [(15, (iV .i64 ((cc : Int)))), (14, (lV none 0 0))] ?_
   refine wl_end rfl (seq_n hK23 (wp_seq_k fun K37 hK37 => wp_seq_k fun K38 hK38 => reg_lit ?_))
   refine wq_v (some 59) (aV ([(iV .i64 f)] ++ vb (kl Ki) ++ [(sV s1), (iV .i64 a), (iV .i64 u), (iV .i64 r)]).toArray) (eLs (h36.at_ 6 rfl) 55 (.tmp 5) 0 ([(iV .i64 f)] ++ vb (kl Ki) ++ [(sV s1), (iV .i64 a), (iV .i64 u), (iV .i64 r)])) (wq_p 1 [(60, (Value.iface 55 (aV ([(iV .i64 f)] ++ vb (kl Ki) ++ [(sV s1), (iV .i64 a), (iV .i64 u), (iV .i64 r)]).toArray)))] ?_)
   refine wq_to (some 61) (x_wrT h36 13 [(Value.iface 55 (aV ([(iV .i64 f)] ++ vb (kl Ki) ++ [(sV s1), (iV .i64 a), (iV .i64 u), (iV .i64 r)]).toArray))] (by kernel_rfl) (pk_b hp1 (pack_any (rTh_inside _ f Ki s1 a u r) (show s1.size <= 100000 from by omega)))) ?_
   rintro _ w39 ⟨A39, c39, rfl, h39⟩
   refine wq_p 5 [(17, (iV .i64 0)), (16, (lV A39 b1.length c39)), (63, (iV .i64 0)), (62, (lV A39 b1.length c39)), (58, (Value.tuple #[(lV A39 b1.length c39), (iV .i64 0)]))] ?_
   refine wl_end rfl (seq_n hK38 (wp_seq_k fun K40 hK40 => reg_lit ?_))
   refine wq_p 1 [(64, (iV .i64 0))] (wq_p 1 [(65, (bV false))] ?_)
   refine wl_end rfl (seq_n hK40 (cF (wp_skip (seq_n hK37 (wp_seq_k fun K41 hK41 => ?_)))))
   refine wp_reset 170 [(0, (sV server)), (1, (aV ([(iV .i64 f)] ++ vb (kl Ki) ++ [(sV s1), (iV .i64 a), (iV .i64 u), (iV .i64 r)]).toArray)), (2, (iV .i64 nonce)), (3, (iV .i64 us)), (5, (pt g2 0)), (8, (bV false)), (9, (pt tb12 0)), (10, (pt kb14 0)), (11, (pt g19 0)), (12, (pt g20 0)), (13, (pt g35 0)), (14, (lV none 0 0)), (15, (iV .i64 ((cc : Int)))), (17, (iV .i64 0)), (28, (bV false)), (37, (bV false)), (65, (bV false))] (fun x42 => ?_)
   refine reg_lit ?_
   refine wq_p 1 [(79, (pt g2 0))] (wq_v (some 80) (iV .i64 f) (eL (h39.at_ 7 rfl) 3 (.tmp 79) 0 _) (wq_p 1 [(81, (pt g2 1))] (wq_v (some 82) (aV (vb (kl Ki)).toArray) (eLs (h39.at_ 7 rfl) 32 (.tmp 81) 1 (vb (kl Ki))) ?_)))
   refine wq_p 3 [(85, (pt g2 18)), (84, (sV server)), (83, (iV .i64 nonce))] (wq_v (some 86) (iV .i64 a) (eL (h39.at_ 7 rfl) 2 (.tmp 85) 18 _) (wq_p 1 [(87, (pt g2 19))] (wq_v (some 88) (iV .i64 u) (eL (h39.at_ 7 rfl) 2 (.tmp 87) 19 _) ?_)))
   refine wq_p 1 [(89, (pt g2 20))] (wq_v (some 90) (iV .i64 r) (eL (h39.at_ 7 rfl) 2 (.tmp 89) 20 _) (wq_p 1 [(91, (aV ([(iV .i64 f)] ++ vb (kl Ki) ++ [(iV .i64 nonce), (sV server), (iV .i64 a), (iV .i64 u), (iV .i64 r)]).toArray))] ?_))
   refine wq_to (some 18) (xN h39 60 ([(iV .i64 0)] ++ vb (List.replicate 16 0) ++ [(iV .i64 0), (sV ByteArray.empty), (iV .i64 0), (iV .i64 0), (iV .i64 0)])) ?_
   rintro _ w43 ⟨g43, rfl, h43⟩
   refine wq_to none (xSs h43 0 60 (.tmp 18) (.tmp 91) 0 ([(iV .i64 f)] ++ vb (kl Ki) ++ [(iV .i64 nonce), (sV server), (iV .i64 a), (iV .i64 u), (iV .i64 r)]) ([(iV .i64 f)] ++ vb (kl Ki) ++ [(iV .i64 nonce), (sV server), (iV .i64 a), (iV .i64 u), (iV .i64 r)])) ?_
   rintro _ w44 h44
   refine wl_end rfl (seq_n hK41 (wp_seq_k fun K45 hK45 => wp_seq_k fun K46 hK46 => reg_lit ?_))
   refine wq_v (some 93) (aV ([(iV .i64 f)] ++ vb (kl Ki) ++ [(iV .i64 nonce), (sV server), (iV .i64 a), (iV .i64 u), (iV .i64 r)]).toArray) (eLs (h44.at_ 0 rfl) 60 (.tmp 18) 0 ([(iV .i64 f)] ++ vb (kl Ki) ++ [(iV .i64 nonce), (sV server), (iV .i64 a), (iV .i64 u), (iV .i64 r)])) (wq_p 1 [(94, (Value.iface 60 (aV ([(iV .i64 f)] ++ vb (kl Ki) ++ [(iV .i64 nonce), (sV server), (iV .i64 a), (iV .i64 u), (iV .i64 r)]).toArray)))] ?_)
   refine wq_to (some 95) (x_dp h44 13 [(Value.iface 60 (aV ([(iV .i64 f)] ++ vb (kl Ki) ++ [(iV .i64 nonce), (sV server), (iV .i64 a), (iV .i64 u), (iV .i64 r)]).toArray))] (by kernel_rfl) (pk_e hp2 (pack_any (rTh_reply _ f Ki nonce server a u r) (show server.size <= 100000 from by omega)))) ?_
   rintro _ w47 ⟨rfl, h47⟩
   refine wq_p 5 [(20, (iV .i64 ((cc : Int)))), (19, (lV none 0 0)), (97, (iV .i64 ((cc : Int)))), (96, (lV none 0 0)), (92, (Value.tuple #[(lV none 0 0), (iV .i64 ((cc : Int)))]))] ?_
   refine wl_end rfl (seq_n hK46 (wp_seq_k fun K48 hK48 => reg_lit ?_))
   refine wq_p 1 [(98, (iV .i64 ((cc : Int))))] (wq_v (some 99) (.bool true) (eqI (bV (((cc : Int)) != 0)) (ine (b := 0) (pack_er hp2))) ?_)
   refine wl_end rfl (seq_n hK48 (cT (wp_seq_k fun K49 hK49 => reg_lit ?_)))
   refine wq_p 2 [(101, (iV .i64 ((cc : Int)))), (100, (iV .i64 ((cc : Int))))] (wq_v (some 102) (bV true) (eqI (bV (((cc : Int)) == ((cc : Int)))) (by simp)) (wq_p 7 [(109, (pt g35 0)), (108, (bV true)), (107, (bV true)), (106, (bV true)), (105, (iV .i64 0)), (104, (lV none 0 0)), (103, (bV true))] (wq_v (some 110) (sV ByteArray.empty) (eL (h47.at_ 2 rfl) 9 (.tmp 109) 0 _) ?_)))
   refine wq_v (some 111) (bV true) (eqI (bV ((ByteArray.empty).toList == (⟨#[]⟩ : ByteArray).toList)) empty_eq) (wq_p 2 [(8, (bV true)), (112, (bV true))] ?_)
   refine wl_end rfl (seq_n hK49 (wp_ret (seq_r ?_)))
   refine post_1 rfl (by kernel_rfl) (rtm (bV true)) ?_
   exact ⟨rfl, h47.below0⟩
  ·
   refine reg_lit ?_
   refine wq_p 2 [(48, (sV server)), (47, (pt kb14 0))] (wq_v (some 49) (aV (vb (kl K17)).toArray) (eLs (h22.at_ 1 rfl) 32 (.tmp 11) 0 (vb (kl K17))) (wq_v (some 50) (aV ([(iV .i64 f)] ++ vb (kl Ki) ++ [(sV s1), (iV .i64 a), (iV .i64 u), (iV .i64 r)]).toArray) (eLs (h22.at_ 5 rfl) 55 (.tmp 5) 0 ([(iV .i64 f)] ++ vb (kl Ki) ++ [(sV s1), (iV .i64 a), (iV .i64 u), (iV .i64 r)])) (wq_p 1 [(51, (iV .i64 nonce))] ?_)))
   refine wq_v (some 52) (aV (vb (kl K18)).toArray) (eLs (h22.at_ 0 rfl) 32 (.tmp 12) 0 (vb (kl K18))) (wq_p 1 [(53, (iV .i64 us))] ?_)
   refine wq_to (some 54) (x_give (s' := (((s18.seal (kl K17) 2 b1)).seal (kl K18) us b2)) h22 4 rfl [(pt kb14 0), (sV server), (aV (vb (kl K17)).toArray), (aV ([(iV .i64 f)] ++ vb (kl Ki) ++ [(sV s1), (iV .i64 a), (iV .i64 u), (iV .i64 r)]).toArray), (iV .i64 nonce), (aV (vb (kl K18)).toArray), (iV .i64 us)] (by kernel_rfl) (give_ok (h22.at_ 4 rfl) ((ht18.room 9 (by first | decide | simp | omega) (by first | decide | simp | omega)).less (by decide)) (h22.at_ 2 rfl) (fun hq => h22.dis 4 2 _ _ rfl rfl (by decide) _ hq rfl) (by omega) (by omega)  hp1 hp2)) ?_
   rintro _ w50 ⟨A50, c50, B50, d50, F50, rfl, h50⟩
   have hbn50 : s18.boxes.length = 0 := by rw [ht18.boxes]; rfl
   obtain ⟨s50, hs50⟩ : ∃ s2, s2 = (((s18.seal (kl K17) 2 b1)).seal (kl K18) us b2) := ⟨_, rfl⟩
   rw [hbn50, ← hs50] at h50
   have ht50 : TS s50 3 [⟨kl K17, 2, b1⟩, ⟨kl K18, us, b2⟩] [] := (ht18.seal rfl (pack_le6 hp1)).seal hs50 (pack_le6 hp2)
   refine wq_p 4 [(57, (iV .i64 0)), (56, (lV B50 16 d50)), (55, (aV ([(sV server), (lV A50 16 c50)]).toArray)), (46, (Value.tuple #[(aV ([(sV server), (lV A50 16 c50)]).toArray), (lV B50 16 d50), (iV .i64 0)]))] ?_
   refine wq_to (some 13) (xN h50 39 ([(sV ByteArray.empty), (lV none 0 0)])) ?_
   rintro _ w51 ⟨g51, rfl, h51⟩
   refine wq_to none (xSs h51 0 39 (.tmp 13) (.tmp 55) 0 ([(sV server), (lV A50 16 c50)]) ([(sV server), (lV A50 16 c50)])) ?_
   rintro _ w52 h52
   refine wq_p 2 [(15, (iV .i64 0)), (14, (lV B50 16 d50))] ?_
   refine wl_end rfl (seq_n hK23 (wp_seq_k fun K53 hK53 => wp_seq_k fun K54 hK54 => reg_lit ?_))
   refine wq_v (some 59) (aV ([(iV .i64 f)] ++ vb (kl Ki) ++ [(sV s1), (iV .i64 a), (iV .i64 u), (iV .i64 r)]).toArray) (eLs (h52.at_ 8 rfl) 55 (.tmp 5) 0 ([(iV .i64 f)] ++ vb (kl Ki) ++ [(sV s1), (iV .i64 a), (iV .i64 u), (iV .i64 r)])) (wq_p 1 [(60, (Value.iface 55 (aV ([(iV .i64 f)] ++ vb (kl Ki) ++ [(sV s1), (iV .i64 a), (iV .i64 u), (iV .i64 r)]).toArray)))] ?_)
   refine wq_to (some 61) (x_wrT h52 13 [(Value.iface 55 (aV ([(iV .i64 f)] ++ vb (kl Ki) ++ [(sV s1), (iV .i64 a), (iV .i64 u), (iV .i64 r)]).toArray))] (by kernel_rfl) (pk_b hp1 (pack_any (rTh_inside _ f Ki s1 a u r) (show s1.size <= 100000 from by omega)))) ?_
   rintro _ w55 ⟨A55, c55, rfl, h55⟩
   refine wq_p 5 [(17, (iV .i64 0)), (16, (lV A55 b1.length c55)), (63, (iV .i64 0)), (62, (lV A55 b1.length c55)), (58, (Value.tuple #[(lV A55 b1.length c55), (iV .i64 0)]))] ?_
   refine wl_end rfl (seq_n hK54 (wp_seq_k fun K56 hK56 => reg_lit ?_))
   refine wq_p 1 [(64, (iV .i64 0))] (wq_p 1 [(65, (bV false))] ?_)
   refine wl_end rfl (seq_n hK56 (cF (wp_skip (seq_n hK53 (wp_seq_k fun K57 hK57 => ?_)))))
   refine wp_reset 170 [(0, (sV server)), (1, (aV ([(iV .i64 f)] ++ vb (kl Ki) ++ [(sV s1), (iV .i64 a), (iV .i64 u), (iV .i64 r)]).toArray)), (2, (iV .i64 nonce)), (3, (iV .i64 us)), (5, (pt g2 0)), (8, (bV false)), (9, (pt tb12 0)), (10, (pt kb14 0)), (11, (pt g19 0)), (12, (pt g20 0)), (13, (pt g51 0)), (14, (lV B50 16 d50)), (15, (iV .i64 0)), (17, (iV .i64 0)), (28, (bV false)), (37, (bV false)), (65, (bV false))] (fun x58 => ?_)
   refine reg_lit ?_
   refine wq_p 1 [(79, (pt g2 0))] (wq_v (some 80) (iV .i64 f) (eL (h55.at_ 9 rfl) 3 (.tmp 79) 0 _) (wq_p 1 [(81, (pt g2 1))] (wq_v (some 82) (aV (vb (kl Ki)).toArray) (eLs (h55.at_ 9 rfl) 32 (.tmp 81) 1 (vb (kl Ki))) ?_)))
   refine wq_p 3 [(85, (pt g2 18)), (84, (sV server)), (83, (iV .i64 nonce))] (wq_v (some 86) (iV .i64 a) (eL (h55.at_ 9 rfl) 2 (.tmp 85) 18 _) (wq_p 1 [(87, (pt g2 19))] (wq_v (some 88) (iV .i64 u) (eL (h55.at_ 9 rfl) 2 (.tmp 87) 19 _) ?_)))
   refine wq_p 1 [(89, (pt g2 20))] (wq_v (some 90) (iV .i64 r) (eL (h55.at_ 9 rfl) 2 (.tmp 89) 20 _) (wq_p 1 [(91, (aV ([(iV .i64 f)] ++ vb (kl Ki) ++ [(iV .i64 nonce), (sV server), (iV .i64 a), (iV .i64 u), (iV .i64 r)]).toArray))] ?_))
   refine wq_to (some 18) (xN h55 60 ([(iV .i64 0)] ++ vb (List.replicate 16 0) ++ [(iV .i64 0), (sV ByteArray.empty), (iV .i64 0), (iV .i64 0), (iV .i64 0)])) ?_
   rintro _ w59 ⟨g59, rfl, h59⟩
   refine wq_to none (xSs h59 0 60 (.tmp 18) (.tmp 91) 0 ([(iV .i64 f)] ++ vb (kl Ki) ++ [(iV .i64 nonce), (sV server), (iV .i64 a), (iV .i64 u), (iV .i64 r)]) ([(iV .i64 f)] ++ vb (kl Ki) ++ [(iV .i64 nonce), (sV server), (iV .i64 a), (iV .i64 u), (iV .i64 r)])) ?_
   rintro _ w60 h60
   refine wl_end rfl (seq_n hK57 (wp_seq_k fun K61 hK61 => wp_seq_k fun K62 hK62 => reg_lit ?_))
   refine wq_v (some 93) (aV ([(iV .i64 f)] ++ vb (kl Ki) ++ [(iV .i64 nonce), (sV server), (iV .i64 a), (iV .i64 u), (iV .i64 r)]).toArray) (eLs (h60.at_ 0 rfl) 60 (.tmp 18) 0 ([(iV .i64 f)] ++ vb (kl Ki) ++ [(iV .i64 nonce), (sV server), (iV .i64 a), (iV .i64 u), (iV .i64 r)])) (wq_p 1 [(94, (Value.iface 60 (aV ([(iV .i64 f)] ++ vb (kl Ki) ++ [(iV .i64 nonce), (sV server), (iV .i64 a), (iV .i64 u), (iV .i64 r)]).toArray)))] ?_)
   refine wq_to (some 95) (x_wrT h60 13 [(Value.iface 60 (aV ([(iV .i64 f)] ++ vb (kl Ki) ++ [(iV .i64 nonce), (sV server), (iV .i64 a), (iV .i64 u), (iV .i64 r)]).toArray))] (by kernel_rfl) (pk_b hp2 (pack_any (rTh_reply _ f Ki nonce server a u r) (show server.size <= 100000 from by omega)))) ?_
   rintro _ w63 ⟨A63, c63, rfl, h63⟩
   refine wq_p 5 [(20, (iV .i64 0)), (19, (lV A63 b2.length c63)), (97, (iV .i64 0)), (96, (lV A63 b2.length c63)), (92, (Value.tuple #[(lV A63 b2.length c63), (iV .i64 0)]))] ?_
   refine wl_end rfl (seq_n hK62 (wp_seq_k fun K64 hK64 => reg_lit ?_))
   refine wq_p 1 [(98, (iV .i64 0))] (wq_p 1 [(99, (bV false))] ?_)
   refine wl_end rfl (seq_n hK64 (cF (wp_skip (seq_n hK61 (wp_seq_k fun K65 hK65 => reg_lit ?_)))))
   refine wq_p 2 [(115, (Value.iface 24 (pt tb12 0))), (114, (pt tb12 0))] (wq_v (some 116) (aV (vb (kl K17)).toArray) (eLs (h63.at_ 8 rfl) 32 (.tmp 11) 0 (vb (kl K17))) (wq_p 1 [(117, (pt g51 1))] (wq_v (some 118) (lV A50 16 c50) (eL (h63.at_ 3 rfl) 22 (.tmp 117) 1 _) ?_)))
   refine wq_to (some 119) (x_oInside h63 4 rfl K17 2 (by kernel_rfl) ((ht50.room 9 (by first | decide | simp | omega) (by first | decide | simp | omega)).ok) (h63.at_ 5 rfl) (r := (.inr (.inside f Ki s1 a u r))) (ht50.opn (i := 0) rfl hp1 (by decide))) ?_
   rintro _ w66 ⟨rfl, h66⟩
   refine wq_p 3 [(121, (iV .i64 0)), (120, (aV ([(iV .i64 f)] ++ vb (kl Ki) ++ [(sV s1), (iV .i64 a), (iV .i64 u), (iV .i64 r)]).toArray)), (113, (Value.tuple #[(aV ([(iV .i64 f)] ++ vb (kl Ki) ++ [(sV s1), (iV .i64 a), (iV .i64 u), (iV .i64 r)]).toArray), (iV .i64 0)]))] ?_
   refine wq_to (some 21) (xN h66 55 ([(iV .i64 0)] ++ vb (List.replicate 16 0) ++ [(sV ByteArray.empty), (iV .i64 0), (iV .i64 0), (iV .i64 0)])) ?_
   rintro _ w67 ⟨g67, rfl, h67⟩
   refine wq_to none (xSs h67 0 55 (.tmp 21) (.tmp 120) 0 ([(iV .i64 f)] ++ vb (kl Ki) ++ [(sV s1), (iV .i64 a), (iV .i64 u), (iV .i64 r)]) ([(iV .i64 f)] ++ vb (kl Ki) ++ [(sV s1), (iV .i64 a), (iV .i64 u), (iV .i64 r)])) ?_
   rintro _ w68 h68
   refine wq_p 1 [(22, (iV .i64 0))] ?_
   refine wl_end rfl (seq_n hK65 (wp_seq_k fun K69 hK69 => reg_lit ?_))
   refine wq_p 2 [(124, (Value.iface 24 (pt tb12 0))), (123, (pt tb12 0))] (wq_v (some 125) (aV (vb (kl K18)).toArray) (eLs (h68.at_ 8 rfl) 32 (.tmp 12) 0 (vb (kl K18))) (wq_p 2 [(127, (lV B50 16 d50)), (126, (iV .i64 us))] ?_))
   refine wq_to (some 128) (x_oReply h68 5 rfl K18 us (by kernel_rfl) ((ht50.room 9 (by first | decide | simp | omega) (by first | decide | simp | omega)).ok) (h68.at_ 7 rfl) (r := (.inr (.reply f Ki nonce server a u r))) (ht50.opn (i := 1) rfl hp2 (by decide))) ?_
   rintro _ w70 ⟨rfl, h70⟩
   refine wq_p 3 [(130, (iV .i64 0)), (129, (aV ([(iV .i64 f)] ++ vb (kl Ki) ++ [(iV .i64 nonce), (sV server), (iV .i64 a), (iV .i64 u), (iV .i64 r)]).toArray)), (122, (Value.tuple #[(aV ([(iV .i64 f)] ++ vb (kl Ki) ++ [(iV .i64 nonce), (sV server), (iV .i64 a), (iV .i64 u), (iV .i64 r)]).toArray), (iV .i64 0)]))] ?_
   refine wq_to (some 23) (xN h70 60 ([(iV .i64 0)] ++ vb (List.replicate 16 0) ++ [(iV .i64 0), (sV ByteArray.empty), (iV .i64 0), (iV .i64 0), (iV .i64 0)])) ?_
   rintro _ w71 ⟨g71, rfl, h71⟩
   refine wq_to none (xSs h71 0 60 (.tmp 23) (.tmp 129) 0 ([(iV .i64 f)] ++ vb (kl Ki) ++ [(iV .i64 nonce), (sV server), (iV .i64 a), (iV .i64 u), (iV .i64 r)]) ([(iV .i64 f)] ++ vb (kl Ki) ++ [(iV .i64 nonce), (sV server), (iV .i64 a), (iV .i64 u), (iV .i64 r)])) ?_
   rintro _ w72 h72
   refine wq_p 1 [(24, (iV .i64 0))] ?_
   refine wl_end rfl (seq_n hK69 (wp_seq_k fun K73 hK73 => ?_))
   refine wp_reset 170 [(0, (sV server)), (1, (aV ([(iV .i64 f)] ++ vb (kl Ki) ++ [(sV s1), (iV .i64 a), (iV .i64 u), (iV .i64 r)]).toArray)), (2, (iV .i64 nonce)), (3, (iV .i64 us)), (5, (pt g2 0)), (8, (bV false)), (9, (pt tb12 0)), (10, (pt kb14 0)), (11, (pt g19 0)), (12, (pt g20 0)), (13, (pt g51 0)), (14, (lV B50 16 d50)), (15, (iV .i64 0)), (17, (iV .i64 0)), (18, (pt g59 0)), (20, (iV .i64 0)), (21, (pt g67 0)), (22, (iV .i64 0)), (23, (pt g71 0)), (24, (iV .i64 0)), (28, (bV false)), (37, (bV false)), (65, (bV false)), (99, (bV false))] (fun x74 => ?_)
   refine reg_lit ?_
   refine wq_p 2 [(133, (Value.iface 24 (pt tb12 0))), (132, (pt tb12 0))] (wq_v (some 134) (aV (vb (kl K18)).toArray) (eLs (h72.at_ 9 rfl) 32 (.tmp 12) 0 (vb (kl K18))) (wq_p 1 [(135, (pt g51 1))] (wq_v (some 136) (lV A50 16 c50) (eL (h72.at_ 5 rfl) 22 (.tmp 135) 1 _) ?_)))
   refine wq_to (some 137) (x_oInside h72 6 rfl K18 2 (by kernel_rfl) ((ht50.room 9 (by first | decide | simp | omega) (by first | decide | simp | omega)).ok) (h72.at_ 7 rfl) (r := (.inl 13)) (ht50.opnNo (i := 0) rfl (fun hh => key_ne hK17 hK18 (by decide) (by decide) (by decide) hh.1) (by decide))) ?_
   rintro _ w75 ⟨rfl, h75⟩
   refine wq_p 3 [(139, (iV .i64 13)), (138, (aV ([(iV .i64 0)] ++ vb (List.replicate 16 0) ++ [(sV ByteArray.empty), (iV .i64 0), (iV .i64 0), (iV .i64 0)]).toArray)), (131, (Value.tuple #[(aV ([(iV .i64 0)] ++ vb (List.replicate 16 0) ++ [(sV ByteArray.empty), (iV .i64 0), (iV .i64 0), (iV .i64 0)]).toArray), (iV .i64 13)]))] ?_
   refine wq_to (some 25) (xN h75 55 ([(iV .i64 0)] ++ vb (List.replicate 16 0) ++ [(sV ByteArray.empty), (iV .i64 0), (iV .i64 0), (iV .i64 0)])) ?_
   rintro _ w76 ⟨g76, rfl, h76⟩
   refine wq_to none (xSs h76 0 55 (.tmp 25) (.tmp 138) 0 ([(iV .i64 0)] ++ vb (List.replicate 16 0) ++ [(sV ByteArray.empty), (iV .i64 0), (iV .i64 0), (iV .i64 0)]) ([(iV .i64 0)] ++ vb (List.replicate 16 0) ++ [(sV ByteArray.empty), (iV .i64 0), (iV .i64 0), (iV .i64 0)])) ?_
   rintro _ w77 h77
   refine wq_p 1 [(26, (iV .i64 13))] ?_
   refine wl_end rfl (seq_n hK73 (wp_seq_k fun K78 hK78 => reg_lit ?_))
   refine wq_p 15 [(154, (bV true)), (153, (bV true)), (152, (bV true)), (151, (iV .i64 13)), (150, (bV true)), (149, (bV true)), (148, (bV true)), (147, (iV .i64 0)), (146, (bV true)), (145, (bV true)), (144, (bV true)), (143, (iV .i64 0)), (142, (bV true)), (141, (bV true)), (140, (iV .i64 0))] (wq_v (some 155) (aV ([(iV .i64 f)] ++ vb (kl Ki) ++ [(sV s1), (iV .i64 a), (iV .i64 u), (iV .i64 r)]).toArray) (eLs (h77.at_ 2 rfl) 55 (.tmp 21) 0 ([(iV .i64 f)] ++ vb (kl Ki) ++ [(sV s1), (iV .i64 a), (iV .i64 u), (iV .i64 r)])) (wq_v (some 156) (aV ([(iV .i64 f)] ++ vb (kl Ki) ++ [(sV s1), (iV .i64 a), (iV .i64 u), (iV .i64 r)]).toArray) (eLs (h77.at_ 14 rfl) 55 (.tmp 5) 0 ([(iV .i64 f)] ++ vb (kl Ki) ++ [(sV s1), (iV .i64 a), (iV .i64 u), (iV .i64 r)])) (wq_v (some 157) (bV true) (e_selfB 55 _ (.tmp 155) (.tmp 156) 55 (by kernel_rfl) (by kernel_rfl) (by kernel_rfl) (by kernel_rfl) (self_inside f Ki s1 a u r) _) ?_)))
   refine wq_p 2 [(159, (bV true)), (158, (bV true))] (wq_v (some 160) (aV ([(iV .i64 f)] ++ vb (kl Ki) ++ [(iV .i64 nonce), (sV server), (iV .i64 a), (iV .i64 u), (iV .i64 r)]).toArray) (eLs (h77.at_ 1 rfl) 60 (.tmp 23) 0 ([(iV .i64 f)] ++ vb (kl Ki) ++ [(iV .i64 nonce), (sV server), (iV .i64 a), (iV .i64 u), (iV .i64 r)])) (wq_v (some 161) (aV ([(iV .i64 f)] ++ vb (kl Ki) ++ [(iV .i64 nonce), (sV server), (iV .i64 a), (iV .i64 u), (iV .i64 r)]).toArray) (eLs (h77.at_ 4 rfl) 60 (.tmp 18) 0 ([(iV .i64 f)] ++ vb (kl Ki) ++ [(iV .i64 nonce), (sV server), (iV .i64 a), (iV .i64 u), (iV .i64 r)])) (wq_v (some 162) (bV true) (e_selfB 60 _ (.tmp 160) (.tmp 161) 60 (by kernel_rfl) (by kernel_rfl) (by kernel_rfl) (by kernel_rfl) (self_reply f Ki nonce server a u r) _) ?_)))
   refine wq_p 3 [(165, (pt g51 0)), (164, (bV true)), (163, (bV true))] (wq_v (some 166) (sV server) (eL (h77.at_ 6 rfl) 9 (.tmp 165) 0 _) (wq_p 1 [(167, (sV server))] (wq_v (some 168) (bV true) (eqI (bV ((server).toList == (server).toList)) (by simp)) ?_)))
   refine wq_p 2 [(8, (bV true)), (169, (bV true))] ?_
   refine wl_end rfl (seq_n hK78 (wp_ret ?_))
   refine post_1 rfl (by kernel_rfl) (rtm (bV true)) ?_
   exact ⟨rfl, h77.below0⟩
end
section
open Go.ChangeShapes Go.WideShapes Go.ChangeAt Go.RowKit
theorem kasGives_lifted (os : Os) (started : os.Started) (H : Type) (enc : TypeId × Value -> H) :
   ReturnsInHanded {} Try.checked os 4 .any (Rows.kasGivesSpec.pre6 enc Try.prog Try.f4 Rows.kasGivesRow.domain false) (Rows.kasGivesSpec.post enc Try.prog Try.f4 false true false false) := by
 refine returnsInHanded_of_change (C := Try.checked) Try.own started (by kernel_rfl) Try.func4
   (ChangeSpec.witness6 (enc := enc) (C := Try.checked) false ⟨#[], #[.string ⟨#[]⟩, .agg ([Value.int .i64 0] ++ vb (List.replicate 16 0) ++ [Value.string ⟨#[]⟩, .int .i64 0, .int .i64 0, .int .i64 0]).toArray, .int .i64 0, .int .i64 0], []⟩ 8 (by kernel_rfl) (by kernel_rfl) (by kernel_rfl) (by kernel_rfl)) ?_
 intro W base args ds gs before hval0 hW hcnd _
 have hval : ∀ (j : Nat) t v, Try.f4.params[j]? = some t -> args[j]? = some v -> Value.okWide Try.prog W .any base t v := hval0
 have hpost : ∀ W', Below W.heap.size W W' -> Rows.kasGivesSpec.post enc Try.prog Try.f4 false true false false W args (.bool true) W' := fun W' hb =>
   law_post Try.laidOut (by kernel_rfl) Try.underlying4 rfl rfl (fun ds hds => by
     have hn : ds.length = 4 := hds
     match ds, hn with
     | [_, _, _, _], _ => rfl) hW hb
 obtain ⟨p, q, hA0, hV, rfl, hfz, hnd⟩ := hW
 have hA : DataW.TrodAll enc Try.prog W 0 (fun _ => true) true Try.f4.params.toList args.toList ds p := hA0
 rw [Try.params4] at hA hval
 clear hA0 hval0
 obtain ⟨v0, v1, v2, v3, d0, d1, d2, d3, p0, p1, p2, p3, rfl, rfl, rfl, h0, h1, h2, h3⟩ := trodAll_four hA
 obtain ⟨l0, rfl, rfl, rfl, hz0⟩ := Go.ChangeMaps.open_string (t := 9) (by kernel_rfl) (hval 0 9 v0 rfl rfl) h0
 obtain ⟨f1, K1, s1, a1, u1, r1, rfl⟩ := open_inside (hval 1 55 v1 rfl rfl) h1
 obtain ⟨n2, rfl, rfl, rfl, hn2⟩ := open_int (t := 2) (k := .i64) (by kernel_rfl) (hval 2 2 v2 rfl rfl) h2
 obtain ⟨n3, rfl, rfl, rfl, hn3⟩ := open_int (t := 3) (k := .i64) (by kernel_rfl) (hval 3 3 v3 rfl rfl) h3
 refine (kasGives_any l0 s1 f1 a1 u1 r1 n2 n3 K1 W).mono fun e W' ⟨he, hw⟩ => ?_
 subst he
 exact ⟨_, rfl, hpost W' hw⟩
theorem kasGives_holds : Rows.KasGivesSaid :=
 OpenClaim.holds_of_wide 4 Try.f4 rfl rfl rfl rfl rfl rfl rfl ⟨rfl, rfl, rfl, rfl, rfl⟩ rfl rfl rfl rfl rfl (by kernel_rfl) Try.func4 (by kernel_rfl)
   (of_decide_eq_true (by kernel_rfl)) (by unfold Func.isWrapper; first | (rw [if_pos (by decide +kernel)]; kernel_rfl) | (rw [if_neg (by decide +kernel)]; exact ⟨rfl, rfl⟩))
   (fun os started H enc _ => kasGives_lifted os started H enc)
end
end Go.Proofs.Ytecomegocafocaa
