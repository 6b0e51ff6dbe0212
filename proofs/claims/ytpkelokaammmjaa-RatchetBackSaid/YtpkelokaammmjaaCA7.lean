/- The walks of New, Keys and Fits. (Texts laid one behind the other: Close, KnL, KApi, KFit, KFits.) -/
import Derived.Test.YtpkelokaammmjaaCA6
/-! The walk of close. -/
section
namespace Go.Proofs.Ytpkelokaammmjaa
open Go.RowKit Go.QT
set_option maxRecDepth 100000 in
set_option maxHeartbeats 1000000 in
theorem close_any (m : Nat) (p : Mp) (S : KM) (F FT : Nat → Prop) (s : STab) (K0 B0 : Bytes → Prop) (N : List Bytes) (w : World) (h : Hp (fun q => F q ∨ FT q) w w [] [rMind F none m p S, rTab FT p.tb s]) (hS : WS s K0 B0 N S) (hN : N.length ≤ 1000000)
    (hx : ∀ b ∈ s.boxes, b.body.length ≤ 1000000) (hbn : s.boxes.length < 1000000) (hkn : s.keys.length < 1000000) :
    Calls Try.prog 25 #[pt m 0] w fun e w' => e = .returned (.tuple #[]) ∧ ∃ F' S', MS s K0 B0 N S' ∧ Hp (fun q => F q ∨ FT q) w w' [] [rMind F' none m p S', rTab FT p.tb s] := by
  have h0 := h
  refine enter 107 Try.func25 rfl rfl ?_
  refine wp_reset 108 [(0, (pt m 0))] (fun x0 => ?_)
  refine wp_seq_k ?_
  intro K1 hK1
  refine reg_lit ?_
  refine wq_p 1 [(2, (Value.bool true))] ?_
  refine wl_end rfl ?_
  refine seq_n hK1 ?_
  refine wp_block ?_
  refine wp_loopm (fun mM xX aA wL => ∃ (S1 : KM) (ag : Bool) (F1 : Nat → Prop), (WS s K0 B0 N S1) ∧ (ag = false → MS s K0 B0 N S1) ∧ mM = pot s S1 + unk s S1 + (ag : Bool).toNat ∧ aA = patch xX 108 [(0, (pt m 0)), (2, (Value.bool ag))] ∧ Hp (fun q => F q ∨ FT q) w wL [] [rMind F1 none m p S1, rTab FT p.tb s]) ⟨_, S, true, F, hS, (fun h => by cases h), rfl, (patch_eq _ 108 _ (by kernel_rfl) (by kernel_rfl) (by kernel_rfl)), h0.sel [0, 1] [] (by kernel_rfl) rfl rfl⟩ ?_
  rintro _ x2 _ w2 ⟨S1, ag, F1, hW1, hC1, rfl, rfl, h2⟩
  refine wp_seq_k ?_
  intro K3 hK3
  refine wp_seq_k ?_
  intro K4 hK4
  refine reg_lit ?_
  refine wq_p 1 [(10, (Value.bool ag))] ?_
  refine wl_end rfl ?_
  refine seq_n hK4 ?_
  refine wp_cond_split (t := ag) (by kernel_rfl) (fun b5 => ?_) (fun b5 => ?_)
  ·
   have hag : ag = true := b5
   refine wp_skip ?_
   refine seq_n hK3 ?_
   refine wp_block ?_
   refine wp_seq_k ?_
   intro K6 hK6
   refine reg_lit ?_
   refine wq_p 1 [(2, (Value.bool false))] ?_
   refine wl_end rfl ?_
   refine seq_n hK6 ?_
   refine wp_seq_k ?_
   intro K7 hK7
   refine wp_seq_k ?_
   intro K8 hK8
   refine reg_lit ?_
   refine wq_p 3 [(13, (pt m 2)), (12, (pt m 0)), (11, (pt m 0))] ?_
   refine wq_v (some 14) (Value.map (some p.bb)) (e_mload (h2.at_ 0 rfl) 63 (.tmp 13) (by kernel_rfl) 2 (Value.map (some p.bb)) (by kernel_rfl) (by kernel_rfl) (by kernel_rfl)) ?_
   refine wq_to (some 15) (x_mrange h2 0 rfl (.tmp 14) (by kernel_rfl) (by kernel_rfl)) ?_
   rintro _ w9 ⟨r, F9, rfl, h9⟩
   refine wl_end rfl ?_
   refine seq_n hK8 ?_
   refine wp_block ?_
   refine wp_loopm (fun mM xX aA wL => ∃ (S2 : KM) (ag2 : Bool) (F2 : Nat → Prop) (sn : List Nat), (RInv s K0 B0 N S1 S2 ag2 sn) ∧ mM = pot s S2 + ((S2 : KM).bx.length - (sn : List Nat).length) ∧ aA = patch xX 108 [(0, (pt m 0)), (2, (Value.bool ag2)), (10, (Value.bool ag)), (15, (pt r 0))] ∧ Hp (fun q => F q ∨ FT q) w wL [] [rMind F2 (some (r, S1.bx.length, sn)) m p S2, rTab FT p.tb s]) ⟨_, S1, false, F9, ([]), (RInv.init hW1), rfl, (patch_eq _ 108 _ (by kernel_rfl) (by kernel_rfl) (by kernel_rfl)), h9.sel [0, 1] [] (by kernel_rfl) rfl rfl⟩ ?_
   rintro _ x10 _ w10 ⟨S2, ag2, F2, sn, hR, rfl, rfl, h10⟩
   refine wp_seq_k ?_
   intro K11 hK11
   rcases mind_next h10 0 rfl with ⟨dn, hrun, hall⟩ | ⟨j, K, F4, w4n, hj, hnj, hrun, hent, h4n⟩
   ·
    refine reg_lit ?_
    refine wq_to (some 16) (x_next1 (.tmp 15) (by kernel_rfl) (by kernel_rfl) hrun) ?_
    rintro _ _ ⟨rfl, rfl⟩
    have h13 := h10.drewN dn
    refine wq_p 1 [(17, (Value.bool false))] ?_
    refine wl_end rfl ?_
    refine seq_n hK11 ?_
    refine wp_seq_k ?_
    intro K14 hK14
    refine wp_cond_false (by kernel_rfl) ?_
    refine wp_exit ?_
    refine seq_e ?_
    refine seq_e ?_
    refine blk_e ?_
    refine seq_n hK7 ?_
    refine wp_seq_k ?_
    intro K15 hK15
    obtain ⟨F16, h16o⟩ := mind_over h13 0 rfl
    have hI0 := hR.over hall
    
    refine reg_lit ?_
    refine wq_p 1 [(6, (Value.int .i64 1))] ?_
    refine wl_end rfl ?_
    refine seq_n hK15 ?_
    refine wp_block ?_
    refine wp_loopm (fun mM xX aA wL => ∃ (S3 : KM) (ag3 : Bool) (F3 : Nat → Prop) (n : Nat), (KInv s K0 B0 N S1 S3 ag3 (n)) ∧ mM = s.keys.length - (n) ∧ aA = patch xX 108 [(0, (pt m 0)), (2, (Value.bool ag3)), (6, (Value.int .i64 ((n + 1 : Int)))), (10, (Value.bool ag)), (15, (pt r 0)), (17, (Value.bool false))] ∧ Hp (fun q => F q ∨ FT q) w wL [] [rMind F3 none m p S3, rTab FT p.tb s]) ⟨_, S2, ag2, F16, 0, hI0, rfl, (patch_eq _ 108 _ (by kernel_rfl) (by kernel_rfl) (by kernel_rfl)), h16o.sel [0, 1] [] (by kernel_rfl) rfl rfl⟩ ?_
    rintro _ x17 _ w17 ⟨S3, ag3, F3, n, hI, rfl, rfl, h17⟩
    refine wp_seq_k ?_
    intro K18 hK18
    refine wp_seq_k ?_
    intro K19 hK19
    refine reg_lit ?_
    refine wq_p 4 [(60, (pt m 0)), (59, (pt m 0)), (58, (pt m 0)), (57, (Value.int .i64 ((n + 1 : Int))))] ?_
    refine wq_v (some 61) (pt p.tb 0) (e_mload (h17.at_ 0 rfl) 23 (.tmp 60) (by kernel_rfl) 0 (pt p.tb 0) (by kernel_rfl) (by kernel_rfl) (by kernel_rfl)) ?_
    refine wq_to (some 62) (x_nkeys h17 1 rfl (by kernel_rfl)) ?_
    rintro _ w20 ⟨rfl, h20⟩
    refine wq_p 1 [(63, (Value.bool (decide ((n + 1 : Int) ≤ (s.keys.length : Int)))))] ?_
    refine wl_end rfl ?_
    refine seq_n hK19 ?_
    refine wp_if ((n + 1 : Int) ≤ (s.keys.length : Int)) (by kernel_rfl) (fun b21 => ?_) (fun b21 => ?_)
    ·
     refine wp_skip ?_
     refine seq_n hK18 ?_
     refine wp_seq_k ?_
     intro K22 hK22
     refine wp_block ?_
     refine wp_seq_k ?_
     intro K23 hK23
     refine reg_lit ?_
     refine wq_p 3 [(68, (pt m 0)), (67, (pt m 0)), (66, (pt m 0))] ?_
     refine wq_v (some 69) (pt p.tb 0) (e_mload (h20.at_ 0 rfl) 23 (.tmp 68) (by kernel_rfl) 0 (pt p.tb 0) (by kernel_rfl) (by kernel_rfl) (by kernel_rfl)) ?_
     refine wq_p 1 [(70, (Value.int .i64 ((n + 1 : Int))))] ?_
     refine wq_to (some 71) (x_nth (tb := p.tb) h20 (n + 1) (by kernel_rfl) (by omega)) ?_
     rintro _ w24 ⟨K24, rfl, hK24, h24⟩
     refine wq_to (some 7) (x_new h24 28 (vb (List.replicate 16 0)) (fun r => pt r 0) (by kernel_rfl)) ?_
     rintro _ w25 ⟨g25, rfl, h25⟩
     refine wq_to none (x_stores h25 0 rfl 28 (.tmp 7) (.tmp 71) (by kernel_rfl) 0 (vb (kl K24)) (vb (kl K24)) (by kernel_rfl) (by kernel_rfl) (by kernel_rfl) (by kernel_rfl) (by kernel_rfl) (by kernel_rfl)) ?_
     rintro _ w26 h26
     refine wl_end rfl ?_
     refine seq_n hK23 ?_
     refine wp_seq_k ?_
     intro K27 hK27
     have hKn := hK24
     obtain ⟨O, fl, fb, hf, hcm⟩ := key_at h26 2 rfl (n := n) (by omega) (by omega) hKn
     refine pR_go h26 11 (fun W => (rMind F3 none m p S3).Φ W ∧ (rBlk g25 28 (vb (kl K24))).Φ W ∧ True) [(74, [0], 0), (75, [73], 1), (76, [74], 2), (77, [75], 4), (78, [7], 0), (79, [76, 77], 24), (73, [78], 32), (80, [72], 64), (81, [72], 64), (9, [], 0), (0, [8, 79], 767), (10, [80], 2047)] rfl (fun _ d _ _ _ h => by cases d <;> exact h) ?_
     intro hs28 w28 h28
     refine pR_p 9 [0, 1, 2] [(75, (pt m 0)), (74, (pt m 0)), (73, (pt m 0))] 7 hs28 ⟨h28.at_ 1 rfl, h28.at_ 0 rfl, trivial⟩ ?_
     refine pR_v 3 (some 76) (pt p.tb 0) 15 rfl hs28 ⟨h28.at_ 1 rfl, h28.at_ 0 rfl, trivial⟩ (fun W hW => e_mload hW.1 23 (.tmp 75) (by kernel_rfl) 0 (pt p.tb 0) (by kernel_rfl) (by kernel_rfl) (by kernel_rfl)) ?_
     refine pR_v 4 (some 77) (Value.agg (vb (kl K24)).toArray) 31 rfl hs28 ⟨h28.at_ 1 rfl, h28.at_ 0 rfl, trivial⟩ (fun W hW => e_loads hW.2.1 28 (.tmp 7) (by kernel_rfl) 0 (vb (kl K24)) (by kernel_rfl) (by kernel_rfl) (by kernel_rfl)) ?_
     refine pR_or 5 9 hs28 ?_ ?_
     ·
      refine pR_op 5 (some 78) 63 rfl (x_cameK h28 2 rfl K24 O fl fb (by kernel_rfl) (by omega) hcm) ?_
      rintro _ w29 ⟨rfl, h29⟩
      refine ⟨fun _ => ⟨h29.at_ 1 rfl, h29.at_ 0 rfl, trivial⟩, ?_⟩
      refine pR_p 3 [6, 7, 8] [(80, (Value.bool true)), (79, (Value.agg (vb (kl O) ++ [(Value.string fl), (Value.bool fb)]).toArray)), (72, (Value.tuple #[(Value.agg (vb (kl O) ++ [(Value.string fl), (Value.bool fb)]).toArray), (Value.bool true)]))] 511 hs28 ⟨h29.at_ 1 rfl, h29.at_ 0 rfl, trivial⟩ ?_
      refine pR_to 9 (some 8) 1023 rfl hs28 (x_new h29 58 (vb (List.replicate 16 0) ++ [(Value.string ByteArray.empty), (Value.bool false)]) (fun r => pt r 0) (by kernel_rfl)) ?_
      rintro _ w30 ⟨g30, rfl, h30⟩
      refine ⟨fun _ => ⟨h30.at_ 2 rfl, h30.at_ 1 rfl, trivial⟩, ?_⟩
      refine pR_to 10 none 2047 rfl hs28 (x_stores h30 0 rfl 58 (.tmp 8) (.tmp 79) (by kernel_rfl) 0 (vb (kl O) ++ [(Value.string fl), (Value.bool fb)]) (vb (kl O) ++ [(Value.string fl), (Value.bool fb)]) (by kernel_rfl) (by kernel_rfl) (by kernel_rfl) (by kernel_rfl) (by kernel_rfl) (by kernel_rfl)) ?_
      rintro _ w31 h31
      refine ⟨fun _ => ⟨h31.at_ 2 rfl, h31.at_ 1 rfl, trivial⟩, ?_⟩
      refine pR_to 11 (some 9) 4095 rfl hs28 (OpTo.run (Value.bool true) (pureOp_run (by kernel_rfl) _) (R := fun v w => v = (Value.bool true) ∧ w31 = w) ⟨rfl, rfl⟩) ?_
      rintro _ _ ⟨rfl, rfl⟩
      refine ⟨fun h => absurd h (by decide), ?_⟩
      refine pR_done hs28 ?_ _
      refine seq_n hK27 ?_
      refine wp_seq_k ?_
      intro K32 hK32
      rcases (show kl K24 ∈ S3.kk ∨ (kl K24 ∉ S3.kk ∧ kl O = zKey) ∨ (kl K24 ∉ S3.kk ∧ kl O ≠ zKey ∧ kl O ∉ S3.kk) ∨ (kl K24 ∉ S3.kk ∧ kl O ≠ zKey ∧ kl O ∈ S3.kk) by by_cases c1 : kl K24 ∈ S3.kk <;> by_cases c2 : kl O = zKey <;> by_cases c3 : kl O ∈ S3.kk <;> simp [c1, c2, c3]) with hk | ⟨hk, hz⟩ | ⟨hk, hz, ho⟩ | ⟨hk, hz, ho⟩
      ·
       refine pR_go h31 22 (fun W => (rMind F3 none m p S3).Φ W ∧ (rBlk g25 28 (vb (kl K24))).Φ W ∧ True) [(82, [0], 0), (83, [81], 1), (84, [82], 2), (85, [83], 4), (86, [7], 0), (87, [84, 85], 24), (88, [86], 32), (89, [87], 64), (90, [8, 88], 128), (91, [89, 88], 384), (92, [88], 128), (93, [90, 91, 88], 1664), (94, [88, 92], 2176), (95, [93], 4224), (96, [0, 94], 8192), (97, [95, 94], 24576), (98, [96, 94], 40960), (99, [97, 94], 73728), (100, [8, 94], 8192), (101, [99, 94], 270336), (102, [98, 100, 94], 663552), (103, [94, 101], 1056768)] rfl (fun _ d _ _ _ h => by cases d <;> exact h) ?_
       intro hs34 w34 h34
       refine pR_p 19 [0, 1, 2] [(83, (pt m 1)), (82, (pt m 0)), (81, (pt m 0))] 7 hs34 ⟨h34.at_ 2 rfl, h34.at_ 1 rfl, trivial⟩ ?_
       refine pR_v 3 (some 84) (Value.map (some p.kb)) 15 rfl hs34 ⟨h34.at_ 2 rfl, h34.at_ 1 rfl, trivial⟩ (fun W hW => e_mload hW.1 63 (.tmp 83) (by kernel_rfl) 1 (Value.map (some p.kb)) (by kernel_rfl) (by kernel_rfl) (by kernel_rfl)) ?_
       refine pR_v 4 (some 85) (Value.agg (vb (kl K24)).toArray) 31 rfl hs34 ⟨h34.at_ 2 rfl, h34.at_ 1 rfl, trivial⟩ (fun W hW => e_loads hW.2.1 28 (.tmp 7) (by kernel_rfl) 0 (vb (kl K24)) (by kernel_rfl) (by kernel_rfl) (by kernel_rfl)) ?_
       refine pR_v 5 (some 86) (Value.bool true) 63 rfl hs34 ⟨h34.at_ 2 rfl, h34.at_ 1 rfl, trivial⟩ (fun W hW => e_mkk hW.1 (kl K24) (kl_len _) (.tmp 84) (.tmp 85) (by kernel_rfl) (by kernel_rfl) (by kernel_rfl) true (decide_eq_true hk)) ?_
       refine pR_p 0 [6, 7, 8, 9, 10, 11, 12, 13, 14, 15, 16, 17, 18, 19, 20, 21] [(102, (Value.bool false)), (101, undef), (100, undef), (99, undef), (98, undef), (97, undef), (96, undef), (95, undef), (94, (Value.bool false)), (93, (Value.bool false)), (92, undef), (91, undef), (90, undef), (89, undef), (88, (Value.bool false)), (87, (Value.bool false))] 4194303 hs34 ⟨h34.at_ 2 rfl, h34.at_ 1 rfl, trivial⟩ ?_
       refine pR_done hs34 ?_ _
       refine seq_n hK32 ?_
       refine wp_cond_false (by kernel_rfl) ?_
       refine wp_skip ?_
       refine blk_n ?_
       refine seq_n hK22 ?_
       refine wp_reset 108 [(0, (pt m 0)), (2, (Value.bool ag3)), (6, (Value.int .i64 ((n + 1 : Int)))), (7, (pt g25 0)), (8, (pt g30 0)), (10, (Value.bool ag)), (15, (pt r 0)), (17, (Value.bool false)), (63, (Value.bool (decide ((n + 1 : Int) ≤ (s.keys.length : Int))))), (102, (Value.bool false))] (fun x35 => ?_)
       refine reg_lit ?_
       refine wq_p 1 [(64, (Value.int .i64 ((n + 1 : Int))))] ?_
       refine wq_v (some 65) (Value.int .i64 ((n + 1 : Int) + 1)) (exec_add _ _ _ _ rfl ((n + 1 : Int)) 1 (by kernel_rfl) (by kernel_rfl) ((n + 1 : Int) + 1) rfl (by omega) (by omega) _) ?_
       refine wq_p 1 [(6, (Value.int .i64 ((n + 1 : Int) + 1)))] ?_
       refine wl_end rfl ?_
       refine ⟨s.keys.length - (n + 1), (by omega), S3, ag3, F3, (n + 1), (hI.skip hf (fun _ _ => by rw [← hKn]; exact hk)), rfl, (patch_eq _ 108 _ (by kernel_rfl) (by kernel_rfl) (by kernel_rfl)), h34.sel [2, 3] [] (by kernel_rfl) rfl rfl⟩
      ·
       refine pR_go h31 22 (fun W => (rMind F3 none m p S3).Φ W ∧ (rBlk g25 28 (vb (kl K24))).Φ W ∧ (rBlk g30 58 (vb (kl O) ++ [(Value.string fl), (Value.bool fb)])).Φ W ∧ True) [(82, [0], 0), (83, [81], 1), (84, [82], 2), (85, [83], 4), (86, [7], 0), (87, [84, 85], 24), (88, [86], 32), (89, [87], 64), (90, [8, 88], 128), (91, [89, 88], 384), (92, [88], 128), (93, [90, 91, 88], 1664), (94, [88, 92], 2176), (95, [93], 4224), (96, [0, 94], 8192), (97, [95, 94], 24576), (98, [96, 94], 40960), (99, [97, 94], 73728), (100, [8, 94], 8192), (101, [99, 94], 270336), (102, [98, 100, 94], 663552), (103, [94, 101], 1056768)] rfl (fun _ d _ _ _ h => by cases d <;> exact h) ?_
       intro hs36 w36 h36
       refine pR_p 19 [0, 1, 2] [(83, (pt m 1)), (82, (pt m 0)), (81, (pt m 0))] 7 hs36 ⟨h36.at_ 2 rfl, h36.at_ 1 rfl, h36.at_ 0 rfl, trivial⟩ ?_
       refine pR_v 3 (some 84) (Value.map (some p.kb)) 15 rfl hs36 ⟨h36.at_ 2 rfl, h36.at_ 1 rfl, h36.at_ 0 rfl, trivial⟩ (fun W hW => e_mload hW.1 63 (.tmp 83) (by kernel_rfl) 1 (Value.map (some p.kb)) (by kernel_rfl) (by kernel_rfl) (by kernel_rfl)) ?_
       refine pR_v 4 (some 85) (Value.agg (vb (kl K24)).toArray) 31 rfl hs36 ⟨h36.at_ 2 rfl, h36.at_ 1 rfl, h36.at_ 0 rfl, trivial⟩ (fun W hW => e_loads hW.2.1 28 (.tmp 7) (by kernel_rfl) 0 (vb (kl K24)) (by kernel_rfl) (by kernel_rfl) (by kernel_rfl)) ?_
       refine pR_v 5 (some 86) (Value.bool false) 63 rfl hs36 ⟨h36.at_ 2 rfl, h36.at_ 1 rfl, h36.at_ 0 rfl, trivial⟩ (fun W hW => e_mkk hW.1 (kl K24) (kl_len _) (.tmp 84) (.tmp 85) (by kernel_rfl) (by kernel_rfl) (by kernel_rfl) false (decide_eq_false hk)) ?_
       refine pR_p 12 [6, 7, 8, 10] [(91, (Value.agg (vb (List.replicate 16 0)).toArray)), (89, (pt g30 0)), (88, (Value.bool true)), (87, (Value.bool true))] 1535 hs36 ⟨h36.at_ 2 rfl, h36.at_ 1 rfl, h36.at_ 0 rfl, trivial⟩ ?_
       refine pR_v 9 (some 90) (Value.agg (vb (kl O)).toArray) 2047 rfl hs36 ⟨h36.at_ 2 rfl, h36.at_ 1 rfl, h36.at_ 0 rfl, trivial⟩ (fun W hW => e_loads hW.2.2.1 28 (.tmp 89) (by kernel_rfl) 0 (vb (kl O)) (by kernel_rfl) (by kernel_rfl) (by kernel_rfl)) ?_
       refine pR_v 11 (some 92) (Value.bool false) 4095 rfl hs36 ⟨h36.at_ 2 rfl, h36.at_ 1 rfl, h36.at_ 0 rfl, trivial⟩ (fun W hW => e_kneB (kl O) (List.replicate 16 0) (by kernel_rfl) (by kernel_rfl) 28 28 (.tmp 90) (.tmp 91) (by kernel_rfl) (by kernel_rfl) (by kernel_rfl) (by kernel_rfl) (by kernel_rfl) false (decide_eq_false (fun h => h hz)) _) ?_
       refine pR_p 0 [12, 13, 14, 15, 16, 17, 18, 19, 20, 21] [(102, (Value.bool false)), (101, undef), (100, undef), (99, undef), (98, undef), (97, undef), (96, undef), (95, undef), (94, (Value.bool false)), (93, (Value.bool false))] 4194303 hs36 ⟨h36.at_ 2 rfl, h36.at_ 1 rfl, h36.at_ 0 rfl, trivial⟩ ?_
       refine pR_done hs36 ?_ _
       refine seq_n hK32 ?_
       refine wp_cond_false (by kernel_rfl) ?_
       refine wp_skip ?_
       refine blk_n ?_
       refine seq_n hK22 ?_
       refine wp_reset 108 [(0, (pt m 0)), (2, (Value.bool ag3)), (6, (Value.int .i64 ((n + 1 : Int)))), (7, (pt g25 0)), (8, (pt g30 0)), (10, (Value.bool ag)), (15, (pt r 0)), (17, (Value.bool false)), (63, (Value.bool (decide ((n + 1 : Int) ≤ (s.keys.length : Int))))), (102, (Value.bool false))] (fun x37 => ?_)
       refine reg_lit ?_
       refine wq_p 1 [(64, (Value.int .i64 ((n + 1 : Int))))] ?_
       refine wq_v (some 65) (Value.int .i64 ((n + 1 : Int) + 1)) (exec_add _ _ _ _ rfl ((n + 1 : Int)) 1 (by kernel_rfl) (by kernel_rfl) ((n + 1 : Int) + 1) rfl (by omega) (by omega) _) ?_
       refine wq_p 1 [(6, (Value.int .i64 ((n + 1 : Int) + 1)))] ?_
       refine wl_end rfl ?_
       refine ⟨s.keys.length - (n + 1), (by omega), S3, ag3, F3, (n + 1), (hI.skip hf (fun hz2 _ => absurd hz hz2)), rfl, (patch_eq _ 108 _ (by kernel_rfl) (by kernel_rfl) (by kernel_rfl)), h36.sel [2, 3] [] (by kernel_rfl) rfl rfl⟩
      ·
       refine pR_go h31 22 (fun W => (rMind F3 none m p S3).Φ W ∧ (rBlk g25 28 (vb (kl K24))).Φ W ∧ (rBlk g30 58 (vb (kl O) ++ [(Value.string fl), (Value.bool fb)])).Φ W ∧ True) [(82, [0], 0), (83, [81], 1), (84, [82], 2), (85, [83], 4), (86, [7], 0), (87, [84, 85], 24), (88, [86], 32), (89, [87], 64), (90, [8, 88], 128), (91, [89, 88], 384), (92, [88], 128), (93, [90, 91, 88], 1664), (94, [88, 92], 2176), (95, [93], 4224), (96, [0, 94], 8192), (97, [95, 94], 24576), (98, [96, 94], 40960), (99, [97, 94], 73728), (100, [8, 94], 8192), (101, [99, 94], 270336), (102, [98, 100, 94], 663552), (103, [94, 101], 1056768)] rfl (fun _ d _ _ _ h => by cases d <;> exact h) ?_
       intro hs38 w38 h38
       refine pR_p 19 [0, 1, 2] [(83, (pt m 1)), (82, (pt m 0)), (81, (pt m 0))] 7 hs38 ⟨h38.at_ 2 rfl, h38.at_ 1 rfl, h38.at_ 0 rfl, trivial⟩ ?_
       refine pR_v 3 (some 84) (Value.map (some p.kb)) 15 rfl hs38 ⟨h38.at_ 2 rfl, h38.at_ 1 rfl, h38.at_ 0 rfl, trivial⟩ (fun W hW => e_mload hW.1 63 (.tmp 83) (by kernel_rfl) 1 (Value.map (some p.kb)) (by kernel_rfl) (by kernel_rfl) (by kernel_rfl)) ?_
       refine pR_v 4 (some 85) (Value.agg (vb (kl K24)).toArray) 31 rfl hs38 ⟨h38.at_ 2 rfl, h38.at_ 1 rfl, h38.at_ 0 rfl, trivial⟩ (fun W hW => e_loads hW.2.1 28 (.tmp 7) (by kernel_rfl) 0 (vb (kl K24)) (by kernel_rfl) (by kernel_rfl) (by kernel_rfl)) ?_
       refine pR_v 5 (some 86) (Value.bool false) 63 rfl hs38 ⟨h38.at_ 2 rfl, h38.at_ 1 rfl, h38.at_ 0 rfl, trivial⟩ (fun W hW => e_mkk hW.1 (kl K24) (kl_len _) (.tmp 84) (.tmp 85) (by kernel_rfl) (by kernel_rfl) (by kernel_rfl) false (decide_eq_false hk)) ?_
       refine pR_p 12 [6, 7, 8, 10] [(91, (Value.agg (vb (List.replicate 16 0)).toArray)), (89, (pt g30 0)), (88, (Value.bool true)), (87, (Value.bool true))] 1535 hs38 ⟨h38.at_ 2 rfl, h38.at_ 1 rfl, h38.at_ 0 rfl, trivial⟩ ?_
       refine pR_v 9 (some 90) (Value.agg (vb (kl O)).toArray) 2047 rfl hs38 ⟨h38.at_ 2 rfl, h38.at_ 1 rfl, h38.at_ 0 rfl, trivial⟩ (fun W hW => e_loads hW.2.2.1 28 (.tmp 89) (by kernel_rfl) 0 (vb (kl O)) (by kernel_rfl) (by kernel_rfl) (by kernel_rfl)) ?_
       refine pR_v 11 (some 92) (Value.bool true) 4095 rfl hs38 ⟨h38.at_ 2 rfl, h38.at_ 1 rfl, h38.at_ 0 rfl, trivial⟩ (fun W hW => e_kneB (kl O) (List.replicate 16 0) (by kernel_rfl) (by kernel_rfl) 28 28 (.tmp 90) (.tmp 91) (by kernel_rfl) (by kernel_rfl) (by kernel_rfl) (by kernel_rfl) (by kernel_rfl) true (decide_eq_true hz) _) ?_
       refine pR_p 4 [12, 13, 14, 15, 16, 18] [(99, (pt g30 0)), (97, (pt m 1)), (96, (pt m 0)), (95, (pt m 0)), (94, (Value.bool true)), (93, (Value.bool true))] 393215 hs38 ⟨h38.at_ 2 rfl, h38.at_ 1 rfl, h38.at_ 0 rfl, trivial⟩ ?_
       refine pR_v 17 (some 98) (Value.map (some p.kb)) 524287 rfl hs38 ⟨h38.at_ 2 rfl, h38.at_ 1 rfl, h38.at_ 0 rfl, trivial⟩ (fun W hW => e_mload hW.1 63 (.tmp 97) (by kernel_rfl) 1 (Value.map (some p.kb)) (by kernel_rfl) (by kernel_rfl) (by kernel_rfl)) ?_
       refine pR_v 19 (some 100) (Value.agg (vb (kl O)).toArray) 1048575 rfl hs38 ⟨h38.at_ 2 rfl, h38.at_ 1 rfl, h38.at_ 0 rfl, trivial⟩ (fun W hW => e_loads hW.2.2.1 28 (.tmp 99) (by kernel_rfl) 0 (vb (kl O)) (by kernel_rfl) (by kernel_rfl) (by kernel_rfl)) ?_
       refine pR_v 20 (some 101) (Value.bool false) 2097151 rfl hs38 ⟨h38.at_ 2 rfl, h38.at_ 1 rfl, h38.at_ 0 rfl, trivial⟩ (fun W hW => e_mkk hW.1 (kl O) (kl_len _) (.tmp 98) (.tmp 100) (by kernel_rfl) (by kernel_rfl) (by kernel_rfl) false (decide_eq_false ho)) ?_
       refine pR_p 0 [21] [(102, (Value.bool false))] 4194303 hs38 ⟨h38.at_ 2 rfl, h38.at_ 1 rfl, h38.at_ 0 rfl, trivial⟩ ?_
       refine pR_done hs38 ?_ _
       refine seq_n hK32 ?_
       refine wp_cond_false (by kernel_rfl) ?_
       refine wp_skip ?_
       refine blk_n ?_
       refine seq_n hK22 ?_
       refine wp_reset 108 [(0, (pt m 0)), (2, (Value.bool ag3)), (6, (Value.int .i64 ((n + 1 : Int)))), (7, (pt g25 0)), (8, (pt g30 0)), (10, (Value.bool ag)), (15, (pt r 0)), (17, (Value.bool false)), (63, (Value.bool (decide ((n + 1 : Int) ≤ (s.keys.length : Int))))), (102, (Value.bool false))] (fun x39 => ?_)
       refine reg_lit ?_
       refine wq_p 1 [(64, (Value.int .i64 ((n + 1 : Int))))] ?_
       refine wq_v (some 65) (Value.int .i64 ((n + 1 : Int) + 1)) (exec_add _ _ _ _ rfl ((n + 1 : Int)) 1 (by kernel_rfl) (by kernel_rfl) ((n + 1 : Int) + 1) rfl (by omega) (by omega) _) ?_
       refine wq_p 1 [(6, (Value.int .i64 ((n + 1 : Int) + 1)))] ?_
       refine wl_end rfl ?_
       refine ⟨s.keys.length - (n + 1), (by omega), S3, ag3, F3, (n + 1), (hI.skip hf (fun _ ho2 => absurd ho2 ho)), rfl, (patch_eq _ 108 _ (by kernel_rfl) (by kernel_rfl) (by kernel_rfl)), h38.sel [2, 3] [] (by kernel_rfl) rfl rfl⟩
      ·
       refine pR_go h31 22 (fun W => (rMind F3 none m p S3).Φ W ∧ (rBlk g25 28 (vb (kl K24))).Φ W ∧ (rBlk g30 58 (vb (kl O) ++ [(Value.string fl), (Value.bool fb)])).Φ W ∧ True) [(82, [0], 0), (83, [81], 1), (84, [82], 2), (85, [83], 4), (86, [7], 0), (87, [84, 85], 24), (88, [86], 32), (89, [87], 64), (90, [8, 88], 128), (91, [89, 88], 384), (92, [88], 128), (93, [90, 91, 88], 1664), (94, [88, 92], 2176), (95, [93], 4224), (96, [0, 94], 8192), (97, [95, 94], 24576), (98, [96, 94], 40960), (99, [97, 94], 73728), (100, [8, 94], 8192), (101, [99, 94], 270336), (102, [98, 100, 94], 663552), (103, [94, 101], 1056768)] rfl (fun _ d _ _ _ h => by cases d <;> exact h) ?_
       intro hs40 w40 h40
       refine pR_p 19 [0, 1, 2] [(83, (pt m 1)), (82, (pt m 0)), (81, (pt m 0))] 7 hs40 ⟨h40.at_ 2 rfl, h40.at_ 1 rfl, h40.at_ 0 rfl, trivial⟩ ?_
       refine pR_v 3 (some 84) (Value.map (some p.kb)) 15 rfl hs40 ⟨h40.at_ 2 rfl, h40.at_ 1 rfl, h40.at_ 0 rfl, trivial⟩ (fun W hW => e_mload hW.1 63 (.tmp 83) (by kernel_rfl) 1 (Value.map (some p.kb)) (by kernel_rfl) (by kernel_rfl) (by kernel_rfl)) ?_
       refine pR_v 4 (some 85) (Value.agg (vb (kl K24)).toArray) 31 rfl hs40 ⟨h40.at_ 2 rfl, h40.at_ 1 rfl, h40.at_ 0 rfl, trivial⟩ (fun W hW => e_loads hW.2.1 28 (.tmp 7) (by kernel_rfl) 0 (vb (kl K24)) (by kernel_rfl) (by kernel_rfl) (by kernel_rfl)) ?_
       refine pR_v 5 (some 86) (Value.bool false) 63 rfl hs40 ⟨h40.at_ 2 rfl, h40.at_ 1 rfl, h40.at_ 0 rfl, trivial⟩ (fun W hW => e_mkk hW.1 (kl K24) (kl_len _) (.tmp 84) (.tmp 85) (by kernel_rfl) (by kernel_rfl) (by kernel_rfl) false (decide_eq_false hk)) ?_
       refine pR_p 12 [6, 7, 8, 10] [(91, (Value.agg (vb (List.replicate 16 0)).toArray)), (89, (pt g30 0)), (88, (Value.bool true)), (87, (Value.bool true))] 1535 hs40 ⟨h40.at_ 2 rfl, h40.at_ 1 rfl, h40.at_ 0 rfl, trivial⟩ ?_
       refine pR_v 9 (some 90) (Value.agg (vb (kl O)).toArray) 2047 rfl hs40 ⟨h40.at_ 2 rfl, h40.at_ 1 rfl, h40.at_ 0 rfl, trivial⟩ (fun W hW => e_loads hW.2.2.1 28 (.tmp 89) (by kernel_rfl) 0 (vb (kl O)) (by kernel_rfl) (by kernel_rfl) (by kernel_rfl)) ?_
       refine pR_v 11 (some 92) (Value.bool true) 4095 rfl hs40 ⟨h40.at_ 2 rfl, h40.at_ 1 rfl, h40.at_ 0 rfl, trivial⟩ (fun W hW => e_kneB (kl O) (List.replicate 16 0) (by kernel_rfl) (by kernel_rfl) 28 28 (.tmp 90) (.tmp 91) (by kernel_rfl) (by kernel_rfl) (by kernel_rfl) (by kernel_rfl) (by kernel_rfl) true (decide_eq_true hz) _) ?_
       refine pR_p 4 [12, 13, 14, 15, 16, 18] [(99, (pt g30 0)), (97, (pt m 1)), (96, (pt m 0)), (95, (pt m 0)), (94, (Value.bool true)), (93, (Value.bool true))] 393215 hs40 ⟨h40.at_ 2 rfl, h40.at_ 1 rfl, h40.at_ 0 rfl, trivial⟩ ?_
       refine pR_v 17 (some 98) (Value.map (some p.kb)) 524287 rfl hs40 ⟨h40.at_ 2 rfl, h40.at_ 1 rfl, h40.at_ 0 rfl, trivial⟩ (fun W hW => e_mload hW.1 63 (.tmp 97) (by kernel_rfl) 1 (Value.map (some p.kb)) (by kernel_rfl) (by kernel_rfl) (by kernel_rfl)) ?_
       refine pR_v 19 (some 100) (Value.agg (vb (kl O)).toArray) 1048575 rfl hs40 ⟨h40.at_ 2 rfl, h40.at_ 1 rfl, h40.at_ 0 rfl, trivial⟩ (fun W hW => e_loads hW.2.2.1 28 (.tmp 99) (by kernel_rfl) 0 (vb (kl O)) (by kernel_rfl) (by kernel_rfl) (by kernel_rfl)) ?_
       refine pR_v 20 (some 101) (Value.bool true) 2097151 rfl hs40 ⟨h40.at_ 2 rfl, h40.at_ 1 rfl, h40.at_ 0 rfl, trivial⟩ (fun W hW => e_mkk hW.1 (kl O) (kl_len _) (.tmp 98) (.tmp 100) (by kernel_rfl) (by kernel_rfl) (by kernel_rfl) true (decide_eq_true ho)) ?_
       refine pR_p 0 [21] [(102, (Value.bool true))] 4194303 hs40 ⟨h40.at_ 2 rfl, h40.at_ 1 rfl, h40.at_ 0 rfl, trivial⟩ ?_
       refine pR_done hs40 ?_ _
       refine seq_n hK32 ?_
       refine wp_cond_true (by kernel_rfl) ?_
       refine wp_seq_k ?_
       intro K41 hK41
       refine wp_reset 108 [(0, (pt m 0)), (2, (Value.bool ag3)), (6, (Value.int .i64 ((n + 1 : Int)))), (7, (pt g25 0)), (8, (pt g30 0)), (10, (Value.bool ag)), (15, (pt r 0)), (17, (Value.bool false)), (63, (Value.bool (decide ((n + 1 : Int) ≤ (s.keys.length : Int))))), (102, (Value.bool true))] (fun x42 => ?_)
       refine pR_go h40 5 (fun W => (rMind F3 none m p S3).Φ W ∧ (rBlk g25 28 (vb (kl K24))).Φ W ∧ True) [(104, [0], 0), (105, [103], 1), (106, [104], 2), (107, [105], 4), (108, [7], 0), (0, [106, 107], 31)] rfl (fun _ d _ _ _ h => by cases d <;> exact h) ?_
       intro hs43 w43 h43
       refine pR_p 3 [0, 1, 2] [(105, (pt m 1)), (104, (pt m 0)), (103, (pt m 0))] 7 hs43 ⟨h43.at_ 2 rfl, h43.at_ 1 rfl, trivial⟩ ?_
       refine pR_v 3 (some 106) (Value.map (some p.kb)) 15 rfl hs43 ⟨h43.at_ 2 rfl, h43.at_ 1 rfl, trivial⟩ (fun W hW => e_mload hW.1 63 (.tmp 105) (by kernel_rfl) 1 (Value.map (some p.kb)) (by kernel_rfl) (by kernel_rfl) (by kernel_rfl)) ?_
       refine pR_v 4 (some 107) (Value.agg (vb (kl K24)).toArray) 31 rfl hs43 ⟨h43.at_ 2 rfl, h43.at_ 1 rfl, trivial⟩ (fun W hW => e_loads hW.2.1 28 (.tmp 7) (by kernel_rfl) 0 (vb (kl K24)) (by kernel_rfl) (by kernel_rfl) (by kernel_rfl)) ?_
       refine pR_to 5 none 63 rfl hs43 (x_mupdK h43 2 rfl (kl K24) (by kernel_rfl) (.tmp 106) (.tmp 107) (.const (Value.bool true)) (by kernel_rfl) (by kernel_rfl) (by kernel_rfl) (by kernel_rfl)) ?_
       rintro _ w44 ⟨F44, S44, hS44, h44⟩
       refine ⟨fun h => absurd h (by decide), ?_⟩
       refine pR_done hs43 ?_ _
       refine seq_n hK41 ?_
       refine reg_lit ?_
       refine wq_p 1 [(2, (Value.bool true))] ?_
       refine wl_end rfl ?_
       refine blk_n ?_
       refine seq_n hK22 ?_
       refine reg_lit ?_
       refine wq_p 1 [(64, (Value.int .i64 ((n + 1 : Int))))] ?_
       refine wq_v (some 65) (Value.int .i64 ((n + 1 : Int) + 1)) (exec_add _ _ _ _ rfl ((n + 1 : Int)) 1 (by kernel_rfl) (by kernel_rfl) ((n + 1 : Int) + 1) rfl (by omega) (by omega) _) ?_
       refine wq_p 1 [(6, (Value.int .i64 ((n + 1 : Int) + 1)))] ?_
       refine wl_end rfl ?_
       refine ⟨s.keys.length - (n + 1), (by omega), S44, true, F44, (n + 1), (hI.late hf hz ho hKn hk hS44), rfl, (patch_eq _ 108 _ (by kernel_rfl) (by kernel_rfl) (by kernel_rfl)), h44.sel [2, 3] [] (by kernel_rfl) rfl rfl⟩
     ·
      refine pR_op 9 (some 8) 543 rfl (x_new h28 58 (vb (List.replicate 16 0) ++ [(Value.string ByteArray.empty), (Value.bool false)]) (fun r => pt r 0) (by kernel_rfl)) ?_
      rintro _ w45 ⟨g45, rfl, h45⟩
      refine ⟨fun _ => ⟨h45.at_ 2 rfl, h45.at_ 1 rfl, trivial⟩, ?_⟩
      refine pR_to 5 (some 78) 575 rfl hs28 (x_cameK h45 3 rfl K24 O fl fb (by kernel_rfl) (by omega) hcm) ?_
      rintro _ w46 ⟨rfl, h46⟩
      refine ⟨fun _ => ⟨h46.at_ 2 rfl, h46.at_ 1 rfl, trivial⟩, ?_⟩
      refine pR_p 2 [6, 7, 8] [(80, (Value.bool true)), (79, (Value.agg (vb (kl O) ++ [(Value.string fl), (Value.bool fb)]).toArray)), (72, (Value.tuple #[(Value.agg (vb (kl O) ++ [(Value.string fl), (Value.bool fb)]).toArray), (Value.bool true)]))] 1023 hs28 ⟨h46.at_ 2 rfl, h46.at_ 1 rfl, trivial⟩ ?_
      refine pR_to 10 none 2047 rfl hs28 (x_stores h46 0 rfl 58 (.tmp 8) (.tmp 79) (by kernel_rfl) 0 (vb (kl O) ++ [(Value.string fl), (Value.bool fb)]) (vb (kl O) ++ [(Value.string fl), (Value.bool fb)]) (by kernel_rfl) (by kernel_rfl) (by kernel_rfl) (by kernel_rfl) (by kernel_rfl) (by kernel_rfl)) ?_
      rintro _ w47 h47
      refine ⟨fun _ => ⟨h47.at_ 2 rfl, h47.at_ 1 rfl, trivial⟩, ?_⟩
      refine pR_to 11 (some 9) 4095 rfl hs28 (OpTo.run (Value.bool true) (pureOp_run (by kernel_rfl) _) (R := fun v w => v = (Value.bool true) ∧ w47 = w) ⟨rfl, rfl⟩) ?_
      rintro _ _ ⟨rfl, rfl⟩
      refine ⟨fun h => absurd h (by decide), ?_⟩
      refine pR_done hs28 ?_ _
      refine seq_n hK27 ?_
      refine wp_seq_k ?_
      intro K48 hK48
      rcases (show kl K24 ∈ S3.kk ∨ (kl K24 ∉ S3.kk ∧ kl O = zKey) ∨ (kl K24 ∉ S3.kk ∧ kl O ≠ zKey ∧ kl O ∉ S3.kk) ∨ (kl K24 ∉ S3.kk ∧ kl O ≠ zKey ∧ kl O ∈ S3.kk) by by_cases c1 : kl K24 ∈ S3.kk <;> by_cases c2 : kl O = zKey <;> by_cases c3 : kl O ∈ S3.kk <;> simp [c1, c2, c3]) with hk | ⟨hk, hz⟩ | ⟨hk, hz, ho⟩ | ⟨hk, hz, ho⟩
      ·
       refine pR_go h47 22 (fun W => (rMind F3 none m p S3).Φ W ∧ (rBlk g25 28 (vb (kl K24))).Φ W ∧ True) [(82, [0], 0), (83, [81], 1), (84, [82], 2), (85, [83], 4), (86, [7], 0), (87, [84, 85], 24), (88, [86], 32), (89, [87], 64), (90, [8, 88], 128), (91, [89, 88], 384), (92, [88], 128), (93, [90, 91, 88], 1664), (94, [88, 92], 2176), (95, [93], 4224), (96, [0, 94], 8192), (97, [95, 94], 24576), (98, [96, 94], 40960), (99, [97, 94], 73728), (100, [8, 94], 8192), (101, [99, 94], 270336), (102, [98, 100, 94], 663552), (103, [94, 101], 1056768)] rfl (fun _ d _ _ _ h => by cases d <;> exact h) ?_
       intro hs50 w50 h50
       refine pR_p 19 [0, 1, 2] [(83, (pt m 1)), (82, (pt m 0)), (81, (pt m 0))] 7 hs50 ⟨h50.at_ 2 rfl, h50.at_ 1 rfl, trivial⟩ ?_
       refine pR_v 3 (some 84) (Value.map (some p.kb)) 15 rfl hs50 ⟨h50.at_ 2 rfl, h50.at_ 1 rfl, trivial⟩ (fun W hW => e_mload hW.1 63 (.tmp 83) (by kernel_rfl) 1 (Value.map (some p.kb)) (by kernel_rfl) (by kernel_rfl) (by kernel_rfl)) ?_
       refine pR_v 4 (some 85) (Value.agg (vb (kl K24)).toArray) 31 rfl hs50 ⟨h50.at_ 2 rfl, h50.at_ 1 rfl, trivial⟩ (fun W hW => e_loads hW.2.1 28 (.tmp 7) (by kernel_rfl) 0 (vb (kl K24)) (by kernel_rfl) (by kernel_rfl) (by kernel_rfl)) ?_
       refine pR_v 5 (some 86) (Value.bool true) 63 rfl hs50 ⟨h50.at_ 2 rfl, h50.at_ 1 rfl, trivial⟩ (fun W hW => e_mkk hW.1 (kl K24) (kl_len _) (.tmp 84) (.tmp 85) (by kernel_rfl) (by kernel_rfl) (by kernel_rfl) true (decide_eq_true hk)) ?_
       refine pR_p 0 [6, 7, 8, 9, 10, 11, 12, 13, 14, 15, 16, 17, 18, 19, 20, 21] [(102, (Value.bool false)), (101, undef), (100, undef), (99, undef), (98, undef), (97, undef), (96, undef), (95, undef), (94, (Value.bool false)), (93, (Value.bool false)), (92, undef), (91, undef), (90, undef), (89, undef), (88, (Value.bool false)), (87, (Value.bool false))] 4194303 hs50 ⟨h50.at_ 2 rfl, h50.at_ 1 rfl, trivial⟩ ?_
       refine pR_done hs50 ?_ _
       refine seq_n hK48 ?_
       refine wp_cond_false (by kernel_rfl) ?_
       refine wp_skip ?_
       refine blk_n ?_
       refine seq_n hK22 ?_
       refine wp_reset 108 [(0, (pt m 0)), (2, (Value.bool ag3)), (6, (Value.int .i64 ((n + 1 : Int)))), (7, (pt g25 0)), (8, (pt g45 0)), (10, (Value.bool ag)), (15, (pt r 0)), (17, (Value.bool false)), (63, (Value.bool (decide ((n + 1 : Int) ≤ (s.keys.length : Int))))), (102, (Value.bool false))] (fun x51 => ?_)
       refine reg_lit ?_
       refine wq_p 1 [(64, (Value.int .i64 ((n + 1 : Int))))] ?_
       refine wq_v (some 65) (Value.int .i64 ((n + 1 : Int) + 1)) (exec_add _ _ _ _ rfl ((n + 1 : Int)) 1 (by kernel_rfl) (by kernel_rfl) ((n + 1 : Int) + 1) rfl (by omega) (by omega) _) ?_
       refine wq_p 1 [(6, (Value.int .i64 ((n + 1 : Int) + 1)))] ?_
       refine wl_end rfl ?_
       refine ⟨s.keys.length - (n + 1), (by omega), S3, ag3, F3, (n + 1), (hI.skip hf (fun _ _ => by rw [← hKn]; exact hk)), rfl, (patch_eq _ 108 _ (by kernel_rfl) (by kernel_rfl) (by kernel_rfl)), h50.sel [2, 3] [] (by kernel_rfl) rfl rfl⟩
      ·
       refine pR_go h47 22 (fun W => (rMind F3 none m p S3).Φ W ∧ (rBlk g25 28 (vb (kl K24))).Φ W ∧ (rBlk g45 58 (vb (kl O) ++ [(Value.string fl), (Value.bool fb)])).Φ W ∧ True) [(82, [0], 0), (83, [81], 1), (84, [82], 2), (85, [83], 4), (86, [7], 0), (87, [84, 85], 24), (88, [86], 32), (89, [87], 64), (90, [8, 88], 128), (91, [89, 88], 384), (92, [88], 128), (93, [90, 91, 88], 1664), (94, [88, 92], 2176), (95, [93], 4224), (96, [0, 94], 8192), (97, [95, 94], 24576), (98, [96, 94], 40960), (99, [97, 94], 73728), (100, [8, 94], 8192), (101, [99, 94], 270336), (102, [98, 100, 94], 663552), (103, [94, 101], 1056768)] rfl (fun _ d _ _ _ h => by cases d <;> exact h) ?_
       intro hs52 w52 h52
       refine pR_p 19 [0, 1, 2] [(83, (pt m 1)), (82, (pt m 0)), (81, (pt m 0))] 7 hs52 ⟨h52.at_ 2 rfl, h52.at_ 1 rfl, h52.at_ 0 rfl, trivial⟩ ?_
       refine pR_v 3 (some 84) (Value.map (some p.kb)) 15 rfl hs52 ⟨h52.at_ 2 rfl, h52.at_ 1 rfl, h52.at_ 0 rfl, trivial⟩ (fun W hW => e_mload hW.1 63 (.tmp 83) (by kernel_rfl) 1 (Value.map (some p.kb)) (by kernel_rfl) (by kernel_rfl) (by kernel_rfl)) ?_
       refine pR_v 4 (some 85) (Value.agg (vb (kl K24)).toArray) 31 rfl hs52 ⟨h52.at_ 2 rfl, h52.at_ 1 rfl, h52.at_ 0 rfl, trivial⟩ (fun W hW => e_loads hW.2.1 28 (.tmp 7) (by kernel_rfl) 0 (vb (kl K24)) (by kernel_rfl) (by kernel_rfl) (by kernel_rfl)) ?_
       refine pR_v 5 (some 86) (Value.bool false) 63 rfl hs52 ⟨h52.at_ 2 rfl, h52.at_ 1 rfl, h52.at_ 0 rfl, trivial⟩ (fun W hW => e_mkk hW.1 (kl K24) (kl_len _) (.tmp 84) (.tmp 85) (by kernel_rfl) (by kernel_rfl) (by kernel_rfl) false (decide_eq_false hk)) ?_
       refine pR_p 12 [6, 7, 8, 10] [(91, (Value.agg (vb (List.replicate 16 0)).toArray)), (89, (pt g45 0)), (88, (Value.bool true)), (87, (Value.bool true))] 1535 hs52 ⟨h52.at_ 2 rfl, h52.at_ 1 rfl, h52.at_ 0 rfl, trivial⟩ ?_
       refine pR_v 9 (some 90) (Value.agg (vb (kl O)).toArray) 2047 rfl hs52 ⟨h52.at_ 2 rfl, h52.at_ 1 rfl, h52.at_ 0 rfl, trivial⟩ (fun W hW => e_loads hW.2.2.1 28 (.tmp 89) (by kernel_rfl) 0 (vb (kl O)) (by kernel_rfl) (by kernel_rfl) (by kernel_rfl)) ?_
       refine pR_v 11 (some 92) (Value.bool false) 4095 rfl hs52 ⟨h52.at_ 2 rfl, h52.at_ 1 rfl, h52.at_ 0 rfl, trivial⟩ (fun W hW => e_kneB (kl O) (List.replicate 16 0) (by kernel_rfl) (by kernel_rfl) 28 28 (.tmp 90) (.tmp 91) (by kernel_rfl) (by kernel_rfl) (by kernel_rfl) (by kernel_rfl) (by kernel_rfl) false (decide_eq_false (fun h => h hz)) _) ?_
       refine pR_p 0 [12, 13, 14, 15, 16, 17, 18, 19, 20, 21] [(102, (Value.bool false)), (101, undef), (100, undef), (99, undef), (98, undef), (97, undef), (96, undef), (95, undef), (94, (Value.bool false)), (93, (Value.bool false))] 4194303 hs52 ⟨h52.at_ 2 rfl, h52.at_ 1 rfl, h52.at_ 0 rfl, trivial⟩ ?_
       refine pR_done hs52 ?_ _
       refine seq_n hK48 ?_
       refine wp_cond_false (by kernel_rfl) ?_
       refine wp_skip ?_
       refine blk_n ?_
       refine seq_n hK22 ?_
       refine wp_reset 108 [(0, (pt m 0)), (2, (Value.bool ag3)), (6, (Value.int .i64 ((n + 1 : Int)))), (7, (pt g25 0)), (8, (pt g45 0)), (10, (Value.bool ag)), (15, (pt r 0)), (17, (Value.bool false)), (63, (Value.bool (decide ((n + 1 : Int) ≤ (s.keys.length : Int))))), (102, (Value.bool false))] (fun x53 => ?_)
       refine reg_lit ?_
       refine wq_p 1 [(64, (Value.int .i64 ((n + 1 : Int))))] ?_
       refine wq_v (some 65) (Value.int .i64 ((n + 1 : Int) + 1)) (exec_add _ _ _ _ rfl ((n + 1 : Int)) 1 (by kernel_rfl) (by kernel_rfl) ((n + 1 : Int) + 1) rfl (by omega) (by omega) _) ?_
       refine wq_p 1 [(6, (Value.int .i64 ((n + 1 : Int) + 1)))] ?_
       refine wl_end rfl ?_
       refine ⟨s.keys.length - (n + 1), (by omega), S3, ag3, F3, (n + 1), (hI.skip hf (fun hz2 _ => absurd hz hz2)), rfl, (patch_eq _ 108 _ (by kernel_rfl) (by kernel_rfl) (by kernel_rfl)), h52.sel [2, 3] [] (by kernel_rfl) rfl rfl⟩
      ·
       refine pR_go h47 22 (fun W => (rMind F3 none m p S3).Φ W ∧ (rBlk g25 28 (vb (kl K24))).Φ W ∧ (rBlk g45 58 (vb (kl O) ++ [(Value.string fl), (Value.bool fb)])).Φ W ∧ True) [(82, [0], 0), (83, [81], 1), (84, [82], 2), (85, [83], 4), (86, [7], 0), (87, [84, 85], 24), (88, [86], 32), (89, [87], 64), (90, [8, 88], 128), (91, [89, 88], 384), (92, [88], 128), (93, [90, 91, 88], 1664), (94, [88, 92], 2176), (95, [93], 4224), (96, [0, 94], 8192), (97, [95, 94], 24576), (98, [96, 94], 40960), (99, [97, 94], 73728), (100, [8, 94], 8192), (101, [99, 94], 270336), (102, [98, 100, 94], 663552), (103, [94, 101], 1056768)] rfl (fun _ d _ _ _ h => by cases d <;> exact h) ?_
       intro hs54 w54 h54
       refine pR_p 19 [0, 1, 2] [(83, (pt m 1)), (82, (pt m 0)), (81, (pt m 0))] 7 hs54 ⟨h54.at_ 2 rfl, h54.at_ 1 rfl, h54.at_ 0 rfl, trivial⟩ ?_
       refine pR_v 3 (some 84) (Value.map (some p.kb)) 15 rfl hs54 ⟨h54.at_ 2 rfl, h54.at_ 1 rfl, h54.at_ 0 rfl, trivial⟩ (fun W hW => e_mload hW.1 63 (.tmp 83) (by kernel_rfl) 1 (Value.map (some p.kb)) (by kernel_rfl) (by kernel_rfl) (by kernel_rfl)) ?_
       refine pR_v 4 (some 85) (Value.agg (vb (kl K24)).toArray) 31 rfl hs54 ⟨h54.at_ 2 rfl, h54.at_ 1 rfl, h54.at_ 0 rfl, trivial⟩ (fun W hW => e_loads hW.2.1 28 (.tmp 7) (by kernel_rfl) 0 (vb (kl K24)) (by kernel_rfl) (by kernel_rfl) (by kernel_rfl)) ?_
       refine pR_v 5 (some 86) (Value.bool false) 63 rfl hs54 ⟨h54.at_ 2 rfl, h54.at_ 1 rfl, h54.at_ 0 rfl, trivial⟩ (fun W hW => e_mkk hW.1 (kl K24) (kl_len _) (.tmp 84) (.tmp 85) (by kernel_rfl) (by kernel_rfl) (by kernel_rfl) false (decide_eq_false hk)) ?_
       refine pR_p 12 [6, 7, 8, 10] [(91, (Value.agg (vb (List.replicate 16 0)).toArray)), (89, (pt g45 0)), (88, (Value.bool true)), (87, (Value.bool true))] 1535 hs54 ⟨h54.at_ 2 rfl, h54.at_ 1 rfl, h54.at_ 0 rfl, trivial⟩ ?_
       refine pR_v 9 (some 90) (Value.agg (vb (kl O)).toArray) 2047 rfl hs54 ⟨h54.at_ 2 rfl, h54.at_ 1 rfl, h54.at_ 0 rfl, trivial⟩ (fun W hW => e_loads hW.2.2.1 28 (.tmp 89) (by kernel_rfl) 0 (vb (kl O)) (by kernel_rfl) (by kernel_rfl) (by kernel_rfl)) ?_
       refine pR_v 11 (some 92) (Value.bool true) 4095 rfl hs54 ⟨h54.at_ 2 rfl, h54.at_ 1 rfl, h54.at_ 0 rfl, trivial⟩ (fun W hW => e_kneB (kl O) (List.replicate 16 0) (by kernel_rfl) (by kernel_rfl) 28 28 (.tmp 90) (.tmp 91) (by kernel_rfl) (by kernel_rfl) (by kernel_rfl) (by kernel_rfl) (by kernel_rfl) true (decide_eq_true hz) _) ?_
       refine pR_p 4 [12, 13, 14, 15, 16, 18] [(99, (pt g45 0)), (97, (pt m 1)), (96, (pt m 0)), (95, (pt m 0)), (94, (Value.bool true)), (93, (Value.bool true))] 393215 hs54 ⟨h54.at_ 2 rfl, h54.at_ 1 rfl, h54.at_ 0 rfl, trivial⟩ ?_
       refine pR_v 17 (some 98) (Value.map (some p.kb)) 524287 rfl hs54 ⟨h54.at_ 2 rfl, h54.at_ 1 rfl, h54.at_ 0 rfl, trivial⟩ (fun W hW => e_mload hW.1 63 (.tmp 97) (by kernel_rfl) 1 (Value.map (some p.kb)) (by kernel_rfl) (by kernel_rfl) (by kernel_rfl)) ?_
       refine pR_v 19 (some 100) (Value.agg (vb (kl O)).toArray) 1048575 rfl hs54 ⟨h54.at_ 2 rfl, h54.at_ 1 rfl, h54.at_ 0 rfl, trivial⟩ (fun W hW => e_loads hW.2.2.1 28 (.tmp 99) (by kernel_rfl) 0 (vb (kl O)) (by kernel_rfl) (by kernel_rfl) (by kernel_rfl)) ?_
       refine pR_v 20 (some 101) (Value.bool false) 2097151 rfl hs54 ⟨h54.at_ 2 rfl, h54.at_ 1 rfl, h54.at_ 0 rfl, trivial⟩ (fun W hW => e_mkk hW.1 (kl O) (kl_len _) (.tmp 98) (.tmp 100) (by kernel_rfl) (by kernel_rfl) (by kernel_rfl) false (decide_eq_false ho)) ?_
       refine pR_p 0 [21] [(102, (Value.bool false))] 4194303 hs54 ⟨h54.at_ 2 rfl, h54.at_ 1 rfl, h54.at_ 0 rfl, trivial⟩ ?_
       refine pR_done hs54 ?_ _
       refine seq_n hK48 ?_
       refine wp_cond_false (by kernel_rfl) ?_
       refine wp_skip ?_
       refine blk_n ?_
       refine seq_n hK22 ?_
       refine wp_reset 108 [(0, (pt m 0)), (2, (Value.bool ag3)), (6, (Value.int .i64 ((n + 1 : Int)))), (7, (pt g25 0)), (8, (pt g45 0)), (10, (Value.bool ag)), (15, (pt r 0)), (17, (Value.bool false)), (63, (Value.bool (decide ((n + 1 : Int) ≤ (s.keys.length : Int))))), (102, (Value.bool false))] (fun x55 => ?_)
       refine reg_lit ?_
       refine wq_p 1 [(64, (Value.int .i64 ((n + 1 : Int))))] ?_
       refine wq_v (some 65) (Value.int .i64 ((n + 1 : Int) + 1)) (exec_add _ _ _ _ rfl ((n + 1 : Int)) 1 (by kernel_rfl) (by kernel_rfl) ((n + 1 : Int) + 1) rfl (by omega) (by omega) _) ?_
       refine wq_p 1 [(6, (Value.int .i64 ((n + 1 : Int) + 1)))] ?_
       refine wl_end rfl ?_
       refine ⟨s.keys.length - (n + 1), (by omega), S3, ag3, F3, (n + 1), (hI.skip hf (fun _ ho2 => absurd ho2 ho)), rfl, (patch_eq _ 108 _ (by kernel_rfl) (by kernel_rfl) (by kernel_rfl)), h54.sel [2, 3] [] (by kernel_rfl) rfl rfl⟩
      ·
       refine pR_go h47 22 (fun W => (rMind F3 none m p S3).Φ W ∧ (rBlk g25 28 (vb (kl K24))).Φ W ∧ (rBlk g45 58 (vb (kl O) ++ [(Value.string fl), (Value.bool fb)])).Φ W ∧ True) [(82, [0], 0), (83, [81], 1), (84, [82], 2), (85, [83], 4), (86, [7], 0), (87, [84, 85], 24), (88, [86], 32), (89, [87], 64), (90, [8, 88], 128), (91, [89, 88], 384), (92, [88], 128), (93, [90, 91, 88], 1664), (94, [88, 92], 2176), (95, [93], 4224), (96, [0, 94], 8192), (97, [95, 94], 24576), (98, [96, 94], 40960), (99, [97, 94], 73728), (100, [8, 94], 8192), (101, [99, 94], 270336), (102, [98, 100, 94], 663552), (103, [94, 101], 1056768)] rfl (fun _ d _ _ _ h => by cases d <;> exact h) ?_
       intro hs56 w56 h56
       refine pR_p 19 [0, 1, 2] [(83, (pt m 1)), (82, (pt m 0)), (81, (pt m 0))] 7 hs56 ⟨h56.at_ 2 rfl, h56.at_ 1 rfl, h56.at_ 0 rfl, trivial⟩ ?_
       refine pR_v 3 (some 84) (Value.map (some p.kb)) 15 rfl hs56 ⟨h56.at_ 2 rfl, h56.at_ 1 rfl, h56.at_ 0 rfl, trivial⟩ (fun W hW => e_mload hW.1 63 (.tmp 83) (by kernel_rfl) 1 (Value.map (some p.kb)) (by kernel_rfl) (by kernel_rfl) (by kernel_rfl)) ?_
       refine pR_v 4 (some 85) (Value.agg (vb (kl K24)).toArray) 31 rfl hs56 ⟨h56.at_ 2 rfl, h56.at_ 1 rfl, h56.at_ 0 rfl, trivial⟩ (fun W hW => e_loads hW.2.1 28 (.tmp 7) (by kernel_rfl) 0 (vb (kl K24)) (by kernel_rfl) (by kernel_rfl) (by kernel_rfl)) ?_
       refine pR_v 5 (some 86) (Value.bool false) 63 rfl hs56 ⟨h56.at_ 2 rfl, h56.at_ 1 rfl, h56.at_ 0 rfl, trivial⟩ (fun W hW => e_mkk hW.1 (kl K24) (kl_len _) (.tmp 84) (.tmp 85) (by kernel_rfl) (by kernel_rfl) (by kernel_rfl) false (decide_eq_false hk)) ?_
       refine pR_p 12 [6, 7, 8, 10] [(91, (Value.agg (vb (List.replicate 16 0)).toArray)), (89, (pt g45 0)), (88, (Value.bool true)), (87, (Value.bool true))] 1535 hs56 ⟨h56.at_ 2 rfl, h56.at_ 1 rfl, h56.at_ 0 rfl, trivial⟩ ?_
       refine pR_v 9 (some 90) (Value.agg (vb (kl O)).toArray) 2047 rfl hs56 ⟨h56.at_ 2 rfl, h56.at_ 1 rfl, h56.at_ 0 rfl, trivial⟩ (fun W hW => e_loads hW.2.2.1 28 (.tmp 89) (by kernel_rfl) 0 (vb (kl O)) (by kernel_rfl) (by kernel_rfl) (by kernel_rfl)) ?_
       refine pR_v 11 (some 92) (Value.bool true) 4095 rfl hs56 ⟨h56.at_ 2 rfl, h56.at_ 1 rfl, h56.at_ 0 rfl, trivial⟩ (fun W hW => e_kneB (kl O) (List.replicate 16 0) (by kernel_rfl) (by kernel_rfl) 28 28 (.tmp 90) (.tmp 91) (by kernel_rfl) (by kernel_rfl) (by kernel_rfl) (by kernel_rfl) (by kernel_rfl) true (decide_eq_true hz) _) ?_
       refine pR_p 4 [12, 13, 14, 15, 16, 18] [(99, (pt g45 0)), (97, (pt m 1)), (96, (pt m 0)), (95, (pt m 0)), (94, (Value.bool true)), (93, (Value.bool true))] 393215 hs56 ⟨h56.at_ 2 rfl, h56.at_ 1 rfl, h56.at_ 0 rfl, trivial⟩ ?_
       refine pR_v 17 (some 98) (Value.map (some p.kb)) 524287 rfl hs56 ⟨h56.at_ 2 rfl, h56.at_ 1 rfl, h56.at_ 0 rfl, trivial⟩ (fun W hW => e_mload hW.1 63 (.tmp 97) (by kernel_rfl) 1 (Value.map (some p.kb)) (by kernel_rfl) (by kernel_rfl) (by kernel_rfl)) ?_
       refine pR_v 19 (some 100) (Value.agg (vb (kl O)).toArray) 1048575 rfl hs56 ⟨h56.at_ 2 rfl, h56.at_ 1 rfl, h56.at_ 0 rfl, trivial⟩ (fun W hW => e_loads hW.2.2.1 28 (.tmp 99) (by kernel_rfl) 0 (vb (kl O)) (by kernel_rfl) (by kernel_rfl) (by kernel_rfl)) ?_
       refine pR_v 20 (some 101) (Value.bool true) 2097151 rfl hs56 ⟨h56.at_ 2 rfl, h56.at_ 1 rfl, h56.at_ 0 rfl, trivial⟩ (fun W hW => e_mkk hW.1 (kl O) (kl_len _) (.tmp 98) (.tmp 100) (by kernel_rfl) (by kernel_rfl) (by kernel_rfl) true (decide_eq_true ho)) ?_
       refine pR_p 0 [21] [(102, (Value.bool true))] 4194303 hs56 ⟨h56.at_ 2 rfl, h56.at_ 1 rfl, h56.at_ 0 rfl, trivial⟩ ?_
       refine pR_done hs56 ?_ _
       refine seq_n hK48 ?_
       refine wp_cond_true (by kernel_rfl) ?_
       refine wp_seq_k ?_
       intro K57 hK57
       refine wp_reset 108 [(0, (pt m 0)), (2, (Value.bool ag3)), (6, (Value.int .i64 ((n + 1 : Int)))), (7, (pt g25 0)), (8, (pt g45 0)), (10, (Value.bool ag)), (15, (pt r 0)), (17, (Value.bool false)), (63, (Value.bool (decide ((n + 1 : Int) ≤ (s.keys.length : Int))))), (102, (Value.bool true))] (fun x58 => ?_)
       refine pR_go h56 5 (fun W => (rMind F3 none m p S3).Φ W ∧ (rBlk g25 28 (vb (kl K24))).Φ W ∧ True) [(104, [0], 0), (105, [103], 1), (106, [104], 2), (107, [105], 4), (108, [7], 0), (0, [106, 107], 31)] rfl (fun _ d _ _ _ h => by cases d <;> exact h) ?_
       intro hs59 w59 h59
       refine pR_p 3 [0, 1, 2] [(105, (pt m 1)), (104, (pt m 0)), (103, (pt m 0))] 7 hs59 ⟨h59.at_ 2 rfl, h59.at_ 1 rfl, trivial⟩ ?_
       refine pR_v 3 (some 106) (Value.map (some p.kb)) 15 rfl hs59 ⟨h59.at_ 2 rfl, h59.at_ 1 rfl, trivial⟩ (fun W hW => e_mload hW.1 63 (.tmp 105) (by kernel_rfl) 1 (Value.map (some p.kb)) (by kernel_rfl) (by kernel_rfl) (by kernel_rfl)) ?_
       refine pR_v 4 (some 107) (Value.agg (vb (kl K24)).toArray) 31 rfl hs59 ⟨h59.at_ 2 rfl, h59.at_ 1 rfl, trivial⟩ (fun W hW => e_loads hW.2.1 28 (.tmp 7) (by kernel_rfl) 0 (vb (kl K24)) (by kernel_rfl) (by kernel_rfl) (by kernel_rfl)) ?_
       refine pR_to 5 none 63 rfl hs59 (x_mupdK h59 2 rfl (kl K24) (by kernel_rfl) (.tmp 106) (.tmp 107) (.const (Value.bool true)) (by kernel_rfl) (by kernel_rfl) (by kernel_rfl) (by kernel_rfl)) ?_
       rintro _ w60 ⟨F60, S60, hS60, h60⟩
       refine ⟨fun h => absurd h (by decide), ?_⟩
       refine pR_done hs59 ?_ _
       refine seq_n hK57 ?_
       refine reg_lit ?_
       refine wq_p 1 [(2, (Value.bool true))] ?_
       refine wl_end rfl ?_
       refine blk_n ?_
       refine seq_n hK22 ?_
       refine reg_lit ?_
       refine wq_p 1 [(64, (Value.int .i64 ((n + 1 : Int))))] ?_
       refine wq_v (some 65) (Value.int .i64 ((n + 1 : Int) + 1)) (exec_add _ _ _ _ rfl ((n + 1 : Int)) 1 (by kernel_rfl) (by kernel_rfl) ((n + 1 : Int) + 1) rfl (by omega) (by omega) _) ?_
       refine wq_p 1 [(6, (Value.int .i64 ((n + 1 : Int) + 1)))] ?_
       refine wl_end rfl ?_
       refine ⟨s.keys.length - (n + 1), (by omega), S60, true, F60, (n + 1), (hI.late hf hz ho hKn hk hS60), rfl, (patch_eq _ 108 _ (by kernel_rfl) (by kernel_rfl) (by kernel_rfl)), h60.sel [2, 3] [] (by kernel_rfl) rfl rfl⟩
    ·
     refine wp_exit ?_
     refine seq_e ?_
     refine seq_e ?_
     refine blk_e ?_
     refine blk_n ?_
     refine ⟨pot s S3 + unk s S3 + (ag3 : Bool).toNat, (by rw [hag]; exact hI.less), S3, ag3, F3, hI.ws, (hI.done (by omega)), rfl, (patch_eq _ 108 _ (by kernel_rfl) (by kernel_rfl) (by kernel_rfl)), h20.sel [0, 1] [] (by kernel_rfl) rfl rfl⟩
   ·
    refine reg_lit ?_
    refine wq_to (some 16) (x_next1 (.tmp 15) (by kernel_rfl) (by kernel_rfl) hrun) ?_
    rintro _ _ ⟨rfl, rfl⟩
    refine wq_p 1 [(17, (Value.bool true))] ?_
    refine wl_end rfl ?_
    refine seq_n hK11 ?_
    refine wp_seq_k ?_
    intro K61 hK61
    refine wp_cond_true (by kernel_rfl) ?_
    refine wp_skip ?_
    refine seq_n hK61 ?_
    refine wp_block ?_
    refine wp_seq_k ?_
    intro K62 hK62
    refine reg_lit ?_
    refine wq_v (some 18) (Value.tuple #[(Value.agg (vb (kl K)).toArray), (Value.bool true)]) (e_entry1 (.tmp 15) (by kernel_rfl) (by kernel_rfl) hent) ?_
    refine wq_p 1 [(19, (Value.agg (vb (kl K)).toArray))] ?_
    refine wq_to (some 3) (x_new h4n 28 (vb (List.replicate 16 0)) (fun r => pt r 0) (by kernel_rfl)) ?_
    rintro _ w63 ⟨g63, rfl, h63⟩
    refine wq_to none (x_stores h63 0 rfl 28 (.tmp 3) (.tmp 19) (by kernel_rfl) 0 (vb (kl K)) (vb (kl K)) (by kernel_rfl) (by kernel_rfl) (by kernel_rfl) (by kernel_rfl) (by kernel_rfl) (by kernel_rfl)) ?_
    rintro _ w64 h64
    refine wl_end rfl ?_
    refine seq_n hK62 ?_
    refine wp_seq_k ?_
    intro K65 hK65
    rcases box_cases h64 2 rfl (kl K) with hbx | ⟨D, us, bd, hbx⟩
    ·
     refine pR_go h64 11 (fun W => (rMind F4 (some (r, S1.bx.length, sn ++ [j])) m p S2).Φ W ∧ True) [(22, [0], 0), (23, [21], 1), (24, [22], 2), (25, [23], 4), (26, [3], 0), (27, [24, 25], 24), (21, [26], 32), (28, [20], 64), (29, [20], 64), (5, [], 0), (0, [4, 27], 767), (6, [28], 2047)] rfl (fun _ d _ _ _ h => by cases d <;> exact h) ?_
     intro hs67 w67 h67
     refine pR_p 8 [0, 1, 2, 4] [(25, (Value.slice (some ⟨g63, 0, none⟩) 16 16)), (23, (pt m 0)), (22, (pt m 0)), (21, (pt m 0))] 23 hs67 ⟨h67.at_ 1 rfl, trivial⟩ ?_
     refine pR_v 3 (some 24) (pt p.tb 0) 31 rfl hs67 ⟨h67.at_ 1 rfl, trivial⟩ (fun W hW => e_mload hW.1 23 (.tmp 23) (by kernel_rfl) 0 (pt p.tb 0) (by kernel_rfl) (by kernel_rfl) (by kernel_rfl)) ?_
     refine pR_or 5 9 hs67 ?_ ?_
     ·
      refine pR_op 5 (some 26) 63 rfl (x_boxN h67 2 rfl (kl K) (Value.slice (some ⟨g63, 0, none⟩) 16 16) (by kernel_rfl) (SB.blk16 (K := K) (h67.at_ 0 rfl)) hx (h67.tabW 2 rfl).1 (by omega) hbx) ?_
      rintro _ w68 ⟨A68, c68, rfl, h68⟩
      refine ⟨fun _ => ⟨h68.at_ 1 rfl, trivial⟩, ?_⟩
      refine pR_p 3 [6, 7, 8] [(28, (Value.bool false)), (27, (Value.agg (vb zKey ++ [(Value.int .i64 0), (Value.slice A68 0 c68)]).toArray)), (20, (Value.tuple #[(Value.agg (vb zKey ++ [(Value.int .i64 0), (Value.slice A68 0 c68)]).toArray), (Value.bool false)]))] 511 hs67 ⟨h68.at_ 1 rfl, trivial⟩ ?_
      refine pR_to 9 (some 4) 1023 rfl hs67 (x_new h68 61 (vb (List.replicate 16 0) ++ [(Value.int .i64 0), (Value.slice none 0 0)]) (fun r => pt r 0) (by kernel_rfl)) ?_
      rintro _ w69 ⟨g69, rfl, h69⟩
      refine ⟨fun _ => ⟨h69.at_ 2 rfl, trivial⟩, ?_⟩
      refine pR_to 10 none 2047 rfl hs67 (x_stores h69 0 rfl 61 (.tmp 4) (.tmp 27) (by kernel_rfl) 0 (vb zKey ++ [(Value.int .i64 0), (Value.slice A68 0 c68)]) (vb zKey ++ [(Value.int .i64 0), (Value.slice A68 0 c68)]) (by kernel_rfl) (by kernel_rfl) (by kernel_rfl) (by kernel_rfl) (by kernel_rfl) (by kernel_rfl)) ?_
      rintro _ w70 h70
      refine ⟨fun _ => ⟨h70.at_ 2 rfl, trivial⟩, ?_⟩
      refine pR_to 11 (some 5) 4095 rfl hs67 (OpTo.run (Value.bool false) (pureOp_run (by kernel_rfl) _) (R := fun v w => v = (Value.bool false) ∧ w70 = w) ⟨rfl, rfl⟩) ?_
      rintro _ _ ⟨rfl, rfl⟩
      refine ⟨fun h => absurd h (by decide), ?_⟩
      refine pR_done hs67 ?_ _
      refine seq_n hK65 ?_
      refine wp_seq_k ?_
      intro K71 hK71
      
      ·
       refine pR_go h70 19 (fun W => True) [(30, [5], 0), (31, [29], 1), (32, [0, 30], 2), (33, [31, 30], 6), (34, [32, 30], 10), (35, [33, 30], 18), (36, [3, 30], 2), (37, [34, 35, 30], 98), (38, [36, 30], 130), (39, [30, 37], 258), (40, [38], 514), (41, [0, 39], 1024), (42, [40, 39], 3072), (43, [41, 39], 5120), (44, [42, 39], 9216), (45, [4, 39], 1024), (46, [44, 39], 33792), (47, [43, 45, 39], 82944), (48, [39, 46], 132096)] rfl (fun _ d _ _ _ h => by cases d <;> exact h) ?_
       intro hs73 w73 h73
       refine pR_p 0 [0, 1, 2, 3, 4, 5, 6, 7, 8, 9, 10, 11, 12, 13, 14, 15, 16, 17, 18] [(47, (Value.bool false)), (46, undef), (45, undef), (44, undef), (43, undef), (42, undef), (41, undef), (40, undef), (39, (Value.bool false)), (38, (Value.bool false)), (37, undef), (36, undef), (35, undef), (34, undef), (33, undef), (32, undef), (31, undef), (30, (Value.bool false)), (29, (Value.bool false))] 524287 hs73 trivial ?_
       refine pR_done hs73 ?_ _
       refine seq_n hK71 ?_
       refine wp_cond_false (by kernel_rfl) ?_
       refine wp_skip ?_
       refine blk_n ?_
       refine ⟨pot s S2 + ((S2 : KM).bx.length - (sn ++ [j] : List Nat).length), (hR.skip_less hj hnj), S2, ag2, F4, (sn ++ [j]), (hR.skip hj hnj (fun _ h => by rw [hbx] at h; cases h)), rfl, (patch_eq _ 108 _ (by kernel_rfl) (by kernel_rfl) (by kernel_rfl)), h73.sel [2, 3] [] (by kernel_rfl) rfl rfl⟩
     ·
      refine pR_op 9 (some 4) 543 rfl (x_new h67 61 (vb (List.replicate 16 0) ++ [(Value.int .i64 0), (Value.slice none 0 0)]) (fun r => pt r 0) (by kernel_rfl)) ?_
      rintro _ w74 ⟨g74, rfl, h74⟩
      refine ⟨fun _ => ⟨h74.at_ 2 rfl, trivial⟩, ?_⟩
      refine pR_to 5 (some 26) 575 rfl hs67 (x_boxN h74 3 rfl (kl K) (Value.slice (some ⟨g63, 0, none⟩) 16 16) (by kernel_rfl) (SB.blk16 (K := K) (h74.at_ 1 rfl)) hx (h74.tabW 3 rfl).1 (by omega) hbx) ?_
      rintro _ w75 ⟨A75, c75, rfl, h75⟩
      refine ⟨fun _ => ⟨h75.at_ 2 rfl, trivial⟩, ?_⟩
      refine pR_p 2 [6, 7, 8] [(28, (Value.bool false)), (27, (Value.agg (vb zKey ++ [(Value.int .i64 0), (Value.slice A75 0 c75)]).toArray)), (20, (Value.tuple #[(Value.agg (vb zKey ++ [(Value.int .i64 0), (Value.slice A75 0 c75)]).toArray), (Value.bool false)]))] 1023 hs67 ⟨h75.at_ 2 rfl, trivial⟩ ?_
      refine pR_to 10 none 2047 rfl hs67 (x_stores h75 0 rfl 61 (.tmp 4) (.tmp 27) (by kernel_rfl) 0 (vb zKey ++ [(Value.int .i64 0), (Value.slice A75 0 c75)]) (vb zKey ++ [(Value.int .i64 0), (Value.slice A75 0 c75)]) (by kernel_rfl) (by kernel_rfl) (by kernel_rfl) (by kernel_rfl) (by kernel_rfl) (by kernel_rfl)) ?_
      rintro _ w76 h76
      refine ⟨fun _ => ⟨h76.at_ 2 rfl, trivial⟩, ?_⟩
      refine pR_to 11 (some 5) 4095 rfl hs67 (OpTo.run (Value.bool false) (pureOp_run (by kernel_rfl) _) (R := fun v w => v = (Value.bool false) ∧ w76 = w) ⟨rfl, rfl⟩) ?_
      rintro _ _ ⟨rfl, rfl⟩
      refine ⟨fun h => absurd h (by decide), ?_⟩
      refine pR_done hs67 ?_ _
      refine seq_n hK65 ?_
      refine wp_seq_k ?_
      intro K77 hK77
      
      ·
       refine pR_go h76 19 (fun W => True) [(30, [5], 0), (31, [29], 1), (32, [0, 30], 2), (33, [31, 30], 6), (34, [32, 30], 10), (35, [33, 30], 18), (36, [3, 30], 2), (37, [34, 35, 30], 98), (38, [36, 30], 130), (39, [30, 37], 258), (40, [38], 514), (41, [0, 39], 1024), (42, [40, 39], 3072), (43, [41, 39], 5120), (44, [42, 39], 9216), (45, [4, 39], 1024), (46, [44, 39], 33792), (47, [43, 45, 39], 82944), (48, [39, 46], 132096)] rfl (fun _ d _ _ _ h => by cases d <;> exact h) ?_
       intro hs79 w79 h79
       refine pR_p 0 [0, 1, 2, 3, 4, 5, 6, 7, 8, 9, 10, 11, 12, 13, 14, 15, 16, 17, 18] [(47, (Value.bool false)), (46, undef), (45, undef), (44, undef), (43, undef), (42, undef), (41, undef), (40, undef), (39, (Value.bool false)), (38, (Value.bool false)), (37, undef), (36, undef), (35, undef), (34, undef), (33, undef), (32, undef), (31, undef), (30, (Value.bool false)), (29, (Value.bool false))] 524287 hs79 trivial ?_
       refine pR_done hs79 ?_ _
       refine seq_n hK77 ?_
       refine wp_cond_false (by kernel_rfl) ?_
       refine wp_skip ?_
       refine blk_n ?_
       refine ⟨pot s S2 + ((S2 : KM).bx.length - (sn ++ [j] : List Nat).length), (hR.skip_less hj hnj), S2, ag2, F4, (sn ++ [j]), (hR.skip hj hnj (fun _ h => by rw [hbx] at h; cases h)), rfl, (patch_eq _ 108 _ (by kernel_rfl) (by kernel_rfl) (by kernel_rfl)), h79.sel [2, 3] [] (by kernel_rfl) rfl rfl⟩
    ·
     refine pR_go h64 11 (fun W => (rMind F4 (some (r, S1.bx.length, sn ++ [j])) m p S2).Φ W ∧ True) [(22, [0], 0), (23, [21], 1), (24, [22], 2), (25, [23], 4), (26, [3], 0), (27, [24, 25], 24), (21, [26], 32), (28, [20], 64), (29, [20], 64), (5, [], 0), (0, [4, 27], 767), (6, [28], 2047)] rfl (fun _ d _ _ _ h => by cases d <;> exact h) ?_
     intro hs80 w80 h80
     refine pR_p 8 [0, 1, 2, 4] [(25, (Value.slice (some ⟨g63, 0, none⟩) 16 16)), (23, (pt m 0)), (22, (pt m 0)), (21, (pt m 0))] 23 hs80 ⟨h80.at_ 1 rfl, trivial⟩ ?_
     refine pR_v 3 (some 24) (pt p.tb 0) 31 rfl hs80 ⟨h80.at_ 1 rfl, trivial⟩ (fun W hW => e_mload hW.1 23 (.tmp 23) (by kernel_rfl) 0 (pt p.tb 0) (by kernel_rfl) (by kernel_rfl) (by kernel_rfl)) ?_
     refine pR_or 5 9 hs80 ?_ ?_
     ·
      refine pR_op 5 (some 26) 63 rfl (x_boxS h80 2 rfl (kl K) (Value.slice (some ⟨g63, 0, none⟩) 16 16) D us bd (by kernel_rfl) (SB.blk16 (K := K) (h80.at_ 0 rfl)) hx (h80.tabW 2 rfl).1 (by omega) hbx) ?_
      rintro _ w81 ⟨A81, c81, rfl, h81⟩
      refine ⟨fun _ => ⟨h81.at_ 2 rfl, trivial⟩, ?_⟩
      refine pR_p 3 [6, 7, 8] [(28, (Value.bool true)), (27, (Value.agg (vb (kl D) ++ [(Value.int .i64 us), (Value.slice A81 bd.length c81)]).toArray)), (20, (Value.tuple #[(Value.agg (vb (kl D) ++ [(Value.int .i64 us), (Value.slice A81 bd.length c81)]).toArray), (Value.bool true)]))] 511 hs80 ⟨h81.at_ 2 rfl, trivial⟩ ?_
      refine pR_to 9 (some 4) 1023 rfl hs80 (x_new h81 61 (vb (List.replicate 16 0) ++ [(Value.int .i64 0), (Value.slice none 0 0)]) (fun r => pt r 0) (by kernel_rfl)) ?_
      rintro _ w82 ⟨g82, rfl, h82⟩
      refine ⟨fun _ => ⟨h82.at_ 3 rfl, trivial⟩, ?_⟩
      refine pR_to 10 none 2047 rfl hs80 (x_stores h82 0 rfl 61 (.tmp 4) (.tmp 27) (by kernel_rfl) 0 (vb (kl D) ++ [(Value.int .i64 us), (Value.slice A81 bd.length c81)]) (vb (kl D) ++ [(Value.int .i64 us), (Value.slice A81 bd.length c81)]) (by kernel_rfl) (by kernel_rfl) (by kernel_rfl) (by kernel_rfl) (by kernel_rfl) (by kernel_rfl)) ?_
      rintro _ w83 h83
      refine ⟨fun _ => ⟨h83.at_ 3 rfl, trivial⟩, ?_⟩
      refine pR_to 11 (some 5) 4095 rfl hs80 (OpTo.run (Value.bool true) (pureOp_run (by kernel_rfl) _) (R := fun v w => v = (Value.bool true) ∧ w83 = w) ⟨rfl, rfl⟩) ?_
      rintro _ _ ⟨rfl, rfl⟩
      refine ⟨fun h => absurd h (by decide), ?_⟩
      refine pR_done hs80 ?_ _
      refine seq_n hK65 ?_
      refine wp_seq_k ?_
      intro K84 hK84
      rcases (show kl K ∈ S2.op ∨ (kl K ∉ S2.op ∧ kl D ∉ S2.kk) ∨ (kl K ∉ S2.op ∧ kl D ∈ S2.kk) by by_cases c1 : kl K ∈ S2.op <;> by_cases c2 : kl D ∈ S2.kk <;> simp [c1, c2]) with ho | ⟨ho, hb⟩ | ⟨ho, hb⟩
      ·
       refine pR_go h83 19 (fun W => (rMind F4 (some (r, S1.bx.length, sn ++ [j])) m p S2).Φ W ∧ (rBlk g63 28 (vb (kl K))).Φ W ∧ True) [(30, [5], 0), (31, [29], 1), (32, [0, 30], 2), (33, [31, 30], 6), (34, [32, 30], 10), (35, [33, 30], 18), (36, [3, 30], 2), (37, [34, 35, 30], 98), (38, [36, 30], 130), (39, [30, 37], 258), (40, [38], 514), (41, [0, 39], 1024), (42, [40, 39], 3072), (43, [41, 39], 5120), (44, [42, 39], 9216), (45, [4, 39], 1024), (46, [44, 39], 33792), (47, [43, 45, 39], 82944), (48, [39, 46], 132096)] rfl (fun _ d _ _ _ h => by cases d <;> exact h) ?_
       intro hs86 w86 h86
       refine pR_p 14 [0, 1, 2, 3, 4] [(33, (pt m 3)), (32, (pt m 0)), (31, (pt m 0)), (30, (Value.bool true)), (29, (Value.bool true))] 31 hs86 ⟨h86.at_ 3 rfl, h86.at_ 2 rfl, trivial⟩ ?_
       refine pR_v 5 (some 34) (Value.map (some p.ob)) 63 rfl hs86 ⟨h86.at_ 3 rfl, h86.at_ 2 rfl, trivial⟩ (fun W hW => e_mload hW.1 63 (.tmp 33) (by kernel_rfl) 3 (Value.map (some p.ob)) (by kernel_rfl) (by kernel_rfl) (by kernel_rfl)) ?_
       refine pR_v 6 (some 35) (Value.agg (vb (kl K)).toArray) 127 rfl hs86 ⟨h86.at_ 3 rfl, h86.at_ 2 rfl, trivial⟩ (fun W hW => e_loads hW.2.1 28 (.tmp 3) (by kernel_rfl) 0 (vb (kl K)) (by kernel_rfl) (by kernel_rfl) (by kernel_rfl)) ?_
       refine pR_v 7 (some 36) (Value.bool true) 255 rfl hs86 ⟨h86.at_ 3 rfl, h86.at_ 2 rfl, trivial⟩ (fun W hW => e_mop hW.1 (kl K) (kl_len _) (.tmp 34) (.tmp 35) (by kernel_rfl) (by kernel_rfl) (by kernel_rfl) true (decide_eq_true ho)) ?_
       refine pR_p 0 [8, 9, 10, 11, 12, 13, 14, 15, 16, 17, 18] [(47, (Value.bool false)), (46, undef), (45, undef), (44, undef), (43, undef), (42, undef), (41, undef), (40, undef), (39, (Value.bool false)), (38, (Value.bool false)), (37, (Value.bool false))] 524287 hs86 ⟨h86.at_ 3 rfl, h86.at_ 2 rfl, trivial⟩ ?_
       refine pR_done hs86 ?_ _
       refine seq_n hK84 ?_
       refine wp_cond_false (by kernel_rfl) ?_
       refine wp_skip ?_
       refine blk_n ?_
       refine ⟨pot s S2 + ((S2 : KM).bx.length - (sn ++ [j] : List Nat).length), (hR.skip_less hj hnj), S2, ag2, F4, (sn ++ [j]), (hR.skip hj hnj (fun _ _ _ => ho)), rfl, (patch_eq _ 108 _ (by kernel_rfl) (by kernel_rfl) (by kernel_rfl)), h86.sel [3, 4] [] (by kernel_rfl) rfl rfl⟩
      ·
       refine pR_go h83 19 (fun W => (rMind F4 (some (r, S1.bx.length, sn ++ [j])) m p S2).Φ W ∧ (rBlk g63 28 (vb (kl K))).Φ W ∧ (rBlk g82 61 (vb (kl D) ++ [(Value.int .i64 us), (Value.slice A81 bd.length c81)])).Φ W ∧ True) [(30, [5], 0), (31, [29], 1), (32, [0, 30], 2), (33, [31, 30], 6), (34, [32, 30], 10), (35, [33, 30], 18), (36, [3, 30], 2), (37, [34, 35, 30], 98), (38, [36, 30], 130), (39, [30, 37], 258), (40, [38], 514), (41, [0, 39], 1024), (42, [40, 39], 3072), (43, [41, 39], 5120), (44, [42, 39], 9216), (45, [4, 39], 1024), (46, [44, 39], 33792), (47, [43, 45, 39], 82944), (48, [39, 46], 132096)] rfl (fun _ d _ _ _ h => by cases d <;> exact h) ?_
       intro hs87 w87 h87
       refine pR_p 14 [0, 1, 2, 3, 4] [(33, (pt m 3)), (32, (pt m 0)), (31, (pt m 0)), (30, (Value.bool true)), (29, (Value.bool true))] 31 hs87 ⟨h87.at_ 3 rfl, h87.at_ 2 rfl, h87.at_ 0 rfl, trivial⟩ ?_
       refine pR_v 5 (some 34) (Value.map (some p.ob)) 63 rfl hs87 ⟨h87.at_ 3 rfl, h87.at_ 2 rfl, h87.at_ 0 rfl, trivial⟩ (fun W hW => e_mload hW.1 63 (.tmp 33) (by kernel_rfl) 3 (Value.map (some p.ob)) (by kernel_rfl) (by kernel_rfl) (by kernel_rfl)) ?_
       refine pR_v 6 (some 35) (Value.agg (vb (kl K)).toArray) 127 rfl hs87 ⟨h87.at_ 3 rfl, h87.at_ 2 rfl, h87.at_ 0 rfl, trivial⟩ (fun W hW => e_loads hW.2.1 28 (.tmp 3) (by kernel_rfl) 0 (vb (kl K)) (by kernel_rfl) (by kernel_rfl) (by kernel_rfl)) ?_
       refine pR_v 7 (some 36) (Value.bool false) 255 rfl hs87 ⟨h87.at_ 3 rfl, h87.at_ 2 rfl, h87.at_ 0 rfl, trivial⟩ (fun W hW => e_mop hW.1 (kl K) (kl_len _) (.tmp 34) (.tmp 35) (by kernel_rfl) (by kernel_rfl) (by kernel_rfl) false (decide_eq_false ho)) ?_
       refine pR_p 4 [8, 9, 10, 11, 12, 13, 15] [(44, (pt g82 0)), (42, (pt m 1)), (41, (pt m 0)), (40, (pt m 0)), (39, (Value.bool true)), (38, (Value.bool true)), (37, (Value.bool true))] 49151 hs87 ⟨h87.at_ 3 rfl, h87.at_ 2 rfl, h87.at_ 0 rfl, trivial⟩ ?_
       refine pR_v 14 (some 43) (Value.map (some p.kb)) 65535 rfl hs87 ⟨h87.at_ 3 rfl, h87.at_ 2 rfl, h87.at_ 0 rfl, trivial⟩ (fun W hW => e_mload hW.1 63 (.tmp 42) (by kernel_rfl) 1 (Value.map (some p.kb)) (by kernel_rfl) (by kernel_rfl) (by kernel_rfl)) ?_
       refine pR_v 16 (some 45) (Value.agg (vb (kl D)).toArray) 131071 rfl hs87 ⟨h87.at_ 3 rfl, h87.at_ 2 rfl, h87.at_ 0 rfl, trivial⟩ (fun W hW => e_loads hW.2.2.1 28 (.tmp 44) (by kernel_rfl) 0 (vb (kl D)) (by kernel_rfl) (by kernel_rfl) (by kernel_rfl)) ?_
       refine pR_v 17 (some 46) (Value.bool false) 262143 rfl hs87 ⟨h87.at_ 3 rfl, h87.at_ 2 rfl, h87.at_ 0 rfl, trivial⟩ (fun W hW => e_mkk hW.1 (kl D) (kl_len _) (.tmp 43) (.tmp 45) (by kernel_rfl) (by kernel_rfl) (by kernel_rfl) false (decide_eq_false hb)) ?_
       refine pR_p 0 [18] [(47, (Value.bool false))] 524287 hs87 ⟨h87.at_ 3 rfl, h87.at_ 2 rfl, h87.at_ 0 rfl, trivial⟩ ?_
       refine pR_done hs87 ?_ _
       refine seq_n hK84 ?_
       refine wp_cond_false (by kernel_rfl) ?_
       refine wp_skip ?_
       refine blk_n ?_
       refine ⟨pot s S2 + ((S2 : KM).bx.length - (sn ++ [j] : List Nat).length), (hR.skip_less hj hnj), S2, ag2, F4, (sn ++ [j]), (hR.skip hj hnj (fun _ h h2 => by rw [hbx] at h; injection h with h; subst h; exact absurd h2 hb)), rfl, (patch_eq _ 108 _ (by kernel_rfl) (by kernel_rfl) (by kernel_rfl)), h87.sel [3, 4] [] (by kernel_rfl) rfl rfl⟩
      ·
       refine pR_go h83 19 (fun W => (rMind F4 (some (r, S1.bx.length, sn ++ [j])) m p S2).Φ W ∧ (rBlk g63 28 (vb (kl K))).Φ W ∧ (rBlk g82 61 (vb (kl D) ++ [(Value.int .i64 us), (Value.slice A81 bd.length c81)])).Φ W ∧ True) [(30, [5], 0), (31, [29], 1), (32, [0, 30], 2), (33, [31, 30], 6), (34, [32, 30], 10), (35, [33, 30], 18), (36, [3, 30], 2), (37, [34, 35, 30], 98), (38, [36, 30], 130), (39, [30, 37], 258), (40, [38], 514), (41, [0, 39], 1024), (42, [40, 39], 3072), (43, [41, 39], 5120), (44, [42, 39], 9216), (45, [4, 39], 1024), (46, [44, 39], 33792), (47, [43, 45, 39], 82944), (48, [39, 46], 132096)] rfl (fun _ d _ _ _ h => by cases d <;> exact h) ?_
       intro hs88 w88 h88
       refine pR_p 14 [0, 1, 2, 3, 4] [(33, (pt m 3)), (32, (pt m 0)), (31, (pt m 0)), (30, (Value.bool true)), (29, (Value.bool true))] 31 hs88 ⟨h88.at_ 3 rfl, h88.at_ 2 rfl, h88.at_ 0 rfl, trivial⟩ ?_
       refine pR_v 5 (some 34) (Value.map (some p.ob)) 63 rfl hs88 ⟨h88.at_ 3 rfl, h88.at_ 2 rfl, h88.at_ 0 rfl, trivial⟩ (fun W hW => e_mload hW.1 63 (.tmp 33) (by kernel_rfl) 3 (Value.map (some p.ob)) (by kernel_rfl) (by kernel_rfl) (by kernel_rfl)) ?_
       refine pR_v 6 (some 35) (Value.agg (vb (kl K)).toArray) 127 rfl hs88 ⟨h88.at_ 3 rfl, h88.at_ 2 rfl, h88.at_ 0 rfl, trivial⟩ (fun W hW => e_loads hW.2.1 28 (.tmp 3) (by kernel_rfl) 0 (vb (kl K)) (by kernel_rfl) (by kernel_rfl) (by kernel_rfl)) ?_
       refine pR_v 7 (some 36) (Value.bool false) 255 rfl hs88 ⟨h88.at_ 3 rfl, h88.at_ 2 rfl, h88.at_ 0 rfl, trivial⟩ (fun W hW => e_mop hW.1 (kl K) (kl_len _) (.tmp 34) (.tmp 35) (by kernel_rfl) (by kernel_rfl) (by kernel_rfl) false (decide_eq_false ho)) ?_
       refine pR_p 4 [8, 9, 10, 11, 12, 13, 15] [(44, (pt g82 0)), (42, (pt m 1)), (41, (pt m 0)), (40, (pt m 0)), (39, (Value.bool true)), (38, (Value.bool true)), (37, (Value.bool true))] 49151 hs88 ⟨h88.at_ 3 rfl, h88.at_ 2 rfl, h88.at_ 0 rfl, trivial⟩ ?_
       refine pR_v 14 (some 43) (Value.map (some p.kb)) 65535 rfl hs88 ⟨h88.at_ 3 rfl, h88.at_ 2 rfl, h88.at_ 0 rfl, trivial⟩ (fun W hW => e_mload hW.1 63 (.tmp 42) (by kernel_rfl) 1 (Value.map (some p.kb)) (by kernel_rfl) (by kernel_rfl) (by kernel_rfl)) ?_
       refine pR_v 16 (some 45) (Value.agg (vb (kl D)).toArray) 131071 rfl hs88 ⟨h88.at_ 3 rfl, h88.at_ 2 rfl, h88.at_ 0 rfl, trivial⟩ (fun W hW => e_loads hW.2.2.1 28 (.tmp 44) (by kernel_rfl) 0 (vb (kl D)) (by kernel_rfl) (by kernel_rfl) (by kernel_rfl)) ?_
       refine pR_v 17 (some 46) (Value.bool true) 262143 rfl hs88 ⟨h88.at_ 3 rfl, h88.at_ 2 rfl, h88.at_ 0 rfl, trivial⟩ (fun W hW => e_mkk hW.1 (kl D) (kl_len _) (.tmp 43) (.tmp 45) (by kernel_rfl) (by kernel_rfl) (by kernel_rfl) true (decide_eq_true hb)) ?_
       refine pR_p 0 [18] [(47, (Value.bool true))] 524287 hs88 ⟨h88.at_ 3 rfl, h88.at_ 2 rfl, h88.at_ 0 rfl, trivial⟩ ?_
       refine pR_done hs88 ?_ _
       refine seq_n hK84 ?_
       refine wp_cond_true (by kernel_rfl) ?_
       refine wp_seq_k ?_
       intro K89 hK89
       refine pR_go h88 5 (fun W => (rMind F4 (some (r, S1.bx.length, sn ++ [j])) m p S2).Φ W ∧ (rBlk g63 28 (vb (kl K))).Φ W ∧ True) [(49, [0], 0), (50, [48], 1), (51, [49], 2), (52, [50], 4), (53, [3], 0), (0, [51, 52], 31)] rfl (fun _ d _ _ _ h => by cases d <;> exact h) ?_
       intro hs90 w90 h90
       refine pR_p 3 [0, 1, 2] [(50, (pt m 3)), (49, (pt m 0)), (48, (pt m 0))] 7 hs90 ⟨h90.at_ 3 rfl, h90.at_ 2 rfl, trivial⟩ ?_
       refine pR_v 3 (some 51) (Value.map (some p.ob)) 15 rfl hs90 ⟨h90.at_ 3 rfl, h90.at_ 2 rfl, trivial⟩ (fun W hW => e_mload hW.1 63 (.tmp 50) (by kernel_rfl) 3 (Value.map (some p.ob)) (by kernel_rfl) (by kernel_rfl) (by kernel_rfl)) ?_
       refine pR_v 4 (some 52) (Value.agg (vb (kl K)).toArray) 31 rfl hs90 ⟨h90.at_ 3 rfl, h90.at_ 2 rfl, trivial⟩ (fun W hW => e_loads hW.2.1 28 (.tmp 3) (by kernel_rfl) 0 (vb (kl K)) (by kernel_rfl) (by kernel_rfl) (by kernel_rfl)) ?_
       refine pR_to 5 none 63 rfl hs90 (x_mupdO h90 3 rfl (kl K) (by kernel_rfl) (.tmp 51) (.tmp 52) (.const (Value.bool true)) (by kernel_rfl) (by kernel_rfl) (by kernel_rfl) (by kernel_rfl)) ?_
       rintro _ w91 ⟨F91, S91, hS91, h91⟩
       refine ⟨fun h => absurd h (by decide), ?_⟩
       refine pR_done hs90 ?_ _
       refine seq_n hK89 ?_
       refine wp_seq_k ?_
       intro K92 hK92
       refine wp_reset 108 [(0, (pt m 0)), (2, (Value.bool ag2)), (3, (pt g63 0)), (4, (pt g82 0)), (5, (Value.bool true)), (10, (Value.bool ag)), (15, (pt r 0)), (17, (Value.bool true)), (47, (Value.bool true))] (fun x93 => ?_)
       refine reg_lit ?_
       refine wq_p 2 [(54, (pt g82 17)), (53, (pt m 0))] ?_
       refine wq_v (some 55) (Value.slice A81 bd.length c81) (e_load (h91.at_ 0 rfl) 35 (.tmp 54) (by kernel_rfl) 17 (Value.slice A81 bd.length c81) (by kernel_rfl) (by kernel_rfl) (by kernel_rfl)) ?_
       refine wq_to (some 56) (x_take h91 3 rfl (by kernel_rfl) (h91.focusB 3 1 rfl rfl (by kernel_rfl)) (box_body hx hbx) (by rw [hS91]; exact Nat.le_trans (hR.ws.alb hN hbn) (by decide))) ?_
       rintro _ w94 ⟨rfl, F94, S94, hS94, h94⟩
       refine wl_end rfl ?_
       refine seq_n hK92 ?_
       refine reg_lit ?_
       refine wq_p 1 [(2, (Value.bool true))] ?_
       refine wl_end rfl ?_
       refine blk_n ?_
       refine ⟨pot s S94 + ((S94 : KM).bx.length - (sn ++ [j] : List Nat).length), (hR.took_less hj hnj hbx ho hS91 hS94), S94, true, F94, (sn ++ [j]), (hR.took hj hnj hbx ho hb hS91 hS94), rfl, (patch_eq _ 108 _ (by kernel_rfl) (by kernel_rfl) (by kernel_rfl)), h94.sel [3, 4] [] (by kernel_rfl) rfl rfl⟩
     ·
      refine pR_op 9 (some 4) 543 rfl (x_new h80 61 (vb (List.replicate 16 0) ++ [(Value.int .i64 0), (Value.slice none 0 0)]) (fun r => pt r 0) (by kernel_rfl)) ?_
      rintro _ w95 ⟨g95, rfl, h95⟩
      refine ⟨fun _ => ⟨h95.at_ 2 rfl, trivial⟩, ?_⟩
      refine pR_to 5 (some 26) 575 rfl hs80 (x_boxS h95 3 rfl (kl K) (Value.slice (some ⟨g63, 0, none⟩) 16 16) D us bd (by kernel_rfl) (SB.blk16 (K := K) (h95.at_ 1 rfl)) hx (h95.tabW 3 rfl).1 (by omega) hbx) ?_
      rintro _ w96 ⟨A96, c96, rfl, h96⟩
      refine ⟨fun _ => ⟨h96.at_ 3 rfl, trivial⟩, ?_⟩
      refine pR_p 2 [6, 7, 8] [(28, (Value.bool true)), (27, (Value.agg (vb (kl D) ++ [(Value.int .i64 us), (Value.slice A96 bd.length c96)]).toArray)), (20, (Value.tuple #[(Value.agg (vb (kl D) ++ [(Value.int .i64 us), (Value.slice A96 bd.length c96)]).toArray), (Value.bool true)]))] 1023 hs80 ⟨h96.at_ 3 rfl, trivial⟩ ?_
      refine pR_to 10 none 2047 rfl hs80 (x_stores h96 1 rfl 61 (.tmp 4) (.tmp 27) (by kernel_rfl) 0 (vb (kl D) ++ [(Value.int .i64 us), (Value.slice A96 bd.length c96)]) (vb (kl D) ++ [(Value.int .i64 us), (Value.slice A96 bd.length c96)]) (by kernel_rfl) (by kernel_rfl) (by kernel_rfl) (by kernel_rfl) (by kernel_rfl) (by kernel_rfl)) ?_
      rintro _ w97 h97
      refine ⟨fun _ => ⟨h97.at_ 3 rfl, trivial⟩, ?_⟩
      refine pR_to 11 (some 5) 4095 rfl hs80 (OpTo.run (Value.bool true) (pureOp_run (by kernel_rfl) _) (R := fun v w => v = (Value.bool true) ∧ w97 = w) ⟨rfl, rfl⟩) ?_
      rintro _ _ ⟨rfl, rfl⟩
      refine ⟨fun h => absurd h (by decide), ?_⟩
      refine pR_done hs80 ?_ _
      refine seq_n hK65 ?_
      refine wp_seq_k ?_
      intro K98 hK98
      rcases (show kl K ∈ S2.op ∨ (kl K ∉ S2.op ∧ kl D ∉ S2.kk) ∨ (kl K ∉ S2.op ∧ kl D ∈ S2.kk) by by_cases c1 : kl K ∈ S2.op <;> by_cases c2 : kl D ∈ S2.kk <;> simp [c1, c2]) with ho | ⟨ho, hb⟩ | ⟨ho, hb⟩
      ·
       refine pR_go h97 19 (fun W => (rMind F4 (some (r, S1.bx.length, sn ++ [j])) m p S2).Φ W ∧ (rBlk g63 28 (vb (kl K))).Φ W ∧ True) [(30, [5], 0), (31, [29], 1), (32, [0, 30], 2), (33, [31, 30], 6), (34, [32, 30], 10), (35, [33, 30], 18), (36, [3, 30], 2), (37, [34, 35, 30], 98), (38, [36, 30], 130), (39, [30, 37], 258), (40, [38], 514), (41, [0, 39], 1024), (42, [40, 39], 3072), (43, [41, 39], 5120), (44, [42, 39], 9216), (45, [4, 39], 1024), (46, [44, 39], 33792), (47, [43, 45, 39], 82944), (48, [39, 46], 132096)] rfl (fun _ d _ _ _ h => by cases d <;> exact h) ?_
       intro hs100 w100 h100
       refine pR_p 14 [0, 1, 2, 3, 4] [(33, (pt m 3)), (32, (pt m 0)), (31, (pt m 0)), (30, (Value.bool true)), (29, (Value.bool true))] 31 hs100 ⟨h100.at_ 3 rfl, h100.at_ 2 rfl, trivial⟩ ?_
       refine pR_v 5 (some 34) (Value.map (some p.ob)) 63 rfl hs100 ⟨h100.at_ 3 rfl, h100.at_ 2 rfl, trivial⟩ (fun W hW => e_mload hW.1 63 (.tmp 33) (by kernel_rfl) 3 (Value.map (some p.ob)) (by kernel_rfl) (by kernel_rfl) (by kernel_rfl)) ?_
       refine pR_v 6 (some 35) (Value.agg (vb (kl K)).toArray) 127 rfl hs100 ⟨h100.at_ 3 rfl, h100.at_ 2 rfl, trivial⟩ (fun W hW => e_loads hW.2.1 28 (.tmp 3) (by kernel_rfl) 0 (vb (kl K)) (by kernel_rfl) (by kernel_rfl) (by kernel_rfl)) ?_
       refine pR_v 7 (some 36) (Value.bool true) 255 rfl hs100 ⟨h100.at_ 3 rfl, h100.at_ 2 rfl, trivial⟩ (fun W hW => e_mop hW.1 (kl K) (kl_len _) (.tmp 34) (.tmp 35) (by kernel_rfl) (by kernel_rfl) (by kernel_rfl) true (decide_eq_true ho)) ?_
       refine pR_p 0 [8, 9, 10, 11, 12, 13, 14, 15, 16, 17, 18] [(47, (Value.bool false)), (46, undef), (45, undef), (44, undef), (43, undef), (42, undef), (41, undef), (40, undef), (39, (Value.bool false)), (38, (Value.bool false)), (37, (Value.bool false))] 524287 hs100 ⟨h100.at_ 3 rfl, h100.at_ 2 rfl, trivial⟩ ?_
       refine pR_done hs100 ?_ _
       refine seq_n hK98 ?_
       refine wp_cond_false (by kernel_rfl) ?_
       refine wp_skip ?_
       refine blk_n ?_
       refine ⟨pot s S2 + ((S2 : KM).bx.length - (sn ++ [j] : List Nat).length), (hR.skip_less hj hnj), S2, ag2, F4, (sn ++ [j]), (hR.skip hj hnj (fun _ _ _ => ho)), rfl, (patch_eq _ 108 _ (by kernel_rfl) (by kernel_rfl) (by kernel_rfl)), h100.sel [3, 4] [] (by kernel_rfl) rfl rfl⟩
      ·
       refine pR_go h97 19 (fun W => (rMind F4 (some (r, S1.bx.length, sn ++ [j])) m p S2).Φ W ∧ (rBlk g63 28 (vb (kl K))).Φ W ∧ (rBlk g95 61 (vb (kl D) ++ [(Value.int .i64 us), (Value.slice A96 bd.length c96)])).Φ W ∧ True) [(30, [5], 0), (31, [29], 1), (32, [0, 30], 2), (33, [31, 30], 6), (34, [32, 30], 10), (35, [33, 30], 18), (36, [3, 30], 2), (37, [34, 35, 30], 98), (38, [36, 30], 130), (39, [30, 37], 258), (40, [38], 514), (41, [0, 39], 1024), (42, [40, 39], 3072), (43, [41, 39], 5120), (44, [42, 39], 9216), (45, [4, 39], 1024), (46, [44, 39], 33792), (47, [43, 45, 39], 82944), (48, [39, 46], 132096)] rfl (fun _ d _ _ _ h => by cases d <;> exact h) ?_
       intro hs101 w101 h101
       refine pR_p 14 [0, 1, 2, 3, 4] [(33, (pt m 3)), (32, (pt m 0)), (31, (pt m 0)), (30, (Value.bool true)), (29, (Value.bool true))] 31 hs101 ⟨h101.at_ 3 rfl, h101.at_ 2 rfl, h101.at_ 1 rfl, trivial⟩ ?_
       refine pR_v 5 (some 34) (Value.map (some p.ob)) 63 rfl hs101 ⟨h101.at_ 3 rfl, h101.at_ 2 rfl, h101.at_ 1 rfl, trivial⟩ (fun W hW => e_mload hW.1 63 (.tmp 33) (by kernel_rfl) 3 (Value.map (some p.ob)) (by kernel_rfl) (by kernel_rfl) (by kernel_rfl)) ?_
       refine pR_v 6 (some 35) (Value.agg (vb (kl K)).toArray) 127 rfl hs101 ⟨h101.at_ 3 rfl, h101.at_ 2 rfl, h101.at_ 1 rfl, trivial⟩ (fun W hW => e_loads hW.2.1 28 (.tmp 3) (by kernel_rfl) 0 (vb (kl K)) (by kernel_rfl) (by kernel_rfl) (by kernel_rfl)) ?_
       refine pR_v 7 (some 36) (Value.bool false) 255 rfl hs101 ⟨h101.at_ 3 rfl, h101.at_ 2 rfl, h101.at_ 1 rfl, trivial⟩ (fun W hW => e_mop hW.1 (kl K) (kl_len _) (.tmp 34) (.tmp 35) (by kernel_rfl) (by kernel_rfl) (by kernel_rfl) false (decide_eq_false ho)) ?_
       refine pR_p 4 [8, 9, 10, 11, 12, 13, 15] [(44, (pt g95 0)), (42, (pt m 1)), (41, (pt m 0)), (40, (pt m 0)), (39, (Value.bool true)), (38, (Value.bool true)), (37, (Value.bool true))] 49151 hs101 ⟨h101.at_ 3 rfl, h101.at_ 2 rfl, h101.at_ 1 rfl, trivial⟩ ?_
       refine pR_v 14 (some 43) (Value.map (some p.kb)) 65535 rfl hs101 ⟨h101.at_ 3 rfl, h101.at_ 2 rfl, h101.at_ 1 rfl, trivial⟩ (fun W hW => e_mload hW.1 63 (.tmp 42) (by kernel_rfl) 1 (Value.map (some p.kb)) (by kernel_rfl) (by kernel_rfl) (by kernel_rfl)) ?_
       refine pR_v 16 (some 45) (Value.agg (vb (kl D)).toArray) 131071 rfl hs101 ⟨h101.at_ 3 rfl, h101.at_ 2 rfl, h101.at_ 1 rfl, trivial⟩ (fun W hW => e_loads hW.2.2.1 28 (.tmp 44) (by kernel_rfl) 0 (vb (kl D)) (by kernel_rfl) (by kernel_rfl) (by kernel_rfl)) ?_
       refine pR_v 17 (some 46) (Value.bool false) 262143 rfl hs101 ⟨h101.at_ 3 rfl, h101.at_ 2 rfl, h101.at_ 1 rfl, trivial⟩ (fun W hW => e_mkk hW.1 (kl D) (kl_len _) (.tmp 43) (.tmp 45) (by kernel_rfl) (by kernel_rfl) (by kernel_rfl) false (decide_eq_false hb)) ?_
       refine pR_p 0 [18] [(47, (Value.bool false))] 524287 hs101 ⟨h101.at_ 3 rfl, h101.at_ 2 rfl, h101.at_ 1 rfl, trivial⟩ ?_
       refine pR_done hs101 ?_ _
       refine seq_n hK98 ?_
       refine wp_cond_false (by kernel_rfl) ?_
       refine wp_skip ?_
       refine blk_n ?_
       refine ⟨pot s S2 + ((S2 : KM).bx.length - (sn ++ [j] : List Nat).length), (hR.skip_less hj hnj), S2, ag2, F4, (sn ++ [j]), (hR.skip hj hnj (fun _ h h2 => by rw [hbx] at h; injection h with h; subst h; exact absurd h2 hb)), rfl, (patch_eq _ 108 _ (by kernel_rfl) (by kernel_rfl) (by kernel_rfl)), h101.sel [3, 4] [] (by kernel_rfl) rfl rfl⟩
      ·
       refine pR_go h97 19 (fun W => (rMind F4 (some (r, S1.bx.length, sn ++ [j])) m p S2).Φ W ∧ (rBlk g63 28 (vb (kl K))).Φ W ∧ (rBlk g95 61 (vb (kl D) ++ [(Value.int .i64 us), (Value.slice A96 bd.length c96)])).Φ W ∧ True) [(30, [5], 0), (31, [29], 1), (32, [0, 30], 2), (33, [31, 30], 6), (34, [32, 30], 10), (35, [33, 30], 18), (36, [3, 30], 2), (37, [34, 35, 30], 98), (38, [36, 30], 130), (39, [30, 37], 258), (40, [38], 514), (41, [0, 39], 1024), (42, [40, 39], 3072), (43, [41, 39], 5120), (44, [42, 39], 9216), (45, [4, 39], 1024), (46, [44, 39], 33792), (47, [43, 45, 39], 82944), (48, [39, 46], 132096)] rfl (fun _ d _ _ _ h => by cases d <;> exact h) ?_
       intro hs102 w102 h102
       refine pR_p 14 [0, 1, 2, 3, 4] [(33, (pt m 3)), (32, (pt m 0)), (31, (pt m 0)), (30, (Value.bool true)), (29, (Value.bool true))] 31 hs102 ⟨h102.at_ 3 rfl, h102.at_ 2 rfl, h102.at_ 1 rfl, trivial⟩ ?_
       refine pR_v 5 (some 34) (Value.map (some p.ob)) 63 rfl hs102 ⟨h102.at_ 3 rfl, h102.at_ 2 rfl, h102.at_ 1 rfl, trivial⟩ (fun W hW => e_mload hW.1 63 (.tmp 33) (by kernel_rfl) 3 (Value.map (some p.ob)) (by kernel_rfl) (by kernel_rfl) (by kernel_rfl)) ?_
       refine pR_v 6 (some 35) (Value.agg (vb (kl K)).toArray) 127 rfl hs102 ⟨h102.at_ 3 rfl, h102.at_ 2 rfl, h102.at_ 1 rfl, trivial⟩ (fun W hW => e_loads hW.2.1 28 (.tmp 3) (by kernel_rfl) 0 (vb (kl K)) (by kernel_rfl) (by kernel_rfl) (by kernel_rfl)) ?_
       refine pR_v 7 (some 36) (Value.bool false) 255 rfl hs102 ⟨h102.at_ 3 rfl, h102.at_ 2 rfl, h102.at_ 1 rfl, trivial⟩ (fun W hW => e_mop hW.1 (kl K) (kl_len _) (.tmp 34) (.tmp 35) (by kernel_rfl) (by kernel_rfl) (by kernel_rfl) false (decide_eq_false ho)) ?_
       refine pR_p 4 [8, 9, 10, 11, 12, 13, 15] [(44, (pt g95 0)), (42, (pt m 1)), (41, (pt m 0)), (40, (pt m 0)), (39, (Value.bool true)), (38, (Value.bool true)), (37, (Value.bool true))] 49151 hs102 ⟨h102.at_ 3 rfl, h102.at_ 2 rfl, h102.at_ 1 rfl, trivial⟩ ?_
       refine pR_v 14 (some 43) (Value.map (some p.kb)) 65535 rfl hs102 ⟨h102.at_ 3 rfl, h102.at_ 2 rfl, h102.at_ 1 rfl, trivial⟩ (fun W hW => e_mload hW.1 63 (.tmp 42) (by kernel_rfl) 1 (Value.map (some p.kb)) (by kernel_rfl) (by kernel_rfl) (by kernel_rfl)) ?_
       refine pR_v 16 (some 45) (Value.agg (vb (kl D)).toArray) 131071 rfl hs102 ⟨h102.at_ 3 rfl, h102.at_ 2 rfl, h102.at_ 1 rfl, trivial⟩ (fun W hW => e_loads hW.2.2.1 28 (.tmp 44) (by kernel_rfl) 0 (vb (kl D)) (by kernel_rfl) (by kernel_rfl) (by kernel_rfl)) ?_
       refine pR_v 17 (some 46) (Value.bool true) 262143 rfl hs102 ⟨h102.at_ 3 rfl, h102.at_ 2 rfl, h102.at_ 1 rfl, trivial⟩ (fun W hW => e_mkk hW.1 (kl D) (kl_len _) (.tmp 43) (.tmp 45) (by kernel_rfl) (by kernel_rfl) (by kernel_rfl) true (decide_eq_true hb)) ?_
       refine pR_p 0 [18] [(47, (Value.bool true))] 524287 hs102 ⟨h102.at_ 3 rfl, h102.at_ 2 rfl, h102.at_ 1 rfl, trivial⟩ ?_
       refine pR_done hs102 ?_ _
       refine seq_n hK98 ?_
       refine wp_cond_true (by kernel_rfl) ?_
       refine wp_seq_k ?_
       intro K103 hK103
       refine pR_go h102 5 (fun W => (rMind F4 (some (r, S1.bx.length, sn ++ [j])) m p S2).Φ W ∧ (rBlk g63 28 (vb (kl K))).Φ W ∧ True) [(49, [0], 0), (50, [48], 1), (51, [49], 2), (52, [50], 4), (53, [3], 0), (0, [51, 52], 31)] rfl (fun _ d _ _ _ h => by cases d <;> exact h) ?_
       intro hs104 w104 h104
       refine pR_p 3 [0, 1, 2] [(50, (pt m 3)), (49, (pt m 0)), (48, (pt m 0))] 7 hs104 ⟨h104.at_ 3 rfl, h104.at_ 2 rfl, trivial⟩ ?_
       refine pR_v 3 (some 51) (Value.map (some p.ob)) 15 rfl hs104 ⟨h104.at_ 3 rfl, h104.at_ 2 rfl, trivial⟩ (fun W hW => e_mload hW.1 63 (.tmp 50) (by kernel_rfl) 3 (Value.map (some p.ob)) (by kernel_rfl) (by kernel_rfl) (by kernel_rfl)) ?_
       refine pR_v 4 (some 52) (Value.agg (vb (kl K)).toArray) 31 rfl hs104 ⟨h104.at_ 3 rfl, h104.at_ 2 rfl, trivial⟩ (fun W hW => e_loads hW.2.1 28 (.tmp 3) (by kernel_rfl) 0 (vb (kl K)) (by kernel_rfl) (by kernel_rfl) (by kernel_rfl)) ?_
       refine pR_to 5 none 63 rfl hs104 (x_mupdO h104 3 rfl (kl K) (by kernel_rfl) (.tmp 51) (.tmp 52) (.const (Value.bool true)) (by kernel_rfl) (by kernel_rfl) (by kernel_rfl) (by kernel_rfl)) ?_
       rintro _ w105 ⟨F105, S105, hS105, h105⟩
       refine ⟨fun h => absurd h (by decide), ?_⟩
       refine pR_done hs104 ?_ _
       refine seq_n hK103 ?_
       refine wp_seq_k ?_
       intro K106 hK106
       refine wp_reset 108 [(0, (pt m 0)), (2, (Value.bool ag2)), (3, (pt g63 0)), (4, (pt g95 0)), (5, (Value.bool true)), (10, (Value.bool ag)), (15, (pt r 0)), (17, (Value.bool true)), (47, (Value.bool true))] (fun x107 => ?_)
       refine reg_lit ?_
       refine wq_p 2 [(54, (pt g95 17)), (53, (pt m 0))] ?_
       refine wq_v (some 55) (Value.slice A96 bd.length c96) (e_load (h105.at_ 1 rfl) 35 (.tmp 54) (by kernel_rfl) 17 (Value.slice A96 bd.length c96) (by kernel_rfl) (by kernel_rfl) (by kernel_rfl)) ?_
       refine wq_to (some 56) (x_take h105 3 rfl (by kernel_rfl) (h105.focusB 3 0 rfl rfl (by kernel_rfl)) (box_body hx hbx) (by rw [hS105]; exact Nat.le_trans (hR.ws.alb hN hbn) (by decide))) ?_
       rintro _ w108 ⟨rfl, F108, S108, hS108, h108⟩
       refine wl_end rfl ?_
       refine seq_n hK106 ?_
       refine reg_lit ?_
       refine wq_p 1 [(2, (Value.bool true))] ?_
       refine wl_end rfl ?_
       refine blk_n ?_
       refine ⟨pot s S108 + ((S108 : KM).bx.length - (sn ++ [j] : List Nat).length), (hR.took_less hj hnj hbx ho hS105 hS108), S108, true, F108, (sn ++ [j]), (hR.took hj hnj hbx ho hb hS105 hS108), rfl, (patch_eq _ 108 _ (by kernel_rfl) (by kernel_rfl) (by kernel_rfl)), h108.sel [3, 4] [] (by kernel_rfl) rfl rfl⟩
  ·
   have hag : ag = false := b5
   refine wp_exit ?_
   refine seq_e ?_
   refine seq_e ?_
   refine blk_e ?_
   refine post_n ?_
   refine post_0 rfl (by kernel_rfl)  ?_
   exact ⟨rfl, _, _, hC1 hag, h2.sel [0, 1] [] (by decide) rfl rfl⟩
end Go.Proofs.Ytpkelokaammmjaa
end
/-! Minds, and lists of what was learned and seen. -/
section
namespace Go.Proofs.Ytpkelokaammmjaa
open Go.RowKit Go.QT
def isKdB (c : UInt8) (x : Bytes) : Bool := decide ((markOf x).map (·.1) = some c)
theorem isKdB_iff {c : UInt8} {x : Bytes} : isKdB c x = true ↔ isKd c x := by
  unfold isKdB isKd
  rw [decide_eq_true_iff]
  cases markOf x with
  | none => simp
  | some p => obtain ⟨a, b⟩ := p; simp
def marksIn (c : UInt8) (b : Bytes) : List Bytes := (findB b).filter (isKdB c)
theorem mem_marksIn {c : UInt8} {b k : Bytes} : k ∈ marksIn c b ↔ k ∈ findB b ∧ isKd c k := by
  unfold marksIn
  rw [List.mem_filter, isKdB_iff]
abbrev WSl (s : STab) (Lk Lb : List Bytes) (N : List Bytes) (S : KM) : Prop := WS s (fun k => k ∈ Lk) (fun k => k ∈ Lb) N S
abbrev MSl (s : STab) (Lk Lb : List Bytes) (N : List Bytes) (S : KM) : Prop := MS s (fun k => k ∈ Lk) (fun k => k ∈ Lb) N S
theorem WS.congr {s : STab} {K0 B0 K1 B1 : Bytes → Prop} {N : List Bytes} {S : KM} (h : WS s K0 B0 N S) (h1 : ∀ k, K0 k ↔ K1 k) (h2 : ∀ k, B0 k ↔ B1 k) : WS s K1 B1 N S := by
  have e1 : K0 = K1 := funext fun k => propext (h1 k)
  have e2 : B0 = B1 := funext fun k => propext (h2 k)
  subst e1; subst e2; exact h
theorem WS.learnl {s : STab} {Lk Lb : List Bytes} {N : List Bytes} {S S' : KM} (h : WSl s Lk Lb N S) (f : Bytes) (hS : S' = { S with kk := insK S.kk f }) : WSl s (Lk ++ [f]) Lb N S' :=
  (h.learn f hS).congr (fun k => by simp) (fun k => Iff.rfl)
theorem WS.seel {s : STab} {Lk Lb : List Bytes} {N : List Bytes} {S S' : KM} (h : WSl s Lk Lb N S) (b : Bytes) (hS : S' = takeM S b) : WSl s (Lk ++ marksIn 107 b) (Lb ++ marksIn 98 b) (N ++ [b]) S' :=
  (h.see b hS).congr (fun k => by rw [List.mem_append, mem_marksIn]) (fun k => by rw [List.mem_append, mem_marksIn])
theorem WS.emptyl {s : STab} : WSl s [] [] [] ⟨[], [], [], []⟩ := WS.empty.congr (fun k => by simp) (fun k => by simp)
structure Sm (s : STab) : Prop where
  bd : ∀ b ∈ s.boxes, b.body.length ≤ 1000000
  bn : s.boxes.length < 1000000
  kn : s.keys.length < 1000000
section
variable {F F0 FT : Nat → Prop} {w0 w : World} {ro rs : List Res} {m : Nat} {o : Oper} {a : Act} {S : KM} {p : Mp} {s : STab} {Lk Lb : List Bytes} {N : List Bytes}
/-- Two things of a call's. -/
theorem Hp.pair (h : Hp F0 w0 w ro rs) (i j : Nat) {r t : Res} (hi : rs[i]? = some r) (hj : rs[j]? = some t) (hij : decide (i ≠ j) = true) : Hp (fun q => r.F q ∨ t.F q) w w [] [r, t] :=
  Hp.two r t (h.own i r hi) (h.own j t hj) (h.dis i j r t hi hj (of_decide_eq_true hij))
theorem Hp.upd2' (h : Hp F0 w0 w ro rs) (i j : Nat) {r t r' : Res} {w' : World} (hi : rs[i]? = some r) (hj : rs[j]? = some t) (hij : decide (i ≠ j) = true) (hc : Hp (fun q => r.F q ∨ t.F q) w w' [] [r', t]) : Hp F0 w0 w' ro (rs.set i r') := by
  have := h.upd2 i j hi hj (of_decide_eq_true hij) hc
  rwa [show (rs.set i r').set j t = rs.set i r' from ?_] at this
  apply List.ext_getElem?
  intro k
  by_cases hk : j = k
  · subst hk
    have hl := (List.getElem?_eq_some_iff.1 hj).1
    rw [List.getElem?_set_self (by simpa using hl), List.getElem?_set_ne (of_decide_eq_true hij), hj]
  · rw [List.getElem?_set_ne hk]
def CloseP (F FT : Nat → Prop) (w : World) (m : Nat) (p : Mp) (s : STab) (Lk Lb : List Bytes) (N : List Bytes) (v : KM → Value) (e : Ending) (w' : World) : Prop :=
  ∃ F' S', e = .returned (v S') ∧ MSl s Lk Lb N S' ∧ Hp (fun q => F q ∨ FT q) w w' [] [rMind F' none m p S', rTab FT p.tb s]
theorem x_mcall (h : Hp F0 w0 w ro rs) (i j : Nat) (hi : rs[i]? = some (rMind F none m p S)) (hj : rs[j]? = some (rTab FT p.tb s)) (hij : decide (i ≠ j) = true) (fn : FuncId) (al : List Value) (v : KM → Value) (hp : pureVal Try.prog (execOp a.eval o) = some (.enter fn al.toArray))
    (hc : Hp (fun q => F q ∨ FT q) w w [] [rMind F none m p S, rTab FT p.tb s] → Calls Try.prog fn al.toArray w (CloseP F FT w m p s Lk Lb N v)) :
    OpTo Try.prog o a w (fun u w' => ∃ F' S', u = v S' ∧ MSl s Lk Lb N S' ∧ Hp F0 w0 w' ro (rs.set i (rMind F' none m p S'))) :=
  OpTo.enter fn al hp (hc (h.pair i j hi hj hij)) fun e w' hq => by
    obtain ⟨F', S', he, hM, hh⟩ := hq
    exact ⟨_, he, F', S', rfl, hM, h.upd2' i j hi hj hij hh⟩
theorem x_close (h : Hp F0 w0 w ro rs) (i j : Nat) (hi : rs[i]? = some (rMind F none m p S)) (hj : rs[j]? = some (rTab FT p.tb s)) (hij : decide (i ≠ j) = true) (hp : pureVal Try.prog (execOp a.eval o) = some (.enter 25 #[pt m 0]))
    (hS : WSl s Lk Lb N S) (hN : N.length ≤ 1000000) (hs : Sm s) :
    OpTo Try.prog o a w (fun u w' => ∃ F' S', u = .tuple #[] ∧ MSl s Lk Lb N S' ∧ Hp F0 w0 w' ro (rs.set i (rMind F' none m p S'))) :=
  x_mcall h i j hi hj hij 25 [pt m 0] (fun _ => .tuple #[]) hp fun hh => (close_any m p S F FT s _ _ N w hh hS hN hs.bd hs.bn hs.kn).mono fun _ _ hq => by
    obtain ⟨he, F', S', hM, hh⟩ := hq
    exact ⟨F', S', he, hM, hh⟩
/-- Sixteen bytes of a slice, as an array. -/
theorem e_sap {A : Option Addr} {n c : Nat} {l : Bytes} (h : SB w (.slice A n c) l) (hl : l.length = 16) (x : Operand) (ho : o.op = .sliceToArrayPointer 28 x) (hx : a.eval x = .slice A n c) (W : World) :
    (execOp a.eval o).run Try.prog W = .ok (.value (eAt A 0)) W := by
  have hrv := SB.rvn h
  have hn : n = 16 := by have := hrv.1; rw [bx_len] at this; omega
  obtain ⟨b, k, rfl, _, _⟩ := hrv.2.at_ (by rw [ne_eq, ← List.length_eq_zero_iff, bx_len]; omega)
  unfold execOp
  simp only [ho, hx, Instr.arrayAt, Sem.run_bind, run_underlying undK16, Result.andThen_ok, hn, Nat.lt_irrefl, if_false, Sem.run_pure]
  rfl
theorem e_arr16 {A : Option Addr} {n c : Nat} {l : Bytes} (h : SB w (.slice A n c) l) (hl : l.length = 16) (x : Operand) (ho : o.op = .load 28 x) (hx : a.eval x = eAt A 0) :
    (execOp a.eval o).run Try.prog w = .ok (.value (.agg (vb l).toArray)) w := by
  have hrv := SB.rvn h
  obtain ⟨b, k, rfl, _, hc⟩ := hrv.2.at_ (by rw [ne_eq, ← List.length_eq_zero_iff, bx_len]; omega)
  obtain ⟨d, hu, hr, hs⟩ := rowB_spec (show rowB Try.prog 28 16 = true by kernel_rfl)
  have hv : (vb l).length = 16 := by simp [vb, hl]
  have hld := run_loadVar_mid (P := Try.prog) w b k 28 (vb l) d (fun i v hi => ?_) hu hr (by rw [hv]; exact hs)
  · unfold execOp
    have e : eAt (some ⟨b, k, none⟩) 0 = pt b k := rfl
    rw [e] at hx
    simp only [ho, hx, pt, Instr.loadAt, Instr.sureAddr, Sem.run_bind, Sem.run_pure, Result.andThen_ok, hld]
  · have hil : i < l.length := by have := (List.getElem?_eq_some_iff.1 hi).1; rw [hv] at this; omega
    have := hc i _ (bx_get l i hil) 0 (.int .u8 (ub (gb l i))) rfl
    rw [Nat.mul_one, Nat.add_zero] at this
    rw [this]
    have h2 : (vb l)[i]? = some (.int .u8 (ub (gb l i))) := by simp [vb, gb, hil]
    rw [h2] at hi
    exact hi
end
end Go.Proofs.Ytpkelokaammmjaa
end
/-! The walks of Learn, See, Key, Box, Opens. -/
section
namespace Go.Proofs.Ytpkelokaammmjaa
open Go.RowKit Go.QT
set_option maxRecDepth 100000 in
set_option maxHeartbeats 1000000 in
theorem learn_any (m : Nat) (p : Mp) (S : KM) (F FT : Nat → Prop) (s : STab) (Lk Lb : List Bytes) (N : List Bytes) (w : World) (h : Hp (fun q => F q ∨ FT q) w w [] [rMind F none m p S, rTab FT p.tb s]) (hS : WSl s Lk Lb N S) (hN : N.length ≤ 1000000) (hs : Sm s) (K : Fin 16 → UInt8) : Calls Try.prog 14 #[pt m 0, .agg (vb (kl K)).toArray] w (CloseP F FT w m p s (Lk ++ [kl K]) Lb N fun _ => .tuple #[]) := by
  have h0 := h
  refine enter 9 Try.func14 rfl rfl ?_
  refine wp_reset 11 [(0, (pt m 0)), (1, (Value.agg (vb (kl K)).toArray))] (fun x0 => ?_)
  refine wp_seq_k ?_
  intro K1 hK1
  refine reg_lit ?_
  refine wq_to (some 3) (x_new h0 28 (vb (kl K)) (fun r => pt r 0) (by kernel_rfl)) ?_
  rintro _ w2 ⟨g2, rfl, h2⟩
  refine wl_end rfl ?_
  refine seq_n hK1 ?_
  refine wp_seq_k ?_
  intro K3 hK3
  refine pR_go h2 5 (fun W => (rMind F none m p S).Φ W ∧ (rBlk g2 28 (vb (kl K))).Φ W ∧ True) [(5, [0], 0), (6, [4], 1), (7, [5], 2), (8, [6], 4), (9, [3], 0), (0, [7, 8], 31)] rfl (fun _ d _ _ _ h => by cases d <;> exact h) ?_
  intro hs4 w4 h4
  refine pR_p 3 [0, 1, 2] [(6, (pt m 1)), (5, (pt m 0)), (4, (pt m 0))] 7 hs4 ⟨h4.at_ 1 rfl, h4.at_ 0 rfl, trivial⟩ ?_
  refine pR_v 3 (some 7) (Value.map (some p.kb)) 15 rfl hs4 ⟨h4.at_ 1 rfl, h4.at_ 0 rfl, trivial⟩ (fun W hW => e_mload hW.1 63 (.tmp 6) (by kernel_rfl) 1 (Value.map (some p.kb)) (by kernel_rfl) (by kernel_rfl) (by kernel_rfl)) ?_
  refine pR_v 4 (some 8) (Value.agg (vb (kl K)).toArray) 31 rfl hs4 ⟨h4.at_ 1 rfl, h4.at_ 0 rfl, trivial⟩ (fun W hW => e_loads hW.2.1 28 (.tmp 3) (by kernel_rfl) 0 (vb (kl K)) (by kernel_rfl) (by kernel_rfl) (by kernel_rfl)) ?_
  refine pR_to 5 none 63 rfl hs4 (x_mupdK h4 1 rfl (kl K) (by kernel_rfl) (.tmp 7) (.tmp 8) (.const (Value.bool true)) (by kernel_rfl) (by kernel_rfl) (by kernel_rfl) (by kernel_rfl)) ?_
  rintro _ w5 ⟨F5, S5, hS5, h5⟩
  refine ⟨fun h => absurd h (by decide), ?_⟩
  refine pR_done hs4 ?_ _
  refine seq_n hK3 ?_
  refine reg_lit ?_
  refine wq_p 1 [(9, (pt m 0))] ?_
  refine wq_to (some 10) (x_close h5 1 2 rfl rfl (by kernel_rfl) (by kernel_rfl) (hS.learnl (kl K) hS5) hN hs) ?_
  rintro _ w6 ⟨F6, S6, rfl, hM6, h6⟩
  refine wl_end rfl ?_
  refine post_n ?_
  refine post_0 rfl (by kernel_rfl)  ?_
  exact ⟨_, _, rfl, hM6, h6.sel [1, 2] [] (by decide) rfl rfl⟩
set_option maxRecDepth 100000 in
set_option maxHeartbeats 1000000 in
theorem see_any (m : Nat) (p : Mp) (S : KM) (F FT : Nat → Prop) (s : STab) (Lk Lb : List Bytes) (N : List Bytes) (v : Value) (b : Bytes) (w : World) (h : Hp (fun q => F q ∨ FT q) w w [rSB v b] [rMind F none m p S, rTab FT p.tb s]) (hS : WSl s Lk Lb N S) (hN : N.length ≤ 999999) (hs : Sm s) (hl : b.length ≤ 1000000) : Calls Try.prog 13 #[pt m 0, v] w (CloseP F FT w m p s (Lk ++ marksIn 107 b) (Lb ++ marksIn 98 b) (N ++ [b]) fun _ => .tuple #[]) := by
  obtain ⟨A, c, rfl, hc1, hc2⟩ := sb_form (h.rd 0 rfl)
  have hN2 : (N ++ [b]).length ≤ 1000000 := by simp; omega
  have hN : N.length ≤ 1000000 := by omega
  have h0 := h
  refine enter 7 Try.func13 rfl rfl ?_
  refine wp_reset 9 [(0, (pt m 0)), (1, (Value.slice A b.length c))] (fun x0 => ?_)
  refine wp_seq_k ?_
  intro K1 hK1
  refine reg_lit ?_
  refine wq_p 2 [(5, (Value.slice A b.length c)), (4, (pt m 0))] ?_
  refine wq_to (some 6) (x_take h0 0 rfl (by kernel_rfl) (h0.focus 0 0 rfl rfl) hl (Nat.le_trans (hS.alb hN hs.bn) (by decide))) ?_
  rintro _ w2 ⟨rfl, F2, S2, hS2, h2⟩
  refine wl_end rfl ?_
  refine seq_n hK1 ?_
  refine reg_lit ?_
  refine wq_p 1 [(7, (pt m 0))] ?_
  refine wq_to (some 8) (x_close h2 0 1 rfl rfl (by kernel_rfl) (by kernel_rfl) (hS.seel b hS2) hN2 hs) ?_
  rintro _ w3 ⟨F3, S3, rfl, hM3, h3⟩
  refine wl_end rfl ?_
  refine post_n ?_
  refine post_0 rfl (by kernel_rfl)  ?_
  exact ⟨_, _, rfl, hM3, h3.sel [0, 1] [] (by decide) rfl rfl⟩
set_option maxRecDepth 100000 in
set_option maxHeartbeats 1000000 in
theorem key_any (m : Nat) (p : Mp) (S : KM) (F FT : Nat → Prop) (s : STab) (Lk Lb : List Bytes) (N : List Bytes) (w : World) (h : Hp (fun q => F q ∨ FT q) w w [] [rMind F none m p S, rTab FT p.tb s]) (hS : WSl s Lk Lb N S) (hN : N.length ≤ 1000000) (hs : Sm s) (K : Fin 16 → UInt8) : Calls Try.prog 15 #[pt m 0, .agg (vb (kl K)).toArray] w (CloseP F FT w m p s Lk Lb N fun S => .bool (decide (kl K ∈ S.kk))) := by
  have h0 := h
  refine enter 11 Try.func15 rfl rfl ?_
  refine wp_reset 13 [(0, (pt m 0)), (1, (Value.agg (vb (kl K)).toArray))] (fun x0 => ?_)
  refine wp_seq_k ?_
  intro K1 hK1
  refine reg_lit ?_
  refine wq_to (some 3) (x_new h0 28 (vb (kl K)) (fun r => pt r 0) (by kernel_rfl)) ?_
  rintro _ w2 ⟨g2, rfl, h2⟩
  refine wq_p 1 [(4, (Value.bool false))] ?_
  refine wl_end rfl ?_
  refine seq_n hK1 ?_
  refine wp_seq_k ?_
  intro K3 hK3
  refine reg_lit ?_
  refine wq_p 1 [(5, (pt m 0))] ?_
  refine wq_to (some 6) (x_close h2 1 2 rfl rfl (by kernel_rfl) (by kernel_rfl) hS hN hs) ?_
  rintro _ w4 ⟨F4, S4, rfl, hM4, h4⟩
  refine wl_end rfl ?_
  refine seq_n hK3 ?_
  refine wp_seq_k ?_
  intro K5 hK5
  refine pR_go h4 6 (fun W => (rMind F4 none m p S4).Φ W ∧ (rBlk g2 28 (vb (kl K))).Φ W ∧ True) [(8, [0], 0), (9, [7], 1), (10, [8], 2), (11, [9], 4), (12, [3], 0), (13, [10, 11], 24), (5, [12], 63)] rfl (fun _ d _ _ _ h => by cases d <;> exact h) ?_
  intro hs6 w6 h6
  refine pR_p 4 [0, 1, 2] [(9, (pt m 1)), (8, (pt m 0)), (7, (pt m 0))] 7 hs6 ⟨h6.at_ 1 rfl, h6.at_ 0 rfl, trivial⟩ ?_
  refine pR_v 3 (some 10) (Value.map (some p.kb)) 15 rfl hs6 ⟨h6.at_ 1 rfl, h6.at_ 0 rfl, trivial⟩ (fun W hW => e_mload hW.1 63 (.tmp 9) (by kernel_rfl) 1 (Value.map (some p.kb)) (by kernel_rfl) (by kernel_rfl) (by kernel_rfl)) ?_
  refine pR_v 4 (some 11) (Value.agg (vb (kl K)).toArray) 31 rfl hs6 ⟨h6.at_ 1 rfl, h6.at_ 0 rfl, trivial⟩ (fun W hW => e_loads hW.2.1 28 (.tmp 3) (by kernel_rfl) 0 (vb (kl K)) (by kernel_rfl) (by kernel_rfl) (by kernel_rfl)) ?_
  refine pR_v 5 (some 12) (Value.bool (decide (kl K ∈ S4.kk))) 63 rfl hs6 ⟨h6.at_ 1 rfl, h6.at_ 0 rfl, trivial⟩ (fun W hW => e_mkk hW.1 (kl K) (kl_len _) (.tmp 10) (.tmp 11) (by kernel_rfl) (by kernel_rfl) (by kernel_rfl) (decide (kl K ∈ S4.kk)) rfl) ?_
  refine pR_to 6 (some 4) 127 rfl hs6 (OpTo.run (Value.bool (decide (kl K ∈ S4.kk))) (pureOp_run (by kernel_rfl) _) (R := fun v w => v = (Value.bool (decide (kl K ∈ S4.kk))) ∧ w6 = w) ⟨rfl, rfl⟩) ?_
  rintro _ _ ⟨rfl, rfl⟩
  refine ⟨fun h => absurd h (by decide), ?_⟩
  refine pR_done hs6 ?_ _
  refine seq_n hK5 ?_
  refine wp_ret ?_
  refine post_1 rfl (by kernel_rfl) (rtmp (v := (Value.bool (decide (kl K ∈ S4.kk)))) (by kernel_rfl)) ?_
  exact ⟨_, _, rfl, hM4, h6.sel [1, 2] [] (by decide) rfl rfl⟩
set_option maxRecDepth 100000 in
set_option maxHeartbeats 1000000 in
theorem kopens_any (m : Nat) (p : Mp) (S : KM) (F FT : Nat → Prop) (s : STab) (Lk Lb : List Bytes) (N : List Bytes) (v : Value) (b : Bytes) (w : World) (h : Hp (fun q => F q ∨ FT q) w w [rSB v b] [rMind F none m p S, rTab FT p.tb s]) (hS : WSl s Lk Lb N S) (hN : N.length ≤ 1000000) (hs : Sm s) (hl : b.length = 16) : Calls Try.prog 16 #[pt m 0, v] w (CloseP F FT w m p s Lk Lb N fun S => .bool (decide (b ∈ S.op))) := by
  obtain ⟨A, c, rfl, hc1, hc2⟩ := sb_form (h.rd 0 rfl)
  have h0 := h
  refine enter 18 Try.func16 rfl rfl ?_
  refine wp_reset 20 [(0, (pt m 0)), (1, (Value.slice A b.length c))] (fun x0 => ?_)
  refine wp_seq_k ?_
  intro K1 hK1
  refine reg_lit ?_
  refine wq_p 1 [(4, (Value.bool false))] ?_
  refine wl_end rfl ?_
  refine seq_n hK1 ?_
  refine wp_seq_k ?_
  intro K2 hK2
  refine reg_lit ?_
  refine wq_p 1 [(5, (pt m 0))] ?_
  refine wq_to (some 6) (x_close h0 0 1 rfl rfl (by kernel_rfl) (by kernel_rfl) hS hN hs) ?_
  rintro _ w3 ⟨F3, S3, rfl, hM3, h3⟩
  refine wl_end rfl ?_
  refine seq_n hK2 ?_
  refine wp_seq_k ?_
  intro K4 hK4
  refine pR_go h3 13 (fun W => (rSB ((Value.slice A b.length c)) b).Φ W ∧ (rMind F3 none m p S3).Φ W ∧ True) [(8, [1], 0), (9, [7], 1), (10, [8], 2), (11, [9], 4), (12, [0, 10], 8), (13, [11, 10], 24), (14, [12, 10], 40), (15, [13, 10], 72), (16, [1, 10], 8), (17, [15, 10], 264), (18, [16, 10], 520), (19, [14, 17, 10], 1160), (20, [10, 18], 2056), (5, [19], 8191)] rfl (fun _ d _ _ _ h => by cases d <;> exact h) ?_
  intro hs5 w5 h5
  refine pR_p 12 [0, 1] [(8, (Value.int .i64 ((b.length : Int)))), (7, (Value.slice A b.length c))] 3 hs5 ⟨h5.rd 0 rfl, h5.at_ 0 rfl, trivial⟩ ?_
  refine pR_v 2 (some 9) (Value.bool true) 7 rfl hs5 ⟨h5.rd 0 rfl, h5.at_ 0 rfl, trivial⟩ (fun W hW => eq_is (v := (Value.bool (((b.length : Int)) == 16))) (by kernel_rfl) (congrArg Value.bool (by simp [hl]))) ?_
  refine pR_p 6 [3, 4, 5, 6, 8] [(15, (Value.slice A b.length c)), (13, (pt m 3)), (12, (pt m 0)), (11, (pt m 0)), (10, (Value.bool true))] 383 hs5 ⟨h5.rd 0 rfl, h5.at_ 0 rfl, trivial⟩ ?_
  refine pR_v 9 (some 16) (eAt A 0) 895 rfl hs5 ⟨h5.rd 0 rfl, h5.at_ 0 rfl, trivial⟩ (fun W hW => e_sap hW.1 hl (.tmp 15) (by kernel_rfl) (by kernel_rfl) _) ?_
  refine pR_v 10 (some 17) (Value.agg (vb b).toArray) 1919 rfl hs5 ⟨h5.rd 0 rfl, h5.at_ 0 rfl, trivial⟩ (fun W hW => e_arr16 hW.1 hl (.tmp 16) (by kernel_rfl) (by kernel_rfl)) ?_
  refine pR_v 7 (some 14) (Value.map (some p.ob)) 2047 rfl hs5 ⟨h5.rd 0 rfl, h5.at_ 0 rfl, trivial⟩ (fun W hW => e_mload hW.2.1 63 (.tmp 13) (by kernel_rfl) 3 (Value.map (some p.ob)) (by kernel_rfl) (by kernel_rfl) (by kernel_rfl)) ?_
  refine pR_v 11 (some 18) (Value.bool (decide (b ∈ S3.op))) 4095 rfl hs5 ⟨h5.rd 0 rfl, h5.at_ 0 rfl, trivial⟩ (fun W hW => e_mop hW.2.1 b hl (.tmp 14) (.tmp 17) (by kernel_rfl) (by kernel_rfl) (by kernel_rfl) (decide (b ∈ S3.op)) rfl) ?_
  refine pR_p 1 [12] [(19, (Value.bool (decide (b ∈ S3.op))))] 8191 hs5 ⟨h5.rd 0 rfl, h5.at_ 0 rfl, trivial⟩ ?_
  refine pR_to 13 (some 4) 16383 rfl hs5 (OpTo.run (Value.bool (decide (b ∈ S3.op))) (pureOp_run (by kernel_rfl) _) (R := fun v w => v = (Value.bool (decide (b ∈ S3.op))) ∧ w5 = w) ⟨rfl, rfl⟩) ?_
  rintro _ _ ⟨rfl, rfl⟩
  refine ⟨fun h => absurd h (by decide), ?_⟩
  refine pR_done hs5 ?_ _
  refine seq_n hK4 ?_
  refine wp_ret ?_
  refine post_1 rfl (by kernel_rfl) (rtmp (v := (Value.bool (decide (b ∈ S3.op)))) (by kernel_rfl)) ?_
  exact ⟨_, _, rfl, hM3, h5.sel [0, 1] [] (by decide) rfl rfl⟩
end Go.Proofs.Ytpkelokaammmjaa
end
/-! Plain facts of Keys and Fits; New's mind. -/
section
namespace Go.Proofs.Ytpkelokaammmjaa
open Go.RowKit Go.QT
def fitB (S : KM) (x : Bytes) : Bool := (!isKdB 107 x || decide (x ∈ S.kk)) && (!isKdB 98 x || decide (x ∈ S.bx))
def fitsB (S : KM) (b : Bytes) : Bool := (findB b).all (fitB S)
def Fit (S : KM) (b : Bytes) (i : Nat) : Prop := ∀ j k, j < i → (findB b)[j]? = some k → fitB S k = true
section
variable {S : KM} {b k : Bytes} {i n : Nat} {kd : UInt8} {K : Fin 16 → UInt8}
theorem kd_of107 (h : ub kd = 107) : kd = 107 := by
  apply UInt8.toNat_inj.1
  have e : (107 : UInt8).toNat = 107 := rfl
  unfold ub at h
  omega
theorem kd_of98 (h : ub kd = 98) : kd = 98 := by
  apply UInt8.toNat_inj.1
  have e : (98 : UInt8).toNat = 98 := rfl
  unfold ub at h
  omega
theorem Fit.zero : Fit S b 0 := fun j k h => by omega
theorem fit_no (hK : (findB b)[i]? = some k) (h : fitB S k = false) : fitsB S b = false := by
  unfold fitsB
  rw [List.all_eq_false]
  exact ⟨k, List.mem_of_getElem? hK, by rw [h]; simp⟩
theorem Fit.all (h : Fit S b i) (hi : ¬ i < (findB b).length) : fitsB S b = true := by
  unfold fitsB
  rw [List.all_eq_true]
  intro x hx
  obtain ⟨j, hj, rfl⟩ := List.getElem_of_mem hx
  exact h j _ (by omega) (List.getElem?_eq_getElem hj)
theorem Fit.next (h : Fit S b i) (hK : (findB b)[i]? = some k) (hf : fitB S k = true) : Fit S b (i + 1) := fun j x hj hx => by
  by_cases hji : j < i
  · exact h j x hji hx
  · have : j = i := by omega
    subst this
    rw [hK] at hx; injection hx with hx; subst hx; exact hf
theorem fitB_k (hm : markOf k = some (kd, n)) (h : ub kd = 107) : fitB S k = decide (k ∈ S.kk) := by
  rw [kd_of107 h] at hm
  have h1 : isKdB 107 k = true := isKdB_iff.2 ⟨n, hm⟩
  have h2 : isKdB 98 k = false := by unfold isKdB; rw [hm]; rfl
  unfold fitB
  rw [h1, h2]
  simp
theorem fitB_b (hm : markOf k = some (kd, n)) (h : ub kd = 98) : fitB S k = decide (k ∈ S.bx) := by
  rw [kd_of98 h] at hm
  have h1 : isKdB 98 k = true := isKdB_iff.2 ⟨n, hm⟩
  have h2 : isKdB 107 k = false := by unfold isKdB; rw [hm]; rfl
  unfold fitB
  rw [h1, h2]
  simp
theorem fitB_n (hm : markOf k = some (kd, n)) (h : ¬ ub kd = 107) (h' : ¬ ub kd = 98) : fitB S k = true := by
  have h1 : isKdB 98 k = false := by
    unfold isKdB; rw [hm]
    simp only [Option.map_some, Option.some.injEq, decide_eq_false_iff_not]
    rintro rfl; exact h' (by simp [ub])
  have h2 : isKdB 107 k = false := by
    unfold isKdB; rw [hm]
    simp only [Option.map_some, Option.some.injEq, decide_eq_false_iff_not]
    rintro rfl; exact h (by simp [ub])
  unfold fitB
  rw [h1, h2]
  simp
/-- How many keys of the first n are known. -/
def knownN (S : KM) (n : Nat) : Nat := ((List.range n).filter fun i => decide (mkB 107 (i + 1) ∈ S.kk)).length
theorem knownN_le : knownN S n ≤ n := by
  unfold knownN
  exact Nat.le_trans (List.length_filter_le _ _) (by simp)
theorem knownN_yes (hK : kl K = mkB 107 (n + 1)) (h : kl K ∈ S.kk) : knownN S (n + 1) = knownN S n + 1 := by
  unfold knownN
  rw [List.range_succ, List.filter_append]
  simp [← hK, h]
theorem knownN_no (hK : kl K = mkB 107 (n + 1)) (h : ¬ kl K ∈ S.kk) : knownN S (n + 1) = knownN S n := by
  unfold knownN
  rw [List.range_succ, List.filter_append]
  simp [← hK, h]
end
section
variable {F0 : Nat → Prop} {w0 w : World} {ro rs rest : List Res} {tb mb k1 k2 k3 : Nat}
theorem mind_new (h : Hp F0 w0 w ro (rBlk mb 65 [pt tb 0, .map (some k1), .map (some k2), .map (some k3), .slice none 0 0] :: rKM k1 [] :: rKM k2 [] :: rKM k3 [] :: rest)) :
    ∃ F' p, (p : Mp).tb = tb ∧ Hp F0 w0 w ro (rMind F' none mb p ⟨[], [], [], []⟩ :: rest) := by
  have h1 := h.ovNil 35 1
  have h2 := h1.newS (Below.refl _ _) (rRows (fun _ => False) [] []) ⟨fun _ hq => hq.elim, rfl, by simp⟩ (fun _ hq => hq.elim)
  have hperm : Hp F0 w0 w ro (mParts none mb tb k1 k2 k3 ⟨[], [], [], []⟩ (.slice none 0 0) [] (fun _ => False) ++ rest) := by
    have key : ∀ (x y a b c d : Res) (l : List Res), Hp F0 w0 w ro (x :: y :: a :: b :: c :: d :: l) → Hp F0 w0 w ro (a :: b :: c :: d :: y :: x :: l) := by
      intro x y a b c d l hh
      have pm : ∀ (i : Nat) (r : Res), (a :: b :: c :: d :: y :: x :: l)[i]? = some r → ∃ j, (x :: y :: a :: b :: c :: d :: l)[j]? = some r ∧ j = (if i < 4 then i + 2 else if i = 4 then 1 else if i = 5 then 0 else i) := by
        intro i r hi
        match i, hi with
        | 0, hi => exact ⟨2, hi, rfl⟩
        | 1, hi => exact ⟨3, hi, rfl⟩
        | 2, hi => exact ⟨4, hi, rfl⟩
        | 3, hi => exact ⟨5, hi, rfl⟩
        | 4, hi => exact ⟨1, hi, rfl⟩
        | 5, hi => exact ⟨0, hi, rfl⟩
        | i+6, hi => exact ⟨i + 6, hi, by rw [if_neg (by omega), if_neg (by omega), if_neg (by omega)]⟩
      refine ⟨hh.fr, fun i r hi => ?_, fun i r hi => ?_, fun i j r s hi hj hne => ?_, hh.red, fun i j r s hi hj => ?_⟩
      · obtain ⟨j, hj, _⟩ := pm i r hi; exact hh.own j r hj
      · obtain ⟨j, hj, _⟩ := pm i r hi; exact hh.mine j r hj
      · obtain ⟨i', hi', e1⟩ := pm i r hi
        obtain ⟨j', hj', e2⟩ := pm j s hj
        refine hh.dis i' j' r s hi' hj' ?_
        rw [e1, e2]
        repeat' split
        all_goals omega
      · obtain ⟨j', hj', _⟩ := pm j s hj; exact hh.rdis i j' r s hi hj'
    exact key _ _ _ _ _ _ _ h2
  obtain ⟨F', h3⟩ := mind_join (p := ⟨tb, k1, k2, k3⟩) hperm
  exact ⟨F', ⟨tb, k1, k2, k3⟩, rfl, h3⟩
end
end Go.Proofs.Ytpkelokaammmjaa
end
/-! The walks of New, Keys and Fits. -/
section
namespace Go.Proofs.Ytpkelokaammmjaa
open Go.RowKit Go.QT
set_option maxRecDepth 100000 in
set_option maxHeartbeats 1000000 in
theorem knew_any (tb : Nat) (w : World) : Calls Try.prog 12 #[pt tb 0] w fun e w' => ∃ m p F, e = .returned (pt m 0) ∧ (p : Mp).tb = tb ∧ Hp (fun _ => False) w w' [] [rMind F none m p ⟨[], [], [], []⟩] := by
  have h0 := Hp.nil (fun _ => False) w
  refine enter 8 Try.func12 rfl rfl ?_
  refine wp_reset 9 [(0, (pt tb 0))] (fun x0 => ?_)
  refine wp_seq_k ?_
  intro K1 hK1
  refine reg_lit ?_
  refine wq_p 1 [(2, (Value.pointer none))] ?_
  refine wl_end rfl ?_
  refine seq_n hK1 ?_
  refine wp_seq_k ?_
  intro K2 hK2
  refine reg_lit ?_
  refine wq_p 1 [(3, (pt tb 0))] ?_
  refine wq_to (some 4) (x_makeK h0 (by kernel_rfl)) ?_
  rintro _ w3 ⟨k3, rfl, h3⟩
  refine wq_to (some 5) (x_makeK h3 (by kernel_rfl)) ?_
  rintro _ w4 ⟨k4, rfl, h4⟩
  refine wq_to (some 6) (x_makeK h4 (by kernel_rfl)) ?_
  rintro _ w5 ⟨k5, rfl, h5⟩
  refine wq_p 1 [(7, (Value.agg ([(pt tb 0), (Value.map (some k3)), (Value.map (some k4)), (Value.map (some k5)), (Value.slice none 0 0)]).toArray))] ?_
  refine wq_to (some 8) (x_new h5 65 ([(pt tb 0), (Value.map (some k3)), (Value.map (some k4)), (Value.map (some k5)), (Value.slice none 0 0)]) (fun r => pt r 0) (by kernel_rfl)) ?_
  rintro _ w6 ⟨g6, rfl, h6⟩
  refine wq_p 1 [(2, (pt g6 0))] ?_
  refine wl_end rfl ?_
  refine seq_n hK2 ?_
  refine wp_ret ?_
  obtain ⟨F9, p, hp, h9⟩ := mind_new (rest := []) (h6.selS [0, 3, 2, 1] [rBlk g6 65 ([(pt tb 0), (Value.map (some k3)), (Value.map (some k4)), (Value.map (some k5)), (Value.slice none 0 0)]), rKM k3 [], rKM k4 [], rKM k5 []] (by kernel_rfl) rfl)
  refine post_1 rfl (by kernel_rfl) (rtmp (v := (pt g6 0)) (by kernel_rfl)) ?_
  exact ⟨_, p, F9, rfl, hp, h9⟩
end Go.Proofs.Ytpkelokaammmjaa
end
