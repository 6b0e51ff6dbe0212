/- The row of SymAgain: for every input the law returns true and what came in reads as it did. (Texts laid one behind the other: SAlive, Rw, SymP, SAgain, SymAgain.) -/
import Derived.ChangeMaps5
import Derived.Test.YtjjcnijdjhhdoaaCA6
/-! The walk of compeerlaw07.alive: true. -/
section
namespace Go.Proofs.Ytjjcnijdjhhdoaa
open Go.RowKit Go.QT
set_option maxRecDepth 100000 in
set_option maxHeartbeats 1000000 in
theorem salive_any (w : World) : Calls Try.prog 23 #[] w fun e w' => e = .returned (.bool true) ∧ Below w.heap.size w w' := by
  have h0 := Hp.nil (fun _ => False) w
  refine enter 95 Try.func23 rfl rfl ?_
  refine wp_seq_k ?_
  intro K1 hK1
  refine reg_lit ?_
  refine wl_p 1 [(0, (Value.bool false))] (by kernel_rfl) ?_
  refine wl_end rfl ?_
  refine seq_n hK1 ?_
  refine wp_seq_k ?_
  intro K2 hK2
  refine reg_lit ?_
  refine wl_to (by kernel_rfl) (x_snew h0 (by kernel_rfl)) ?_
  rintro _ w3 ⟨tb3, F3, rfl, h3⟩
  refine wl_p 1 [(1, (pt tb3 0))] (by kernel_rfl) ?_
  refine wl_end rfl ?_
  refine seq_n hK2 ?_
  refine wp_seq_k ?_
  intro K4 hK4
  refine wp_seq_k ?_
  intro K5 hK5
  refine reg_lit ?_
  refine wl_p 2 [(12, (pt tb3 0)), (13, (Value.bool false))] (by kernel_rfl) ?_
  refine wl_end rfl ?_
  refine seq_n hK5 ?_
  refine wp_cond_false (by kernel_rfl) ?_
  refine wp_skip ?_
  refine seq_n hK4 ?_
  refine wp_seq_k ?_
  intro K6 hK6
  refine reg_lit ?_
  refine wl_p 1 [(14, (pt tb3 0))] (by kernel_rfl) ?_
  refine wl_to (by kernel_rfl) (x_fresh h3 0 rfl  (by kernel_rfl) (by decide)) ?_
  rintro _ w7 ⟨K7, F7, s7, rfl, hK7, hs7, h7⟩
  have e7 : s7 = (⟨[SFrom.fresh], [], [], []⟩ : STab) := (by rw [hs7]; kernel_rfl)
  have f7 : kl K7 = mkB 107 1 := (by rw [hK7]; kernel_rfl)
  refine wl_to (by kernel_rfl) (x_new h7 42 (vb (List.replicate 16 0)) (fun r => pt r 0) (by kernel_rfl)) ?_
  rintro _ w8 ⟨g8, rfl, h8⟩
  refine wl_to (by kernel_rfl) (x_stores h8 0 rfl 42 (.tmp 2) (.tmp 15) (by kernel_rfl) 0 (vb (kl K7)) (vb (kl K7)) (by kernel_rfl) (by kernel_rfl) (by kernel_rfl) (by kernel_rfl) (by kernel_rfl) (by kernel_rfl)) ?_
  rintro _ w9 h9
  refine wl_end rfl ?_
  refine seq_n hK6 ?_
  refine wp_seq_k ?_
  intro K10 hK10
  refine reg_lit ?_
  refine wl_p 1 [(16, (pt tb3 0))] (by kernel_rfl) ?_
  refine wl_v (by kernel_rfl) (Value.agg (vb (kl K7)).toArray) (e_loads (h9.at_ 0 rfl) 42 (.tmp 2) (by kernel_rfl) 0 (vb (kl K7)) (by kernel_rfl) (by kernel_rfl) (by kernel_rfl)) ?_
  refine wl_to (by kernel_rfl) (x_bsl h9 [97, 98] (by kernel_rfl)) ?_
  rintro _ w11 ⟨g11, rfl, hw11, hg11, hq11, h11⟩
  refine wl_to (by kernel_rfl) (x_bcv hq11 [97, 98] hw11 g11 hg11 (.tmp 18) (by kernel_rfl) (by kernel_rfl) (by decide)) ?_
  rintro _ w12 ⟨rfl, h12⟩
  refine wl_to (by kernel_rfl) (x_seal h12 1 rfl K7 3 ([97, 98]) (Value.slice (some ⟨g11, 0, none⟩) 2 2) (by kernel_rfl) (h12.rd 0 rfl) (by decide) (by rw [e7]; decide)) ?_
  rintro _ w13 ⟨A13, c13, F13, s13, rfl, hs13, h13⟩
  have e13 : s13 = (⟨[SFrom.fresh], [⟨mkB 107 1, 3, [97, 98]⟩], [], []⟩ : STab) := (by rw [hs13, e7, f7]; kernel_rfl)
  refine wl_p 1 [(3, (Value.slice A13 16 c13))] (by kernel_rfl) ?_
  refine wl_end rfl ?_
  refine seq_n hK10 ?_
  refine wp_seq_k ?_
  intro K14 hK14
  refine reg_lit ?_
  refine wl_p 1 [(22, (pt tb3 0))] (by kernel_rfl) ?_
  refine wl_v (by kernel_rfl) (Value.agg (vb (kl K7)).toArray) (e_loads (h13.at_ 0 rfl) 42 (.tmp 2) (by kernel_rfl) 0 (vb (kl K7)) (by kernel_rfl) (by kernel_rfl) (by kernel_rfl)) ?_
  refine wl_p 1 [(24, (Value.slice A13 16 c13))] (by kernel_rfl) ?_
  refine wl_to (by kernel_rfl) (x_open h13 1 rfl K7 3 (mkB 98 (s7.boxes.length + 1)) (Value.slice A13 16 c13) (some [97, 98]) (by kernel_rfl) (h13.rd 0 rfl) (by rw [e13]; decide) (h13.tabW 1 rfl).1 (by rw [e13]; decide) (by rw [e13, e7, f7]; kernel_rfl)) ?_
  rintro _ w15 ⟨A15, c15, rfl, h15⟩
  refine wl_p 5 [(21, (Value.tuple #[(Value.slice A15 2 c15), (Value.bool true)])), (26, (Value.slice A15 2 c15)), (27, (Value.bool true)), (4, (Value.slice A15 2 c15)), (5, (Value.bool true))] (by kernel_rfl) ?_
  refine wl_end rfl ?_
  refine seq_n hK14 ?_
  refine wp_seq_k ?_
  intro K16 hK16
  refine reg_lit ?_
  refine wl_p 1 [(29, (pt tb3 0))] (by kernel_rfl) ?_
  refine wl_v (by kernel_rfl) (Value.agg (vb (kl K7)).toArray) (e_loads (h15.at_ 1 rfl) 42 (.tmp 2) (by kernel_rfl) 0 (vb (kl K7)) (by kernel_rfl) (by kernel_rfl) (by kernel_rfl)) ?_
  refine wl_p 1 [(31, (Value.slice A13 16 c13))] (by kernel_rfl) ?_
  refine wl_to (by kernel_rfl) (x_open h15 2 rfl K7 4 (mkB 98 (s7.boxes.length + 1)) (Value.slice A13 16 c13) none (by kernel_rfl) (h15.rd 0 rfl) (by rw [e13]; decide) (h15.tabW 2 rfl).1 (by rw [e13]; decide) (by rw [e13, e7, f7]; kernel_rfl)) ?_
  rintro _ w17 ⟨A17, c17, rfl, h17⟩
  refine wl_p 5 [(28, (Value.tuple #[(Value.slice A17 0 c17), (Value.bool false)])), (33, (Value.slice A17 0 c17)), (34, (Value.bool false)), (6, (Value.slice A17 0 c17)), (7, (Value.bool false))] (by kernel_rfl) ?_
  refine wl_end rfl ?_
  refine seq_n hK16 ?_
  refine wp_seq_k ?_
  intro K18 hK18
  refine reg_lit ?_
  refine wl_p 1 [(36, (Value.slice A13 16 c13))] (by kernel_rfl) ?_
  refine wl_to (by kernel_rfl) (x_Mark h17 (mkB 98 (s7.boxes.length + 1)) (Value.slice A13 16 c13) (by kernel_rfl) (h17.rd 0 rfl) (Value.tuple #[(Value.int .u8 98), (Value.int .i64 1), (Value.bool true)]) (by rw [e7]; kernel_rfl)) ?_
  rintro _ w19 ⟨rfl, h19⟩
  refine wl_p 7 [(35, (Value.tuple #[(Value.int .u8 98), (Value.int .i64 1), (Value.bool true)])), (38, (Value.int .u8 98)), (39, (Value.int .i64 1)), (40, (Value.bool true)), (8, (Value.int .u8 98)), (9, (Value.int .i64 1)), (10, (Value.bool true))] (by kernel_rfl) ?_
  refine wl_end rfl ?_
  refine seq_n hK18 ?_
  refine wp_seq_k ?_
  intro K20 hK20
  refine pH_go h19 54 (fun W => (rBlk g8 42 (vb (kl K7))).Φ W ∧ True) (by kernel_rfl) rfl ?_
  intro w21 h21
  refine pH_p 37 [0, 1, 2, 3, 4, 5, 6, 7, 8, 9, 10, 11, 12, 13, 14, 15, 16, 17] [(41, (Value.bool true)), (42, (Value.bool true)), (43, (Value.bool false)), (44, (Value.bool true)), (45, (Value.bool true)), (46, (Value.bool true)), (47, (Value.bool true)), (48, (Value.bool true)), (49, (Value.bool true)), (50, (Value.int .u8 98)), (51, (Value.bool true)), (52, (Value.bool true)), (53, (Value.bool true)), (54, (Value.int .i64 1)), (55, (Value.bool true)), (56, (Value.bool true)), (57, (Value.bool true)), (58, (Value.slice A15 2 c15))] rfl (by kernel_rfl) (by kernel_rfl) (fun _ d _ _ _ h => by cases d <;> exact h) ⟨h21.at_ 2 rfl, trivial⟩ (by kernel_rfl) ?_
  refine pH_to 18 (some 59) rfl rfl (by kernel_rfl) (by kernel_rfl) (x_bsl h21 [97, 98] (by kernel_rfl)) ?_
  rintro _ w22 ⟨g22, rfl, hw22, hg22, hq22, h22⟩
  refine ⟨fun _ => ⟨h22.at_ 3 rfl, trivial⟩, ?_⟩
  refine pH_to 19 (some 60) rfl rfl (by kernel_rfl) (by kernel_rfl) (x_bcv hq22 [97, 98] hw22 g22 hg22 (.tmp 59) (by kernel_rfl) (by kernel_rfl) (by decide)) ?_
  rintro _ w23 ⟨rfl, h23⟩
  refine ⟨fun _ => ⟨h23.at_ 2 rfl, trivial⟩, ?_⟩
  refine pH_to 20 (some 61) rfl rfl (by kernel_rfl) (by kernel_rfl) (x_same h23 ([97, 98]) ([97, 98]) (Value.slice A15 2 c15) (Value.slice (some ⟨g22, 0, none⟩) 2 2) (by kernel_rfl) (OB.sb (h23.at_ 1 rfl)) (h23.rd 0 rfl) true (by kernel_rfl)) ?_
  rintro _ w24 ⟨rfl, h24⟩
  refine ⟨fun _ => ⟨h24.at_ 2 rfl, trivial⟩, ?_⟩
  refine pH_p 31 [21, 22, 23] [(62, (Value.bool true)), (63, (Value.bool true)), (64, (Value.slice A13 16 c13))] rfl (by kernel_rfl) (by kernel_rfl) (fun _ d _ _ _ h => by cases d <;> exact h) ⟨h24.at_ 2 rfl, trivial⟩ (by kernel_rfl) ?_
  refine pH_to 24 (some 65) rfl rfl (by kernel_rfl) (by kernel_rfl) (x_bsl h24 [255, 254, 98, 0, 0, 0, 0, 0, 0, 0, 0, 0, 0, 0, 0, 1] (by kernel_rfl)) ?_
  rintro _ w25 ⟨g25, rfl, hw25, hg25, hq25, h25⟩
  refine ⟨fun _ => ⟨h25.at_ 3 rfl, trivial⟩, ?_⟩
  refine pH_to 25 (some 66) rfl rfl (by kernel_rfl) (by kernel_rfl) (x_same h25 (mkB 98 (s7.boxes.length + 1)) ([255, 254, 98, 0, 0, 0, 0, 0, 0, 0, 0, 0, 0, 0, 0, 1]) (Value.slice A13 16 c13) (Value.slice (some ⟨g25, 0, none⟩) 16 16) (by kernel_rfl) (h25.rd 1 rfl) (SB.blk (h25.at_ 0 rfl) (by kernel_rfl) (by kernel_rfl) (by kernel_rfl)) true (by rw [e7]; kernel_rfl)) ?_
  rintro _ w26 ⟨rfl, h26⟩
  refine ⟨fun _ => ⟨h26.at_ 3 rfl, trivial⟩, ?_⟩
  refine pH_p 25 [26, 27, 28, 30] [(67, (Value.bool true)), (68, (Value.bool true)), (69, (pt tb3 0)), (71, (pt tb3 0))] rfl (by kernel_rfl) (by kernel_rfl) (fun _ d _ _ _ h => by cases d <;> exact h) ⟨h26.at_ 3 rfl, trivial⟩ (by kernel_rfl) ?_
  refine pH_to 29 (some 70) rfl rfl (by kernel_rfl) (by kernel_rfl) (x_text h26 4 rfl (⟨#[112]⟩) (⟨#[115]⟩) (by kernel_rfl) (by decide) (by decide) (by rw [e13]; decide)) ?_
  rintro _ w27 ⟨K27, F27, s27, rfl, hK27, hs27, h27⟩
  refine ⟨fun _ => ⟨h27.at_ 3 rfl, trivial⟩, ?_⟩
  have e27 : s27 = (⟨[SFrom.fresh, textF ⟨#[112]⟩ ⟨#[115]⟩], [⟨mkB 107 1, 3, [97, 98]⟩], [], [(textF ⟨#[112]⟩ ⟨#[115]⟩, 2)]⟩ : STab) := (by rw [hs27, e13]; kernel_rfl)
  have f27 : kl K27 = mkB 107 2 := (by rw [hK27, e13]; kernel_rfl)
  refine pH_to 31 (some 72) rfl rfl (by kernel_rfl) (by kernel_rfl) (x_text h27 4 rfl (⟨#[112]⟩) (⟨#[115]⟩) (by kernel_rfl) (by decide) (by decide) (by rw [e27]; decide)) ?_
  rintro _ w28 ⟨K28, F28, s28, rfl, hK28, hs28, h28⟩
  refine ⟨fun _ => ⟨h28.at_ 3 rfl, trivial⟩, ?_⟩
  have e28 : s28 = (⟨[SFrom.fresh, textF ⟨#[112]⟩ ⟨#[115]⟩], [⟨mkB 107 1, 3, [97, 98]⟩], [], [(textF ⟨#[112]⟩ ⟨#[115]⟩, 2)]⟩ : STab) := (by rw [hs28, e27]; kernel_rfl)
  have f28 : kl K28 = mkB 107 2 := (by rw [hK28, e27]; kernel_rfl)
  refine pH_v 32 (some 73) (Value.bool true) rfl rfl (by kernel_rfl) (by kernel_rfl) (by kernel_rfl) (by kernel_rfl) (by kernel_rfl) (fun _ d _ _ _ h => by cases d <;> exact h) (by kernel_rfl) ⟨h28.at_ 3 rfl, trivial⟩ (fun W hW => e_keq K27 K28 42 42 (.tmp 70) (.tmp 72) (by kernel_rfl) (by kernel_rfl) (by kernel_rfl) (by kernel_rfl) (by kernel_rfl) true (by rw [f27, f28]; kernel_rfl) _) ?_
  refine pH_p 18 [33, 34, 35, 38] [(74, (Value.bool true)), (75, (Value.bool true)), (76, (pt tb3 0)), (79, (pt tb3 0))] rfl (by kernel_rfl) (by kernel_rfl) (fun _ d _ _ _ h => by cases d <;> exact h) ⟨h28.at_ 3 rfl, trivial⟩ (by kernel_rfl) ?_
  refine pH_v 36 (some 77) (Value.agg (vb (kl K7)).toArray) rfl rfl (by kernel_rfl) (by kernel_rfl) (by kernel_rfl) (by kernel_rfl) (by kernel_rfl) (fun _ d _ _ _ h => by cases d <;> exact h) (by kernel_rfl) ⟨h28.at_ 3 rfl, trivial⟩ (fun W hW => e_loads hW.1 42 (.tmp 2) (by kernel_rfl) 0 (vb (kl K7)) (by kernel_rfl) (by kernel_rfl) (by kernel_rfl)) ?_
  refine pH_v 39 (some 80) (Value.agg (vb (kl K7)).toArray) rfl rfl (by kernel_rfl) (by kernel_rfl) (by kernel_rfl) (by kernel_rfl) (by kernel_rfl) (fun _ d _ _ _ h => by cases d <;> exact h) (by kernel_rfl) ⟨h28.at_ 3 rfl, trivial⟩ (fun W hW => e_loads hW.1 42 (.tmp 2) (by kernel_rfl) 0 (vb (kl K7)) (by kernel_rfl) (by kernel_rfl) (by kernel_rfl)) ?_
  refine pH_to 37 (some 78) rfl rfl (by kernel_rfl) (by kernel_rfl) (x_derive h28 4 rfl K7 (⟨#[120]⟩) (by kernel_rfl) (by rw [e28]; decide)) ?_
  rintro _ w29 ⟨K29, F29, s29, rfl, hK29, hs29, h29⟩
  refine ⟨fun _ => ⟨h29.at_ 3 rfl, trivial⟩, ?_⟩
  have e29 : s29 = (⟨[SFrom.fresh, textF ⟨#[112]⟩ ⟨#[115]⟩, deriveF (mkB 107 1) ⟨#[120]⟩], [⟨mkB 107 1, 3, [97, 98]⟩], [], [(textF ⟨#[112]⟩ ⟨#[115]⟩, 2), (deriveF (mkB 107 1) ⟨#[120]⟩, 3)]⟩ : STab) := (by rw [hs29, e28, f7]; kernel_rfl)
  have f29 : kl K29 = mkB 107 3 := (by rw [hK29, e28, f7]; kernel_rfl)
  refine pH_to 40 (some 81) rfl rfl (by kernel_rfl) (by kernel_rfl) (x_derive h29 4 rfl K7 (⟨#[121]⟩) (by kernel_rfl) (by rw [e29]; decide)) ?_
  rintro _ w30 ⟨K30, F30, s30, rfl, hK30, hs30, h30⟩
  refine ⟨fun _ => ⟨h30.at_ 3 rfl, trivial⟩, ?_⟩
  have e30 : s30 = (⟨[SFrom.fresh, textF ⟨#[112]⟩ ⟨#[115]⟩, deriveF (mkB 107 1) ⟨#[120]⟩, deriveF (mkB 107 1) ⟨#[121]⟩], [⟨mkB 107 1, 3, [97, 98]⟩], [], [(textF ⟨#[112]⟩ ⟨#[115]⟩, 2), (deriveF (mkB 107 1) ⟨#[120]⟩, 3), (deriveF (mkB 107 1) ⟨#[121]⟩, 4)]⟩ : STab) := (by rw [hs30, e29, f7]; kernel_rfl)
  have f30 : kl K30 = mkB 107 4 := (by rw [hK30, e29, f7]; kernel_rfl)
  refine pH_v 41 (some 82) (Value.bool true) rfl rfl (by kernel_rfl) (by kernel_rfl) (by kernel_rfl) (by kernel_rfl) (by kernel_rfl) (fun _ d _ _ _ h => by cases d <;> exact h) (by kernel_rfl) ⟨h30.at_ 3 rfl, trivial⟩ (fun W hW => e_kne K29 K30 42 42 (.tmp 78) (.tmp 81) (by kernel_rfl) (by kernel_rfl) (by kernel_rfl) (by kernel_rfl) (by kernel_rfl) true (by rw [f29, f30]; kernel_rfl) _) ?_
  refine pH_p 10 [42, 43, 44] [(83, (Value.bool true)), (84, (Value.bool true)), (85, (pt tb3 0))] rfl (by kernel_rfl) (by kernel_rfl) (fun _ d _ _ _ h => by cases d <;> exact h) ⟨h30.at_ 3 rfl, trivial⟩ (by kernel_rfl) ?_
  refine pH_v 46 (some 87) (Value.agg (vb (kl K7)).toArray) rfl rfl (by kernel_rfl) (by kernel_rfl) (by kernel_rfl) (by kernel_rfl) (by kernel_rfl) (fun _ d _ _ _ h => by cases d <;> exact h) (by kernel_rfl) ⟨h30.at_ 3 rfl, trivial⟩ (fun W hW => e_loads hW.1 42 (.tmp 2) (by kernel_rfl) 0 (vb (kl K7)) (by kernel_rfl) (by kernel_rfl) (by kernel_rfl)) ?_
  refine pH_to 45 (some 86) rfl rfl (by kernel_rfl) (by kernel_rfl) (x_nth (tb := tb3) h30 (1) (by kernel_rfl) (by decide)) ?_
  rintro _ w31 ⟨K31, rfl, hK31, h31⟩
  refine ⟨fun _ => ⟨h31.at_ 3 rfl, trivial⟩, ?_⟩
  have f31 : kl K31 = mkB 107 1 := hK31
  refine pH_v 47 (some 88) (Value.bool true) rfl rfl (by kernel_rfl) (by kernel_rfl) (by kernel_rfl) (by kernel_rfl) (by kernel_rfl) (fun _ d _ _ _ h => by cases d <;> exact h) (by kernel_rfl) ⟨h31.at_ 3 rfl, trivial⟩ (fun W hW => e_keq K31 K7 42 42 (.tmp 86) (.tmp 87) (by kernel_rfl) (by kernel_rfl) (by kernel_rfl) (by kernel_rfl) (by kernel_rfl) true (by rw [f31, f7]; kernel_rfl) _) ?_
  refine pH_p 4 [48, 49, 50] [(89, (Value.bool true)), (90, (Value.bool true)), (91, (pt tb3 0))] rfl (by kernel_rfl) (by kernel_rfl) (fun _ d _ _ _ h => by cases d <;> exact h) ⟨h31.at_ 3 rfl, trivial⟩ (by kernel_rfl) ?_
  refine pH_to 51 (some 92) rfl rfl (by kernel_rfl) (by kernel_rfl) (x_nboxes h31 4 rfl (by kernel_rfl)) ?_
  rintro _ w32 ⟨rfl, h32⟩
  refine ⟨fun _ => ⟨h32.at_ 3 rfl, trivial⟩, ?_⟩
  refine pH_v 52 (some 93) (Value.bool true) rfl rfl (by kernel_rfl) (by kernel_rfl) (by kernel_rfl) (by kernel_rfl) (by kernel_rfl) (fun _ d _ _ _ h => by cases d <;> exact h) (by kernel_rfl) ⟨h32.at_ 3 rfl, trivial⟩ (fun W hW => e_is (v := (Value.bool (((s30.boxes.length : Int)) == 1))) (by kernel_rfl) (by rw [e30]; rfl)) ?_
  refine pH_p 1 [53] [(94, (Value.bool true))] rfl (by kernel_rfl) (by kernel_rfl) (fun _ d _ _ _ h => by cases d <;> exact h) ⟨h32.at_ 3 rfl, trivial⟩ (by kernel_rfl) ?_
  refine pH_to 54 (some 0) rfl rfl (by kernel_rfl) (by kernel_rfl) (OpTo.run (Value.bool true) (pureOp_run (by kernel_rfl) _) (R := fun v w => v = (Value.bool true) ∧ w = w32) ⟨rfl, rfl⟩) ?_
  rintro _ _ ⟨rfl, rfl⟩
  refine ⟨fun h => absurd h (by decide), ?_⟩
  refine pH_done (by kernel_rfl) ?_ _
  refine seq_n hK20 ?_
  refine wp_ret ?_
  refine post_1 rfl (by kernel_rfl) (rtmp (v := (Value.bool true)) (by kernel_rfl)) ?_
  exact ⟨rfl, h32.below0⟩
end Go.Proofs.Ytjjcnijdjhhdoaa
end
/-! More steps on slices: parts of them, their elements' places and cells. -/
section
namespace Go.Proofs.Ytjjcnijdjhhdoaa
open Go.RowKit Go.QT
section
variable {P : Program} {o : Oper} {a : Act} {w w' w0 : World} {sz c : Nat} {A : Option Addr} {xs : List (List Value)} {F0 : Nat → Prop} {ro rs : List Res}
theorem e_cut_lh {v : Value} {l : Bytes} (h : SB w v l) (x lo hi : Operand) (ho : o.op = .slice 28 x (some lo) (some hi) none) (hx : a.eval x = v) (k k' : IntKind) (i j : Nat) (hlo : a.eval lo = .int k (i : Int)) (hhi : a.eval hi = .int k' (j : Int)) (h1 : i ≤ j) (h2 : j ≤ l.length) (W : World) :
    (execOp a.eval o).run Try.prog W = .ok (.value (cutS v i j)) W :=
  exec_cut_lh x lo hi ho v l hx h k k' (i : Int) (j : Int) hlo hhi (by omega) (by omega) (by omega) W
theorem e_cut_h {v : Value} {l : Bytes} (h : SB w v l) (x hi : Operand) (ho : o.op = .slice 28 x none (some hi) none) (hx : a.eval x = v) (k' : IntKind) (j : Nat) (hhi : a.eval hi = .int k' (j : Int)) (h2 : j ≤ l.length) (W : World) :
    (execOp a.eval o).run Try.prog W = .ok (.value (cutS v 0 j)) W :=
  exec_cut_h x hi ho v l hx h k' (j : Int) hhi (by omega) (by omega) W
theorem e_cut_l {v : Value} {l : Bytes} (h : SB w v l) (x lo : Operand) (ho : o.op = .slice 28 x (some lo) none none) (hx : a.eval x = v) (k : IntKind) (i : Nat) (hlo : a.eval lo = .int k (i : Int)) (h2 : i ≤ l.length) (W : World) :
    (execOp a.eval o).run Try.prog W = .ok (.value (cutS v i l.length)) W :=
  exec_cut_l x lo ho v l hx h k (i : Int) hlo (by omega) (by omega) W
theorem e_idxN (h : RV w sz A c xs) (i n : Nat) (hn : xs.length = n) (hi : i < n) (t : TypeId) (x y : Operand) (ho : o.op = .indexAddr t x y) (k : IntKind) (hx : a.eval x = .slice A n c) (hy : a.eval y = .int k (i : Int)) (E : TypeId) (ht : P.underlying t = some (.slice E)) (hE : pureVal P (sizeOf E) = some sz) (W : World) :
    (execOp a.eval o).run P W = .ok (.value (eAt A (i * sz))) W := by
  subst hn
  exact e_idx h i hi t x y ho k hx hy E ht hE W
theorem eAt_at (h : RV w sz A c xs) (i : Nat) (x : List Value) (hxi : xs[i]? = some x) (j : Nat) : ∃ b k, A = some ⟨b, k, none⟩ ∧ eAt A (i * sz + j) = pt b (k + (i * sz + j)) ∧ ∀ m u, x[j + m]? = some u → w.cell? ⟨b, k + (i * sz + j) + m, none⟩ = some u := by
  have hi : i < xs.length := (List.getElem?_eq_some_iff.1 hxi).1
  obtain ⟨b, o', rfl, hb, hc⟩ := h.at_ (by rintro rfl; simp at hi)
  refine ⟨b, o', rfl, ?_, fun m u hu => ?_⟩
  · unfold eAt pt
    by_cases h0 : i * sz + j = 0
    · rw [h0]; simp [Addr.add]
    · simp only [Addr.add]
      simp
      intro h2 h3; exact h0 (by omega)
  · have := hc i x hxi (j + m) u hu
    rw [show o' + (i * sz + j) + m = o' + i * sz + (j + m) by omega]
    exact this
/-- A cell of an element: its j-th. -/
theorem e_elemN (h : RV w sz A c xs) (i j : Nat) (x : List Value) (hxi : xs[i]? = some x) (t : TypeId) (p : Operand) (ho : o.op = .load t p) (v : Value) (hx : a.eval p = eAt A (i * sz + j)) (hv : x[j]? = some v) (ht : pureVal P (isAgg t) = some false) :
    (execOp a.eval o).run P w = .ok (.value v) w := by
  obtain ⟨b, k, rfl, e, hc⟩ := eAt_at h i x hxi j
  have hcell : w.cell? ⟨b, k + (i * sz + j), none⟩ = some v := by simpa using hc 0 v hv
  have hl : (loadVar t ⟨b, k + (i * sz + j), none⟩).run P w = .ok v w := by simp [loadVar, pureVal_run ht, hcell]
  unfold execOp
  rw [e] at hx
  simp only [ho, hx, pt, Instr.loadAt, Instr.sureAddr, Sem.run_bind, Sem.run_pure, Result.andThen_ok, hl]
/-- Cells of an element, from the j-th on. -/
theorem e_elemsN (h : RV w sz A c xs) (i j : Nat) (x : List Value) (hxi : xs[i]? = some x) (t : TypeId) (p : Operand) (ho : o.op = .load t p) (ds : List Value) (hx : a.eval p = eAt A (i * sz + j)) (hv : (x.drop j).take ds.length = ds) (hB : rowB P t ds.length = true) :
    (execOp a.eval o).run P w = .ok (.value (.agg ds.toArray)) w := by
  obtain ⟨b, k, rfl, e, hc⟩ := eAt_at h i x hxi j
  obtain ⟨d, hu, hr, hs⟩ := rowB_spec hB
  have hl := run_loadVar_mid (P := P) w b (k + (i * sz + j)) t ds d (fun m v hm => hc m v (slice_get x j ds.length m v (by rw [hv]; exact hm))) hu hr hs
  unfold execOp
  rw [e] at hx
  simp only [ho, hx, pt, Instr.loadAt, Instr.sureAddr, Sem.run_bind, Sem.run_pure, Result.andThen_ok, hl]
/-- The place of an element's field. -/
theorem e_fldN (h : RV w sz A c xs) (i j k : Nat) (x : List Value) (hxi : xs[i]? = some x) (p : Operand) (hx : a.eval p = eAt A (i * sz + j)) (hf : ∀ b n, pureVal P (execOp (fun _ => pt b n) o) = some (.value (pt b (n + k)))) (hE : ∀ ev : Operand → Value, execOp ev o = execOp (fun _ => ev p) o) (W : World) :
    (execOp a.eval o).run P W = .ok (.value (eAt A (i * sz + (j + k)))) W := by
  obtain ⟨b, n, rfl, e, _⟩ := eAt_at h i x hxi j
  have e2 : eAt (some ⟨b, n, none⟩) (i * sz + (j + k)) = pt b (n + (i * sz + (j + k))) := by
    unfold eAt pt
    by_cases h0 : i * sz + (j + k) = 0
    · rw [h0]; simp [Addr.add]
    · simp only [Addr.add]
      simp
      intro h2 h3 h4; exact absurd (show i * sz + (j + k) = 0 by omega) h0
  rw [hE, hx, e, e2, show n + (i * sz + (j + k)) = n + (i * sz + j) + k by omega]
  exact pureVal_run (hf _ _) W
/-- A new slice of values. -/
theorem x_bs (h : Hp F0 w0 w ro rs) (T : TypeId) (cs : List Value) (n : Nat) (hn : newVal P (execOp a.eval o) = some (.cells cs.toArray T, fun r => some (.value (.slice (some ⟨r, 0, none⟩) n n)))) :
    OpTo P o a w (fun v w' => ∃ g, v = .slice (some ⟨g, 0, none⟩) n n ∧ Hp F0 w0 w' ro (rBlk g T cs :: rs)) :=
  OpTo.run (.slice (some ⟨w.heap.size, 0, none⟩) n n) (newVal_run hn w rfl) ⟨_, rfl, h.alloc T cs⟩
theorem x_bs0 (h : Hp F0 w0 w ro rs) (T : TypeId) (sz : Nat) (hn : newVal P (execOp a.eval o) = some (.cells #[] T, fun r => some (.value (.slice (some ⟨r, 0, none⟩) 0 0)))) :
    OpTo P o a w (fun v w' => ∃ A, v = .slice A 0 0 ∧ Hp F0 w0 w' ro (rOV T sz (.slice A 0 0) [] :: rs)) := by
  refine (x_bs h T [] 0 hn).mono fun v w' hr => ?_
  obtain ⟨g, hv, h'⟩ := hr
  have hb : Blk w' g T [] := h'.own 0 _ rfl
  refine ⟨_, hv, h'.upd 0 rfl (Fr.refl _ _) (rOV T sz (.slice (some ⟨g, 0, none⟩) 0 0) []) ⟨⟨by simp, .inr ⟨g, 0, #[], rfl, Nat.zero_le _, hb, Nat.le_refl _, by unfold maxLen; omega, by simp, by simp⟩⟩, by simp, by simp⟩ (fun q hq => .inl ?_)⟩
  have : g = q := by simpa [rOV, Value.ownBlock] using hq
  exact this.symm
theorem x_bs0B (h : Hp F0 w0 w ro rs) (hn : newVal P (execOp a.eval o) = some (.cells #[] 5, fun r => some (.value (.slice (some ⟨r, 0, none⟩) 0 0)))) :
    OpTo P o a w (fun v w' => ∃ A, v = .slice A 0 0 ∧ Hp F0 w0 w' ro (rOB (.slice A 0 0) [] :: rs)) := by
  refine (x_bs h 5 [] 0 hn).mono fun v w' hr => ?_
  obtain ⟨g, hv, h'⟩ := hr
  have hb : Blk w' g 5 [] := h'.own 0 _ rfl
  refine ⟨_, hv, h'.upd 0 rfl (Fr.refl _ _) (rOB (.slice (some ⟨g, 0, none⟩) 0 0) []) (OB.new w' g [] (by simp) hb (Nat.zero_le _)) (fun q hq => .inl ?_)⟩
  have : g = q := by simpa [rOB, Value.ownBlock] using hq
  exact this.symm
theorem SB.rvn {l : Bytes} {n : Nat} (h : SB w (.slice A n c) l) : (bx l).length = n ∧ RV w 1 A c (bx l) := by
  obtain ⟨A', c', e, h1, h2, h3⟩ := id h
  injection e with e1 e2 e3
  subst e2
  exact ⟨bx_len l, SB.rv h⟩
theorem OV.rvn {base E : Nat} {n : Nat} (h : OV w base E sz (.slice A n c) xs) : xs.length = n ∧ RV w sz A c xs := ⟨(OV.rv h).1.symm, (OV.rv h).2⟩
/-- append of one element, its answer as one likes to spell it. -/
theorem x_pushG (h : Hp F0 w0 w ro rs) (i j : Nat) {E : TypeId} {v : Value} {g : Nat} {T : TypeId} {news : List Value} (hi : rs[i]? = some (rOV E sz v xs)) (hj : rs[j]? = some (rBlk g T news)) (hij : decide (i ≠ j) = true)
    (s x : Operand) (t : TypeId) (ho : o.op = .call { callee := .builtin .append, args := #[s, x], argTypes := #[t, t] }) (bytes : Nat) (z : Value) (ht : P.underlying t = some (.slice E)) (hinf : (P.info? E).map (fun i => (i.zero, i.size, i.bytes)) = some (some z, sz, bytes))
    (hzs : z.cells.size = sz) (hsz : decide (0 < sz) = true) (hs : a.eval s = v) (c : Nat) (hx : a.eval x = .slice (some ⟨g, 0, none⟩) 1 c) (hn : news.length = sz) (h1 : news.all (·.oneCell') = true)
    (hlen : (xs.length + 1) * bytes ≤ 140737488355328) (hlen2 : xs.length < maxLen) (ys : List (List Value)) (n : Nat) (hys : ys = xs ++ [news]) (hyn : ys.length = n) :
    OpTo P o a w (fun u w' => ∃ A cc, u = .slice A n cc ∧ Hp F0 w0 w' ro (rs.set i (rOV E sz (.slice A n cc) ys))) := by
  subst hys; subst hyn
  refine (x_push h i j hi hj (of_decide_eq_true hij) s x t ho bytes z ht hinf hzs (of_decide_eq_true hsz) hs c hx hn (by simpa using h1) hlen hlen2).mono fun u w' hr => ?_
  obtain ⟨A, cc, rfl, h'⟩ := hr
  exact ⟨A, cc, rfl, h'⟩
theorem x_appG (h : Hp F0 w0 w ro rs) (i : Nat) {v : Value} {l m : Bytes} (hi : rs[i]? = some (rOB v l)) (s x : Operand) (ho : o.op = .call { callee := .builtin .append, args := #[s, x], argTypes := #[28, 28] })
    (u : Value) (hs : a.eval s = v) (hx : a.eval x = u) (hu : SB w u m) (hlen : l.length + m.length ≤ 140737488355328) (r : Bytes) (n : Nat) (hr : r = l ++ m) (hn : r.length = n) :
    OpTo Try.prog o a w (fun u w' => ∃ A cc, u = .slice A n cc ∧ Hp F0 w0 w' ro (rs.set i (rOB (.slice A n cc) r))) := by
  subst hr; subst hn
  refine (x_appB h i hi s x ho u hs hx hu hlen).mono fun u w' hr => ?_
  obtain ⟨A, cc, rfl, h'⟩ := hr
  exact ⟨A, cc, rfl, h'⟩
/-- Box, of one that is there. -/
theorem x_boxS {F : Nat → Prop} {tb : Nat} {s : STab} (h : Hp F0 w0 w ro rs) (i : Nat) (hi : rs[i]? = some (rTab F tb s)) (l : Bytes) (bv : Value) (D : Fin 16 → UInt8) (us : Int) (l' : Bytes) (hp : pureVal Try.prog (execOp a.eval o) = some (.enter 35 #[pt tb 0, bv])) (hb : SB w bv l) (hl : ∀ b ∈ s.boxes, b.body.length ≤ 1000000) (hx16 : ∀ b ∈ s.boxes, b.by_.length = 16) (hn : s.boxes.length < 1000000) (hr : s.box l = some ⟨kl D, us, l'⟩) :
    OpTo Try.prog o a w (fun u' w' => ∃ A cc, u' = .tuple #[.agg (vb (kl D) ++ [Value.int .i64 us, Value.slice A l'.length cc]).toArray, .bool true] ∧ Hp F0 w0 w' ro (rOB (.slice A l'.length cc) l' :: rs)) :=
  (x_box h i hi l bv _ hp hb hl hx16 hn hr).mono fun u w' hq => by
    obtain ⟨K, us', l'', A, cc, hu, hor, h'⟩ := hq
    rcases hor with e | ⟨e, _⟩
    · injection e with e
      injection e with e1 e2 e3
      subst e2; subst e3
      exact ⟨A, cc, by rw [hu, e1]; rfl, h'⟩
    · cases e
theorem x_boxN {F : Nat → Prop} {tb : Nat} {s : STab} (h : Hp F0 w0 w ro rs) (i : Nat) (hi : rs[i]? = some (rTab F tb s)) (l : Bytes) (bv : Value) (hp : pureVal Try.prog (execOp a.eval o) = some (.enter 35 #[pt tb 0, bv])) (hb : SB w bv l) (hl : ∀ b ∈ s.boxes, b.body.length ≤ 1000000) (hx16 : ∀ b ∈ s.boxes, b.by_.length = 16) (hn : s.boxes.length < 1000000) (hr : s.box l = none) :
    OpTo Try.prog o a w (fun u' w' => ∃ A cc, u' = .tuple #[.agg (vb zKey ++ [Value.int .i64 0, Value.slice A 0 cc]).toArray, .bool false] ∧ Hp F0 w0 w' ro rs) :=
  (x_box h i hi l bv _ hp hb hl hx16 hn hr).mono fun u w' hq => by
    obtain ⟨K, us', l'', A, cc, hu, hor, h'⟩ := hq
    rcases hor with e | ⟨_, e1, e2, e3⟩
    · cases e
    · subst e2; subst e3
      exact ⟨A, cc, by rw [hu, e1]; rfl, h'.drop 0⟩
theorem e_sadd (x y : Operand) (t t' : TypeId) (ho : o.op = .binOp .add t x y t') (p q : ByteArray) (hx : a.eval x = .string p) (hy : a.eval y = .string q) (hp : p.size ≤ 1000000) (hq : q.size ≤ 1000000) (W : World) :
    (execOp a.eval o).run P W = .ok (.value (.string (p ++ q))) W := by
  unfold execOp
  simp only [ho, hx, hy, eqGuard_add, binOp_string_add, run_string_add_sum _ p q (by omega), Sem.run_bind, Sem.run_pure, Result.andThen_ok]
theorem u8_wrap (x : Int) : ∃ b : UInt8, IntKind.u8.wrap x = ub b := by
  refine ⟨toB (IntKind.u8.wrap x), (ub_u8 ?_ ?_).symm⟩ <;> (rw [IntKind.wrap_u8]; omega)
/-- A byte is stored into a row of the call's own. -/
theorem x_storeB (h : Hp F0 w0 w ro rs) (i : Nat) {n : Nat} {l : Bytes} (hi : rs[i]? = some (rOB (.slice A n c) l)) (j : Nat) (hj : j < l.length) (t : TypeId) (x y : Operand) (ho : o.op = .store t x y) (bv : UInt8) (hx : a.eval x = eAt A (j * 1 + 0)) (hy : a.eval y = .int .u8 (ub bv)) (hsz : (P.info? t).map (·.size) = some 1) :
    OpTo P o a w (fun _ w' => Hp F0 w0 w' ro (rs.set i (rOB (.slice A n c) (l.set j bv)))) := by
  have hv : OB w 0 (.slice A n c) l := h.own i _ hi
  obtain ⟨h1, h2⟩ := id hv
  rcases h2 with ⟨e, h0⟩ | ⟨g, cap, cur, e, hg, hh, hn, hm, hs, ht⟩
  · omega
  · injection e with e1 e2 e3
    subst e1; subst e2; subst e3
    have hb : Blk w g 5 cur.toList := by unfold Blk; simpa using hh
    have hx' : a.eval x = .pointer (some ⟨g, j, none⟩) := by
      rw [hx]; simp only [eAt, Addr.add, Nat.mul_one, Nat.add_zero, Nat.zero_add]
      by_cases h0 : j = 0
      · subst h0; rfl
      · simp [h0]
    have hl : j < cur.toList.length := by simp; omega
    refine OpTo.runs (w' := w.setCell ⟨g, j, none⟩ (.int .u8 (ub bv))) (exec_storeCell t x y ho g j _ hx' hy 5 cur.toList hb hl hsz rfl rfl) ?_
    have hf := Fr.setCell w g j (.int .u8 (ub bv))
    exact h.upd i hi ⟨hf.os, hf.tape, hf.output, hf.size, fun k hk hn => hf.block k hk (fun e => hn (by subst e; rfl))⟩ (rOB (.slice (some ⟨g, 0, none⟩) l.length c) (l.set j bv)) (hv.set j bv) (fun q hq => .inl hq)
theorem e_rem (x y : Operand) (t t' : TypeId) (ho : o.op = .binOp .rem t x y t') (m n : Nat) (hx : a.eval x = .int .i64 (m : Int)) (hy : a.eval y = .int .i64 (n : Int)) (hn : 0 < n) (W : World) :
    (execOp a.eval o).run P W = .ok (.value (.int .i64 ((m % n : Nat) : Int))) W := by
  have h0 : ¬ ((n : Int) = 0) := by omega
  unfold execOp
  simp only [ho, hx, hy, eqGuard_rem, binOp_rem, Op.intDiv, Sem.run_bind, Sem.run_pure, Result.andThen_ok, if_neg h0, Int.ofNat_tmod]
end
end Go.Proofs.Ytjjcnijdjhhdoaa
end
/-! Plain facts of marks, and of the marks that stand in bytes. -/
section
namespace Go.Proofs.Ytjjcnijdjhhdoaa
open Go.RowKit
theorem markOf_spec {b : Bytes} {k : UInt8} {n : Nat} (h : markOf b = some (k, n)) : b.length = 16 ∧ (k = 107 ∨ k = 98 ∨ k = 100) ∧ n ≤ 1099511627776 ∧ b = mkB k n := by
  unfold markOf at h
  split at h
  · rename_i hc
    injection h with h
    injection h with h1 h2
    subst h1; subst h2
    exact hc
  · cases h
theorem markOf_mkB {k : UInt8} {n : Nat} (hk : k = 107 ∨ k = 98 ∨ k = 100) (hn : n ≤ 1099511627776) : markOf (mkB k n) = some (k, n) := by
  have h2 : gb (mkB k n) 2 = k := rfl
  have h8 : getN ((mkB k n).drop 8) = n := getN_put8 n (by omega)
  unfold markOf
  rw [h2, h8, if_pos ⟨rfl, hk, hn, rfl⟩]
theorem kd_ne {k : UInt8} (h : k = 107 ∨ k = 98 ∨ k = 100) : (ub k != 0) = true := by
  rcases h with rfl | rfl | rfl <;> kernel_rfl
theorem findTo_16 (b : Bytes) : ∀ i, ∀ x ∈ findTo b i, x.length = 16
  | 0 => by simp [findTo]
  | i+1 => by
    intro x hx
    rw [findTo_succ] at hx
    split at hx
    · rename_i hm
      rw [List.mem_append, List.mem_singleton] at hx
      rcases hx with hx | rfl
      · exact findTo_16 b i x hx
      · obtain ⟨⟨k, n⟩, hp⟩ := Option.isSome_iff_exists.1 hm
        exact (markOf_spec hp).1
    · exact findTo_16 b i x hx
theorem findB_kl (b : Bytes) (j : Nat) (hj : j < (findB b).length) : ∃ K, (findB b)[j]? = some (kl K) := by
  have h := findTo_16 b (b.length - 15) ((findB b)[j]) (List.getElem_mem hj)
  obtain ⟨K, hK⟩ := kl_of _ h
  exact ⟨K, by rw [List.getElem?_eq_getElem hj, ← hK]⟩
theorem map_vb_get {l : List Bytes} {j : Nat} {x : Bytes} (h : l[j]? = some x) : (l.map vb)[j]? = some (vb x) := by
  rw [List.getElem?_map, h]; rfl
/-! ### Tables -/
section
variable {s s' : STab} {f g : SFrom} {n : Nat} {k l : Bytes} {u : Int} {b : Bytes}
theorem box_at {x : SSealed} (h : s.boxes[n]? = some x) (hn : n < 1000000) : s.box (mkB 98 (n + 1)) = some x := by
  unfold STab.box
  rw [markOf_mkB (by decide) (by omega)]
  simp [h]
theorem open_at (h : s.boxes[n]? = some ⟨k, u, b⟩) (hn : n < 1000000) : s.open_ k u (mkB 98 (n + 1)) = some b := by
  unfold STab.open_
  rw [box_at h hn]
  simp
theorem at_add (h : s' = s.add g) (hf : s.at_ f = some n) : s'.at_ f = some n := by subst h; exact hf
theorem made_boxes (h : s' = s.made f) : s'.boxes = s.boxes ∧ s'.sums = s.sums := by
  subst h; unfold STab.made; split <;> exact ⟨rfl, rfl⟩
theorem add_boxes (h : s' = s.add f) : s'.boxes = s.boxes ∧ s'.sums = s.sums ∧ s'.keys.length = s.keys.length + 1 := by
  subst h; exact ⟨rfl, rfl, by simp [STab.add]⟩
theorem seal_all (h : s' = s.seal k u b) : s'.boxes = s.boxes ++ [⟨k, u, b⟩] ∧ s'.sums = s.sums ∧ s'.keys = s.keys ∧ s'.known = s.known := by
  subst h; exact ⟨rfl, rfl, rfl, rfl⟩
theorem digest_all (h : s' = s.digest b) : s'.boxes = s.boxes ∧ s'.keys = s.keys ∧ s'.known = s.known ∧ s'.sums.length ≤ s.sums.length + 1 := by
  subst h; unfold STab.digest; split <;> exact ⟨rfl, rfl, rfl, by simp⟩
theorem at_known (h : s'.known = s.known) (f : SFrom) : s'.at_ f = s.at_ f := by unfold STab.at_; rw [h]
/-- The sum that stands first is told first. -/
theorem sumAt_zero (h : s.sums[0]? = some b) : s.sumAt b = 0 := by
  unfold STab.sumAt
  cases hs : s.sums with
  | nil => rw [hs] at h; cases h
  | cons x xs =>
    rw [hs] at h
    have : x = b := by simpa using h
    subst this
    simp [List.findIdx_cons]
theorem digest_first (h : s' = s.digest b) {x : Bytes} (h0 : s.sums[0]? = some x) : s'.sums[0]? = some x := by
  subst h; unfold STab.digest
  split
  · exact h0
  · cases hs : s.sums with
    | nil => rw [hs] at h0; cases h0
    | cons y ys => rw [hs] at h0; simpa [hs] using h0
theorem digest_new (h : s' = s.digest b) (h0 : s.sums = []) : s'.sums[0]? = some b ∧ s.sumAt b = 0 := by
  subst h
  have hz : s.sumAt b = 0 := by unfold STab.sumAt; rw [h0]; rfl
  unfold STab.digest
  rw [hz, h0]
  exact ⟨rfl, rfl⟩
theorem get_snoc {α : Type} {xs : List α} {i : Nat} {x y : α} (h : xs[i]? = some x) : (xs ++ [y])[i]? = some x := by
  rw [List.getElem?_append_left (List.getElem?_eq_some_iff.1 h).1]; exact h
end
end Go.Proofs.Ytjjcnijdjhhdoaa
end
/-! The walk of SymAgain: true. -/
section
namespace Go.Proofs.Ytjjcnijdjhhdoaa
open Go.RowKit Go.QT
theorem num_text_derive {s : STab} {p q l : ByteArray} {k : Bytes} (h : s = STab.empty.made (textF p q)) : s.num (deriveF k l) = 2 := by
  subst h
  have hne : ¬ textF p q = deriveF k l := by simp [textF, deriveF]
  simp [STab.num, STab.at_, STab.made, STab.empty, hne]
set_option maxRecDepth 100000 in
set_option maxHeartbeats 1000000 in
theorem symAgain_any (p q l : ByteArray) (v : Value) (b : Bytes) (t : Int) (w : World) (hb : SB w v b) : Calls Try.prog 8 #[Value.string p, Value.string q, Value.string l, v, Value.int .i64 t] w fun e w' => e = .returned (.bool true) ∧ Below w.heap.size w w' := by
  obtain ⟨A, c, rfl, hc1, hc2⟩ := sb_form hb
  have hx0 : STab.empty.boxes.length = 0 := rfl
  have hu0 : STab.empty.sums.length = 0 := rfl
  have hk0 : STab.empty.keys.length = 0 := rfl
  have h0 := Hp.ro1 (rSB (.slice A b.length c) b) hb
  refine enter 165 Try.func8 rfl rfl ?_
  refine wp_seq_k ?_
  intro K1 hK1
  refine reg_lit ?_
  refine wl_p 1 [(10, (Value.bool false))] (by kernel_rfl) ?_
  refine wl_end rfl ?_
  refine seq_n hK1 ?_
  refine wp_seq_k ?_
  intro K2 hK2
  refine wp_seq_k ?_
  intro K3 hK3
  refine reg_lit ?_
  refine wl_to (by kernel_rfl) (OpTo.enter 23 [] (by kernel_rfl) (salive_any _) (R := fun u w' => u = Value.bool true ∧ Below w.heap.size w w') (fun e w' hq => ⟨_, hq.1, rfl, hq.2⟩)) ?_
  rintro _ w4 ⟨rfl, hb4⟩
  have h4 := h0.below hb4
  refine wl_p 1 [(26, (Value.bool false))] (by kernel_rfl) ?_
  refine wl_end rfl ?_
  refine seq_n hK3 ?_
  refine wp_cond_false (by kernel_rfl) ?_
  refine wp_skip ?_
  refine seq_n hK2 ?_
  refine wp_seq_k ?_
  intro K5 hK5
  refine wp_seq_k ?_
  intro K6 hK6
  refine reg_lit ?_
  refine wl_p 2 [(27, (Value.string p)), (28, (Value.int .i64 (((p).size : Int))))] (by kernel_rfl) ?_
  by_cases b7 : (p.size : Int) > 40
  ·
    refine wl_v (by kernel_rfl) (.bool true) (e_is (v := (Value.bool (decide (((p).size : Int) > 40)))) (by kernel_rfl) (by simp [b7])) ?_
    refine wl_p 3 [(30, (Value.bool true)), (31, undef), (32, undef)] (by kernel_rfl) ?_
    refine wl_p 1 [(33, undef)] (by kernel_rfl) ?_
    refine wl_p 4 [(34, (Value.bool true)), (35, (Value.bool true)), (36, undef), (37, undef)] (by kernel_rfl) ?_
    refine wl_p 1 [(38, undef)] (by kernel_rfl) ?_
    refine wl_p 4 [(39, (Value.bool true)), (40, (Value.bool true)), (41, undef), (42, undef)] (by kernel_rfl) ?_
    refine wl_p 1 [(43, undef)] (by kernel_rfl) ?_
    refine wl_p 1 [(44, (Value.bool true))] (by kernel_rfl) ?_
    refine wl_end rfl ?_
    refine seq_n hK6 ?_
    refine wp_cond_true (by kernel_rfl) ?_
    refine wp_seq_k ?_
    intro K8 hK8
    refine reg_lit ?_
    refine wl_p 1 [(10, (Value.bool true))] (by kernel_rfl) ?_
    refine wl_end rfl ?_
    refine seq_n hK8 ?_
    refine wp_ret ?_
    refine seq_r ?_
    refine post_1 rfl (by kernel_rfl) (rtmp (v := (Value.bool true)) (by kernel_rfl)) ?_
    exact ⟨rfl, h4.below0⟩
  ·
    refine wl_v (by kernel_rfl) (.bool false) (e_is (v := (Value.bool (decide (((p).size : Int) > 40)))) (by kernel_rfl) (by simp [b7])) ?_
    refine wl_p 3 [(30, (Value.bool false)), (31, (Value.string q)), (32, (Value.int .i64 (((q).size : Int))))] (by kernel_rfl) ?_
    by_cases b9 : (q.size : Int) > 40
    ·
      refine wl_v (by kernel_rfl) (.bool true) (e_is (v := (Value.bool (decide (((q).size : Int) > 40)))) (by kernel_rfl) (by simp [b9])) ?_
      refine wl_p 4 [(34, (Value.bool true)), (35, (Value.bool true)), (36, undef), (37, undef)] (by kernel_rfl) ?_
      refine wl_p 1 [(38, undef)] (by kernel_rfl) ?_
      refine wl_p 4 [(39, (Value.bool true)), (40, (Value.bool true)), (41, undef), (42, undef)] (by kernel_rfl) ?_
      refine wl_p 1 [(43, undef)] (by kernel_rfl) ?_
      refine wl_p 1 [(44, (Value.bool true))] (by kernel_rfl) ?_
      refine wl_end rfl ?_
      refine seq_n hK6 ?_
      refine wp_cond_true (by kernel_rfl) ?_
      refine wp_seq_k ?_
      intro K10 hK10
      refine reg_lit ?_
      refine wl_p 1 [(10, (Value.bool true))] (by kernel_rfl) ?_
      refine wl_end rfl ?_
      refine seq_n hK10 ?_
      refine wp_ret ?_
      refine seq_r ?_
      refine post_1 rfl (by kernel_rfl) (rtmp (v := (Value.bool true)) (by kernel_rfl)) ?_
      exact ⟨rfl, h4.below0⟩
    ·
      refine wl_v (by kernel_rfl) (.bool false) (e_is (v := (Value.bool (decide (((q).size : Int) > 40)))) (by kernel_rfl) (by simp [b9])) ?_
      refine wl_p 4 [(34, (Value.bool false)), (35, (Value.bool false)), (36, (Value.string l)), (37, (Value.int .i64 (((l).size : Int))))] (by kernel_rfl) ?_
      by_cases b11 : (l.size : Int) > 40
      ·
        refine wl_v (by kernel_rfl) (.bool true) (e_is (v := (Value.bool (decide (((l).size : Int) > 40)))) (by kernel_rfl) (by simp [b11])) ?_
        refine wl_p 4 [(39, (Value.bool true)), (40, (Value.bool true)), (41, undef), (42, undef)] (by kernel_rfl) ?_
        refine wl_p 1 [(43, undef)] (by kernel_rfl) ?_
        refine wl_p 1 [(44, (Value.bool true))] (by kernel_rfl) ?_
        refine wl_end rfl ?_
        refine seq_n hK6 ?_
        refine wp_cond_true (by kernel_rfl) ?_
        refine wp_seq_k ?_
        intro K12 hK12
        refine reg_lit ?_
        refine wl_p 1 [(10, (Value.bool true))] (by kernel_rfl) ?_
        refine wl_end rfl ?_
        refine seq_n hK12 ?_
        refine wp_ret ?_
        refine seq_r ?_
        refine post_1 rfl (by kernel_rfl) (rtmp (v := (Value.bool true)) (by kernel_rfl)) ?_
        exact ⟨rfl, h4.below0⟩
      ·
        refine wl_v (by kernel_rfl) (.bool false) (e_is (v := (Value.bool (decide (((l).size : Int) > 40)))) (by kernel_rfl) (by simp [b11])) ?_
        refine wl_p 4 [(39, (Value.bool false)), (40, (Value.bool false)), (41, (Value.slice A b.length c)), (42, (Value.int .i64 ((b.length : Int))))] (by kernel_rfl) ?_
        by_cases b13 : (b.length : Int) > 40
        ·
          refine wl_v (by kernel_rfl) (.bool true) (e_is (v := (Value.bool (decide ((b.length : Int) > 40)))) (by kernel_rfl) (by simp [b13])) ?_
          refine wl_p 1 [(44, (Value.bool true))] (by kernel_rfl) ?_
          refine wl_end rfl ?_
          refine seq_n hK6 ?_
          refine wp_cond_true (by kernel_rfl) ?_
          refine wp_seq_k ?_
          intro K14 hK14
          refine reg_lit ?_
          refine wl_p 1 [(10, (Value.bool true))] (by kernel_rfl) ?_
          refine wl_end rfl ?_
          refine seq_n hK14 ?_
          refine wp_ret ?_
          refine seq_r ?_
          refine post_1 rfl (by kernel_rfl) (rtmp (v := (Value.bool true)) (by kernel_rfl)) ?_
          exact ⟨rfl, h4.below0⟩
        ·
          refine wl_v (by kernel_rfl) (.bool false) (e_is (v := (Value.bool (decide ((b.length : Int) > 40)))) (by kernel_rfl) (by simp [b13])) ?_
          refine wl_p 1 [(44, (Value.bool false))] (by kernel_rfl) ?_
          refine wl_end rfl ?_
          refine seq_n hK6 ?_
          refine wp_cond_false (by kernel_rfl) ?_
          refine wp_skip ?_
          refine seq_n hK5 ?_
          refine wp_seq_k ?_
          intro K15 hK15
          refine reg_lit ?_
          refine wl_to (by kernel_rfl) (x_snew h4 (by kernel_rfl)) ?_
          rintro _ w16 ⟨tb16, F16, rfl, h16⟩
          refine wl_p 1 [(11, (pt tb16 0))] (by kernel_rfl) ?_
          refine wl_end rfl ?_
          refine seq_n hK15 ?_
          refine wp_seq_k ?_
          intro K17 hK17
          refine reg_lit ?_
          refine wl_p 3 [(46, (pt tb16 0)), (47, (Value.string p)), (48, (Value.string q))] (by kernel_rfl) ?_
          refine wl_to (by kernel_rfl) (x_text h16 0 rfl p q (by kernel_rfl) (by omega) (by omega) (by omega)) ?_
          rintro _ w18 ⟨K18, F18, s18, rfl, hK18, hs18, h18⟩
          have e18 := made_boxes hs18
          have hx18 : s18.boxes.length = STab.empty.boxes.length := by rw [e18.1]
          have hu18 : s18.sums.length = STab.empty.sums.length := by rw [e18.2]
          have hk18 := keys_made hs18
          refine wl_to (by kernel_rfl) (x_new h18 42 (vb (List.replicate 16 0)) (fun r => pt r 0) (by kernel_rfl)) ?_
          rintro _ w19 ⟨g19, rfl, h19⟩
          refine wl_to (by kernel_rfl) (x_stores h19 0 rfl 42 (.tmp 12) (.tmp 49) (by kernel_rfl) 0 (vb (kl K18)) (vb (kl K18)) (by kernel_rfl) (by kernel_rfl) (by kernel_rfl) (by kernel_rfl) (by kernel_rfl) (by kernel_rfl)) ?_
          rintro _ w20 h20
          refine wl_end rfl ?_
          refine seq_n hK17 ?_
          refine wp_seq_k ?_
          intro K21 hK21
          refine reg_lit ?_
          refine wl_p 1 [(50, (pt tb16 0))] (by kernel_rfl) ?_
          refine wl_v (by kernel_rfl) (Value.agg (vb (kl K18)).toArray) (e_loads (h20.at_ 0 rfl) 42 (.tmp 12) (by kernel_rfl) 0 (vb (kl K18)) (by kernel_rfl) (by kernel_rfl) (by kernel_rfl)) ?_
          refine wl_p 1 [(52, (Value.string l))] (by kernel_rfl) ?_
          refine wl_to (by kernel_rfl) (x_derive h20 1 rfl K18 l (by kernel_rfl) (by omega)) ?_
          rintro _ w22 ⟨K22, F22, s22, rfl, hK22, hs22, h22⟩
          have e22 := made_boxes hs22
          have hx22 : s22.boxes.length = s18.boxes.length := by rw [e22.1]
          have hu22 : s22.sums.length = s18.sums.length := by rw [e22.2]
          have hk22 := keys_made hs22
          refine wl_to (by kernel_rfl) (x_new h22 42 (vb (List.replicate 16 0)) (fun r => pt r 0) (by kernel_rfl)) ?_
          rintro _ w23 ⟨g23, rfl, h23⟩
          refine wl_to (by kernel_rfl) (x_stores h23 0 rfl 42 (.tmp 13) (.tmp 53) (by kernel_rfl) 0 (vb (kl K22)) (vb (kl K22)) (by kernel_rfl) (by kernel_rfl) (by kernel_rfl) (by kernel_rfl) (by kernel_rfl) (by kernel_rfl)) ?_
          rintro _ w24 h24
          refine wl_end rfl ?_
          refine seq_n hK21 ?_
          refine wp_seq_k ?_
          intro K25 hK25
          refine reg_lit ?_
          refine wl_p 1 [(54, (pt tb16 0))] (by kernel_rfl) ?_
          refine wl_v (by kernel_rfl) (Value.agg (vb (kl K22)).toArray) (e_loads (h24.at_ 0 rfl) 42 (.tmp 13) (by kernel_rfl) 0 (vb (kl K22)) (by kernel_rfl) (by kernel_rfl) (by kernel_rfl)) ?_
          refine wl_p 1 [(56, (Value.slice A b.length c))] (by kernel_rfl) ?_
          refine wl_to (by kernel_rfl) (x_seal h24 2 rfl K22 7 b (Value.slice A b.length c) (by kernel_rfl) (h24.rd 0 rfl) (by omega) (by omega)) ?_
          rintro _ w26 ⟨A26, c26, F26, s26, rfl, hs26, h26⟩
          have e26 := seal_all hs26
          have hx26 : s26.boxes.length = s22.boxes.length + 1 := by rw [e26.1]; simp
          have hu26 : s26.sums.length = s22.sums.length := by rw [e26.2.1]
          have hk26 : s26.keys.length = s22.keys.length := by rw [e26.2.2.1]
          refine wl_p 1 [(14, (Value.slice A26 16 c26))] (by kernel_rfl) ?_
          refine wl_end rfl ?_
          refine seq_n hK25 ?_
          refine wp_seq_k ?_
          intro K27 hK27
          refine reg_lit ?_
          refine wl_p 2 [(58, (pt tb16 0)), (59, (Value.slice A b.length c))] (by kernel_rfl) ?_
          refine wl_to (by kernel_rfl) (x_digest h26 2 rfl b (Value.slice A b.length c) (by kernel_rfl) (h26.rd 1 rfl) (by omega) (by omega)) ?_
          rintro _ w28 ⟨A28, c28, F28, s28, rfl, hs28, h28⟩
          have e28 := digest_all hs28
          have hx28 : s28.boxes.length = s26.boxes.length := by rw [e28.1]
          have hu28 := e28.2.2.2
          have hk28 : s28.keys.length = s26.keys.length := by rw [e28.2.1]
          refine wl_p 1 [(15, (Value.slice A28 16 c28))] (by kernel_rfl) ?_
          refine wl_end rfl ?_
          refine seq_n hK27 ?_
          refine wp_seq_k ?_
          intro K29 hK29
          refine wp_seq_k ?_
          intro K30 hK30
          refine reg_lit ?_
          refine wl_p 1 [(61, (Value.int .i64 t))] (by kernel_rfl) ?_
          obtain ⟨M31, hM31, hb31⟩ := and_mask t 15 (by decide)
          refine wl_v (by kernel_rfl) (Value.int .i64 ((M31 : Int))) (e_is (v := Value.int .i64 (bits .and .i64 t 15)) (by kernel_rfl) (congrArg (Value.int .i64) hM31)) ?_
          refine wl_p 1 [(63, (Value.int .i64 0))] (by kernel_rfl) ?_
          refine wl_end rfl ?_
          refine seq_n hK30 ?_
          refine wp_block ?_
          have hK1 : kl K18 = mkB 107 1 := hK18
          have hK2 : kl K22 = mkB 107 2 := by rw [hK22, num_text_derive hs18]
          refine wp_loopm (fun mM xX aA wL => ∃ (n : Nat) (s : STab) (F : Nat → Prop), (s.at_ (textF p q) = some 1) ∧ (s.at_ (deriveF (kl K18) l) = some 2) ∧ (s.boxes[0]? = some ⟨kl K22, 7, b⟩) ∧ (s.sums[0]? = some b) ∧ (s.keys.length ≤ 2 + 2 * (n)) ∧ (s.boxes.length ≤ 1 + (n)) ∧ (s.sums.length ≤ 1 + (n)) ∧ (∀ x ∈ s.boxes, x.body.length ≤ 1000000) ∧ ((n : Int) ≤ (M31 : Int)) ∧ mM = 128 - (n) ∧ aA = (⟨#[(Value.string p), (Value.string q), (Value.string l), (Value.slice A b.length c), (Value.int .i64 t), undef, undef, undef, undef, undef, (Value.bool false), (pt tb16 0), (pt g19 0), (pt g23 0), (Value.slice A26 16 c26), (Value.slice A28 16 c28), (xX 16), undef, undef, undef, undef, undef, undef, undef, undef, (Value.bool true), (Value.bool false), (Value.string p), (Value.int .i64 (((p).size : Int))), (Value.bool false), (Value.bool false), (Value.string q), (Value.int .i64 (((q).size : Int))), (Value.bool false), (Value.bool false), (Value.bool false), (Value.string l), (Value.int .i64 (((l).size : Int))), (Value.bool false), (Value.bool false), (Value.bool false), (Value.slice A b.length c), (Value.int .i64 ((b.length : Int))), (Value.bool false), (Value.bool false), (pt tb16 0), (pt tb16 0), (Value.string p), (Value.string q), (Value.agg (vb (kl K18)).toArray), (pt tb16 0), (Value.agg (vb (kl K18)).toArray), (Value.string l), (Value.agg (vb (kl K22)).toArray), (pt tb16 0), (Value.agg (vb (kl K22)).toArray), (Value.slice A b.length c), (Value.slice A26 16 c26), (pt tb16 0), (Value.slice A b.length c), (Value.slice A28 16 c28), (Value.int .i64 t), (Value.int .i64 ((M31 : Int))), (Value.int .i64 ((n : Int))), (xX 64), (xX 65), (xX 66), (xX 67), (xX 68), (xX 69), (xX 70), (xX 71), (xX 72), (xX 73), (xX 74), (xX 75), (xX 76), (xX 77), (xX 78), (xX 79), (xX 80), (xX 81), (xX 82), (xX 83), undef, undef, undef, undef, undef, undef, undef, undef, undef, undef, undef, undef, undef, undef, undef, undef, undef, undef, undef, undef, undef, undef, undef, undef, undef, undef, undef, undef, undef, undef, undef, undef, undef, undef, undef, undef, undef, undef, undef, undef, undef, undef, undef, undef, undef, undef, undef, undef, undef, undef, undef, undef, undef, undef, undef, undef, undef, undef, undef, undef, undef, undef, undef, undef, undef, undef, undef, undef, undef, undef, undef, undef, undef, undef, undef, undef, undef, undef, undef, undef, undef, undef, undef, undef, undef, undef], []⟩ : Act) ∧ Hp (fun _ => False) w wL [rSB ((Value.slice A28 16 c28)) (mkB 100 (s26.sumAt b + 1)), rSB ((Value.slice A26 16 c26)) (mkB 98 (s22.boxes.length + 1)), rSB ((Value.slice A b.length c)) b] [rBlk g19 42 (vb (kl K18)), rBlk g23 42 (vb (kl K22)), rTab F tb16 s]) ⟨_, 0, s28, F28, ((at_known e28.2.2.1 _).trans ((at_known e26.2.2.2 _).trans (at_more hs22 (at_made' hs18)))), ((at_known e28.2.2.1 _).trans ((at_known e26.2.2.2 _).trans ((at_made' hs22).trans (by rw [num_text_derive hs18])))), (by rw [e28.1, e26.1, e22.1, e18.1]; rfl), (digest_new hs28 (by rw [e26.2.1, e22.2, e18.2]; rfl)).1, (by omega), (by omega), (by omega), (by rw [e28.1, e26.1, e22.1, e18.1]; intro x hx; have : x = ⟨kl K22, 7, b⟩ := (by simpa [STab.empty] using hx); subst this; show b.length ≤ 1000000; omega), (by omega), rfl, (by kernel_rfl), h28.sel [1, 0, 2] [0, 1, 2] (by kernel_rfl) rfl rfl⟩ ?_
          rintro _ x32 _ w32 ⟨n, s, F, hT, hD, hB, hU, hk, hx, hu, hbl, hnM, rfl, rfl, h32⟩
          refine wp_seq_k ?_
          intro K33 hK33
          refine reg_lit ?_
          refine wl_p 1 [(64, (Value.bool (decide ((n : Int) < (M31 : Int)))))] (by kernel_rfl) ?_
          refine wl_end rfl ?_
          refine seq_n hK33 ?_
          refine wp_seq_k ?_
          intro K34 hK34
          refine wp_if ((n : Int) < (M31 : Int)) (by kernel_rfl) (fun b35 => ?_) (fun b35 => ?_)
          ·
            refine wp_skip ?_
            refine seq_n hK34 ?_
            refine wp_seq_k ?_
            intro K36 hK36
            refine wp_block ?_
            refine wp_seq_k ?_
            intro K37 hK37
            refine reg_lit ?_
            refine wl_p 2 [(65, (Value.int .i64 ((n : Int)))), (16, (Value.int .i64 ((n : Int))))] (by kernel_rfl) ?_
            refine wl_end rfl ?_
            refine seq_n hK37 ?_
            refine wp_seq_k ?_
            intro K38 hK38
            refine reg_lit ?_
            refine wl_p 1 [(66, (pt tb16 0))] (by kernel_rfl) ?_
            refine wl_to (by kernel_rfl) (x_fresh h32 2 rfl  (by kernel_rfl) (by omega)) ?_
            rintro _ w39 ⟨K39, F39, s39, rfl, hK39, hs39, h39⟩
            have e39 := add_boxes hs39
            have hx39 : s39.boxes.length = s.boxes.length := by rw [e39.1]
            have hu39 : s39.sums.length = s.sums.length := by rw [e39.2.1]
            have hk39 := e39.2.2
            refine wl_end rfl ?_
            refine seq_n hK38 ?_
            refine wp_seq_k ?_
            intro K40 hK40
            refine reg_lit ?_
            refine wl_p 1 [(68, (pt tb16 0))] (by kernel_rfl) ?_
            refine wl_v (by kernel_rfl) (Value.agg (vb (kl K18)).toArray) (e_loads (h39.at_ 0 rfl) 42 (.tmp 12) (by kernel_rfl) 0 (vb (kl K18)) (by kernel_rfl) (by kernel_rfl) (by kernel_rfl)) ?_
            refine wl_p 1 [(70, (Value.string l))] (by kernel_rfl) ?_
            refine wl_v (by kernel_rfl) (Value.string (l ++ (⟨#[120]⟩))) (e_sadd (.tmp 70) (.const (Value.string (⟨#[120]⟩))) 9 9 (by kernel_rfl) l (⟨#[120]⟩) (by kernel_rfl) (by kernel_rfl) (by omega) (by decide) _) ?_
            refine wl_to (by kernel_rfl) (x_derive h39 2 rfl K18 (l ++ (⟨#[120]⟩)) (by kernel_rfl) (by omega)) ?_
            rintro _ w41 ⟨K41, F41, s41, rfl, hK41, hs41, h41⟩
            have e41 := made_boxes hs41
            have hx41 : s41.boxes.length = s39.boxes.length := by rw [e41.1]
            have hu41 : s41.sums.length = s39.sums.length := by rw [e41.2]
            have hk41 := keys_made hs41
            refine wl_end rfl ?_
            refine seq_n hK40 ?_
            refine wp_seq_k ?_
            intro K42 hK42
            refine reg_lit ?_
            refine wl_p 1 [(73, (pt tb16 0))] (by kernel_rfl) ?_
            refine wl_v (by kernel_rfl) (Value.agg (vb (kl K18)).toArray) (e_loads (h41.at_ 0 rfl) 42 (.tmp 12) (by kernel_rfl) 0 (vb (kl K18)) (by kernel_rfl) (by kernel_rfl) (by kernel_rfl)) ?_
            refine wl_p 2 [(75, (Value.int .i64 ((n : Int)))), (76, (Value.slice A b.length c))] (by kernel_rfl) ?_
            refine wl_to (by kernel_rfl) (x_seal h41 2 rfl K18 ((n : Int)) b (Value.slice A b.length c) (by kernel_rfl) (h41.rd 2 rfl) (by omega) (by omega)) ?_
            rintro _ w43 ⟨A43, c43, F43, s43, rfl, hs43, h43⟩
            have e43 := seal_all hs43
            have hx43 : s43.boxes.length = s41.boxes.length + 1 := by rw [e43.1]; simp
            have hu43 : s43.sums.length = s41.sums.length := by rw [e43.2.1]
            have hk43 : s43.keys.length = s41.keys.length := by rw [e43.2.2.1]
            refine wl_end rfl ?_
            refine seq_n hK42 ?_
            refine reg_lit ?_
            refine wl_p 2 [(78, (pt tb16 0)), (79, (Value.int .i64 ((n : Int))))] (by kernel_rfl) ?_
            obtain ⟨b44, hb44⟩ := u8_wrap ((n : Int))
            refine wl_v (by kernel_rfl) (Value.int .u8 (ub b44)) (e_is (v := Value.int .u8 (IntKind.u8.wrap ((n : Int)))) (by kernel_rfl) (congrArg (Value.int .u8) hb44)) ?_
            refine wl_to (by kernel_rfl) (x_bsl h43 [b44, 200] (by kernel_rfl)) ?_
            rintro _ w45 ⟨g45, rfl, hw45, hg45, hq45, h45⟩
            refine wl_to (by kernel_rfl) (x_digest h45 3 rfl ([b44, 200]) (Value.slice (some ⟨g45, 0, none⟩) 2 2) (by kernel_rfl) (SB.blk (h45.at_ 0 rfl) (by kernel_rfl) (by kernel_rfl) (by kernel_rfl)) (by simp) (by omega)) ?_
            rintro _ w46 ⟨A46, c46, F46, s46, rfl, hs46, h46⟩
            have e46 := digest_all hs46
            have hx46 : s46.boxes.length = s43.boxes.length := by rw [e46.1]
            have hu46 := e46.2.2.2
            have hk46 : s46.keys.length = s43.keys.length := by rw [e46.2.1]
            refine wl_end rfl ?_
            refine blk_n ?_
            refine seq_n hK36 ?_
            refine reg_lit ?_
            refine wl_v (by kernel_rfl) (.int .i64 ((n : Int) + 1)) (exec_add _ _ _ _ rfl ((n : Int)) 1 (by kernel_rfl) (by kernel_rfl) ((n : Int) + 1) rfl (by omega) (by omega) _) ?_
            refine wl_p 1 [(63, (Value.int .i64 ((n : Int) + 1)))] (by kernel_rfl) ?_
            refine wl_end rfl ?_
            refine ⟨128 - (n + 1), (by omega), (n + 1), s46, F46, ((at_known e46.2.2.1 _).trans ((at_known e43.2.2.2 _).trans (at_more hs41 (at_add hs39 hT)))), ((at_known e46.2.2.1 _).trans ((at_known e43.2.2.2 _).trans (at_more hs41 (at_add hs39 hD)))), (by rw [e46.1, e43.1, e41.1, e39.1]; exact get_snoc hB), (digest_first hs46 (by rw [e43.2.1, e41.2, e39.2.1]; exact hU)), (by omega), (by omega), (by omega), (by rw [e46.1, e43.1, e41.1, e39.1]; intro x hx; rcases List.mem_append.1 hx with hx | hx; exact hbl x hx; have hy := List.mem_singleton.1 hx; subst hy; show b.length ≤ 1000000; omega), (by omega), rfl, (by kernel_rfl), h46.sel [1, 2, 3] [2, 3, 4] (by kernel_rfl) rfl rfl⟩
          ·
            refine wp_exit ?_
            refine seq_e ?_
            refine seq_e ?_
            refine blk_e ?_
            refine seq_n hK29 ?_
            refine wp_seq_k ?_
            intro K47 hK47
            refine reg_lit ?_
            refine wl_p 1 [(85, (pt tb16 0))] (by kernel_rfl) ?_
            refine wl_v (by kernel_rfl) (Value.agg (vb (kl K22)).toArray) (e_loads (h32.at_ 1 rfl) 42 (.tmp 13) (by kernel_rfl) 0 (vb (kl K22)) (by kernel_rfl) (by kernel_rfl) (by kernel_rfl)) ?_
            refine wl_p 1 [(87, (Value.slice A26 16 c26))] (by kernel_rfl) ?_
            refine wl_to (by kernel_rfl) (x_open h32 2 rfl K22 7 (mkB 98 (s22.boxes.length + 1)) (Value.slice A26 16 c26) (some b) (by kernel_rfl) (h32.rd 1 rfl) hbl (h32.tabW 2 rfl).1 (by omega) (by rw [show s22.boxes.length = 0 by omega]; exact open_at hB (by decide))) ?_
            rintro _ w48 ⟨A48, c48, rfl, h48⟩
            refine wl_p 5 [(84, (Value.tuple #[(Value.slice A48 b.length c48), (Value.bool true)])), (89, (Value.slice A48 b.length c48)), (90, (Value.bool true)), (17, (Value.slice A48 b.length c48)), (18, (Value.bool true))] (by kernel_rfl) ?_
            refine wl_end rfl ?_
            refine seq_n hK47 ?_
            refine wp_seq_k ?_
            intro K49 hK49
            refine wp_seq_k ?_
            intro K50 hK50
            refine reg_lit ?_
            refine wl_p 3 [(91, (Value.slice A48 b.length c48)), (92, (Value.int .i64 ((b.length : Int)))), (93, (Value.int .i64 0))] (by kernel_rfl) ?_
            refine wl_end rfl ?_
            refine seq_n hK50 ?_
            refine wp_block ?_
            refine wp_loopm (fun mM xX aA wL => ∃ (j : Nat) (m : Bytes), ((m : Bytes).length = b.length) ∧ (j ≤ b.length) ∧ mM = b.length - (j) ∧ aA = (⟨#[(Value.string p), (Value.string q), (Value.string l), (Value.slice A b.length c), (Value.int .i64 t), undef, undef, undef, undef, undef, (Value.bool false), (pt tb16 0), (pt g19 0), (pt g23 0), (Value.slice A26 16 c26), (Value.slice A28 16 c28), (x32 16), (Value.slice A48 b.length c48), (Value.bool true), (xX 19), undef, undef, undef, undef, undef, (Value.bool true), (Value.bool false), (Value.string p), (Value.int .i64 (((p).size : Int))), (Value.bool false), (Value.bool false), (Value.string q), (Value.int .i64 (((q).size : Int))), (Value.bool false), (Value.bool false), (Value.bool false), (Value.string l), (Value.int .i64 (((l).size : Int))), (Value.bool false), (Value.bool false), (Value.bool false), (Value.slice A b.length c), (Value.int .i64 ((b.length : Int))), (Value.bool false), (Value.bool false), (pt tb16 0), (pt tb16 0), (Value.string p), (Value.string q), (Value.agg (vb (kl K18)).toArray), (pt tb16 0), (Value.agg (vb (kl K18)).toArray), (Value.string l), (Value.agg (vb (kl K22)).toArray), (pt tb16 0), (Value.agg (vb (kl K22)).toArray), (Value.slice A b.length c), (Value.slice A26 16 c26), (pt tb16 0), (Value.slice A b.length c), (Value.slice A28 16 c28), (Value.int .i64 t), (Value.int .i64 ((M31 : Int))), (Value.int .i64 ((n : Int))), (Value.bool (decide ((n : Int) < (M31 : Int)))), (x32 65), (x32 66), (x32 67), (x32 68), (x32 69), (x32 70), (x32 71), (x32 72), (x32 73), (x32 74), (x32 75), (x32 76), (x32 77), (x32 78), (x32 79), (x32 80), (x32 81), (x32 82), (x32 83), (Value.tuple #[(Value.slice A48 b.length c48), (Value.bool true)]), (pt tb16 0), (Value.agg (vb (kl K22)).toArray), (Value.slice A26 16 c26), (Value.tuple #[(Value.slice A48 b.length c48), (Value.bool true)]), (Value.slice A48 b.length c48), (Value.bool true), (Value.slice A48 b.length c48), (Value.int .i64 ((b.length : Int))), (Value.int .i64 ((j : Int))), (xX 94), (xX 95), (xX 96), (xX 97), (xX 98), (xX 99), (xX 100), (xX 101), (xX 102), undef, undef, undef, undef, undef, undef, undef, undef, undef, undef, undef, undef, undef, undef, undef, undef, undef, undef, undef, undef, undef, undef, undef, undef, undef, undef, undef, undef, undef, undef, undef, undef, undef, undef, undef, undef, undef, undef, undef, undef, undef, undef, undef, undef, undef, undef, undef, undef, undef, undef, undef, undef, undef, undef, undef, undef, undef, undef, undef, undef, undef, undef, undef, undef, undef, undef, undef], []⟩ : Act) ∧ Hp (fun _ => False) w wL [rSB ((Value.slice A28 16 c28)) (mkB 100 (s26.sumAt b + 1)), rSB ((Value.slice A26 16 c26)) (mkB 98 (s22.boxes.length + 1)), rSB ((Value.slice A b.length c)) b] [rOB ((Value.slice A48 b.length c48)) m, rBlk g19 42 (vb (kl K18)), rBlk g23 42 (vb (kl K22)), rTab F tb16 s]) ⟨_, 0, b, rfl, (by omega), rfl, (by kernel_rfl), h48.sel [0, 1, 2, 3] [0, 1, 2] (by kernel_rfl) rfl rfl⟩ ?_
            rintro _ x51 _ w51 ⟨j, m, hm, hj, rfl, rfl, h51⟩
            refine wp_seq_k ?_
            intro K52 hK52
            refine reg_lit ?_
            refine wl_p 1 [(94, (Value.bool (decide ((j : Int) < (b.length : Int)))))] (by kernel_rfl) ?_
            refine wl_end rfl ?_
            refine seq_n hK52 ?_
            refine wp_seq_k ?_
            intro K53 hK53
            refine wp_if ((j : Int) < (b.length : Int)) (by kernel_rfl) (fun b54 => ?_) (fun b54 => ?_)
            ·
              refine wp_skip ?_
              refine seq_n hK53 ?_
              refine wp_seq_k ?_
              intro K55 hK55
              refine wp_block ?_
              refine wp_seq_k ?_
              intro K56 hK56
              refine reg_lit ?_
              refine wl_p 2 [(95, (Value.int .i64 ((j : Int)))), (19, (Value.int .i64 ((j : Int))))] (by kernel_rfl) ?_
              refine wl_end rfl ?_
              refine seq_n hK56 ?_
              refine reg_lit ?_
              refine wl_p 2 [(96, (Value.slice A48 b.length c48)), (97, (Value.int .i64 ((j : Int))))] (by kernel_rfl) ?_
              refine wl_v (by kernel_rfl) (eAt A48 (j * 1 + 0)) (e_idxN (SB.rvn (OB.sb (h51.at_ 0 rfl))).2 j b.length (SB.rvn (OB.sb (h51.at_ 0 rfl))).1 (by omega) 28 (.tmp 96) (.tmp 97) (by kernel_rfl) .i64 (by kernel_rfl) (by kernel_rfl) 5 (by kernel_rfl) (by kernel_rfl) _) ?_
              refine wl_v (by kernel_rfl) (Value.int .u8 (ub (gb (m) (j)))) (e_elemN (SB.rvn (OB.sb (h51.at_ 0 rfl))).2 j 0 ([(Value.int .u8 (ub (gb (m) (j))))]) (bx_get _ _ (by omega)) 5 (.tmp 98) (by kernel_rfl) (Value.int .u8 (ub (gb (m) (j)))) (by kernel_rfl) (by kernel_rfl) (by kernel_rfl)) ?_
              obtain ⟨b57, hb57⟩ := u8_wrap ((ub (gb (m) (j))) + 1)
              refine wl_v (by kernel_rfl) (Value.int .u8 (ub b57)) (e_is (v := Value.int .u8 (IntKind.u8.wrap ((ub (gb (m) (j))) + 1))) (by kernel_rfl) (congrArg (Value.int .u8) hb57)) ?_
              refine wl_v (by kernel_rfl) (eAt A48 (j * 1 + 0)) (e_idxN (SB.rvn (OB.sb (h51.at_ 0 rfl))).2 j b.length (SB.rvn (OB.sb (h51.at_ 0 rfl))).1 (by omega) 28 (.tmp 96) (.tmp 97) (by kernel_rfl) .i64 (by kernel_rfl) (by kernel_rfl) 5 (by kernel_rfl) (by kernel_rfl) _) ?_
              refine wl_to (by kernel_rfl) (x_storeB h51 0 rfl j (by omega) 5 (.tmp 101) (.tmp 100) (by kernel_rfl) b57 (by kernel_rfl) (by kernel_rfl) (by kernel_rfl)) ?_
              rintro _ w58 h58
              refine wl_end rfl ?_
              refine blk_n ?_
              refine seq_n hK55 ?_
              refine reg_lit ?_
              refine wl_v (by kernel_rfl) (.int .i64 ((j : Int) + 1)) (exec_add _ _ _ _ rfl ((j : Int)) 1 (by kernel_rfl) (by kernel_rfl) ((j : Int) + 1) rfl (by omega) (by omega) _) ?_
              refine wl_p 1 [(93, (Value.int .i64 ((j : Int) + 1)))] (by kernel_rfl) ?_
              refine wl_end rfl ?_
              refine ⟨b.length - (j + 1), (by omega), (j + 1), (m.set j b57), (by rw [List.length_set]; exact hm), (by omega), rfl, (by kernel_rfl), h58.sel [0, 1, 2, 3] [0, 1, 2] (by kernel_rfl) rfl rfl⟩
            ·
              refine wp_exit ?_
              refine seq_e ?_
              refine seq_e ?_
              refine blk_e ?_
              refine seq_n hK49 ?_
              refine wp_seq_k ?_
              intro K59 hK59
              refine reg_lit ?_
              refine wl_p 2 [(104, (pt tb16 0)), (105, (Value.slice A26 16 c26))] (by kernel_rfl) ?_
              refine wl_to (by kernel_rfl) (x_boxS h51 3 rfl (mkB 98 (s22.boxes.length + 1)) (Value.slice A26 16 c26) K22 7 b (by kernel_rfl) (h51.rd 1 rfl) hbl (h51.tabW 3 rfl).1 (by omega) (by rw [show s22.boxes.length = 0 by omega]; exact box_at hB (by decide))) ?_
              rintro _ w60 ⟨A60, c60, rfl, h60⟩
              refine wl_p 3 [(103, (Value.tuple #[(Value.agg (vb (kl K22) ++ [(Value.int .i64 7), (Value.slice A60 b.length c60)]).toArray), (Value.bool true)])), (107, (Value.agg (vb (kl K22) ++ [(Value.int .i64 7), (Value.slice A60 b.length c60)]).toArray)), (108, (Value.bool true))] (by kernel_rfl) ?_
              refine wl_to (by kernel_rfl) (x_new h60 56 (vb (List.replicate 16 0) ++ [(Value.int .i64 0), (Value.slice none 0 0)]) (fun r => pt r 0) (by kernel_rfl)) ?_
              rintro _ w61 ⟨g61, rfl, h61⟩
              refine wl_to (by kernel_rfl) (x_stores h61 0 rfl 56 (.tmp 20) (.tmp 107) (by kernel_rfl) 0 (vb (kl K22) ++ [(Value.int .i64 7), (Value.slice A60 b.length c60)]) (vb (kl K22) ++ [(Value.int .i64 7), (Value.slice A60 b.length c60)]) (by kernel_rfl) (by kernel_rfl) (by kernel_rfl) (by kernel_rfl) (by kernel_rfl) (by kernel_rfl)) ?_
              rintro _ w62 h62
              refine wl_p 1 [(21, (Value.bool true))] (by kernel_rfl) ?_
              refine wl_end rfl ?_
              refine seq_n hK59 ?_
              refine wp_seq_k ?_
              intro K63 hK63
              refine wp_seq_k ?_
              intro K64 hK64
              refine reg_lit ?_
              refine wl_p 1 [(109, (pt g61 17))] (by kernel_rfl) ?_
              refine wl_v (by kernel_rfl) (Value.slice A60 b.length c60) (e_load (h62.at_ 0 rfl) 28 (.tmp 109) (by kernel_rfl) 17 (Value.slice A60 b.length c60) (by kernel_rfl) (by kernel_rfl) (by kernel_rfl)) ?_
              refine wl_p 2 [(111, (Value.int .i64 ((b.length : Int)))), (112, (Value.int .i64 0))] (by kernel_rfl) ?_
              refine wl_end rfl ?_
              refine seq_n hK64 ?_
              refine wp_block ?_
              refine wp_loopm (fun mM xX aA wL => ∃ (j : Nat) (m : Bytes), ((m : Bytes).length = b.length) ∧ (j ≤ b.length) ∧ mM = b.length - (j) ∧ aA = (⟨#[(Value.string p), (Value.string q), (Value.string l), (Value.slice A b.length c), (Value.int .i64 t), undef, undef, undef, undef, undef, (Value.bool false), (pt tb16 0), (pt g19 0), (pt g23 0), (Value.slice A26 16 c26), (Value.slice A28 16 c28), (x32 16), (Value.slice A48 b.length c48), (Value.bool true), (x51 19), (pt g61 0), (Value.bool true), (xX 22), undef, undef, (Value.bool true), (Value.bool false), (Value.string p), (Value.int .i64 (((p).size : Int))), (Value.bool false), (Value.bool false), (Value.string q), (Value.int .i64 (((q).size : Int))), (Value.bool false), (Value.bool false), (Value.bool false), (Value.string l), (Value.int .i64 (((l).size : Int))), (Value.bool false), (Value.bool false), (Value.bool false), (Value.slice A b.length c), (Value.int .i64 ((b.length : Int))), (Value.bool false), (Value.bool false), (pt tb16 0), (pt tb16 0), (Value.string p), (Value.string q), (Value.agg (vb (kl K18)).toArray), (pt tb16 0), (Value.agg (vb (kl K18)).toArray), (Value.string l), (Value.agg (vb (kl K22)).toArray), (pt tb16 0), (Value.agg (vb (kl K22)).toArray), (Value.slice A b.length c), (Value.slice A26 16 c26), (pt tb16 0), (Value.slice A b.length c), (Value.slice A28 16 c28), (Value.int .i64 t), (Value.int .i64 ((M31 : Int))), (Value.int .i64 ((n : Int))), (Value.bool (decide ((n : Int) < (M31 : Int)))), (x32 65), (x32 66), (x32 67), (x32 68), (x32 69), (x32 70), (x32 71), (x32 72), (x32 73), (x32 74), (x32 75), (x32 76), (x32 77), (x32 78), (x32 79), (x32 80), (x32 81), (x32 82), (x32 83), (Value.tuple #[(Value.slice A48 b.length c48), (Value.bool true)]), (pt tb16 0), (Value.agg (vb (kl K22)).toArray), (Value.slice A26 16 c26), (Value.tuple #[(Value.slice A48 b.length c48), (Value.bool true)]), (Value.slice A48 b.length c48), (Value.bool true), (Value.slice A48 b.length c48), (Value.int .i64 ((b.length : Int))), (xX 93), (xX 94), (x51 95), (x51 96), (x51 97), (x51 98), (x51 99), (x51 100), (x51 101), (x51 102), (Value.tuple #[(Value.agg (vb (kl K22) ++ [(Value.int .i64 7), (Value.slice A60 b.length c60)]).toArray), (Value.bool true)]), (pt tb16 0), (Value.slice A26 16 c26), (Value.tuple #[(Value.agg (vb (kl K22) ++ [(Value.int .i64 7), (Value.slice A60 b.length c60)]).toArray), (Value.bool true)]), (Value.agg (vb (kl K22) ++ [(Value.int .i64 7), (Value.slice A60 b.length c60)]).toArray), (Value.bool true), (pt g61 17), (Value.slice A60 b.length c60), (Value.int .i64 ((b.length : Int))), (Value.int .i64 ((j : Int))), (xX 113), (xX 114), (xX 115), (xX 116), (xX 117), (xX 118), (xX 119), (xX 120), (xX 121), (xX 122), undef, undef, undef, undef, undef, undef, undef, undef, undef, undef, undef, undef, undef, undef, undef, undef, undef, undef, undef, undef, undef, undef, undef, undef, undef, undef, undef, undef, undef, undef, undef, undef, undef, undef, undef, undef, undef, undef, undef, undef, undef, undef, undef, undef, undef, undef, undef], []⟩ : Act) ∧ Hp (fun _ => False) w wL [rSB ((Value.slice A28 16 c28)) (mkB 100 (s26.sumAt b + 1)), rSB ((Value.slice A26 16 c26)) (mkB 98 (s22.boxes.length + 1)), rSB ((Value.slice A b.length c)) b] [rOB ((Value.slice A60 b.length c60)) m, rBlk g61 56 (vb (kl K22) ++ [(Value.int .i64 7), (Value.slice A60 b.length c60)]), rBlk g19 42 (vb (kl K18)), rBlk g23 42 (vb (kl K22)), rTab F tb16 s]) ⟨_, 0, b, rfl, (by omega), rfl, (by kernel_rfl), h62.sel [1, 0, 3, 4, 5] [0, 1, 2] (by kernel_rfl) rfl rfl⟩ ?_
              rintro _ x65 _ w65 ⟨j, m, hm, hj, rfl, rfl, h65⟩
              refine wp_seq_k ?_
              intro K66 hK66
              refine reg_lit ?_
              refine wl_p 1 [(113, (Value.bool (decide ((j : Int) < (b.length : Int)))))] (by kernel_rfl) ?_
              refine wl_end rfl ?_
              refine seq_n hK66 ?_
              refine wp_seq_k ?_
              intro K67 hK67
              refine wp_if ((j : Int) < (b.length : Int)) (by kernel_rfl) (fun b68 => ?_) (fun b68 => ?_)
              ·
                refine wp_skip ?_
                refine seq_n hK67 ?_
                refine wp_seq_k ?_
                intro K69 hK69
                refine wp_block ?_
                refine wp_seq_k ?_
                intro K70 hK70
                refine reg_lit ?_
                refine wl_p 2 [(114, (Value.int .i64 ((j : Int)))), (22, (Value.int .i64 ((j : Int))))] (by kernel_rfl) ?_
                refine wl_end rfl ?_
                refine seq_n hK70 ?_
                refine reg_lit ?_
                refine wl_p 1 [(115, (pt g61 17))] (by kernel_rfl) ?_
                refine wl_v (by kernel_rfl) (Value.slice A60 b.length c60) (e_load (h65.at_ 1 rfl) 28 (.tmp 115) (by kernel_rfl) 17 (Value.slice A60 b.length c60) (by kernel_rfl) (by kernel_rfl) (by kernel_rfl)) ?_
                refine wl_p 1 [(117, (Value.int .i64 ((j : Int))))] (by kernel_rfl) ?_
                refine wl_v (by kernel_rfl) (eAt A60 (j * 1 + 0)) (e_idxN (SB.rvn (OB.sb (h65.at_ 0 rfl))).2 j b.length (SB.rvn (OB.sb (h65.at_ 0 rfl))).1 (by omega) 28 (.tmp 116) (.tmp 117) (by kernel_rfl) .i64 (by kernel_rfl) (by kernel_rfl) 5 (by kernel_rfl) (by kernel_rfl) _) ?_
                refine wl_v (by kernel_rfl) (Value.int .u8 (ub (gb (m) (j)))) (e_elemN (SB.rvn (OB.sb (h65.at_ 0 rfl))).2 j 0 ([(Value.int .u8 (ub (gb (m) (j))))]) (bx_get _ _ (by omega)) 5 (.tmp 118) (by kernel_rfl) (Value.int .u8 (ub (gb (m) (j)))) (by kernel_rfl) (by kernel_rfl) (by kernel_rfl)) ?_
                obtain ⟨b71, hb71⟩ := u8_wrap ((ub (gb (m) (j))) + 1)
                refine wl_v (by kernel_rfl) (Value.int .u8 (ub b71)) (e_is (v := Value.int .u8 (IntKind.u8.wrap ((ub (gb (m) (j))) + 1))) (by kernel_rfl) (congrArg (Value.int .u8) hb71)) ?_
                refine wl_v (by kernel_rfl) (eAt A60 (j * 1 + 0)) (e_idxN (SB.rvn (OB.sb (h65.at_ 0 rfl))).2 j b.length (SB.rvn (OB.sb (h65.at_ 0 rfl))).1 (by omega) 28 (.tmp 116) (.tmp 117) (by kernel_rfl) .i64 (by kernel_rfl) (by kernel_rfl) 5 (by kernel_rfl) (by kernel_rfl) _) ?_
                refine wl_to (by kernel_rfl) (x_storeB h65 0 rfl j (by omega) 5 (.tmp 121) (.tmp 120) (by kernel_rfl) b71 (by kernel_rfl) (by kernel_rfl) (by kernel_rfl)) ?_
                rintro _ w72 h72
                refine wl_end rfl ?_
                refine blk_n ?_
                refine seq_n hK69 ?_
                refine reg_lit ?_
                refine wl_v (by kernel_rfl) (.int .i64 ((j : Int) + 1)) (exec_add _ _ _ _ rfl ((j : Int)) 1 (by kernel_rfl) (by kernel_rfl) ((j : Int) + 1) rfl (by omega) (by omega) _) ?_
                refine wl_p 1 [(112, (Value.int .i64 ((j : Int) + 1)))] (by kernel_rfl) ?_
                refine wl_end rfl ?_
                refine ⟨b.length - (j + 1), (by omega), (j + 1), (m.set j b71), (by rw [List.length_set]; exact hm), (by omega), rfl, (by kernel_rfl), h72.sel [0, 1, 2, 3, 4] [0, 1, 2] (by kernel_rfl) rfl rfl⟩
              ·
                refine wp_exit ?_
                refine seq_e ?_
                refine seq_e ?_
                refine blk_e ?_
                refine seq_n hK63 ?_
                refine wp_seq_k ?_
                intro K73 hK73
                refine reg_lit ?_
                refine wl_p 1 [(124, (pt tb16 0))] (by kernel_rfl) ?_
                refine wl_v (by kernel_rfl) (Value.agg (vb (kl K22)).toArray) (e_loads (h65.at_ 3 rfl) 42 (.tmp 13) (by kernel_rfl) 0 (vb (kl K22)) (by kernel_rfl) (by kernel_rfl) (by kernel_rfl)) ?_
                refine wl_p 1 [(126, (Value.slice A26 16 c26))] (by kernel_rfl) ?_
                refine wl_to (by kernel_rfl) (x_open h65 4 rfl K22 7 (mkB 98 (s22.boxes.length + 1)) (Value.slice A26 16 c26) (some b) (by kernel_rfl) (h65.rd 1 rfl) hbl (h65.tabW 4 rfl).1 (by omega) (by rw [show s22.boxes.length = 0 by omega]; exact open_at hB (by decide))) ?_
                rintro _ w74 ⟨A74, c74, rfl, h74⟩
                refine wl_p 5 [(123, (Value.tuple #[(Value.slice A74 b.length c74), (Value.bool true)])), (128, (Value.slice A74 b.length c74)), (129, (Value.bool true)), (23, (Value.slice A74 b.length c74)), (24, (Value.bool true))] (by kernel_rfl) ?_
                refine wl_end rfl ?_
                refine seq_n hK73 ?_
                refine wp_seq_k ?_
                intro K75 hK75
                refine pH_go h74 40 (fun W => (rBlk g19 42 (vb (kl K18))).Φ W ∧ (rBlk g23 42 (vb (kl K22))).Φ W ∧ True) (by kernel_rfl) rfl ?_
                intro w76 h76
                refine pH_p 31 [0, 1, 2, 3, 4, 5, 6, 7, 8, 9] [(130, (Value.bool true)), (131, (Value.bool true)), (132, (Value.bool true)), (133, (Value.bool true)), (134, (Value.bool true)), (135, (Value.bool true)), (136, (Value.bool true)), (137, (Value.bool true)), (138, (Value.slice A74 b.length c74)), (139, (Value.slice A b.length c))] rfl (by kernel_rfl) (by kernel_rfl) (fun _ d _ _ _ h => by cases d <;> exact h) ⟨h76.at_ 3 rfl, h76.at_ 4 rfl, trivial⟩ (by kernel_rfl) ?_
                refine pH_to 10 (some 140) rfl rfl (by kernel_rfl) (by kernel_rfl) (x_same h76 b b (Value.slice A74 b.length c74) (Value.slice A b.length c) (by kernel_rfl) (OB.sb (h76.at_ 0 rfl)) (h76.rd 2 rfl) true (by simp)) ?_
                rintro _ w77 ⟨rfl, h77⟩
                refine ⟨fun _ => ⟨h77.at_ 3 rfl, h77.at_ 4 rfl, trivial⟩, ?_⟩
                refine pH_p 25 [11, 12, 13, 14, 15] [(141, (Value.bool true)), (142, (Value.bool true)), (143, (pt tb16 0)), (144, (Value.string p)), (145, (Value.string q))] rfl (by kernel_rfl) (by kernel_rfl) (fun _ d _ _ _ h => by cases d <;> exact h) ⟨h77.at_ 3 rfl, h77.at_ 4 rfl, trivial⟩ (by kernel_rfl) ?_
                refine pH_v 17 (some 147) (Value.agg (vb (kl K18)).toArray) rfl rfl (by kernel_rfl) (by kernel_rfl) (by kernel_rfl) (by kernel_rfl) (by kernel_rfl) (fun _ d _ _ _ h => by cases d <;> exact h) (by kernel_rfl) ⟨h77.at_ 3 rfl, h77.at_ 4 rfl, trivial⟩ (fun W hW => e_loads hW.1 42 (.tmp 12) (by kernel_rfl) 0 (vb (kl K18)) (by kernel_rfl) (by kernel_rfl) (by kernel_rfl)) ?_
                refine pH_to 16 (some 146) rfl rfl (by kernel_rfl) (by kernel_rfl) (x_text h77 5 rfl p q (by kernel_rfl) (by omega) (by omega) (by omega)) ?_
                rintro _ w78 ⟨K78, F78, s78, rfl, hK78, hs78, h78⟩
                refine ⟨fun _ => ⟨h78.at_ 3 rfl, h78.at_ 4 rfl, trivial⟩, ?_⟩
                have e78 := made_boxes hs78
                have hx78 : s78.boxes.length = s.boxes.length := by rw [e78.1]
                have hu78 : s78.sums.length = s.sums.length := by rw [e78.2]
                have hk78 := keys_made hs78
                refine pH_v 18 (some 148) (Value.bool true) rfl rfl (by kernel_rfl) (by kernel_rfl) (by kernel_rfl) (by kernel_rfl) (by kernel_rfl) (fun _ d _ _ _ h => by cases d <;> exact h) (by kernel_rfl) ⟨h78.at_ 3 rfl, h78.at_ 4 rfl, trivial⟩ (fun W hW => e_keq K78 K18 42 42 (.tmp 146) (.tmp 147) (by kernel_rfl) (by kernel_rfl) (by kernel_rfl) (by kernel_rfl) (by kernel_rfl) true (by rw [hK78, hK1, STab.num_of _ _ _ hT]; simp) _) ?_
                refine pH_p 18 [19, 20, 21, 23] [(149, (Value.bool true)), (150, (Value.bool true)), (151, (pt tb16 0)), (153, (Value.string l))] rfl (by kernel_rfl) (by kernel_rfl) (fun _ d _ _ _ h => by cases d <;> exact h) ⟨h78.at_ 3 rfl, h78.at_ 4 rfl, trivial⟩ (by kernel_rfl) ?_
                refine pH_v 22 (some 152) (Value.agg (vb (kl K18)).toArray) rfl rfl (by kernel_rfl) (by kernel_rfl) (by kernel_rfl) (by kernel_rfl) (by kernel_rfl) (fun _ d _ _ _ h => by cases d <;> exact h) (by kernel_rfl) ⟨h78.at_ 3 rfl, h78.at_ 4 rfl, trivial⟩ (fun W hW => e_loads hW.1 42 (.tmp 12) (by kernel_rfl) 0 (vb (kl K18)) (by kernel_rfl) (by kernel_rfl) (by kernel_rfl)) ?_
                refine pH_v 25 (some 155) (Value.agg (vb (kl K22)).toArray) rfl rfl (by kernel_rfl) (by kernel_rfl) (by kernel_rfl) (by kernel_rfl) (by kernel_rfl) (fun _ d _ _ _ h => by cases d <;> exact h) (by kernel_rfl) ⟨h78.at_ 3 rfl, h78.at_ 4 rfl, trivial⟩ (fun W hW => e_loads hW.2.1 42 (.tmp 13) (by kernel_rfl) 0 (vb (kl K22)) (by kernel_rfl) (by kernel_rfl) (by kernel_rfl)) ?_
                refine pH_to 24 (some 154) rfl rfl (by kernel_rfl) (by kernel_rfl) (x_derive h78 5 rfl K18 l (by kernel_rfl) (by omega)) ?_
                rintro _ w79 ⟨K79, F79, s79, rfl, hK79, hs79, h79⟩
                refine ⟨fun _ => ⟨h79.at_ 3 rfl, h79.at_ 4 rfl, trivial⟩, ?_⟩
                have e79 := made_boxes hs79
                have hx79 : s79.boxes.length = s78.boxes.length := by rw [e79.1]
                have hu79 : s79.sums.length = s78.sums.length := by rw [e79.2]
                have hk79 := keys_made hs79
                refine pH_v 26 (some 156) (Value.bool true) rfl rfl (by kernel_rfl) (by kernel_rfl) (by kernel_rfl) (by kernel_rfl) (by kernel_rfl) (fun _ d _ _ _ h => by cases d <;> exact h) (by kernel_rfl) ⟨h79.at_ 3 rfl, h79.at_ 4 rfl, trivial⟩ (fun W hW => e_keq K79 K22 42 42 (.tmp 154) (.tmp 155) (by kernel_rfl) (by kernel_rfl) (by kernel_rfl) (by kernel_rfl) (by kernel_rfl) true (by rw [hK79, hK2, STab.num_of _ _ _ (at_more hs78 hD)]; simp) _) ?_
                refine pH_p 9 [27, 28, 29, 30, 32] [(157, (Value.bool true)), (158, (Value.bool true)), (159, (pt tb16 0)), (160, (Value.slice A b.length c)), (162, (Value.slice A28 16 c28))] rfl (by kernel_rfl) (by kernel_rfl) (fun _ d _ _ _ h => by cases d <;> exact h) ⟨h79.at_ 3 rfl, h79.at_ 4 rfl, trivial⟩ (by kernel_rfl) ?_
                refine pH_to 31 (some 161) rfl rfl (by kernel_rfl) (by kernel_rfl) (x_digest h79 5 rfl b (Value.slice A b.length c) (by kernel_rfl) (h79.rd 2 rfl) (by omega) (by omega)) ?_
                rintro _ w80 ⟨A80, c80, F80, s80, rfl, hs80, h80⟩
                refine ⟨fun _ => ⟨h80.at_ 3 rfl, h80.at_ 4 rfl, trivial⟩, ?_⟩
                have e80 := digest_all hs80
                have hx80 : s80.boxes.length = s79.boxes.length := by rw [e80.1]
                have hu80 := e80.2.2.2
                have hk80 : s80.keys.length = s79.keys.length := by rw [e80.2.1]
                refine pH_to 33 (some 163) rfl rfl (by kernel_rfl) (by kernel_rfl) (x_same h80 (mkB 100 (s79.sumAt b + 1)) (mkB 100 (s26.sumAt b + 1)) (Value.slice A80 16 c80) (Value.slice A28 16 c28) (by kernel_rfl) (h80.rd 0 rfl) (h80.rd 1 rfl) true (by rw [sumAt_zero (s := s79) (b := b) (by rw [e79.2, e78.2]; exact hU), (digest_new hs28 (by rw [e26.2.1, e22.2, e18.2]; rfl)).2]; simp)) ?_
                rintro _ w81 ⟨rfl, h81⟩
                refine ⟨fun _ => ⟨h81.at_ 3 rfl, h81.at_ 4 rfl, trivial⟩, ?_⟩
                refine pH_p 5 [34, 35] [(164, (Value.bool true)), (165, (Value.bool true))] rfl (by kernel_rfl) (by kernel_rfl) (fun _ d _ _ _ h => by cases d <;> exact h) ⟨h81.at_ 3 rfl, h81.at_ 4 rfl, trivial⟩ (by kernel_rfl) ?_
                refine pH_v 36 (some 166) (Value.agg (vb (kl K18)).toArray) rfl rfl (by kernel_rfl) (by kernel_rfl) (by kernel_rfl) (by kernel_rfl) (by kernel_rfl) (fun _ d _ _ _ h => by cases d <;> exact h) (by kernel_rfl) ⟨h81.at_ 3 rfl, h81.at_ 4 rfl, trivial⟩ (fun W hW => e_loads hW.1 42 (.tmp 12) (by kernel_rfl) 0 (vb (kl K18)) (by kernel_rfl) (by kernel_rfl) (by kernel_rfl)) ?_
                refine pH_v 37 (some 167) (Value.agg (vb (kl K22)).toArray) rfl rfl (by kernel_rfl) (by kernel_rfl) (by kernel_rfl) (by kernel_rfl) (by kernel_rfl) (fun _ d _ _ _ h => by cases d <;> exact h) (by kernel_rfl) ⟨h81.at_ 3 rfl, h81.at_ 4 rfl, trivial⟩ (fun W hW => e_loads hW.2.1 42 (.tmp 13) (by kernel_rfl) 0 (vb (kl K22)) (by kernel_rfl) (by kernel_rfl) (by kernel_rfl)) ?_
                refine pH_v 38 (some 168) (Value.bool true) rfl rfl (by kernel_rfl) (by kernel_rfl) (by kernel_rfl) (by kernel_rfl) (by kernel_rfl) (fun _ d _ _ _ h => by cases d <;> exact h) (by kernel_rfl) ⟨h81.at_ 3 rfl, h81.at_ 4 rfl, trivial⟩ (fun W hW => e_kne K18 K22 42 42 (.tmp 166) (.tmp 167) (by kernel_rfl) (by kernel_rfl) (by kernel_rfl) (by kernel_rfl) (by kernel_rfl) true (by rw [hK1, hK2]; kernel_rfl) _) ?_
                refine pH_p 1 [39] [(169, (Value.bool true))] rfl (by kernel_rfl) (by kernel_rfl) (fun _ d _ _ _ h => by cases d <;> exact h) ⟨h81.at_ 3 rfl, h81.at_ 4 rfl, trivial⟩ (by kernel_rfl) ?_
                refine pH_to 40 (some 10) rfl rfl (by kernel_rfl) (by kernel_rfl) (OpTo.run (Value.bool true) (pureOp_run (by kernel_rfl) _) (R := fun v w => v = (Value.bool true) ∧ w = w81) ⟨rfl, rfl⟩) ?_
                rintro _ _ ⟨rfl, rfl⟩
                refine ⟨fun h => absurd h (by decide), ?_⟩
                refine pH_done (by kernel_rfl) ?_ _
                refine seq_n hK75 ?_
                refine wp_ret ?_
                refine post_1 rfl (by kernel_rfl) (rtmp (v := (Value.bool true)) (by kernel_rfl)) ?_
                exact ⟨rfl, h81.below0⟩
end Go.Proofs.Ytjjcnijdjhhdoaa
end
/-! The row of SymAgain: for every input the law returns true and what came in reads as it did. -/
section
namespace Go.Proofs.Ytjjcnijdjhhdoaa
open Go.ChangeShapes Go.WideShapes Go.ChangeAt Go.RowKit
set_option maxRecDepth 100000 in
theorem symAgain_lifted (os : Os) (started : os.Started) (H : Type) (enc : TypeId × Value → H) :
    ReturnsInHanded {} Try.checked os 8 .any (Rows.symAgainSpec.pre6 enc Try.prog Try.f8 Rows.symAgainRow.domain false) (Rows.symAgainSpec.post enc Try.prog Try.f8 false true false false) := by
  refine returnsInHanded_of_change (C := Try.checked) Try.own started (by kernel_rfl) Try.func8
    (ChangeSpec.witness6 (enc := enc) (C := Try.checked) false ⟨#[], #[.string ⟨#[]⟩, .string ⟨#[]⟩, .string ⟨#[]⟩, .slice none 0 0, .int .i64 0], []⟩ 8 (by kernel_rfl) (by kernel_rfl) (by kernel_rfl) (by kernel_rfl)) ?_
  intro W base args ds gs before hval0 hW hcnd _
  have hval : ∀ (j : Nat) t v, Try.f8.params[j]? = some t → args[j]? = some v → Value.okWide Try.prog W .any base t v := hval0
  have hpost : ∀ W', Below W.heap.size W W' → Rows.symAgainSpec.post enc Try.prog Try.f8 false true false false W args (.bool true) W' := fun W' hb =>
    law_post Try.laidOut (by kernel_rfl) Try.underlying4 rfl rfl (fun ds hds => by
      have hn : ds.length = 5 := hds
      match ds, hn with
      | [_, _, _, _, _], _ => rfl) hW hb
  obtain ⟨p, q, hA0, hV, rfl, hfz, hnd⟩ := hW
  have hA : DataW.TrodAll enc Try.prog W 0 (fun _ => true) true Try.f8.params.toList args.toList ds p := hA0
  rw [Try.params8] at hA hval
  clear hA0 hval0
  obtain ⟨v0, v1, v2, v3, v4, d0, d1, d2, d3, d4, p0, p1, p2, p3, p4, rfl, rfl, rfl, h0, h1, h2, h3, h4⟩ := trodAll_five hA
  obtain ⟨l0, rfl, rfl, rfl, hz0⟩ := Go.ChangeMaps.open_string (t := 9) (by kernel_rfl) (hval 0 9 v0 rfl rfl) h0
  obtain ⟨l1, rfl, rfl, rfl, hz1⟩ := Go.ChangeMaps.open_string (t := 9) (by kernel_rfl) (hval 1 9 v1 rfl rfl) h1
  obtain ⟨l2, rfl, rfl, rfl, hz2⟩ := Go.ChangeMaps.open_string (t := 9) (by kernel_rfl) (hval 2 9 v2 rfl rfl) h2
  obtain ⟨b3, hb3⟩ := open_bs (hval 3 28 v3 rfl rfl) h3
  obtain ⟨n4, rfl, rfl, rfl, hn4⟩ := open_int (t := 3) (k := .i64) (by kernel_rfl) (hval 4 3 v4 rfl rfl) h4
  refine (symAgain_any l0 l1 l2 v3 b3 n4 W hb3).mono fun e W' ⟨he, hw⟩ => ?_
  subst he
  exact ⟨_, rfl, hpost W' hw⟩
theorem symAgain_holds : Rows.SymAgainSaid :=
  OpenClaim.holds_of_wide 8 Try.f8 rfl rfl rfl rfl rfl rfl rfl ⟨rfl, rfl, rfl, rfl, rfl⟩ rfl rfl rfl rfl rfl (by kernel_rfl) Try.func8 (by kernel_rfl)
    (of_decide_eq_true (by kernel_rfl)) (by unfold Func.isWrapper; first | (rw [if_pos (by decide +kernel)]; kernel_rfl) | (rw [if_neg (by decide +kernel)]; exact ⟨rfl, rfl⟩))
    (fun os started H enc _ => symAgain_lifted os started H enc)
end Go.Proofs.Ytjjcnijdjhhdoaa
end
