/- The row of SymMarks: for every input the law returns true and what came in reads as it did. (Texts laid one behind the other: SAlive, Rw, SymP, SMarks, SymMarks.) -/
import Derived.ChangeMaps5
import Derived.Test.YtjjcnijdjhhdoaaCA6
/-! The walk of compeerlaw07.alive: true. -/
section
namespace Go.Proofs.Ytjjcnijdjhhdoaa
open Go.RowKit Go.QT
set_option maxRecDepth 100000 in
set_option maxHeartbeats 1000000 in
theorem salive_any (w : World) : Calls Try.prog 23 #[] w fun e w' => e = .returned (.bool true) ∧ Below w.heap.size w w' := by
  have h0 := Hp.nil (fun _ => False) w
  refine enter 95 Try.func23 rfl rfl ?_
  refine wp_seq_k ?_
  intro K1 hK1
  refine reg_lit ?_
  refine wl_p 1 [(0, (Value.bool false))] (by kernel_rfl) ?_
  refine wl_end rfl ?_
  refine seq_n hK1 ?_
  refine wp_seq_k ?_
  intro K2 hK2
  refine reg_lit ?_
  refine wl_to (by kernel_rfl) (x_snew h0 (by kernel_rfl)) ?_
  rintro _ w3 ⟨tb3, F3, rfl, h3⟩
  refine wl_p 1 [(1, (pt tb3 0))] (by kernel_rfl) ?_
  refine wl_end rfl ?_
  refine seq_n hK2 ?_
  refine wp_seq_k ?_
  intro K4 hK4
  refine wp_seq_k ?_
  intro K5 hK5
  refine reg_lit ?_
  refine wl_p 2 [(12, (pt tb3 0)), (13, (Value.bool false))] (by kernel_rfl) ?_
  refine wl_end rfl ?_
  refine seq_n hK5 ?_
  refine wp_cond_false (by kernel_rfl) ?_
  refine wp_skip ?_
  refine seq_n hK4 ?_
  refine wp_seq_k ?_
  intro K6 hK6
  refine reg_lit ?_
  refine wl_p 1 [(14, (pt tb3 0))] (by kernel_rfl) ?_
  refine wl_to (by kernel_rfl) (x_fresh h3 0 rfl  (by kernel_rfl) (by decide)) ?_
  rintro _ w7 ⟨K7, F7, s7, rfl, hK7, hs7, h7⟩
  have e7 : s7 = (⟨[SFrom.fresh], [], [], []⟩ : STab) := (by rw [hs7]; kernel_rfl)
  have f7 : kl K7 = mkB 107 1 := (by rw [hK7]; kernel_rfl)
  refine wl_to (by kernel_rfl) (x_new h7 42 (vb (List.replicate 16 0)) (fun r => pt r 0) (by kernel_rfl)) ?_
  rintro _ w8 ⟨g8, rfl, h8⟩
  refine wl_to (by kernel_rfl) (x_stores h8 0 rfl 42 (.tmp 2) (.tmp 15) (by kernel_rfl) 0 (vb (kl K7)) (vb (kl K7)) (by kernel_rfl) (by kernel_rfl) (by kernel_rfl) (by kernel_rfl) (by kernel_rfl) (by kernel_rfl)) ?_
  rintro _ w9 h9
  refine wl_end rfl ?_
  refine seq_n hK6 ?_
  refine wp_seq_k ?_
  intro K10 hK10
  refine reg_lit ?_
  refine wl_p 1 [(16, (pt tb3 0))] (by kernel_rfl) ?_
  refine wl_v (by kernel_rfl) (Value.agg (vb (kl K7)).toArray) (e_loads (h9.at_ 0 rfl) 42 (.tmp 2) (by kernel_rfl) 0 (vb (kl K7)) (by kernel_rfl) (by kernel_rfl) (by kernel_rfl)) ?_
  refine wl_to (by kernel_rfl) (x_bsl h9 [97, 98] (by kernel_rfl)) ?_
  rintro _ w11 ⟨g11, rfl, hw11, hg11, hq11, h11⟩
  refine wl_to (by kernel_rfl) (x_bcv hq11 [97, 98] hw11 g11 hg11 (.tmp 18) (by kernel_rfl) (by kernel_rfl) (by decide)) ?_
  rintro _ w12 ⟨rfl, h12⟩
  refine wl_to (by kernel_rfl) (x_seal h12 1 rfl K7 3 ([97, 98]) (Value.slice (some ⟨g11, 0, none⟩) 2 2) (by kernel_rfl) (h12.rd 0 rfl) (by decide) (by rw [e7]; decide)) ?_
  rintro _ w13 ⟨A13, c13, F13, s13, rfl, hs13, h13⟩
  have e13 : s13 = (⟨[SFrom.fresh], [⟨mkB 107 1, 3, [97, 98]⟩], [], []⟩ : STab) := (by rw [hs13, e7, f7]; kernel_rfl)
  refine wl_p 1 [(3, (Value.slice A13 16 c13))] (by kernel_rfl) ?_
  refine wl_end rfl ?_
  refine seq_n hK10 ?_
  refine wp_seq_k ?_
  intro K14 hK14
  refine reg_lit ?_
  refine wl_p 1 [(22, (pt tb3 0))] (by kernel_rfl) ?_
  refine wl_v (by kernel_rfl) (Value.agg (vb (kl K7)).toArray) (e_loads (h13.at_ 0 rfl) 42 (.tmp 2) (by kernel_rfl) 0 (vb (kl K7)) (by kernel_rfl) (by kernel_rfl) (by kernel_rfl)) ?_
  refine wl_p 1 [(24, (Value.slice A13 16 c13))] (by kernel_rfl) ?_
  refine wl_to (by kernel_rfl) (x_open h13 1 rfl K7 3 (mkB 98 (s7.boxes.length + 1)) (Value.slice A13 16 c13) (some [97, 98]) (by kernel_rfl) (h13.rd 0 rfl) (by rw [e13]; decide) (h13.tabW 1 rfl).1 (by rw [e13]; decide) (by rw [e13, e7, f7]; kernel_rfl)) ?_
  rintro _ w15 ⟨A15, c15, rfl, h15⟩
  refine wl_p 5 [(21, (Value.tuple #[(Value.slice A15 2 c15), (Value.bool true)])), (26, (Value.slice A15 2 c15)), (27, (Value.bool true)), (4, (Value.slice A15 2 c15)), (5, (Value.bool true))] (by kernel_rfl) ?_
  refine wl_end rfl ?_
  refine seq_n hK14 ?_
  refine wp_seq_k ?_
  intro K16 hK16
  refine reg_lit ?_
  refine wl_p 1 [(29, (pt tb3 0))] (by kernel_rfl) ?_
  refine wl_v (by kernel_rfl) (Value.agg (vb (kl K7)).toArray) (e_loads (h15.at_ 1 rfl) 42 (.tmp 2) (by kernel_rfl) 0 (vb (kl K7)) (by kernel_rfl) (by kernel_rfl) (by kernel_rfl)) ?_
  refine wl_p 1 [(31, (Value.slice A13 16 c13))] (by kernel_rfl) ?_
  refine wl_to (by kernel_rfl) (x_open h15 2 rfl K7 4 (mkB 98 (s7.boxes.length + 1)) (Value.slice A13 16 c13) none (by kernel_rfl) (h15.rd 0 rfl) (by rw [e13]; decide) (h15.tabW 2 rfl).1 (by rw [e13]; decide) (by rw [e13, e7, f7]; kernel_rfl)) ?_
  rintro _ w17 ⟨A17, c17, rfl, h17⟩
  refine wl_p 5 [(28, (Value.tuple #[(Value.slice A17 0 c17), (Value.bool false)])), (33, (Value.slice A17 0 c17)), (34, (Value.bool false)), (6, (Value.slice A17 0 c17)), (7, (Value.bool false))] (by kernel_rfl) ?_
  refine wl_end rfl ?_
  refine seq_n hK16 ?_
  refine wp_seq_k ?_
  intro K18 hK18
  refine reg_lit ?_
  refine wl_p 1 [(36, (Value.slice A13 16 c13))] (by kernel_rfl) ?_
  refine wl_to (by kernel_rfl) (x_Mark h17 (mkB 98 (s7.boxes.length + 1)) (Value.slice A13 16 c13) (by kernel_rfl) (h17.rd 0 rfl) (Value.tuple #[(Value.int .u8 98), (Value.int .i64 1), (Value.bool true)]) (by rw [e7]; kernel_rfl)) ?_
  rintro _ w19 ⟨rfl, h19⟩
  refine wl_p 7 [(35, (Value.tuple #[(Value.int .u8 98), (Value.int .i64 1), (Value.bool true)])), (38, (Value.int .u8 98)), (39, (Value.int .i64 1)), (40, (Value.bool true)), (8, (Value.int .u8 98)), (9, (Value.int .i64 1)), (10, (Value.bool true))] (by kernel_rfl) ?_
  refine wl_end rfl ?_
  refine seq_n hK18 ?_
  refine wp_seq_k ?_
  intro K20 hK20
  refine pH_go h19 54 (fun W => (rBlk g8 42 (vb (kl K7))).Φ W ∧ True) (by kernel_rfl) rfl ?_
  intro w21 h21
  refine pH_p 37 [0, 1, 2, 3, 4, 5, 6, 7, 8, 9, 10, 11, 12, 13, 14, 15, 16, 17] [(41, (Value.bool true)), (42, (Value.bool true)), (43, (Value.bool false)), (44, (Value.bool true)), (45, (Value.bool true)), (46, (Value.bool true)), (47, (Value.bool true)), (48, (Value.bool true)), (49, (Value.bool true)), (50, (Value.int .u8 98)), (51, (Value.bool true)), (52, (Value.bool true)), (53, (Value.bool true)), (54, (Value.int .i64 1)), (55, (Value.bool true)), (56, (Value.bool true)), (57, (Value.bool true)), (58, (Value.slice A15 2 c15))] rfl (by kernel_rfl) (by kernel_rfl) (fun _ d _ _ _ h => by cases d <;> exact h) ⟨h21.at_ 2 rfl, trivial⟩ (by kernel_rfl) ?_
  refine pH_to 18 (some 59) rfl rfl (by kernel_rfl) (by kernel_rfl) (x_bsl h21 [97, 98] (by kernel_rfl)) ?_
  rintro _ w22 ⟨g22, rfl, hw22, hg22, hq22, h22⟩
  refine ⟨fun _ => ⟨h22.at_ 3 rfl, trivial⟩, ?_⟩
  refine pH_to 19 (some 60) rfl rfl (by kernel_rfl) (by kernel_rfl) (x_bcv hq22 [97, 98] hw22 g22 hg22 (.tmp 59) (by kernel_rfl) (by kernel_rfl) (by decide)) ?_
  rintro _ w23 ⟨rfl, h23⟩
  refine ⟨fun _ => ⟨h23.at_ 2 rfl, trivial⟩, ?_⟩
  refine pH_to 20 (some 61) rfl rfl (by kernel_rfl) (by kernel_rfl) (x_same h23 ([97, 98]) ([97, 98]) (Value.slice A15 2 c15) (Value.slice (some ⟨g22, 0, none⟩) 2 2) (by kernel_rfl) (OB.sb (h23.at_ 1 rfl)) (h23.rd 0 rfl) true (by kernel_rfl)) ?_
  rintro _ w24 ⟨rfl, h24⟩
  refine ⟨fun _ => ⟨h24.at_ 2 rfl, trivial⟩, ?_⟩
  refine pH_p 31 [21, 22, 23] [(62, (Value.bool true)), (63, (Value.bool true)), (64, (Value.slice A13 16 c13))] rfl (by kernel_rfl) (by kernel_rfl) (fun _ d _ _ _ h => by cases d <;> exact h) ⟨h24.at_ 2 rfl, trivial⟩ (by kernel_rfl) ?_
  refine pH_to 24 (some 65) rfl rfl (by kernel_rfl) (by kernel_rfl) (x_bsl h24 [255, 254, 98, 0, 0, 0, 0, 0, 0, 0, 0, 0, 0, 0, 0, 1] (by kernel_rfl)) ?_
  rintro _ w25 ⟨g25, rfl, hw25, hg25, hq25, h25⟩
  refine ⟨fun _ => ⟨h25.at_ 3 rfl, trivial⟩, ?_⟩
  refine pH_to 25 (some 66) rfl rfl (by kernel_rfl) (by kernel_rfl) (x_same h25 (mkB 98 (s7.boxes.length + 1)) ([255, 254, 98, 0, 0, 0, 0, 0, 0, 0, 0, 0, 0, 0, 0, 1]) (Value.slice A13 16 c13) (Value.slice (some ⟨g25, 0, none⟩) 16 16) (by kernel_rfl) (h25.rd 1 rfl) (SB.blk (h25.at_ 0 rfl) (by kernel_rfl) (by kernel_rfl) (by kernel_rfl)) true (by rw [e7]; kernel_rfl)) ?_
  rintro _ w26 ⟨rfl, h26⟩
  refine ⟨fun _ => ⟨h26.at_ 3 rfl, trivial⟩, ?_⟩
  refine pH_p 25 [26, 27, 28, 30] [(67, (Value.bool true)), (68, (Value.bool true)), (69, (pt tb3 0)), (71, (pt tb3 0))] rfl (by kernel_rfl) (by kernel_rfl) (fun _ d _ _ _ h => by cases d <;> exact h) ⟨h26.at_ 3 rfl, trivial⟩ (by kernel_rfl) ?_
  refine pH_to 29 (some 70) rfl rfl (by kernel_rfl) (by kernel_rfl) (x_text h26 4 rfl (⟨#[112]⟩) (⟨#[115]⟩) (by kernel_rfl) (by decide) (by decide) (by rw [e13]; decide)) ?_
  rintro _ w27 ⟨K27, F27, s27, rfl, hK27, hs27, h27⟩
  refine ⟨fun _ => ⟨h27.at_ 3 rfl, trivial⟩, ?_⟩
  have e27 : s27 = (⟨[SFrom.fresh, textF ⟨#[112]⟩ ⟨#[115]⟩], [⟨mkB 107 1, 3, [97, 98]⟩], [], [(textF ⟨#[112]⟩ ⟨#[115]⟩, 2)]⟩ : STab) := (by rw [hs27, e13]; kernel_rfl)
  have f27 : kl K27 = mkB 107 2 := (by rw [hK27, e13]; kernel_rfl)
  refine pH_to 31 (some 72) rfl rfl (by kernel_rfl) (by kernel_rfl) (x_text h27 4 rfl (⟨#[112]⟩) (⟨#[115]⟩) (by kernel_rfl) (by decide) (by decide) (by rw [e27]; decide)) ?_
  rintro _ w28 ⟨K28, F28, s28, rfl, hK28, hs28, h28⟩
  refine ⟨fun _ => ⟨h28.at_ 3 rfl, trivial⟩, ?_⟩
  have e28 : s28 = (⟨[SFrom.fresh, textF ⟨#[112]⟩ ⟨#[115]⟩], [⟨mkB 107 1, 3, [97, 98]⟩], [], [(textF ⟨#[112]⟩ ⟨#[115]⟩, 2)]⟩ : STab) := (by rw [hs28, e27]; kernel_rfl)
  have f28 : kl K28 = mkB 107 2 := (by rw [hK28, e27]; kernel_rfl)
  refine pH_v 32 (some 73) (Value.bool true) rfl rfl (by kernel_rfl) (by kernel_rfl) (by kernel_rfl) (by kernel_rfl) (by kernel_rfl) (fun _ d _ _ _ h => by cases d <;> exact h) (by kernel_rfl) ⟨h28.at_ 3 rfl, trivial⟩ (fun W hW => e_keq K27 K28 42 42 (.tmp 70) (.tmp 72) (by kernel_rfl) (by kernel_rfl) (by kernel_rfl) (by kernel_rfl) (by kernel_rfl) true (by rw [f27, f28]; kernel_rfl) _) ?_
  refine pH_p 18 [33, 34, 35, 38] [(74, (Value.bool true)), (75, (Value.bool true)), (76, (pt tb3 0)), (79, (pt tb3 0))] rfl (by kernel_rfl) (by kernel_rfl) (fun _ d _ _ _ h => by cases d <;> exact h) ⟨h28.at_ 3 rfl, trivial⟩ (by kernel_rfl) ?_
  refine pH_v 36 (some 77) (Value.agg (vb (kl K7)).toArray) rfl rfl (by kernel_rfl) (by kernel_rfl) (by kernel_rfl) (by kernel_rfl) (by kernel_rfl) (fun _ d _ _ _ h => by cases d <;> exact h) (by kernel_rfl) ⟨h28.at_ 3 rfl, trivial⟩ (fun W hW => e_loads hW.1 42 (.tmp 2) (by kernel_rfl) 0 (vb (kl K7)) (by kernel_rfl) (by kernel_rfl) (by kernel_rfl)) ?_
  refine pH_v 39 (some 80) (Value.agg (vb (kl K7)).toArray) rfl rfl (by kernel_rfl) (by kernel_rfl) (by kernel_rfl) (by kernel_rfl) (by kernel_rfl) (fun _ d _ _ _ h => by cases d <;> exact h) (by kernel_rfl) ⟨h28.at_ 3 rfl, trivial⟩ (fun W hW => e_loads hW.1 42 (.tmp 2) (by kernel_rfl) 0 (vb (kl K7)) (by kernel_rfl) (by kernel_rfl) (by kernel_rfl)) ?_
  refine pH_to 37 (some 78) rfl rfl (by kernel_rfl) (by kernel_rfl) (x_derive h28 4 rfl K7 (⟨#[120]⟩) (by kernel_rfl) (by rw [e28]; decide)) ?_
  rintro _ w29 ⟨K29, F29, s29, rfl, hK29, hs29, h29⟩
  refine ⟨fun _ => ⟨h29.at_ 3 rfl, trivial⟩, ?_⟩
  have e29 : s29 = (⟨[SFrom.fresh, textF ⟨#[112]⟩ ⟨#[115]⟩, deriveF (mkB 107 1) ⟨#[120]⟩], [⟨mkB 107 1, 3, [97, 98]⟩], [], [(textF ⟨#[112]⟩ ⟨#[115]⟩, 2), (deriveF (mkB 107 1) ⟨#[120]⟩, 3)]⟩ : STab) := (by rw [hs29, e28, f7]; kernel_rfl)
  have f29 : kl K29 = mkB 107 3 := (by rw [hK29, e28, f7]; kernel_rfl)
  refine pH_to 40 (some 81) rfl rfl (by kernel_rfl) (by kernel_rfl) (x_derive h29 4 rfl K7 (⟨#[121]⟩) (by kernel_rfl) (by rw [e29]; decide)) ?_
  rintro _ w30 ⟨K30, F30, s30, rfl, hK30, hs30, h30⟩
  refine ⟨fun _ => ⟨h30.at_ 3 rfl, trivial⟩, ?_⟩
  have e30 : s30 = (⟨[SFrom.fresh, textF ⟨#[112]⟩ ⟨#[115]⟩, deriveF (mkB 107 1) ⟨#[120]⟩, deriveF (mkB 107 1) ⟨#[121]⟩], [⟨mkB 107 1, 3, [97, 98]⟩], [], [(textF ⟨#[112]⟩ ⟨#[115]⟩, 2), (deriveF (mkB 107 1) ⟨#[120]⟩, 3), (deriveF (mkB 107 1) ⟨#[121]⟩, 4)]⟩ : STab) := (by rw [hs30, e29, f7]; kernel_rfl)
  have f30 : kl K30 = mkB 107 4 := (by rw [hK30, e29, f7]; kernel_rfl)
  refine pH_v 41 (some 82) (Value.bool true) rfl rfl (by kernel_rfl) (by kernel_rfl) (by kernel_rfl) (by kernel_rfl) (by kernel_rfl) (fun _ d _ _ _ h => by cases d <;> exact h) (by kernel_rfl) ⟨h30.at_ 3 rfl, trivial⟩ (fun W hW => e_kne K29 K30 42 42 (.tmp 78) (.tmp 81) (by kernel_rfl) (by kernel_rfl) (by kernel_rfl) (by kernel_rfl) (by kernel_rfl) true (by rw [f29, f30]; kernel_rfl) _) ?_
  refine pH_p 10 [42, 43, 44] [(83, (Value.bool true)), (84, (Value.bool true)), (85, (pt tb3 0))] rfl (by kernel_rfl) (by kernel_rfl) (fun _ d _ _ _ h => by cases d <;> exact h) ⟨h30.at_ 3 rfl, trivial⟩ (by kernel_rfl) ?_
  refine pH_v 46 (some 87) (Value.agg (vb (kl K7)).toArray) rfl rfl (by kernel_rfl) (by kernel_rfl) (by kernel_rfl) (by kernel_rfl) (by kernel_rfl) (fun _ d _ _ _ h => by cases d <;> exact h) (by kernel_rfl) ⟨h30.at_ 3 rfl, trivial⟩ (fun W hW => e_loads hW.1 42 (.tmp 2) (by kernel_rfl) 0 (vb (kl K7)) (by kernel_rfl) (by kernel_rfl) (by kernel_rfl)) ?_
  refine pH_to 45 (some 86) rfl rfl (by kernel_rfl) (by kernel_rfl) (x_nth (tb := tb3) h30 (1) (by kernel_rfl) (by decide)) ?_
  rintro _ w31 ⟨K31, rfl, hK31, h31⟩
  refine ⟨fun _ => ⟨h31.at_ 3 rfl, trivial⟩, ?_⟩
  have f31 : kl K31 = mkB 107 1 := hK31
  refine pH_v 47 (some 88) (Value.bool true) rfl rfl (by kernel_rfl) (by kernel_rfl) (by kernel_rfl) (by kernel_rfl) (by kernel_rfl) (fun _ d _ _ _ h => by cases d <;> exact h) (by kernel_rfl) ⟨h31.at_ 3 rfl, trivial⟩ (fun W hW => e_keq K31 K7 42 42 (.tmp 86) (.tmp 87) (by kernel_rfl) (by kernel_rfl) (by kernel_rfl) (by kernel_rfl) (by kernel_rfl) true (by rw [f31, f7]; kernel_rfl) _) ?_
  refine pH_p 4 [48, 49, 50] [(89, (Value.bool true)), (90, (Value.bool true)), (91, (pt tb3 0))] rfl (by kernel_rfl) (by kernel_rfl) (fun _ d _ _ _ h => by cases d <;> exact h) ⟨h31.at_ 3 rfl, trivial⟩ (by kernel_rfl) ?_
  refine pH_to 51 (some 92) rfl rfl (by kernel_rfl) (by kernel_rfl) (x_nboxes h31 4 rfl (by kernel_rfl)) ?_
  rintro _ w32 ⟨rfl, h32⟩
  refine ⟨fun _ => ⟨h32.at_ 3 rfl, trivial⟩, ?_⟩
  refine pH_v 52 (some 93) (Value.bool true) rfl rfl (by kernel_rfl) (by kernel_rfl) (by kernel_rfl) (by kernel_rfl) (by kernel_rfl) (fun _ d _ _ _ h => by cases d <;> exact h) (by kernel_rfl) ⟨h32.at_ 3 rfl, trivial⟩ (fun W hW => e_is (v := (Value.bool (((s30.boxes.length : Int)) == 1))) (by kernel_rfl) (by rw [e30]; rfl)) ?_
  refine pH_p 1 [53] [(94, (Value.bool true))] rfl (by kernel_rfl) (by kernel_rfl) (fun _ d _ _ _ h => by cases d <;> exact h) ⟨h32.at_ 3 rfl, trivial⟩ (by kernel_rfl) ?_
  refine pH_to 54 (some 0) rfl rfl (by kernel_rfl) (by kernel_rfl) (OpTo.run (Value.bool true) (pureOp_run (by kernel_rfl) _) (R := fun v w => v = (Value.bool true) ∧ w = w32) ⟨rfl, rfl⟩) ?_
  rintro _ _ ⟨rfl, rfl⟩
  refine ⟨fun h => absurd h (by decide), ?_⟩
  refine pH_done (by kernel_rfl) ?_ _
  refine seq_n hK20 ?_
  refine wp_ret ?_
  refine post_1 rfl (by kernel_rfl) (rtmp (v := (Value.bool true)) (by kernel_rfl)) ?_
  exact ⟨rfl, h32.below0⟩
end Go.Proofs.Ytjjcnijdjhhdoaa
end
/-! More steps on slices: parts of them, their elements' places and cells. -/
section
namespace Go.Proofs.Ytjjcnijdjhhdoaa
open Go.RowKit Go.QT
section
variable {P : Program} {o : Oper} {a : Act} {w w' w0 : World} {sz c : Nat} {A : Option Addr} {xs : List (List Value)} {F0 : Nat → Prop} {ro rs : List Res}
theorem e_cut_lh {v : Value} {l : Bytes} (h : SB w v l) (x lo hi : Operand) (ho : o.op = .slice 28 x (some lo) (some hi) none) (hx : a.eval x = v) (k k' : IntKind) (i j : Nat) (hlo : a.eval lo = .int k (i : Int)) (hhi : a.eval hi = .int k' (j : Int)) (h1 : i ≤ j) (h2 : j ≤ l.length) (W : World) :
    (execOp a.eval o).run Try.prog W = .ok (.value (cutS v i j)) W :=
  exec_cut_lh x lo hi ho v l hx h k k' (i : Int) (j : Int) hlo hhi (by omega) (by omega) (by omega) W
theorem e_cut_h {v : Value} {l : Bytes} (h : SB w v l) (x hi : Operand) (ho : o.op = .slice 28 x none (some hi) none) (hx : a.eval x = v) (k' : IntKind) (j : Nat) (hhi : a.eval hi = .int k' (j : Int)) (h2 : j ≤ l.length) (W : World) :
    (execOp a.eval o).run Try.prog W = .ok (.value (cutS v 0 j)) W :=
  exec_cut_h x hi ho v l hx h k' (j : Int) hhi (by omega) (by omega) W
theorem e_cut_l {v : Value} {l : Bytes} (h : SB w v l) (x lo : Operand) (ho : o.op = .slice 28 x (some lo) none none) (hx : a.eval x = v) (k : IntKind) (i : Nat) (hlo : a.eval lo = .int k (i : Int)) (h2 : i ≤ l.length) (W : World) :
    (execOp a.eval o).run Try.prog W = .ok (.value (cutS v i l.length)) W :=
  exec_cut_l x lo ho v l hx h k (i : Int) hlo (by omega) (by omega) W
theorem e_idxN (h : RV w sz A c xs) (i n : Nat) (hn : xs.length = n) (hi : i < n) (t : TypeId) (x y : Operand) (ho : o.op = .indexAddr t x y) (k : IntKind) (hx : a.eval x = .slice A n c) (hy : a.eval y = .int k (i : Int)) (E : TypeId) (ht : P.underlying t = some (.slice E)) (hE : pureVal P (sizeOf E) = some sz) (W : World) :
    (execOp a.eval o).run P W = .ok (.value (eAt A (i * sz))) W := by
  subst hn
  exact e_idx h i hi t x y ho k hx hy E ht hE W
theorem eAt_at (h : RV w sz A c xs) (i : Nat) (x : List Value) (hxi : xs[i]? = some x) (j : Nat) : ∃ b k, A = some ⟨b, k, none⟩ ∧ eAt A (i * sz + j) = pt b (k + (i * sz + j)) ∧ ∀ m u, x[j + m]? = some u → w.cell? ⟨b, k + (i * sz + j) + m, none⟩ = some u := by
  have hi : i < xs.length := (List.getElem?_eq_some_iff.1 hxi).1
  obtain ⟨b, o', rfl, hb, hc⟩ := h.at_ (by rintro rfl; simp at hi)
  refine ⟨b, o', rfl, ?_, fun m u hu => ?_⟩
  · unfold eAt pt
    by_cases h0 : i * sz + j = 0
    · rw [h0]; simp [Addr.add]
    · simp only [Addr.add]
      simp
      intro h2 h3; exact h0 (by omega)
  · have := hc i x hxi (j + m) u hu
    rw [show o' + (i * sz + j) + m = o' + i * sz + (j + m) by omega]
    exact this
/-- A cell of an element: its j-th. -/
theorem e_elemN (h : RV w sz A c xs) (i j : Nat) (x : List Value) (hxi : xs[i]? = some x) (t : TypeId) (p : Operand) (ho : o.op = .load t p) (v : Value) (hx : a.eval p = eAt A (i * sz + j)) (hv : x[j]? = some v) (ht : pureVal P (isAgg t) = some false) :
    (execOp a.eval o).run P w = .ok (.value v) w := by
  obtain ⟨b, k, rfl, e, hc⟩ := eAt_at h i x hxi j
  have hcell : w.cell? ⟨b, k + (i * sz + j), none⟩ = some v := by simpa using hc 0 v hv
  have hl : (loadVar t ⟨b, k + (i * sz + j), none⟩).run P w = .ok v w := by simp [loadVar, pureVal_run ht, hcell]
  unfold execOp
  rw [e] at hx
  simp only [ho, hx, pt, Instr.loadAt, Instr.sureAddr, Sem.run_bind, Sem.run_pure, Result.andThen_ok, hl]
/-- Cells of an element, from the j-th on. -/
theorem e_elemsN (h : RV w sz A c xs) (i j : Nat) (x : List Value) (hxi : xs[i]? = some x) (t : TypeId) (p : Operand) (ho : o.op = .load t p) (ds : List Value) (hx : a.eval p = eAt A (i * sz + j)) (hv : (x.drop j).take ds.length = ds) (hB : rowB P t ds.length = true) :
    (execOp a.eval o).run P w = .ok (.value (.agg ds.toArray)) w := by
  obtain ⟨b, k, rfl, e, hc⟩ := eAt_at h i x hxi j
  obtain ⟨d, hu, hr, hs⟩ := rowB_spec hB
  have hl := run_loadVar_mid (P := P) w b (k + (i * sz + j)) t ds d (fun m v hm => hc m v (slice_get x j ds.length m v (by rw [hv]; exact hm))) hu hr hs
  unfold execOp
  rw [e] at hx
  simp only [ho, hx, pt, Instr.loadAt, Instr.sureAddr, Sem.run_bind, Sem.run_pure, Result.andThen_ok, hl]
/-- The place of an element's field. -/
theorem e_fldN (h : RV w sz A c xs) (i j k : Nat) (x : List Value) (hxi : xs[i]? = some x) (p : Operand) (hx : a.eval p = eAt A (i * sz + j)) (hf : ∀ b n, pureVal P (execOp (fun _ => pt b n) o) = some (.value (pt b (n + k)))) (hE : ∀ ev : Operand → Value, execOp ev o = execOp (fun _ => ev p) o) (W : World) :
    (execOp a.eval o).run P W = .ok (.value (eAt A (i * sz + (j + k)))) W := by
  obtain ⟨b, n, rfl, e, _⟩ := eAt_at h i x hxi j
  have e2 : eAt (some ⟨b, n, none⟩) (i * sz + (j + k)) = pt b (n + (i * sz + (j + k))) := by
    unfold eAt pt
    by_cases h0 : i * sz + (j + k) = 0
    · rw [h0]; simp [Addr.add]
    · simp only [Addr.add]
      simp
      intro h2 h3 h4; exact absurd (show i * sz + (j + k) = 0 by omega) h0
  rw [hE, hx, e, e2, show n + (i * sz + (j + k)) = n + (i * sz + j) + k by omega]
  exact pureVal_run (hf _ _) W
/-- A new slice of values. -/
theorem x_bs (h : Hp F0 w0 w ro rs) (T : TypeId) (cs : List Value) (n : Nat) (hn : newVal P (execOp a.eval o) = some (.cells cs.toArray T, fun r => some (.value (.slice (some ⟨r, 0, none⟩) n n)))) :
    OpTo P o a w (fun v w' => ∃ g, v = .slice (some ⟨g, 0, none⟩) n n ∧ Hp F0 w0 w' ro (rBlk g T cs :: rs)) :=
  OpTo.run (.slice (some ⟨w.heap.size, 0, none⟩) n n) (newVal_run hn w rfl) ⟨_, rfl, h.alloc T cs⟩
theorem x_bs0 (h : Hp F0 w0 w ro rs) (T : TypeId) (sz : Nat) (hn : newVal P (execOp a.eval o) = some (.cells #[] T, fun r => some (.value (.slice (some ⟨r, 0, none⟩) 0 0)))) :
    OpTo P o a w (fun v w' => ∃ A, v = .slice A 0 0 ∧ Hp F0 w0 w' ro (rOV T sz (.slice A 0 0) [] :: rs)) := by
  refine (x_bs h T [] 0 hn).mono fun v w' hr => ?_
  obtain ⟨g, hv, h'⟩ := hr
  have hb : Blk w' g T [] := h'.own 0 _ rfl
  refine ⟨_, hv, h'.upd 0 rfl (Fr.refl _ _) (rOV T sz (.slice (some ⟨g, 0, none⟩) 0 0) []) ⟨⟨by simp, .inr ⟨g, 0, #[], rfl, Nat.zero_le _, hb, Nat.le_refl _, by unfold maxLen; omega, by simp, by simp⟩⟩, by simp, by simp⟩ (fun q hq => .inl ?_)⟩
  have : g = q := by simpa [rOV, Value.ownBlock] using hq
  exact this.symm
theorem x_bs0B (h : Hp F0 w0 w ro rs) (hn : newVal P (execOp a.eval o) = some (.cells #[] 5, fun r => some (.value (.slice (some ⟨r, 0, none⟩) 0 0)))) :
    OpTo P o a w (fun v w' => ∃ A, v = .slice A 0 0 ∧ Hp F0 w0 w' ro (rOB (.slice A 0 0) [] :: rs)) := by
  refine (x_bs h 5 [] 0 hn).mono fun v w' hr => ?_
  obtain ⟨g, hv, h'⟩ := hr
  have hb : Blk w' g 5 [] := h'.own 0 _ rfl
  refine ⟨_, hv, h'.upd 0 rfl (Fr.refl _ _) (rOB (.slice (some ⟨g, 0, none⟩) 0 0) []) (OB.new w' g [] (by simp) hb (Nat.zero_le _)) (fun q hq => .inl ?_)⟩
  have : g = q := by simpa [rOB, Value.ownBlock] using hq
  exact this.symm
theorem SB.rvn {l : Bytes} {n : Nat} (h : SB w (.slice A n c) l) : (bx l).length = n ∧ RV w 1 A c (bx l) := by
  obtain ⟨A', c', e, h1, h2, h3⟩ := id h
  injection e with e1 e2 e3
  subst e2
  exact ⟨bx_len l, SB.rv h⟩
theorem OV.rvn {base E : Nat} {n : Nat} (h : OV w base E sz (.slice A n c) xs) : xs.length = n ∧ RV w sz A c xs := ⟨(OV.rv h).1.symm, (OV.rv h).2⟩
/-- append of one element, its answer as one likes to spell it. -/
theorem x_pushG (h : Hp F0 w0 w ro rs) (i j : Nat) {E : TypeId} {v : Value} {g : Nat} {T : TypeId} {news : List Value} (hi : rs[i]? = some (rOV E sz v xs)) (hj : rs[j]? = some (rBlk g T news)) (hij : decide (i ≠ j) = true)
    (s x : Operand) (t : TypeId) (ho : o.op = .call { callee := .builtin .append, args := #[s, x], argTypes := #[t, t] }) (bytes : Nat) (z : Value) (ht : P.underlying t = some (.slice E)) (hinf : (P.info? E).map (fun i => (i.zero, i.size, i.bytes)) = some (some z, sz, bytes))
    (hzs : z.cells.size = sz) (hsz : decide (0 < sz) = true) (hs : a.eval s = v) (c : Nat) (hx : a.eval x = .slice (some ⟨g, 0, none⟩) 1 c) (hn : news.length = sz) (h1 : news.all (·.oneCell') = true)
    (hlen : (xs.length + 1) * bytes ≤ 140737488355328) (hlen2 : xs.length < maxLen) (ys : List (List Value)) (n : Nat) (hys : ys = xs ++ [news]) (hyn : ys.length = n) :
    OpTo P o a w (fun u w' => ∃ A cc, u = .slice A n cc ∧ Hp F0 w0 w' ro (rs.set i (rOV E sz (.slice A n cc) ys))) := by
  subst hys; subst hyn
  refine (x_push h i j hi hj (of_decide_eq_true hij) s x t ho bytes z ht hinf hzs (of_decide_eq_true hsz) hs c hx hn (by simpa using h1) hlen hlen2).mono fun u w' hr => ?_
  obtain ⟨A, cc, rfl, h'⟩ := hr
  exact ⟨A, cc, rfl, h'⟩
theorem x_appG (h : Hp F0 w0 w ro rs) (i : Nat) {v : Value} {l m : Bytes} (hi : rs[i]? = some (rOB v l)) (s x : Operand) (ho : o.op = .call { callee := .builtin .append, args := #[s, x], argTypes := #[28, 28] })
    (u : Value) (hs : a.eval s = v) (hx : a.eval x = u) (hu : SB w u m) (hlen : l.length + m.length ≤ 140737488355328) (r : Bytes) (n : Nat) (hr : r = l ++ m) (hn : r.length = n) :
    OpTo Try.prog o a w (fun u w' => ∃ A cc, u = .slice A n cc ∧ Hp F0 w0 w' ro (rs.set i (rOB (.slice A n cc) r))) := by
  subst hr; subst hn
  refine (x_appB h i hi s x ho u hs hx hu hlen).mono fun u w' hr => ?_
  obtain ⟨A, cc, rfl, h'⟩ := hr
  exact ⟨A, cc, rfl, h'⟩
/-- m % n of natural numbers. -/
theorem e_rem (x y : Operand) (t t' : TypeId) (ho : o.op = .binOp .rem t x y t') (m n : Nat) (hx : a.eval x = .int .i64 (m : Int)) (hy : a.eval y = .int .i64 (n : Int)) (hn : 0 < n) (W : World) :
    (execOp a.eval o).run P W = .ok (.value (.int .i64 ((m % n : Nat) : Int))) W := by
  have h0 : ¬ ((n : Int) = 0) := by omega
  unfold execOp
  simp only [ho, hx, hy, eqGuard_rem, binOp_rem, Op.intDiv, Sem.run_bind, Sem.run_pure, Result.andThen_ok, if_neg h0, Int.ofNat_tmod]
end
end Go.Proofs.Ytjjcnijdjhhdoaa
end
/-! Plain facts of marks, and of the marks that stand in bytes. -/
section
namespace Go.Proofs.Ytjjcnijdjhhdoaa
open Go.RowKit
theorem markOf_spec {b : Bytes} {k : UInt8} {n : Nat} (h : markOf b = some (k, n)) : b.length = 16 ∧ (k = 107 ∨ k = 98 ∨ k = 100) ∧ n ≤ 1099511627776 ∧ b = mkB k n := by
  unfold markOf at h
  split at h
  · rename_i hc
    injection h with h
    injection h with h1 h2
    subst h1; subst h2
    exact hc
  · cases h
theorem markOf_mkB {k : UInt8} {n : Nat} (hk : k = 107 ∨ k = 98 ∨ k = 100) (hn : n ≤ 1099511627776) : markOf (mkB k n) = some (k, n) := by
  have h2 : gb (mkB k n) 2 = k := rfl
  have h8 : getN ((mkB k n).drop 8) = n := getN_put8 n (by omega)
  unfold markOf
  rw [h2, h8, if_pos ⟨rfl, hk, hn, rfl⟩]
theorem kd_ne {k : UInt8} (h : k = 107 ∨ k = 98 ∨ k = 100) : (ub k != 0) = true := by
  rcases h with rfl | rfl | rfl <;> kernel_rfl
theorem findTo_16 (b : Bytes) : ∀ i, ∀ x ∈ findTo b i, x.length = 16
  | 0 => by simp [findTo]
  | i+1 => by
    intro x hx
    rw [findTo_succ] at hx
    split at hx
    · rename_i hm
      rw [List.mem_append, List.mem_singleton] at hx
      rcases hx with hx | rfl
      · exact findTo_16 b i x hx
      · obtain ⟨⟨k, n⟩, hp⟩ := Option.isSome_iff_exists.1 hm
        exact (markOf_spec hp).1
    · exact findTo_16 b i x hx
theorem findB_kl (b : Bytes) (j : Nat) (hj : j < (findB b).length) : ∃ K, (findB b)[j]? = some (kl K) := by
  have h := findTo_16 b (b.length - 15) ((findB b)[j]) (List.getElem_mem hj)
  obtain ⟨K, hK⟩ := kl_of _ h
  exact ⟨K, by rw [List.getElem?_eq_getElem hj, ← hK]⟩
theorem map_vb_get {l : List Bytes} {j : Nat} {x : Bytes} (h : l[j]? = some x) : (l.map vb)[j]? = some (vb x) := by
  rw [List.getElem?_map, h]; rfl
end Go.Proofs.Ytjjcnijdjhhdoaa
end
/-! The walk of SymMarks: true. -/
section
namespace Go.Proofs.Ytjjcnijdjhhdoaa
open Go.RowKit Go.QT
set_option maxRecDepth 100000 in
set_option maxHeartbeats 1000000 in
theorem symMarks_any (v : Value) (b : Bytes) (k : UInt8) (n t : Int) (w : World) (hb : SB w v b) : Calls Try.prog 7 #[v, Value.int .u8 (ub k), Value.int .i64 n, Value.int .i64 t] w fun e w' => e = .returned (.bool true) ∧ Below w.heap.size w w' := by
  obtain ⟨A, c, rfl, hc1, hc2⟩ := sb_form hb
  have h0 := Hp.ro1 (rSB (.slice A b.length c) b) hb
  refine enter 116 Try.func7 rfl rfl ?_
  refine wp_seq_k ?_
  intro K1 hK1
  refine reg_lit ?_
  refine wl_p 1 [(8, (Value.bool false))] (by kernel_rfl) ?_
  refine wl_end rfl ?_
  refine seq_n hK1 ?_
  refine wp_seq_k ?_
  intro K2 hK2
  refine wp_seq_k ?_
  intro K3 hK3
  refine reg_lit ?_
  refine wl_to (by kernel_rfl) (OpTo.enter 23 [] (by kernel_rfl) (salive_any _) (R := fun u w' => u = Value.bool true ∧ Below w.heap.size w w') (fun e w' hq => ⟨_, hq.1, rfl, hq.2⟩)) ?_
  rintro _ w4 ⟨rfl, hb4⟩
  have h4 := h0.below hb4
  refine wl_p 1 [(24, (Value.bool false))] (by kernel_rfl) ?_
  refine wl_end rfl ?_
  refine seq_n hK3 ?_
  refine wp_cond_false (by kernel_rfl) ?_
  refine wp_skip ?_
  refine seq_n hK2 ?_
  refine wp_seq_k ?_
  intro K5 hK5
  refine wp_seq_k ?_
  intro K6 hK6
  refine reg_lit ?_
  refine wl_p 3 [(25, (Value.slice A b.length c)), (26, (Value.int .i64 ((b.length : Int)))), (27, (Value.bool (decide ((b.length : Int) > 200))))] (by kernel_rfl) ?_
  refine wl_end rfl ?_
  refine seq_n hK6 ?_
  refine wp_if ((b.length : Int) > 200) (by kernel_rfl) (fun b7 => ?_) (fun b7 => ?_)
  ·
    refine wp_seq_k ?_
    intro K8 hK8
    refine reg_lit ?_
    refine wl_p 1 [(8, (Value.bool true))] (by kernel_rfl) ?_
    refine wl_end rfl ?_
    refine seq_n hK8 ?_
    refine wp_ret ?_
    refine seq_r ?_
    refine post_1 rfl (by kernel_rfl) (rtmp (v := (Value.bool true)) (by kernel_rfl)) ?_
    exact ⟨rfl, h4.below0⟩
  ·
    refine wp_skip ?_
    refine seq_n hK5 ?_
    refine wp_seq_k ?_
    intro K9 hK9
    refine reg_lit ?_
    refine wl_p 2 [(28, (Value.int .u8 (ub k))), (29, (Value.int .i64 n))] (by kernel_rfl) ?_
    obtain ⟨M10, hM10, hb10⟩ := and_mask n 65535 (by decide)
    refine wl_v (by kernel_rfl) (Value.int .i64 ((M10 : Int))) (e_is (v := Value.int .i64 (bits .and .i64 n 65535)) (by kernel_rfl) (congrArg (Value.int .i64) hM10)) ?_
    refine wl_to (by kernel_rfl) (x_lmark h4 k (M10) (by kernel_rfl) (by omega)) ?_
    rintro _ w11 ⟨K11, rfl, hK11, h11⟩
    refine wl_to (by kernel_rfl) (x_new h11 22 (vb (List.replicate 16 0)) (fun r => pt r 0) (by kernel_rfl)) ?_
    rintro _ w12 ⟨g12, rfl, h12⟩
    refine wl_to (by kernel_rfl) (x_stores h12 0 rfl 22 (.tmp 9) (.tmp 31) (by kernel_rfl) 0 (vb (kl K11)) (vb (kl K11)) (by kernel_rfl) (by kernel_rfl) (by kernel_rfl) (by kernel_rfl) (by kernel_rfl) (by kernel_rfl)) ?_
    rintro _ w13 h13
    refine wl_end rfl ?_
    refine seq_n hK9 ?_
    refine wp_seq_k ?_
    intro K14 hK14
    refine reg_lit ?_
    refine wl_p 1 [(32, (Value.int .i64 t))] (by kernel_rfl) ?_
    obtain ⟨M15, hM15, hb15⟩ := and_mask t 1023 (by decide)
    refine wl_v (by kernel_rfl) (Value.int .i64 ((M15 : Int))) (e_is (v := Value.int .i64 (bits .and .i64 t 1023)) (by kernel_rfl) (congrArg (Value.int .i64) hM15)) ?_
    refine wl_p 2 [(34, (Value.slice A b.length c)), (35, (Value.int .i64 ((b.length : Int))))] (by kernel_rfl) ?_
    refine wl_v (by kernel_rfl) (.int .i64 ((b.length : Int) + 1)) (exec_add _ _ _ _ rfl ((b.length : Int)) 1 (by kernel_rfl) (by kernel_rfl) ((b.length : Int) + 1) rfl (by omega) (by omega) _) ?_
    obtain ⟨q, hq, hq2⟩ : ∃ q, M15 % (b.length + 1) = q ∧ q ≤ b.length := ⟨_, rfl, by have := Nat.mod_lt (M15) (show 0 < b.length + 1 by omega); omega⟩
    refine wl_v (by kernel_rfl) (Value.int .i64 ((q : Int))) ((by rw [← hq]; exact e_rem (.tmp 33) (.tmp 36) 3 3 (by kernel_rfl) (M15) (b.length + 1) (by kernel_rfl) (by kernel_rfl) (by omega) _)) ?_
    refine wl_p 1 [(3, (Value.int .i64 ((q : Int))))] (by kernel_rfl) ?_
    refine wl_end rfl ?_
    refine seq_n hK14 ?_
    refine wp_seq_k ?_
    intro K16 hK16
    obtain ⟨L, hL⟩ : ∃ L : Bytes, L = b.take q ++ kl K11 ++ b.drop q := ⟨_, rfl⟩
    have hLl : L.length = b.length + 16 := by rw [hL]; simp [kl_len]; omega
    refine pH_go h13 11 (fun W => True) (by kernel_rfl) rfl ?_
    intro w17 h17
    refine pH_p 7 [1, 2, 5, 7, 8] [(39, (Value.slice A b.length c)), (40, (Value.int .i64 ((q : Int)))), (43, (Value.slice (some ⟨g12, 0, none⟩) 16 16)), (45, (Value.slice A b.length c)), (46, (Value.int .i64 ((q : Int))))] rfl (by kernel_rfl) (by kernel_rfl) (fun _ d _ _ _ h => by cases d <;> exact h) trivial (by kernel_rfl) ?_
    refine pH_v 3 (some 41) (cutS (Value.slice A b.length c) 0 q) rfl rfl (by kernel_rfl) (by kernel_rfl) (by kernel_rfl) (by kernel_rfl) (by kernel_rfl) (fun _ d _ _ _ h => by cases d <;> exact h) (by kernel_rfl) trivial (fun W hW => e_cut_h (h17.rd 0 rfl) (.tmp 39) (.tmp 40) (by kernel_rfl) (by kernel_rfl) .i64 q (by kernel_rfl) (by omega) _) ?_
    refine pH_v 9 (some 47) (cutS (Value.slice A b.length c) q ((b).length)) rfl rfl (by kernel_rfl) (by kernel_rfl) (by kernel_rfl) (by kernel_rfl) (by kernel_rfl) (fun _ d _ _ _ h => by cases d <;> exact h) (by kernel_rfl) trivial (fun W hW => e_cut_l (h17.rd 0 rfl) (.tmp 45) (.tmp 46) (by kernel_rfl) (by kernel_rfl) .i64 q (by kernel_rfl) (by omega) _) ?_
    refine pH_to 0 (some 38) rfl rfl (by kernel_rfl) (by kernel_rfl) (x_bs0B h17 (by kernel_rfl)) ?_
    rintro _ w18 ⟨A18, rfl, h18⟩
    refine ⟨fun _ => trivial, ?_⟩
    refine pH_to 4 (some 42) rfl rfl (by kernel_rfl) (by kernel_rfl) (x_appG h18 0 rfl (.tmp 38) (.tmp 41) (by kernel_rfl) (cutS (Value.slice A b.length c) 0 q) (by kernel_rfl) (by kernel_rfl) (SB.cut (h18.rd 0 rfl) 0 q (by omega)) (by simp; omega) (b.take q) (q) (by simp) (by simp; omega)) ?_
    rintro _ w19 ⟨A19, c19, rfl, h19⟩
    refine ⟨fun _ => trivial, ?_⟩
    refine pH_to 6 (some 44) rfl rfl (by kernel_rfl) (by kernel_rfl) (x_appG h19 0 rfl (.tmp 42) (.tmp 43) (by kernel_rfl) (Value.slice (some ⟨g12, 0, none⟩) 16 16) (by kernel_rfl) (by kernel_rfl) (SB.blk16 (K := K11) (h19.at_ 1 rfl)) (by simp [kl_len]; omega) (b.take q ++ kl K11) (q + 16) rfl (by simp [kl_len]; omega)) ?_
    rintro _ w20 ⟨A20, c20, rfl, h20⟩
    refine ⟨fun _ => trivial, ?_⟩
    refine pH_to 10 (some 48) rfl rfl (by kernel_rfl) (by kernel_rfl) (x_appG h20 0 rfl (.tmp 44) (.tmp 47) (by kernel_rfl) (cutS (Value.slice A b.length c) q ((b).length)) (by kernel_rfl) (by kernel_rfl) (SB.cut (h20.rd 0 rfl) q ((b).length) (by omega)) (by simp [kl_len]; omega) (L) (b.length + 16) (by rw [hL]; simp) hLl) ?_
    rintro _ w21 ⟨A21, c21, rfl, h21⟩
    refine ⟨fun _ => trivial, ?_⟩
    refine pH_to 11 (some 10) rfl rfl (by kernel_rfl) (by kernel_rfl) (OpTo.run (Value.slice A21 (b.length + 16) c21) (pureOp_run (by kernel_rfl) _) (R := fun v w => v = (Value.slice A21 (b.length + 16) c21) ∧ w = w21) ⟨rfl, rfl⟩) ?_
    rintro _ _ ⟨rfl, rfl⟩
    refine ⟨fun h => absurd h (by decide), ?_⟩
    refine pH_done (by kernel_rfl) ?_ _
    refine seq_n hK16 ?_
    refine wp_seq_k ?_
    intro K22 hK22
    refine reg_lit ?_
    refine wl_to (by kernel_rfl) (x_bs0 h21 22 16 (by kernel_rfl)) ?_
    rintro _ w23 ⟨A23, rfl, h23⟩
    refine wl_p 1 [(11, (Value.slice A23 0 0))] (by kernel_rfl) ?_
    refine wl_end rfl ?_
    refine seq_n hK22 ?_
    refine wp_seq_k ?_
    intro K24 hK24
    refine wp_seq_k ?_
    intro K25 hK25
    refine reg_lit ?_
    refine wl_p 1 [(12, (Value.int .i64 0))] (by kernel_rfl) ?_
    refine wl_end rfl ?_
    refine seq_n hK25 ?_
    refine wp_block ?_
    refine wp_loopm (fun m x a wL => ∃ (i : Nat) (ys : List Bytes) (B : Option Addr) (d : Nat), (ys = findTo L (i)) ∧ (i + 15 ≤ L.length) ∧ ((ys : List Bytes).length ≤ i) ∧ m = L.length - (i) ∧ a = (⟨#[(Value.slice A b.length c), (Value.int .u8 (ub k)), (Value.int .i64 n), (Value.int .i64 ((q : Int))), undef, undef, undef, undef, (Value.bool false), (pt g12 0), (Value.slice A21 (b.length + 16) c21), (Value.slice B ys.length d), (Value.int .i64 ((i : Int))), (x 13), (x 14), undef, undef, undef, undef, undef, undef, undef, undef, (Value.bool true), (Value.bool false), (Value.slice A b.length c), (Value.int .i64 ((b.length : Int))), (Value.bool (decide ((b.length : Int) > 200))), (Value.int .u8 (ub k)), (Value.int .i64 n), (Value.int .i64 ((M10 : Int))), (Value.agg (vb (kl K11)).toArray), (Value.int .i64 t), (Value.int .i64 ((M15 : Int))), (Value.slice A b.length c), (Value.int .i64 ((b.length : Int))), (Value.int .i64 ((b.length : Int) + 1)), (Value.int .i64 ((q : Int))), (Value.slice A18 0 0), (Value.slice A b.length c), (Value.int .i64 ((q : Int))), (cutS (Value.slice A b.length c) 0 q), (Value.slice A19 q c19), (Value.slice (some ⟨g12, 0, none⟩) 16 16), (Value.slice A20 (q + 16) c20), (Value.slice A b.length c), (Value.int .i64 ((q : Int))), (cutS (Value.slice A b.length c) q ((b).length)), (Value.slice A21 (b.length + 16) c21), (Value.slice A23 0 0), (x 50), (x 51), (x 52), (x 53), (x 54), (x 55), (x 56), (x 57), (x 58), (x 59), (x 60), (x 61), (x 62), (x 63), (x 64), (x 65), (x 66), (x 67), (x 68), (x 69), (x 70), (x 71), (x 72), (x 73), undef, undef, undef, undef, undef, undef, undef, undef, undef, undef, undef, undef, undef, undef, undef, undef, undef, undef, undef, undef, undef, undef, undef, undef, undef, undef, undef, undef, undef, undef, undef, undef, undef, undef, undef, undef, undef, undef, undef, undef, undef, undef, undef, undef, undef, undef], []⟩ : Act) ∧ Hp (fun _ => False) w wL [rSB ((Value.slice A b.length c)) b] [rOV 22 16 ((Value.slice B ys.length d)) (ys.map vb), rOB ((Value.slice A21 (b.length + 16) c21)) L]) ⟨_, 0, ([]), A23, 0, rfl, (by omega), (by simp), rfl, (by kernel_rfl), h23.sel [0, 1] [0] (by kernel_rfl) rfl rfl⟩ ?_
    rintro _ x26 _ w26 ⟨i, ys, B, d, hys, hi, hyl, rfl, rfl, h26⟩
    refine wp_seq_k ?_
    intro K27 hK27
    refine wp_seq_k ?_
    intro K28 hK28
    refine reg_lit ?_
    refine wl_p 1 [(50, (Value.int .i64 ((i : Int))))] (by kernel_rfl) ?_
    refine wl_v (by kernel_rfl) (.int .i64 ((i : Int) + 16)) (exec_add _ _ _ _ rfl ((i : Int)) 16 (by kernel_rfl) (by kernel_rfl) ((i : Int) + 16) rfl (by omega) (by omega) _) ?_
    refine wl_p 3 [(52, (Value.slice A21 (b.length + 16) c21)), (53, (Value.int .i64 ((b.length + 16 : Int)))), (54, (Value.bool (decide ((i : Int) + 16 ≤ (b.length + 16 : Int)))))] (by kernel_rfl) ?_
    refine wl_end rfl ?_
    refine seq_n hK28 ?_
    refine wp_if ((i : Int) + 16 ≤ (b.length + 16 : Int)) (by kernel_rfl) (fun b29 => ?_) (fun b29 => ?_)
    ·
      refine wp_skip ?_
      refine seq_n hK27 ?_
      refine wp_seq_k ?_
      intro K30 hK30
      refine wp_block ?_
      refine wp_seq_k ?_
      intro K31 hK31
      rcases hom : markOf ((L.take (i + 16)).drop i) with _ | ⟨kd, m⟩
      ·
        refine reg_lit ?_
        refine wl_p 3 [(58, (Value.slice A21 (b.length + 16) c21)), (59, (Value.int .i64 ((i : Int)))), (60, (Value.int .i64 ((i : Int))))] (by kernel_rfl) ?_
        refine wl_v (by kernel_rfl) (.int .i64 ((i : Int) + 16)) (exec_add _ _ _ _ rfl ((i : Int)) 16 (by kernel_rfl) (by kernel_rfl) ((i : Int) + 16) rfl (by omega) (by omega) _) ?_
        refine wl_v (by kernel_rfl) (cutS (Value.slice A21 (b.length + 16) c21) i ((i) + 16)) (e_cut_lh (OB.sb (h26.at_ 1 rfl)) (.tmp 58) (.tmp 59) (.tmp 61) (by kernel_rfl) (by kernel_rfl) .i64 .i64 i ((i) + 16) (by kernel_rfl) (by kernel_rfl) (by omega) (by omega) _) ?_
        refine wl_to (by kernel_rfl) (x_plain h26 (((L).take ((i) + 16)).drop i) (cutS (Value.slice A21 (b.length + 16) c21) i ((i) + 16)) (by kernel_rfl) (SB.cut (OB.sb (h26.at_ 1 rfl)) i ((i) + 16) (by omega)) (Value.tuple #[(Value.int .u8 0), (Value.int .i64 0)]) (by rw [hom]; kernel_rfl)) ?_
        rintro _ w33 ⟨rfl, h33⟩
        refine wl_p 5 [(57, (Value.tuple #[(Value.int .u8 0), (Value.int .i64 0)])), (64, (Value.int .u8 0)), (65, (Value.int .i64 0)), (13, (Value.int .u8 0)), (14, (Value.int .i64 0))] (by kernel_rfl) ?_
        refine wl_end rfl ?_
        refine seq_n hK31 ?_
        refine wp_seq_k ?_
        intro K34 hK34
        refine reg_lit ?_
        refine wl_p 1 [(66, (Value.int .u8 0))] (by kernel_rfl) ?_
        refine wl_p 1 [(67, (Value.bool false))] (by kernel_rfl) ?_
        refine wl_end rfl ?_
        refine seq_n hK34 ?_
        refine wp_cond_false (by kernel_rfl) ?_
        refine wp_skip ?_
        refine blk_n ?_
        refine seq_n hK30 ?_
        refine reg_lit ?_
        refine wl_p 1 [(55, (Value.int .i64 ((i : Int))))] (by kernel_rfl) ?_
        refine wl_v (by kernel_rfl) (.int .i64 ((i : Int) + 1)) (exec_add _ _ _ _ rfl ((i : Int)) 1 (by kernel_rfl) (by kernel_rfl) ((i : Int) + 1) rfl (by omega) (by omega) _) ?_
        refine wl_p 1 [(12, (Value.int .i64 ((i : Int) + 1)))] (by kernel_rfl) ?_
        refine wl_end rfl ?_
        refine ⟨L.length - (i + 1), (by omega), (i + 1), ys, B, d, (by rw [findTo_succ, hom, hys]; rfl), (by omega), (by omega), rfl, (by kernel_rfl), h33.sel [0, 1] [0] (by kernel_rfl) rfl rfl⟩
      ·
        refine reg_lit ?_
        refine wl_p 3 [(58, (Value.slice A21 (b.length + 16) c21)), (59, (Value.int .i64 ((i : Int)))), (60, (Value.int .i64 ((i : Int))))] (by kernel_rfl) ?_
        refine wl_v (by kernel_rfl) (.int .i64 ((i : Int) + 16)) (exec_add _ _ _ _ rfl ((i : Int)) 16 (by kernel_rfl) (by kernel_rfl) ((i : Int) + 16) rfl (by omega) (by omega) _) ?_
        refine wl_v (by kernel_rfl) (cutS (Value.slice A21 (b.length + 16) c21) i ((i) + 16)) (e_cut_lh (OB.sb (h26.at_ 1 rfl)) (.tmp 58) (.tmp 59) (.tmp 61) (by kernel_rfl) (by kernel_rfl) .i64 .i64 i ((i) + 16) (by kernel_rfl) (by kernel_rfl) (by omega) (by omega) _) ?_
        refine wl_to (by kernel_rfl) (x_plain h26 (((L).take ((i) + 16)).drop i) (cutS (Value.slice A21 (b.length + 16) c21) i ((i) + 16)) (by kernel_rfl) (SB.cut (OB.sb (h26.at_ 1 rfl)) i ((i) + 16) (by omega)) (Value.tuple #[(Value.int .u8 (ub kd)), (Value.int .i64 ((m : Int)))]) (by rw [hom]; rfl)) ?_
        rintro _ w35 ⟨rfl, h35⟩
        refine wl_p 5 [(57, (Value.tuple #[(Value.int .u8 (ub kd)), (Value.int .i64 ((m : Int)))])), (64, (Value.int .u8 (ub kd))), (65, (Value.int .i64 ((m : Int)))), (13, (Value.int .u8 (ub kd))), (14, (Value.int .i64 ((m : Int))))] (by kernel_rfl) ?_
        refine wl_end rfl ?_
        refine seq_n hK31 ?_
        refine wp_seq_k ?_
        intro K36 hK36
        refine reg_lit ?_
        refine wl_p 1 [(66, (Value.int .u8 (ub kd)))] (by kernel_rfl) ?_
        refine wl_v (by kernel_rfl) (.bool true) (e_is (v := (Value.bool ((ub kd) != 0))) (by kernel_rfl) (congrArg Value.bool (kd_ne (markOf_spec hom).2.1))) ?_
        refine wl_end rfl ?_
        refine seq_n hK36 ?_
        refine wp_cond_true (by kernel_rfl) ?_
        refine reg_lit ?_
        refine wl_p 3 [(68, (Value.slice B ys.length d)), (69, (Value.int .u8 (ub kd))), (70, (Value.int .i64 ((m : Int))))] (by kernel_rfl) ?_
        have hm40 := (markOf_spec hom).2.2.1
        refine wl_to (by kernel_rfl) (x_lmark h35 kd (m) (by kernel_rfl) (by omega)) ?_
        rintro _ w37 ⟨K37, rfl, hK37, h37⟩
        refine wl_to (by kernel_rfl) (x_bs h37 22 (vb (kl K37)) 1 (by kernel_rfl)) ?_
        rintro _ w38 ⟨g38, rfl, h38⟩
        refine wl_to (by kernel_rfl) (x_pushG h38 1 0 rfl rfl (by kernel_rfl) (.tmp 68) (.tmp 72) 37 (by kernel_rfl) 16 (Value.agg (vb (List.replicate 16 0)).toArray) (by kernel_rfl) (by kernel_rfl) (by kernel_rfl) (by kernel_rfl) (by kernel_rfl) 1 (by kernel_rfl) (by kernel_rfl) (by kernel_rfl) (by simp; omega) (by unfold maxLen; simp; omega) ((ys ++ [kl K37]).map vb) ((ys ++ [kl K37]).length) (by simp) (by simp)) ?_
        rintro _ w39 ⟨A39, c39, rfl, h39⟩
        refine wl_p 1 [(11, (Value.slice A39 ((ys ++ [kl K37]).length) c39))] (by kernel_rfl) ?_
        refine wl_end rfl ?_
        refine blk_n ?_
        refine seq_n hK30 ?_
        refine reg_lit ?_
        refine wl_p 1 [(55, (Value.int .i64 ((i : Int))))] (by kernel_rfl) ?_
        refine wl_v (by kernel_rfl) (.int .i64 ((i : Int) + 1)) (exec_add _ _ _ _ rfl ((i : Int)) 1 (by kernel_rfl) (by kernel_rfl) ((i : Int) + 1) rfl (by omega) (by omega) _) ?_
        refine wl_p 1 [(12, (Value.int .i64 ((i : Int) + 1)))] (by kernel_rfl) ?_
        refine wl_end rfl ?_
        refine ⟨L.length - (i + 1), (by omega), (i + 1), (ys ++ [kl K37]), A39, c39, (by rw [findTo_succ, hom]; show _ = findTo L i ++ _; rw [hys, hK37, ← (markOf_spec hom).2.2.2]), (by omega), (by simp; omega), rfl, (by kernel_rfl), h39.sel [1, 2] [0] (by kernel_rfl) rfl rfl⟩
    ·
      refine wp_exit ?_
      refine seq_e ?_
      refine seq_e ?_
      refine blk_e ?_
      refine seq_n hK24 ?_
      refine wp_seq_k ?_
      intro K40 hK40
      refine reg_lit ?_
      refine wl_p 1 [(74, (Value.slice A21 (b.length + 16) c21))] (by kernel_rfl) ?_
      have hyf : ys = findB L := by rw [hys]; unfold findB; congr 1; omega
      have hyl2 : ys.length = (findB L).length := by rw [hyf]
      refine wl_to (by kernel_rfl) (x_find h26 L (Value.slice A21 (b.length + 16) c21) (by kernel_rfl) (OB.sb (h26.at_ 1 rfl)) (by omega)) ?_
      rintro _ w41 ⟨A41, c41, rfl, h41⟩
      refine wl_p 1 [(15, (Value.slice A41 ((findB L).length) c41))] (by kernel_rfl) ?_
      refine wl_end rfl ?_
      refine seq_n hK40 ?_
      refine wp_seq_k ?_
      intro K42 hK42
      refine wp_seq_k ?_
      intro K43 hK43
      refine reg_lit ?_
      refine wl_p 4 [(76, (Value.slice A41 ((findB L).length) c41)), (77, (Value.int .i64 (((findB L).length : Int)))), (78, (Value.slice B ys.length d)), (79, (Value.int .i64 ((ys.length : Int))))] (by kernel_rfl) ?_
      refine wl_v (by kernel_rfl) (.bool false) (e_is (v := (Value.bool ((((findB L).length : Int)) != ((ys.length : Int))))) (by kernel_rfl) (by simp [hyl2])) ?_
      refine wl_end rfl ?_
      refine seq_n hK43 ?_
      refine wp_cond_false (by kernel_rfl) ?_
      refine wp_skip ?_
      refine seq_n hK42 ?_
      refine wp_seq_k ?_
      intro K44 hK44
      refine wp_seq_k ?_
      intro K45 hK45
      refine reg_lit ?_
      refine wl_p 3 [(81, (Value.slice A41 ((findB L).length) c41)), (82, (Value.int .i64 (((findB L).length : Int)))), (83, (Value.int .i64 0))] (by kernel_rfl) ?_
      refine wl_end rfl ?_
      refine seq_n hK45 ?_
      refine wp_block ?_
      refine wp_loopm (fun m x a wL => ∃ (j : Nat), (j ≤ (findB L).length) ∧ m = (findB L).length - (j) ∧ a = (⟨#[(Value.slice A b.length c), (Value.int .u8 (ub k)), (Value.int .i64 n), (Value.int .i64 ((q : Int))), undef, undef, undef, undef, (x 8), (pt g12 0), (Value.slice A21 (b.length + 16) c21), (Value.slice B ys.length d), (Value.int .i64 ((i : Int))), (x26 13), (x26 14), (Value.slice A41 ((findB L).length) c41), (x 16), (x 17), undef, undef, undef, undef, undef, (Value.bool true), (Value.bool false), (Value.slice A b.length c), (Value.int .i64 ((b.length : Int))), (Value.bool (decide ((b.length : Int) > 200))), (Value.int .u8 (ub k)), (Value.int .i64 n), (Value.int .i64 ((M10 : Int))), (Value.agg (vb (kl K11)).toArray), (Value.int .i64 t), (Value.int .i64 ((M15 : Int))), (Value.slice A b.length c), (Value.int .i64 ((b.length : Int))), (Value.int .i64 ((b.length : Int) + 1)), (Value.int .i64 ((q : Int))), (Value.slice A18 0 0), (Value.slice A b.length c), (Value.int .i64 ((q : Int))), (cutS (Value.slice A b.length c) 0 q), (Value.slice A19 q c19), (Value.slice (some ⟨g12, 0, none⟩) 16 16), (Value.slice A20 (q + 16) c20), (Value.slice A b.length c), (Value.int .i64 ((q : Int))), (cutS (Value.slice A b.length c) q ((b).length)), (Value.slice A21 (b.length + 16) c21), (Value.slice A23 0 0), (Value.int .i64 ((i : Int))), (Value.int .i64 ((i : Int) + 16)), (Value.slice A21 (b.length + 16) c21), (Value.int .i64 ((b.length + 16 : Int))), (Value.bool (decide ((i : Int) + 16 ≤ (b.length + 16 : Int)))), (x26 55), (x26 56), (x26 57), (x26 58), (x26 59), (x26 60), (x26 61), (x26 62), (x26 63), (x26 64), (x26 65), (x26 66), (x26 67), (x26 68), (x26 69), (x26 70), (x26 71), (x26 72), (x26 73), (Value.slice A21 (b.length + 16) c21), (Value.slice A41 ((findB L).length) c41), (Value.slice A41 ((findB L).length) c41), (Value.int .i64 (((findB L).length : Int))), (Value.slice B ys.length d), (Value.int .i64 ((ys.length : Int))), (Value.bool false), (Value.slice A41 ((findB L).length) c41), (Value.int .i64 (((findB L).length : Int))), (Value.int .i64 ((j : Int))), (x 84), (x 85), (x 86), (x 87), (x 88), (x 89), (x 90), (x 91), (x 92), (x 93), (x 94), undef, undef, undef, undef, undef, undef, undef, undef, undef, undef, undef, undef, undef, undef, undef, undef, undef, undef, undef, undef, undef, undef, undef, undef, undef], []⟩ : Act) ∧ Hp (fun _ => False) w wL [rSB ((Value.slice A b.length c)) b] [rOV 42 16 ((Value.slice A41 ((findB L).length) c41)) ((findB L).map vb), rOV 22 16 ((Value.slice B ys.length d)) (ys.map vb)]) ⟨_, 0, (by omega), rfl, (by kernel_rfl), h41.sel [0, 1] [0] (by kernel_rfl) rfl rfl⟩ ?_
      rintro _ x46 _ w46 ⟨j, hj, rfl, rfl, h46⟩
      refine wp_seq_k ?_
      intro K47 hK47
      refine reg_lit ?_
      refine wl_p 1 [(84, (Value.bool (decide ((j : Int) < ((findB L).length : Int)))))] (by kernel_rfl) ?_
      refine wl_end rfl ?_
      refine seq_n hK47 ?_
      refine wp_seq_k ?_
      intro K48 hK48
      refine wp_if ((j : Int) < ((findB L).length : Int)) (by kernel_rfl) (fun b49 => ?_) (fun b49 => ?_)
      ·
        refine wp_skip ?_
        refine seq_n hK48 ?_
        refine wp_seq_k ?_
        intro K50 hK50
        refine wp_block ?_
        refine wp_seq_k ?_
        intro K51 hK51
        obtain ⟨Kj, hKj⟩ := findB_kl L j (by omega)
        refine reg_lit ?_
        refine wl_p 1 [(85, (Value.int .i64 ((j : Int))))] (by kernel_rfl) ?_
        refine wl_v (by kernel_rfl) (eAt A41 (j * 16 + 0)) (e_idxN (OV.rvn (h46.at_ 0 rfl)).2 j ((findB L).length) (OV.rvn (h46.at_ 0 rfl)).1 (by omega) 40 (.tmp 81) (.tmp 83) (by kernel_rfl) .i64 (by kernel_rfl) (by kernel_rfl) 42 (by kernel_rfl) (by kernel_rfl) _) ?_
        refine wl_v (by kernel_rfl) (Value.agg (vb (kl Kj)).toArray) (e_elemsN (OV.rvn (h46.at_ 0 rfl)).2 j 0 (vb (kl Kj)) (map_vb_get hKj) 42 (.tmp 86) (by kernel_rfl) (vb (kl Kj)) (by kernel_rfl) (by kernel_rfl) (by kernel_rfl)) ?_
        refine wl_to (by kernel_rfl) (x_new h46 42 (vb (List.replicate 16 0)) (fun r => pt r 0) (by kernel_rfl)) ?_
        rintro _ w52 ⟨g52, rfl, h52⟩
        refine wl_p 1 [(16, (Value.int .i64 ((j : Int))))] (by kernel_rfl) ?_
        refine wl_to (by kernel_rfl) (x_stores h52 0 rfl 42 (.tmp 17) (.tmp 87) (by kernel_rfl) 0 (vb (kl Kj)) (vb (kl Kj)) (by kernel_rfl) (by kernel_rfl) (by kernel_rfl) (by kernel_rfl) (by kernel_rfl) (by kernel_rfl)) ?_
        rintro _ w53 h53
        refine wl_end rfl ?_
        refine seq_n hK51 ?_
        refine wp_seq_k ?_
        intro K54 hK54
        refine pH_go h53 6 (fun W => (rBlk g52 42 (vb (kl Kj))).Φ W ∧ (rOV 22 16 ((Value.slice B ys.length d)) (ys.map vb)).Φ W ∧ True) (by kernel_rfl) rfl ?_
        intro w55 h55
        refine pH_p 4 [1, 2] [(89, (Value.slice B ys.length d)), (90, (Value.int .i64 ((j : Int))))] rfl (by kernel_rfl) (by kernel_rfl) (fun _ d _ _ _ h => by cases d <;> exact h) ⟨h55.at_ 0 rfl, h55.at_ 2 rfl, trivial⟩ (by kernel_rfl) ?_
        refine pH_v 3 (some 91) (eAt B (j * 16 + 0)) rfl rfl (by kernel_rfl) (by kernel_rfl) (by kernel_rfl) (by kernel_rfl) (by kernel_rfl) (fun _ d _ _ _ h => by cases d <;> exact h) (by kernel_rfl) ⟨h55.at_ 0 rfl, h55.at_ 2 rfl, trivial⟩ (fun W hW => e_idxN (OV.rvn (h55.at_ 2 rfl)).2 j ys.length (OV.rvn (h55.at_ 2 rfl)).1 (by omega) 37 (.tmp 89) (.tmp 90) (by kernel_rfl) .i64 (by kernel_rfl) (by kernel_rfl) 22 (by kernel_rfl) (by kernel_rfl) _) ?_
        refine pH_v 0 (some 88) (Value.agg (vb (kl Kj)).toArray) rfl rfl (by kernel_rfl) (by kernel_rfl) (by kernel_rfl) (by kernel_rfl) (by kernel_rfl) (fun _ d _ _ _ h => by cases d <;> exact h) (by kernel_rfl) ⟨h55.at_ 0 rfl, h55.at_ 2 rfl, trivial⟩ (fun W hW => e_loads hW.1 42 (.tmp 17) (by kernel_rfl) 0 (vb (kl Kj)) (by kernel_rfl) (by kernel_rfl) (by kernel_rfl)) ?_
        refine pH_v 4 (some 92) (Value.agg (vb (kl Kj)).toArray) rfl rfl (by kernel_rfl) (by kernel_rfl) (by kernel_rfl) (by kernel_rfl) (by kernel_rfl) (fun _ d _ _ _ h => by cases d <;> exact h) (by kernel_rfl) ⟨h55.at_ 0 rfl, h55.at_ 2 rfl, trivial⟩ (fun W hW => e_elemsN (OV.rvn hW.2.1).2 j 0 (vb (kl Kj)) (map_vb_get (hyf ▸ hKj)) 22 (.tmp 91) (by kernel_rfl) (vb (kl Kj)) (by kernel_rfl) (by kernel_rfl) (by kernel_rfl)) ?_
        refine pH_v 5 (some 93) (Value.bool false) rfl rfl (by kernel_rfl) (by kernel_rfl) (by kernel_rfl) (by kernel_rfl) (by kernel_rfl) (fun _ d _ _ _ h => by cases d <;> exact h) (by kernel_rfl) ⟨h55.at_ 0 rfl, h55.at_ 2 rfl, trivial⟩ (fun W hW => e_kne Kj Kj 42 42 (.tmp 88) (.tmp 92) (by kernel_rfl) (by kernel_rfl) (by kernel_rfl) (by kernel_rfl) (by kernel_rfl) false (by simp) _) ?_
        refine pH_done (by kernel_rfl) ?_ _
        refine seq_n hK54 ?_
        refine wp_cond_false (by kernel_rfl) ?_
        refine wp_skip ?_
        refine blk_n ?_
        refine seq_n hK50 ?_
        refine reg_lit ?_
        refine wl_v (by kernel_rfl) (.int .i64 ((j : Int) + 1)) (exec_add _ _ _ _ rfl ((j : Int)) 1 (by kernel_rfl) (by kernel_rfl) ((j : Int) + 1) rfl (by omega) (by omega) _) ?_
        refine wl_p 1 [(83, (Value.int .i64 ((j : Int) + 1)))] (by kernel_rfl) ?_
        refine wl_end rfl ?_
        refine ⟨(findB L).length - (j + 1), (by omega), (j + 1), (by omega), rfl, (by kernel_rfl), h55.sel [1, 2] [0] (by kernel_rfl) rfl rfl⟩
      ·
        refine wp_exit ?_
        refine seq_e ?_
        refine seq_e ?_
        refine blk_e ?_
        refine seq_n hK44 ?_
        refine wp_seq_k ?_
        intro K56 hK56
        rcases hom : markOf b with _ | ⟨kd, m⟩
        ·
          refine reg_lit ?_
          refine wl_p 1 [(96, (Value.slice A b.length c))] (by kernel_rfl) ?_
          refine wl_to (by kernel_rfl) (x_Mark h46 b (Value.slice A b.length c) (by kernel_rfl) (h46.rd 0 rfl) (Value.tuple #[(Value.int .u8 0), (Value.int .i64 0), (Value.bool false)]) (by rw [hom]; kernel_rfl)) ?_
          rintro _ w58 ⟨rfl, h58⟩
          refine wl_p 7 [(95, (Value.tuple #[(Value.int .u8 0), (Value.int .i64 0), (Value.bool false)])), (98, (Value.int .u8 0)), (99, (Value.int .i64 0)), (100, (Value.bool false)), (18, (Value.int .u8 0)), (19, (Value.int .i64 0)), (20, (Value.bool false))] (by kernel_rfl) ?_
          refine wl_end rfl ?_
          refine seq_n hK56 ?_
          refine wp_seq_k ?_
          intro K59 hK59
          refine reg_lit ?_
          refine wl_p 1 [(102, (Value.slice A b.length c))] (by kernel_rfl) ?_
          refine wl_to (by kernel_rfl) (x_plain h58 b (Value.slice A b.length c) (by kernel_rfl) (h58.rd 0 rfl) (Value.tuple #[(Value.int .u8 0), (Value.int .i64 0)]) (by rw [hom]; kernel_rfl)) ?_
          rintro _ w60 ⟨rfl, h60⟩
          refine wl_p 5 [(101, (Value.tuple #[(Value.int .u8 0), (Value.int .i64 0)])), (104, (Value.int .u8 0)), (105, (Value.int .i64 0)), (21, (Value.int .u8 0)), (22, (Value.int .i64 0))] (by kernel_rfl) ?_
          refine wl_end rfl ?_
          refine seq_n hK59 ?_
          refine wp_seq_k ?_
          intro K61 hK61
          refine reg_lit ?_
          refine wl_p 2 [(106, (Value.bool false)), (107, (Value.int .u8 0))] (by kernel_rfl) ?_
          refine wl_p 1 [(108, (Value.bool false))] (by kernel_rfl) ?_
          refine wl_p 12 [(109, (Value.bool true)), (110, (Value.bool true)), (111, (Value.int .u8 0)), (112, (Value.int .u8 0)), (113, (Value.bool true)), (114, (Value.bool true)), (115, (Value.bool true)), (116, (Value.int .i64 0)), (117, (Value.int .i64 0)), (118, (Value.bool true)), (119, (Value.bool true)), (8, (Value.bool true))] (by kernel_rfl) ?_
          refine wl_end rfl ?_
          refine seq_n hK61 ?_
          refine wp_ret ?_
          refine post_1 rfl (by kernel_rfl) (rtmp (v := (Value.bool true)) (by kernel_rfl)) ?_
          exact ⟨rfl, h60.below0⟩
        ·
          refine reg_lit ?_
          refine wl_p 1 [(96, (Value.slice A b.length c))] (by kernel_rfl) ?_
          refine wl_to (by kernel_rfl) (x_Mark h46 b (Value.slice A b.length c) (by kernel_rfl) (h46.rd 0 rfl) (Value.tuple #[(Value.int .u8 (ub kd)), (Value.int .i64 ((m : Int))), (Value.bool true)]) (by rw [hom]; rfl)) ?_
          rintro _ w62 ⟨rfl, h62⟩
          refine wl_p 7 [(95, (Value.tuple #[(Value.int .u8 (ub kd)), (Value.int .i64 ((m : Int))), (Value.bool true)])), (98, (Value.int .u8 (ub kd))), (99, (Value.int .i64 ((m : Int)))), (100, (Value.bool true)), (18, (Value.int .u8 (ub kd))), (19, (Value.int .i64 ((m : Int)))), (20, (Value.bool true))] (by kernel_rfl) ?_
          refine wl_end rfl ?_
          refine seq_n hK56 ?_
          refine wp_seq_k ?_
          intro K63 hK63
          refine reg_lit ?_
          refine wl_p 1 [(102, (Value.slice A b.length c))] (by kernel_rfl) ?_
          refine wl_to (by kernel_rfl) (x_plain h62 b (Value.slice A b.length c) (by kernel_rfl) (h62.rd 0 rfl) (Value.tuple #[(Value.int .u8 (ub kd)), (Value.int .i64 ((m : Int)))]) (by rw [hom]; rfl)) ?_
          rintro _ w64 ⟨rfl, h64⟩
          refine wl_p 5 [(101, (Value.tuple #[(Value.int .u8 (ub kd)), (Value.int .i64 ((m : Int)))])), (104, (Value.int .u8 (ub kd))), (105, (Value.int .i64 ((m : Int)))), (21, (Value.int .u8 (ub kd))), (22, (Value.int .i64 ((m : Int))))] (by kernel_rfl) ?_
          refine wl_end rfl ?_
          refine seq_n hK63 ?_
          refine wp_seq_k ?_
          intro K65 hK65
          refine reg_lit ?_
          refine wl_p 2 [(106, (Value.bool true)), (107, (Value.int .u8 (ub kd)))] (by kernel_rfl) ?_
          refine wl_v (by kernel_rfl) (.bool true) (e_is (v := (Value.bool ((ub kd) != 0))) (by kernel_rfl) (congrArg Value.bool (kd_ne (markOf_spec hom).2.1))) ?_
          refine wl_p 4 [(109, (Value.bool true)), (110, (Value.bool true)), (111, (Value.int .u8 (ub kd))), (112, (Value.int .u8 (ub kd)))] (by kernel_rfl) ?_
          refine wl_v (by kernel_rfl) (Value.bool true) (e_is (v := (Value.bool ((ub kd) == (ub kd)))) (by kernel_rfl) (by simp)) ?_
          refine wl_p 4 [(114, (Value.bool true)), (115, (Value.bool true)), (116, (Value.int .i64 ((m : Int)))), (117, (Value.int .i64 ((m : Int))))] (by kernel_rfl) ?_
          refine wl_v (by kernel_rfl) (Value.bool true) (e_is (v := (Value.bool (((m : Int)) == ((m : Int))))) (by kernel_rfl) (by simp)) ?_
          refine wl_p 2 [(119, (Value.bool true)), (8, (Value.bool true))] (by kernel_rfl) ?_
          refine wl_end rfl ?_
          refine seq_n hK65 ?_
          refine wp_ret ?_
          refine post_1 rfl (by kernel_rfl) (rtmp (v := (Value.bool true)) (by kernel_rfl)) ?_
          exact ⟨rfl, h64.below0⟩
end Go.Proofs.Ytjjcnijdjhhdoaa
end
/-! The row of SymMarks: for every input the law returns true and what came in reads as it did. -/
section
namespace Go.Proofs.Ytjjcnijdjhhdoaa
open Go.ChangeShapes Go.WideShapes Go.ChangeAt Go.RowKit
theorem u8_of {n : Int} (h : (Lit.int .u8 n).wf = true) : ∃ a : UInt8, n = ub a := by
  have := bounds_u8 h
  exact ⟨toB n, by rw [ub_u8 (by omega) (by omega)]⟩
set_option maxRecDepth 100000 in
theorem symMarks_lifted (os : Os) (started : os.Started) (H : Type) (enc : TypeId × Value → H) :
    ReturnsInHanded {} Try.checked os 7 .any (Rows.symMarksSpec.pre6 enc Try.prog Try.f7 Rows.symMarksRow.domain false) (Rows.symMarksSpec.post enc Try.prog Try.f7 false true false false) := by
  refine returnsInHanded_of_change (C := Try.checked) Try.own started (by kernel_rfl) Try.func7
    (ChangeSpec.witness6 (enc := enc) (C := Try.checked) false ⟨#[], #[.slice none 0 0, .int .u8 0, .int .i64 0, .int .i64 0], []⟩ 8 (by kernel_rfl) (by kernel_rfl) (by kernel_rfl) (by kernel_rfl)) ?_
  intro W base args ds gs before hval0 hW hcnd _
  have hval : ∀ (j : Nat) t v, Try.f7.params[j]? = some t → args[j]? = some v → Value.okWide Try.prog W .any base t v := hval0
  have hpost : ∀ W', Below W.heap.size W W' → Rows.symMarksSpec.post enc Try.prog Try.f7 false true false false W args (.bool true) W' := fun W' hb =>
    law_post Try.laidOut (by kernel_rfl) Try.underlying4 rfl rfl (fun ds hds => by
      have hn : ds.length = 4 := hds
      match ds, hn with
      | [_, _, _, _], _ => rfl) hW hb
  obtain ⟨p, q, hA0, hV, rfl, hfz, hnd⟩ := hW
  have hA : DataW.TrodAll enc Try.prog W 0 (fun _ => true) true Try.f7.params.toList args.toList ds p := hA0
  rw [Try.params7] at hA hval
  clear hA0 hval0
  obtain ⟨v0, v1, v2, v3, d0, d1, d2, d3, p0, p1, p2, p3, rfl, rfl, rfl, h0, h1, h2, h3⟩ := trodAll_four hA
  obtain ⟨b0, hb0⟩ := open_bs (hval 0 28 v0 rfl rfl) h0
  obtain ⟨n1, rfl, rfl, rfl, hn1⟩ := open_int (t := 5) (k := .u8) (by kernel_rfl) (hval 1 5 v1 rfl rfl) h1
  obtain ⟨a1, rfl⟩ := u8_of hn1
  obtain ⟨n2, rfl, rfl, rfl, hn2⟩ := open_int (t := 3) (k := .i64) (by kernel_rfl) (hval 2 3 v2 rfl rfl) h2
  obtain ⟨n3, rfl, rfl, rfl, hn3⟩ := open_int (t := 3) (k := .i64) (by kernel_rfl) (hval 3 3 v3 rfl rfl) h3
  refine (symMarks_any v0 b0 a1 n2 n3 W hb0).mono fun e W' ⟨he, hw⟩ => ?_
  subst he
  exact ⟨_, rfl, hpost W' hw⟩
theorem symMarks_holds : Rows.SymMarksSaid :=
  OpenClaim.holds_of_wide 7 Try.f7 rfl rfl rfl rfl rfl rfl rfl ⟨rfl, rfl, rfl, rfl, rfl⟩ rfl rfl rfl rfl rfl (by kernel_rfl) Try.func7 (by kernel_rfl)
    (of_decide_eq_true (by kernel_rfl)) (by unfold Func.isWrapper; first | (rw [if_pos (by decide +kernel)]; kernel_rfl) | (rw [if_neg (by decide +kernel)]; exact ⟨rfl, rfl⟩))
    (fun os started H enc _ => symMarks_lifted os started H enc)
end Go.Proofs.Ytjjcnijdjhhdoaa
end
