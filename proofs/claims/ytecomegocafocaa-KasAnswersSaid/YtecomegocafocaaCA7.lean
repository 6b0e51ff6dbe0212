/- The walk of tick.Value: a fact. -/
import Derived.Test.YtecomegocafocaaCA6
set_option maxRecDepth 100000
set_option maxHeartbeats 4000000
namespace Go.Proofs.Ytecomegocafocaa
section
open Go.Value renaming int -> iV, slice -> lV, string -> sV, bool -> bV, agg -> aV
open Go.RowKit Go.QT
theorem rv_ints {w : World} {g : Nat} {T : TypeId} {cs : List Value} (hb : Blk w g T cs) (l : List Int) (hc : cs = l.map (iV .i64)) (hl : l.length <= 1000) : RV w 1 (some ⟨g, 0, none⟩) l.length (l.map fun x => [iV .i64 x]) := by
 subst hc
 refine ⟨by simp, by unfold maxLen; omega, by simp, fun _ => ⟨g, 0, rfl, hb.lt, fun i x hx j u hu => ?_⟩⟩
 rw [List.getElem?_map] at hx
 cases h : l[i]? with
 | none => rw [h] at hx; cases hx
 | some y =>
   rw [h] at hx
   injection hx with hx
   subst hx
   have hj : j = 0 := by have := (List.getElem?_eq_some_iff.1 hu).1; simpa using this
   subst hj
   rw [show 0 + i * 1 + 0 = i by omega]
   refine (hb.cell _).trans ?_
   rw [List.getElem?_map, h]
   exact hu
theorem x_tiRight {F0 : Nat -> Prop} {w0 w : World} {ro rs : List Res} {o : Oper} {a : Act} (h : Hp F0 w0 w ro rs) (i : Nat) {g : Nat} {T : TypeId} {cs : List Value} (hi : rs[i]? = some (rBlk g T cs)) (s : ByteArray) (hs : s.size <= 1000000000) (l : List Int) (n : Nat) (hc : cs = l.map (iV .i64)) (hn : l.length = n) (hl : n <= 1000)
   (hp : pureVal Try.prog (execOp a.eval o) = some (.enter 53 #[.string s, .slice (some ⟨g, 0, none⟩) n n])) :
   OpTo Try.prog o a w (fun u w' => u = .bool (rightM s l) /\ Hp F0 w0 w' ro rs) := by
 subst hn
 have hb : Blk w g T cs := h.own i _ hi
 refine OpTo.enter 53 [.string s, .slice (some ⟨g, 0, none⟩) l.length l.length] hp (kright_any s hs l _ _ w hl ((Hp.nil (fun _ => False) w).addR _ (rv_ints hb l hc hl) (by simp))) fun e w' hq => ?_
 exact ⟨_, hq.1, rfl, h.below hq.2⟩
theorem vStamp_any (t q : Int) (w : World) : Calls Try.prog 36 #[.iface 49 (.agg [iV .i64 t, .int .i64 q].toArray)] w fun e w' => ∃ g, e = .returned (.tuple #[.agg #[.int .i64 2, .int .i64 5, .int .u64 0, .slice none 0 0, .slice (some ⟨g, 0, none⟩) 2 2], .bool (rightM ⟨#[97]⟩ [t, q])]) /\ Blk w' g 106 (nV t ++ nV q) /\ w.heap.size <= g /\ Below w.heap.size w w' := by
 have h0 := Hp.nil (fun _ => False) w
 refine enter 179 Try.func36 rfl rfl ?_
 refine wp_reset 180 [(0, (Value.iface 49 (aV ([(D t), (D q)]).toArray)))] (fun x0 => ?_)
 refine wR fun K1 hK1 => ?_
 refine wT 2 (xN h0 106 ([O, O, (iV .u64 0), nS, nS])) ?_
 rintro _ w2 ⟨g2, rfl, h2⟩
 refine wq_p 1 [(3, V)] ?_
 refine wE hK1 (wp_seq_k fun K3 hK3 => wR fun K4 hK4 => ?_)
 refine wq_p 1 [(11, (Value.iface 49 (aV ([(D t), (D q)]).toArray)))] ?_
 refine wE hK4 (wp_block (wR fun K5 hK5 => ?_))
 refine wq_p 3 [(14, (aV ([eS, nS]).toArray)), (13, V), (12, (Value.tuple #[(aV ([eS, nS]).toArray), V]))] ?_
 refine wE hK5 (cF (wR fun K6 hK6 => ?_))
 refine wq_p 3 [(28, (aV ([O] ++ vb (List.replicate 16 0) ++ [eS, O, O, O]).toArray)), (27, V), (26, (Value.tuple #[(aV ([O] ++ vb (List.replicate 16 0) ++ [eS, O, O, O]).toArray), V]))] ?_
 refine wE hK6 (cF (wR fun K7 hK7 => ?_))
 refine wq_p 3 [(63, (aV ([O] ++ vb (List.replicate 16 0) ++ [O, eS, O, O, O]).toArray)), (62, V), (61, (Value.tuple #[(aV ([O] ++ vb (List.replicate 16 0) ++ [O, eS, O, O, O]).toArray), V]))] ?_
 refine wE hK7 (cF (wR fun K8 hK8 => ?_))
 refine wq_p 3 [(103, (aV ([eS, O, O] ++ vb (List.replicate 16 0) ++ [nS]).toArray)), (102, V), (101, (Value.tuple #[(aV ([eS, O, O] ++ vb (List.replicate 16 0) ++ [nS]).toArray), V]))] ?_
 refine wE hK8 (cF (wR fun K9 hK9 => ?_))
 refine wq_p 3 [(131, (aV ([(D t), (D q)]).toArray)), (130, I), (129, (Value.tuple #[(aV ([(D t), (D q)]).toArray), I]))] ?_
 refine wE hK9 (cT (wR fun K10 hK10 => ?_))
 refine wT 8 (xN h2 49 ([O, O])) ?_
 rintro _ w11 ⟨g11, rfl, h11⟩
 refine wq_to none (xSs h11 0 49 (.tmp 8) (.tmp 131) 0 ([(D t), (D q)]) ([(D t), (D q)])) ?_
 rintro _ w12 h12
 refine wE hK10 (wp_seq_k fun K13 hK13 => ?_)
 refine wp_reset 180 [(0, (Value.iface 49 (aV ([(D t), (D q)]).toArray))), (2, (pt g2 0)), (3, V), (8, (pt g11 0)), (11, (Value.iface 49 (aV ([(D t), (D q)]).toArray))), (13, V), (14, (aV ([eS, nS]).toArray)), (27, V), (28, (aV ([O] ++ vb (List.replicate 16 0) ++ [eS, O, O, O]).toArray)), (62, V), (63, (aV ([O] ++ vb (List.replicate 16 0) ++ [O, eS, O, O, O]).toArray)), (102, V), (103, (aV ([eS, O, O] ++ vb (List.replicate 16 0) ++ [nS]).toArray)), (130, I), (131, (aV ([(D t), (D q)]).toArray))] (fun x14 => ?_)
 refine pR_go h12 15 (fun W => (rBlk g11 49 ([(D t), (D q)])).Φ W /\ True) [(133, [8], 0), (134, [132], 1), (135, [133], 2), (136, [8], 0), (137, [135], 8), (138, [136], 20), (139, [134, 137], 36), (140, [138], 96), (141, [8], 0), (142, [140], 256), (143, [8], 0), (144, [142], 1024), (145, [141, 143], 2560), (146, [144], 4224), (0, [2, 139], 8447), (4, [145], 32767)] rfl (fun _ d _ _ _ h => by cases d <;> exact h) ?_
 intro hs15 w15 h15
 refine pR_p 12 [0, 3, 8, 10] [(142, (pt g11 1)), (140, (pt g11 0)), (135, (pt g11 1)), (132, (pt g11 0))] 1289 hs15 ⟨h15.at_ 0 rfl, trivial⟩ ?_
 refine pR_v 1 (some 133) (D t) 1291 rfl hs15 ⟨h15.at_ 0 rfl, trivial⟩ (fun W hW => eL hW.1 2 (.tmp 132) 0 _) ?_
 refine pR_v 4 (some 136) (D q) 1307 rfl hs15 ⟨h15.at_ 0 rfl, trivial⟩ (fun W hW => eL hW.1 2 (.tmp 135) 1 _) ?_
 refine pR_v 9 (some 141) (D t) 1819 rfl hs15 ⟨h15.at_ 0 rfl, trivial⟩ (fun W hW => eL hW.1 2 (.tmp 140) 0 _) ?_
 refine pR_v 11 (some 143) (D q) 3867 rfl hs15 ⟨h15.at_ 0 rfl, trivial⟩ (fun W hW => eL hW.1 2 (.tmp 142) 1 _) ?_
 refine pR_or 2 12 hs15 ?_ ?_
 ·
  refine pR_op 2 (some 134) 3871 rfl (x_dp h15 54 [(D t)] (by kernel_rfl) (knum_any t _)) ?_
  rintro _ w16 ⟨rfl, h16⟩
  refine ⟨fun _ => ⟨h16.at_ 0 rfl, trivial⟩, ?_⟩
  refine pR_or 5 12 hs15 ?_ ?_
  ·
   refine pR_op 5 (some 137) 3903 rfl (x_dp h16 54 [(D q)] (by kernel_rfl) (knum_any q _)) ?_
   rintro _ w17 ⟨rfl, h17⟩
   refine ⟨fun _ => ⟨h17.at_ 0 rfl, trivial⟩, ?_⟩
   refine pR_or 6 12 hs15 ?_ ?_
   ·
    refine pR_op 6 (some 138) 3967 rfl (x_bs h17 106 ([O, O, (iV .u64 ((IntKind.u64.wrap t))), nS, nS, O, O, (iV .u64 ((IntKind.u64.wrap q))), nS, nS]) 2 (by kernel_rfl)) ?_
    rintro _ w18 ⟨g18, rfl, h18⟩
    refine ⟨fun _ => ⟨h18.at_ 1 rfl, trivial⟩, ?_⟩
    refine pR_or 7 12 hs15 ?_ ?_
    ·
     refine pR_op 7 (some 139) 4095 rfl (x_dp h18 50 [(D 5), (lV (some ⟨g18, 0, none⟩) 2 2)] (by kernel_rfl) (dseq_any 5 (some ⟨g18, 0, none⟩) 2 2 _)) ?_
     rintro _ w19 ⟨rfl, h19⟩
     refine ⟨fun _ => ⟨h19.at_ 1 rfl, trivial⟩, ?_⟩
     refine pR_to 12 (some 144) 8191 rfl hs15 (x_bs h19 2 ([(D t), (D q)]) 2 (by kernel_rfl)) ?_
     rintro _ w20 ⟨g20, rfl, h20⟩
     refine ⟨fun _ => ⟨h20.at_ 2 rfl, trivial⟩, ?_⟩
     refine pR_to 13 (some 145) 16383 rfl hs15 (x_tiRight h20 0 rfl (⟨#[97]⟩) (by decide) [t, q] 2 rfl rfl (by decide) (by kernel_rfl)) ?_
     rintro _ w21 ⟨rfl, h21⟩
     refine ⟨fun _ => ⟨h21.at_ 2 rfl, trivial⟩, ?_⟩
     refine pR_to 14 none 32767 rfl hs15 (xSs h21 3 106 (.tmp 2) (.tmp 139) 0 ([(D 2), (D 5), (iV .u64 0), nS, (lV (some ⟨g18, 0, none⟩) 2 2)]) ([(D 2), (D 5), (iV .u64 0), nS, (lV (some ⟨g18, 0, none⟩) 2 2)])) ?_
     rintro _ w22 h22
     refine ⟨fun _ => ⟨h22.at_ 2 rfl, trivial⟩, ?_⟩
     refine pR_to 15 (some 3) 65535 rfl hs15 (OpTo.run (bV (rightM (⟨#[97]⟩) [t, q])) (pureOp_run (by kernel_rfl) _) (R := fun v w => v = (bV (rightM (⟨#[97]⟩) [t, q])) /\ w22 = w) ⟨rfl, rfl⟩) ?_
     rintro _ _ ⟨rfl, rfl⟩
     refine ⟨fun h => absurd h (by decide), ?_⟩
     refine pR_done hs15 ?_ _
     refine seq_n hK13 (wp_ret (blk_r (seq_r ?_)))
     refine post_2 rfl (by kernel_rfl) (rce (h22.at_ 3 rfl)) (rtm (bV (rightM (⟨#[97]⟩) [t, q]))) ?_
     exact ⟨g18, rfl, h22.at_ 1 rfl, (h22.mine 1 _ rfl _ rfl).elim (fun h => h.elim) id, h22.below0⟩
    ·
     refine pR_op 12 (some 144) 8063 rfl (x_bs h18 2 ([(D t), (D q)]) 2 (by kernel_rfl)) ?_
     rintro _ w23 ⟨g23, rfl, h23⟩
     refine ⟨fun _ => ⟨h23.at_ 2 rfl, trivial⟩, ?_⟩
     refine pR_to 7 (some 139) 8191 rfl hs15 (x_dp h23 50 [(D 5), (lV (some ⟨g18, 0, none⟩) 2 2)] (by kernel_rfl) (dseq_any 5 (some ⟨g18, 0, none⟩) 2 2 _)) ?_
     rintro _ w24 ⟨rfl, h24⟩
     refine ⟨fun _ => ⟨h24.at_ 2 rfl, trivial⟩, ?_⟩
     refine pR_to 13 (some 145) 16383 rfl hs15 (x_tiRight h24 0 rfl (⟨#[97]⟩) (by decide) [t, q] 2 rfl rfl (by decide) (by kernel_rfl)) ?_
     rintro _ w25 ⟨rfl, h25⟩
     refine ⟨fun _ => ⟨h25.at_ 2 rfl, trivial⟩, ?_⟩
     refine pR_to 14 none 32767 rfl hs15 (xSs h25 3 106 (.tmp 2) (.tmp 139) 0 ([(D 2), (D 5), (iV .u64 0), nS, (lV (some ⟨g18, 0, none⟩) 2 2)]) ([(D 2), (D 5), (iV .u64 0), nS, (lV (some ⟨g18, 0, none⟩) 2 2)])) ?_
     rintro _ w26 h26
     refine ⟨fun _ => ⟨h26.at_ 2 rfl, trivial⟩, ?_⟩
     refine pR_to 15 (some 3) 65535 rfl hs15 (OpTo.run (bV (rightM (⟨#[97]⟩) [t, q])) (pureOp_run (by kernel_rfl) _) (R := fun v w => v = (bV (rightM (⟨#[97]⟩) [t, q])) /\ w26 = w) ⟨rfl, rfl⟩) ?_
     rintro _ _ ⟨rfl, rfl⟩
     refine ⟨fun h => absurd h (by decide), ?_⟩
     refine pR_done hs15 ?_ _
     refine seq_n hK13 (wp_ret (blk_r (seq_r ?_)))
     refine post_2 rfl (by kernel_rfl) (rce (h26.at_ 3 rfl)) (rtm (bV (rightM (⟨#[97]⟩) [t, q]))) ?_
     exact ⟨g18, rfl, h26.at_ 1 rfl, (h26.mine 1 _ rfl _ rfl).elim (fun h => h.elim) id, h26.below0⟩
   ·
    refine pR_op 12 (some 144) 7999 rfl (x_bs h17 2 ([(D t), (D q)]) 2 (by kernel_rfl)) ?_
    rintro _ w27 ⟨g27, rfl, h27⟩
    refine ⟨fun _ => ⟨h27.at_ 1 rfl, trivial⟩, ?_⟩
    refine pR_to 6 (some 138) 8063 rfl hs15 (x_bs h27 106 ([O, O, (iV .u64 ((IntKind.u64.wrap t))), nS, nS, O, O, (iV .u64 ((IntKind.u64.wrap q))), nS, nS]) 2 (by kernel_rfl)) ?_
    rintro _ w28 ⟨g28, rfl, h28⟩
    refine ⟨fun _ => ⟨h28.at_ 2 rfl, trivial⟩, ?_⟩
    refine pR_to 7 (some 139) 8191 rfl hs15 (x_dp h28 50 [(D 5), (lV (some ⟨g28, 0, none⟩) 2 2)] (by kernel_rfl) (dseq_any 5 (some ⟨g28, 0, none⟩) 2 2 _)) ?_
    rintro _ w29 ⟨rfl, h29⟩
    refine ⟨fun _ => ⟨h29.at_ 2 rfl, trivial⟩, ?_⟩
    refine pR_to 13 (some 145) 16383 rfl hs15 (x_tiRight h29 1 rfl (⟨#[97]⟩) (by decide) [t, q] 2 rfl rfl (by decide) (by kernel_rfl)) ?_
    rintro _ w30 ⟨rfl, h30⟩
    refine ⟨fun _ => ⟨h30.at_ 2 rfl, trivial⟩, ?_⟩
    refine pR_to 14 none 32767 rfl hs15 (xSs h30 3 106 (.tmp 2) (.tmp 139) 0 ([(D 2), (D 5), (iV .u64 0), nS, (lV (some ⟨g28, 0, none⟩) 2 2)]) ([(D 2), (D 5), (iV .u64 0), nS, (lV (some ⟨g28, 0, none⟩) 2 2)])) ?_
    rintro _ w31 h31
    refine ⟨fun _ => ⟨h31.at_ 2 rfl, trivial⟩, ?_⟩
    refine pR_to 15 (some 3) 65535 rfl hs15 (OpTo.run (bV (rightM (⟨#[97]⟩) [t, q])) (pureOp_run (by kernel_rfl) _) (R := fun v w => v = (bV (rightM (⟨#[97]⟩) [t, q])) /\ w31 = w) ⟨rfl, rfl⟩) ?_
    rintro _ _ ⟨rfl, rfl⟩
    refine ⟨fun h => absurd h (by decide), ?_⟩
    refine pR_done hs15 ?_ _
    refine seq_n hK13 (wp_ret (blk_r (seq_r ?_)))
    refine post_2 rfl (by kernel_rfl) (rce (h31.at_ 3 rfl)) (rtm (bV (rightM (⟨#[97]⟩) [t, q]))) ?_
    exact ⟨g28, rfl, h31.at_ 0 rfl, (h31.mine 0 _ rfl _ rfl).elim (fun h => h.elim) id, h31.below0⟩
  ·
   refine pR_op 12 (some 144) 7967 rfl (x_bs h16 2 ([(D t), (D q)]) 2 (by kernel_rfl)) ?_
   rintro _ w32 ⟨g32, rfl, h32⟩
   refine ⟨fun _ => ⟨h32.at_ 1 rfl, trivial⟩, ?_⟩
   refine pR_to 5 (some 137) 7999 rfl hs15 (x_dp h32 54 [(D q)] (by kernel_rfl) (knum_any q _)) ?_
   rintro _ w33 ⟨rfl, h33⟩
   refine ⟨fun _ => ⟨h33.at_ 1 rfl, trivial⟩, ?_⟩
   refine pR_to 6 (some 138) 8063 rfl hs15 (x_bs h33 106 ([O, O, (iV .u64 ((IntKind.u64.wrap t))), nS, nS, O, O, (iV .u64 ((IntKind.u64.wrap q))), nS, nS]) 2 (by kernel_rfl)) ?_
   rintro _ w34 ⟨g34, rfl, h34⟩
   refine ⟨fun _ => ⟨h34.at_ 2 rfl, trivial⟩, ?_⟩
   refine pR_to 7 (some 139) 8191 rfl hs15 (x_dp h34 50 [(D 5), (lV (some ⟨g34, 0, none⟩) 2 2)] (by kernel_rfl) (dseq_any 5 (some ⟨g34, 0, none⟩) 2 2 _)) ?_
   rintro _ w35 ⟨rfl, h35⟩
   refine ⟨fun _ => ⟨h35.at_ 2 rfl, trivial⟩, ?_⟩
   refine pR_to 13 (some 145) 16383 rfl hs15 (x_tiRight h35 1 rfl (⟨#[97]⟩) (by decide) [t, q] 2 rfl rfl (by decide) (by kernel_rfl)) ?_
   rintro _ w36 ⟨rfl, h36⟩
   refine ⟨fun _ => ⟨h36.at_ 2 rfl, trivial⟩, ?_⟩
   refine pR_to 14 none 32767 rfl hs15 (xSs h36 3 106 (.tmp 2) (.tmp 139) 0 ([(D 2), (D 5), (iV .u64 0), nS, (lV (some ⟨g34, 0, none⟩) 2 2)]) ([(D 2), (D 5), (iV .u64 0), nS, (lV (some ⟨g34, 0, none⟩) 2 2)])) ?_
   rintro _ w37 h37
   refine ⟨fun _ => ⟨h37.at_ 2 rfl, trivial⟩, ?_⟩
   refine pR_to 15 (some 3) 65535 rfl hs15 (OpTo.run (bV (rightM (⟨#[97]⟩) [t, q])) (pureOp_run (by kernel_rfl) _) (R := fun v w => v = (bV (rightM (⟨#[97]⟩) [t, q])) /\ w37 = w) ⟨rfl, rfl⟩) ?_
   rintro _ _ ⟨rfl, rfl⟩
   refine ⟨fun h => absurd h (by decide), ?_⟩
   refine pR_done hs15 ?_ _
   refine seq_n hK13 (wp_ret (blk_r (seq_r ?_)))
   refine post_2 rfl (by kernel_rfl) (rce (h37.at_ 3 rfl)) (rtm (bV (rightM (⟨#[97]⟩) [t, q]))) ?_
   exact ⟨g34, rfl, h37.at_ 0 rfl, (h37.mine 0 _ rfl _ rfl).elim (fun h => h.elim) id, h37.below0⟩
 ·
  refine pR_op 12 (some 144) 7963 rfl (x_bs h15 2 ([(D t), (D q)]) 2 (by kernel_rfl)) ?_
  rintro _ w38 ⟨g38, rfl, h38⟩
  refine ⟨fun _ => ⟨h38.at_ 1 rfl, trivial⟩, ?_⟩
  refine pR_to 2 (some 134) 7967 rfl hs15 (x_dp h38 54 [(D t)] (by kernel_rfl) (knum_any t _)) ?_
  rintro _ w39 ⟨rfl, h39⟩
  refine ⟨fun _ => ⟨h39.at_ 1 rfl, trivial⟩, ?_⟩
  refine pR_to 5 (some 137) 7999 rfl hs15 (x_dp h39 54 [(D q)] (by kernel_rfl) (knum_any q _)) ?_
  rintro _ w40 ⟨rfl, h40⟩
  refine ⟨fun _ => ⟨h40.at_ 1 rfl, trivial⟩, ?_⟩
  refine pR_to 6 (some 138) 8063 rfl hs15 (x_bs h40 106 ([O, O, (iV .u64 ((IntKind.u64.wrap t))), nS, nS, O, O, (iV .u64 ((IntKind.u64.wrap q))), nS, nS]) 2 (by kernel_rfl)) ?_
  rintro _ w41 ⟨g41, rfl, h41⟩
  refine ⟨fun _ => ⟨h41.at_ 2 rfl, trivial⟩, ?_⟩
  refine pR_to 7 (some 139) 8191 rfl hs15 (x_dp h41 50 [(D 5), (lV (some ⟨g41, 0, none⟩) 2 2)] (by kernel_rfl) (dseq_any 5 (some ⟨g41, 0, none⟩) 2 2 _)) ?_
  rintro _ w42 ⟨rfl, h42⟩
  refine ⟨fun _ => ⟨h42.at_ 2 rfl, trivial⟩, ?_⟩
  refine pR_to 13 (some 145) 16383 rfl hs15 (x_tiRight h42 1 rfl (⟨#[97]⟩) (by decide) [t, q] 2 rfl rfl (by decide) (by kernel_rfl)) ?_
  rintro _ w43 ⟨rfl, h43⟩
  refine ⟨fun _ => ⟨h43.at_ 2 rfl, trivial⟩, ?_⟩
  refine pR_to 14 none 32767 rfl hs15 (xSs h43 3 106 (.tmp 2) (.tmp 139) 0 ([(D 2), (D 5), (iV .u64 0), nS, (lV (some ⟨g41, 0, none⟩) 2 2)]) ([(D 2), (D 5), (iV .u64 0), nS, (lV (some ⟨g41, 0, none⟩) 2 2)])) ?_
  rintro _ w44 h44
  refine ⟨fun _ => ⟨h44.at_ 2 rfl, trivial⟩, ?_⟩
  refine pR_to 15 (some 3) 65535 rfl hs15 (OpTo.run (bV (rightM (⟨#[97]⟩) [t, q])) (pureOp_run (by kernel_rfl) _) (R := fun v w => v = (bV (rightM (⟨#[97]⟩) [t, q])) /\ w44 = w) ⟨rfl, rfl⟩) ?_
  rintro _ _ ⟨rfl, rfl⟩
  refine ⟨fun h => absurd h (by decide), ?_⟩
  refine pR_done hs15 ?_ _
  refine seq_n hK13 (wp_ret (blk_r (seq_r ?_)))
  refine post_2 rfl (by kernel_rfl) (rce (h44.at_ 3 rfl)) (rtm (bV (rightM (⟨#[97]⟩) [t, q]))) ?_
  exact ⟨g41, rfl, h44.at_ 0 rfl, (h44.mine 0 _ rfl _ rfl).elim (fun h => h.elim) id, h44.below0⟩
end
section
open Go.Value renaming int -> iV, slice -> lV, string -> sV, bool -> bV, agg -> aV
open Go.RowKit Go.QT
theorem vFact_any (n t : Int) (s : ByteArray) (b : Bool) (hs : s.size <= 1000000) (w : World) : Calls Try.prog 36 #[.iface 143 (.agg [iV .i64 n, .string s, .bool b, .int .i64 t].toArray)] w fun e w' => ∃ g A c, e = .returned (.tuple #[.agg #[.int .i64 2, .int .i64 6, .int .u64 0, .slice none 0 0, .slice (some ⟨g, 0, none⟩) 4 4], .bool (rightM s [n, t])]) /\ Blk w' g 106 (nV n ++ [.int .i64 1, .int .i64 0, .int .u64 0, .slice A s.data.toList.length c, .slice none 0 0] ++ nV b.toNat ++ nV t) /\ SB w' (.slice A s.data.toList.length c) s.data.toList /\ w.heap.size <= g /\ (∀ q, (lV A s.data.toList.length c).ownBlock = some q -> w.heap.size <= q) /\ Below w.heap.size w w' := by
 have h0 := Hp.nil (fun _ => False) w
 refine enter 179 Try.func36 rfl rfl ?_
 refine wp_reset 180 [(0, (Value.iface 143 (aV ([(D n), (sV s), (bV b), (D t)]).toArray)))] (fun x0 => ?_)
 refine wR fun K1 hK1 => ?_
 refine wT 2 (xN h0 106 ([O, O, (iV .u64 0), nS, nS])) ?_
 rintro _ w2 ⟨g2, rfl, h2⟩
 refine wq_p 1 [(3, V)] ?_
 refine wE hK1 (wp_seq_k fun K3 hK3 => wR fun K4 hK4 => ?_)
 refine wq_p 1 [(11, (Value.iface 143 (aV ([(D n), (sV s), (bV b), (D t)]).toArray)))] ?_
 refine wE hK4 (wp_block (wR fun K5 hK5 => ?_))
 refine wq_p 3 [(14, (aV ([eS, nS]).toArray)), (13, V), (12, (Value.tuple #[(aV ([eS, nS]).toArray), V]))] ?_
 refine wE hK5 (cF (wR fun K6 hK6 => ?_))
 refine wq_p 3 [(28, (aV ([O] ++ vb (List.replicate 16 0) ++ [eS, O, O, O]).toArray)), (27, V), (26, (Value.tuple #[(aV ([O] ++ vb (List.replicate 16 0) ++ [eS, O, O, O]).toArray), V]))] ?_
 refine wE hK6 (cF (wR fun K7 hK7 => ?_))
 refine wq_p 3 [(63, (aV ([O] ++ vb (List.replicate 16 0) ++ [O, eS, O, O, O]).toArray)), (62, V), (61, (Value.tuple #[(aV ([O] ++ vb (List.replicate 16 0) ++ [O, eS, O, O, O]).toArray), V]))] ?_
 refine wE hK7 (cF (wR fun K8 hK8 => ?_))
 refine wq_p 3 [(103, (aV ([eS, O, O] ++ vb (List.replicate 16 0) ++ [nS]).toArray)), (102, V), (101, (Value.tuple #[(aV ([eS, O, O] ++ vb (List.replicate 16 0) ++ [nS]).toArray), V]))] ?_
 refine wE hK8 (cF (wR fun K9 hK9 => ?_))
 refine wq_p 3 [(131, (aV ([O, O]).toArray)), (130, V), (129, (Value.tuple #[(aV ([O, O]).toArray), V]))] ?_
 refine wE hK9 (cF (wR fun K10 hK10 => ?_))
 refine wq_p 3 [(148, (aV ([(D n), (sV s), (bV b), (D t)]).toArray)), (147, I), (146, (Value.tuple #[(aV ([(D n), (sV s), (bV b), (D t)]).toArray), I]))] ?_
 refine wE hK10 (cT (wp_seq_k fun K11 hK11 => ?_))
 refine wp_reset 180 [(0, (Value.iface 143 (aV ([(D n), (sV s), (bV b), (D t)]).toArray))), (2, (pt g2 0)), (3, V), (11, (Value.iface 143 (aV ([(D n), (sV s), (bV b), (D t)]).toArray))), (13, V), (14, (aV ([eS, nS]).toArray)), (27, V), (28, (aV ([O] ++ vb (List.replicate 16 0) ++ [eS, O, O, O]).toArray)), (62, V), (63, (aV ([O] ++ vb (List.replicate 16 0) ++ [O, eS, O, O, O]).toArray)), (102, V), (103, (aV ([eS, O, O] ++ vb (List.replicate 16 0) ++ [nS]).toArray)), (130, V), (131, (aV ([O, O]).toArray)), (147, I), (148, (aV ([(D n), (sV s), (bV b), (D t)]).toArray))] (fun x12 => ?_)
 refine reg_lit ?_
 refine wT 9 (xN h2 143 ([O, eS, V, O])) ?_
 rintro _ w13 ⟨g13, rfl, h13⟩
 refine wq_to none (xSs h13 0 143 (.tmp 9) (.tmp 148) 0 ([(D n), (sV s), (bV b), (D t)]) ([(D n), (sV s), (bV b), (D t)])) ?_
 rintro _ w14 h14
 refine wE hK11 (wp_seq_k fun K15 hK15 => ?_)
 refine pR_go h14 23 (fun W => (rBlk g13 143 ([(D n), (sV s), (bV b), (D t)])).Φ W /\ True) [(150, [9], 0), (151, [149], 1), (152, [150], 2), (153, [9], 0), (154, [152], 8), (155, [153], 20), (156, [9], 0), (157, [155], 64), (158, [156], 160), (159, [9], 0), (160, [158], 512), (161, [159], 1280), (162, [151, 154, 157, 160], 2340), (163, [161], 6144), (164, [9], 0), (165, [163], 16384), (166, [9], 0), (167, [165], 65536), (168, [9], 0), (169, [167], 262144), (170, [166, 168], 655360), (171, [164, 169], 1089536), (0, [2, 162], 2113535), (4, [170], 8388607)] rfl (fun _ d _ _ _ h => by cases d <;> exact h) ?_
 intro hs16 w16 h16
 refine pR_p 17 [0, 3, 6, 9, 14, 16, 18] [(167, (pt g13 3)), (165, (pt g13 0)), (163, (pt g13 1)), (158, (pt g13 3)), (155, (pt g13 2)), (152, (pt g13 1)), (149, (pt g13 0))] 344649 hs16 ⟨h16.at_ 0 rfl, trivial⟩ ?_
 refine pR_v 1 (some 150) (D n) 344651 rfl hs16 ⟨h16.at_ 0 rfl, trivial⟩ (fun W hW => eL hW.1 2 (.tmp 149) 0 _) ?_
 refine pR_v 4 (some 153) (sV s) 344667 rfl hs16 ⟨h16.at_ 0 rfl, trivial⟩ (fun W hW => eL hW.1 9 (.tmp 152) 1 _) ?_
 refine pR_v 7 (some 156) (bV b) 344795 rfl hs16 ⟨h16.at_ 0 rfl, trivial⟩ (fun W hW => eL hW.1 4 (.tmp 155) 2 _) ?_
 refine pR_v 10 (some 159) (D t) 345819 rfl hs16 ⟨h16.at_ 0 rfl, trivial⟩ (fun W hW => eL hW.1 2 (.tmp 158) 3 _) ?_
 refine pR_v 15 (some 164) (sV s) 378587 rfl hs16 ⟨h16.at_ 0 rfl, trivial⟩ (fun W hW => eL hW.1 9 (.tmp 163) 1 _) ?_
 refine pR_v 17 (some 166) (D n) 509659 rfl hs16 ⟨h16.at_ 0 rfl, trivial⟩ (fun W hW => eL hW.1 2 (.tmp 165) 0 _) ?_
 refine pR_v 19 (some 168) (D t) 1033947 rfl hs16 ⟨h16.at_ 0 rfl, trivial⟩ (fun W hW => eL hW.1 2 (.tmp 167) 3 _) ?_
 refine pR_or 2 20 hs16 ?_ ?_
 ·
  refine pR_op 2 (some 151) 1033951 rfl (x_dp h16 54 [(D n)] (by kernel_rfl) (knum_any n _)) ?_
  rintro _ w17 ⟨rfl, h17⟩
  refine ⟨fun _ => ⟨h17.at_ 0 rfl, trivial⟩, ?_⟩
  refine pR_or 5 20 hs16 ?_ ?_
  ·
   refine pR_op 5 (some 154) 1033983 rfl (x_rawT h17 51 [(sV s)] (by kernel_rfl) (ktext_any s _ (by omega))) ?_
   rintro _ w18 ⟨A18, c18, rfl, h18, hn18⟩
   refine ⟨fun _ => ⟨h18.at_ 1 rfl, trivial⟩, ?_⟩
   refine pR_or 8 20 hs16 ?_ ?_
   ·
    refine pR_op 8 (some 157) 1034239 rfl (x_dp h18 56 [(bV b)] (by kernel_rfl) (ktruth_any b _)) ?_
    rintro _ w19 ⟨rfl, h19⟩
    refine ⟨fun _ => ⟨h19.at_ 1 rfl, trivial⟩, ?_⟩
    refine pR_or 11 20 hs16 ?_ ?_
    ·
     refine pR_op 11 (some 160) 1036287 rfl (x_dp h19 54 [(D t)] (by kernel_rfl) (knum_any t _)) ?_
     rintro _ w20 ⟨rfl, h20⟩
     refine ⟨fun _ => ⟨h20.at_ 1 rfl, trivial⟩, ?_⟩
     refine pR_or 12 20 hs16 ?_ ?_
     ·
      refine pR_op 12 (some 161) 1040383 rfl (x_bs h20 106 ([O, O, (iV .u64 ((IntKind.u64.wrap n))), nS, nS, (D 1), O, (iV .u64 0), (lV A18 s.data.toList.length c18), nS, O, O, (iV .u64 ((IntKind.u64.wrap ((b.toNat : Nat) : Int)))), nS, nS, O, O, (iV .u64 ((IntKind.u64.wrap t))), nS, nS]) 4 (by kernel_rfl)) ?_
      rintro _ w21 ⟨g21, rfl, h21⟩
      refine ⟨fun _ => ⟨h21.at_ 2 rfl, trivial⟩, ?_⟩
      refine pR_or 13 20 hs16 ?_ ?_
      ·
       refine pR_op 13 (some 162) 1048575 rfl (x_dp h21 50 [(D 6), (lV (some ⟨g21, 0, none⟩) 4 4)] (by kernel_rfl) (dseq_any 6 (some ⟨g21, 0, none⟩) 4 4 _)) ?_
       rintro _ w22 ⟨rfl, h22⟩
       refine ⟨fun _ => ⟨h22.at_ 2 rfl, trivial⟩, ?_⟩
       refine pR_to 20 (some 169) 2097151 rfl hs16 (x_bs h22 2 ([(D n), (D t)]) 2 (by kernel_rfl)) ?_
       rintro _ w23 ⟨g23, rfl, h23⟩
       refine ⟨fun _ => ⟨h23.at_ 3 rfl, trivial⟩, ?_⟩
       refine pR_to 21 (some 170) 4194303 rfl hs16 (x_tiRight h23 0 rfl s (by omega) [n, t] 2 rfl rfl (by decide) (by kernel_rfl)) ?_
       rintro _ w24 ⟨rfl, h24⟩
       refine ⟨fun _ => ⟨h24.at_ 3 rfl, trivial⟩, ?_⟩
       refine pR_to 22 none 8388607 rfl hs16 (xSs h24 4 106 (.tmp 2) (.tmp 162) 0 ([(D 2), (D 6), (iV .u64 0), nS, (lV (some ⟨g21, 0, none⟩) 4 4)]) ([(D 2), (D 6), (iV .u64 0), nS, (lV (some ⟨g21, 0, none⟩) 4 4)])) ?_
       rintro _ w25 h25
       refine ⟨fun _ => ⟨h25.at_ 3 rfl, trivial⟩, ?_⟩
       refine pR_to 23 (some 3) 16777215 rfl hs16 (OpTo.run (bV (rightM s [n, t])) (pureOp_run (by kernel_rfl) _) (R := fun v w => v = (bV (rightM s [n, t])) /\ w25 = w) ⟨rfl, rfl⟩) ?_
       rintro _ _ ⟨rfl, rfl⟩
       refine ⟨fun h => absurd h (by decide), ?_⟩
       refine pR_done hs16 ?_ _
       refine seq_n hK15 (wp_ret (blk_r (seq_r ?_)))
       refine post_2 rfl (by kernel_rfl) (rce (h25.at_ 4 rfl)) (rtm (bV (rightM s [n, t]))) ?_
       exact ⟨g21, _, _, rfl, h25.at_ 1 rfl, h25.at_ 2 rfl, (h25.mine 1 _ rfl _ rfl).elim (fun h => h.elim) id, fun q hq => Nat.le_trans h17.below0.size (hn18 q hq), h25.below0⟩
      ·
       refine pR_op 20 (some 169) 2088959 rfl (x_bs h21 2 ([(D n), (D t)]) 2 (by kernel_rfl)) ?_
       rintro _ w26 ⟨g26, rfl, h26⟩
       refine ⟨fun _ => ⟨h26.at_ 3 rfl, trivial⟩, ?_⟩
       refine pR_to 13 (some 162) 2097151 rfl hs16 (x_dp h26 50 [(D 6), (lV (some ⟨g21, 0, none⟩) 4 4)] (by kernel_rfl) (dseq_any 6 (some ⟨g21, 0, none⟩) 4 4 _)) ?_
       rintro _ w27 ⟨rfl, h27⟩
       refine ⟨fun _ => ⟨h27.at_ 3 rfl, trivial⟩, ?_⟩
       refine pR_to 21 (some 170) 4194303 rfl hs16 (x_tiRight h27 0 rfl s (by omega) [n, t] 2 rfl rfl (by decide) (by kernel_rfl)) ?_
       rintro _ w28 ⟨rfl, h28⟩
       refine ⟨fun _ => ⟨h28.at_ 3 rfl, trivial⟩, ?_⟩
       refine pR_to 22 none 8388607 rfl hs16 (xSs h28 4 106 (.tmp 2) (.tmp 162) 0 ([(D 2), (D 6), (iV .u64 0), nS, (lV (some ⟨g21, 0, none⟩) 4 4)]) ([(D 2), (D 6), (iV .u64 0), nS, (lV (some ⟨g21, 0, none⟩) 4 4)])) ?_
       rintro _ w29 h29
       refine ⟨fun _ => ⟨h29.at_ 3 rfl, trivial⟩, ?_⟩
       refine pR_to 23 (some 3) 16777215 rfl hs16 (OpTo.run (bV (rightM s [n, t])) (pureOp_run (by kernel_rfl) _) (R := fun v w => v = (bV (rightM s [n, t])) /\ w29 = w) ⟨rfl, rfl⟩) ?_
       rintro _ _ ⟨rfl, rfl⟩
       refine ⟨fun h => absurd h (by decide), ?_⟩
       refine pR_done hs16 ?_ _
       refine seq_n hK15 (wp_ret (blk_r (seq_r ?_)))
       refine post_2 rfl (by kernel_rfl) (rce (h29.at_ 4 rfl)) (rtm (bV (rightM s [n, t]))) ?_
       exact ⟨g21, _, _, rfl, h29.at_ 1 rfl, h29.at_ 2 rfl, (h29.mine 1 _ rfl _ rfl).elim (fun h => h.elim) id, fun q hq => Nat.le_trans h17.below0.size (hn18 q hq), h29.below0⟩
     ·
      refine pR_op 20 (some 169) 2084863 rfl (x_bs h20 2 ([(D n), (D t)]) 2 (by kernel_rfl)) ?_
      rintro _ w30 ⟨g30, rfl, h30⟩
      refine ⟨fun _ => ⟨h30.at_ 2 rfl, trivial⟩, ?_⟩
      refine pR_to 12 (some 161) 2088959 rfl hs16 (x_bs h30 106 ([O, O, (iV .u64 ((IntKind.u64.wrap n))), nS, nS, (D 1), O, (iV .u64 0), (lV A18 s.data.toList.length c18), nS, O, O, (iV .u64 ((IntKind.u64.wrap ((b.toNat : Nat) : Int)))), nS, nS, O, O, (iV .u64 ((IntKind.u64.wrap t))), nS, nS]) 4 (by kernel_rfl)) ?_
      rintro _ w31 ⟨g31, rfl, h31⟩
      refine ⟨fun _ => ⟨h31.at_ 3 rfl, trivial⟩, ?_⟩
      refine pR_to 13 (some 162) 2097151 rfl hs16 (x_dp h31 50 [(D 6), (lV (some ⟨g31, 0, none⟩) 4 4)] (by kernel_rfl) (dseq_any 6 (some ⟨g31, 0, none⟩) 4 4 _)) ?_
      rintro _ w32 ⟨rfl, h32⟩
      refine ⟨fun _ => ⟨h32.at_ 3 rfl, trivial⟩, ?_⟩
      refine pR_to 21 (some 170) 4194303 rfl hs16 (x_tiRight h32 1 rfl s (by omega) [n, t] 2 rfl rfl (by decide) (by kernel_rfl)) ?_
      rintro _ w33 ⟨rfl, h33⟩
      refine ⟨fun _ => ⟨h33.at_ 3 rfl, trivial⟩, ?_⟩
      refine pR_to 22 none 8388607 rfl hs16 (xSs h33 4 106 (.tmp 2) (.tmp 162) 0 ([(D 2), (D 6), (iV .u64 0), nS, (lV (some ⟨g31, 0, none⟩) 4 4)]) ([(D 2), (D 6), (iV .u64 0), nS, (lV (some ⟨g31, 0, none⟩) 4 4)])) ?_
      rintro _ w34 h34
      refine ⟨fun _ => ⟨h34.at_ 3 rfl, trivial⟩, ?_⟩
      refine pR_to 23 (some 3) 16777215 rfl hs16 (OpTo.run (bV (rightM s [n, t])) (pureOp_run (by kernel_rfl) _) (R := fun v w => v = (bV (rightM s [n, t])) /\ w34 = w) ⟨rfl, rfl⟩) ?_
      rintro _ _ ⟨rfl, rfl⟩
      refine ⟨fun h => absurd h (by decide), ?_⟩
      refine pR_done hs16 ?_ _
      refine seq_n hK15 (wp_ret (blk_r (seq_r ?_)))
      refine post_2 rfl (by kernel_rfl) (rce (h34.at_ 4 rfl)) (rtm (bV (rightM s [n, t]))) ?_
      exact ⟨g31, _, _, rfl, h34.at_ 0 rfl, h34.at_ 2 rfl, (h34.mine 0 _ rfl _ rfl).elim (fun h => h.elim) id, fun q hq => Nat.le_trans h17.below0.size (hn18 q hq), h34.below0⟩
    ·
     refine pR_op 20 (some 169) 2082815 rfl (x_bs h19 2 ([(D n), (D t)]) 2 (by kernel_rfl)) ?_
     rintro _ w35 ⟨g35, rfl, h35⟩
     refine ⟨fun _ => ⟨h35.at_ 2 rfl, trivial⟩, ?_⟩
     refine pR_to 11 (some 160) 2084863 rfl hs16 (x_dp h35 54 [(D t)] (by kernel_rfl) (knum_any t _)) ?_
     rintro _ w36 ⟨rfl, h36⟩
     refine ⟨fun _ => ⟨h36.at_ 2 rfl, trivial⟩, ?_⟩
     refine pR_to 12 (some 161) 2088959 rfl hs16 (x_bs h36 106 ([O, O, (iV .u64 ((IntKind.u64.wrap n))), nS, nS, (D 1), O, (iV .u64 0), (lV A18 s.data.toList.length c18), nS, O, O, (iV .u64 ((IntKind.u64.wrap ((b.toNat : Nat) : Int)))), nS, nS, O, O, (iV .u64 ((IntKind.u64.wrap t))), nS, nS]) 4 (by kernel_rfl)) ?_
     rintro _ w37 ⟨g37, rfl, h37⟩
     refine ⟨fun _ => ⟨h37.at_ 3 rfl, trivial⟩, ?_⟩
     refine pR_to 13 (some 162) 2097151 rfl hs16 (x_dp h37 50 [(D 6), (lV (some ⟨g37, 0, none⟩) 4 4)] (by kernel_rfl) (dseq_any 6 (some ⟨g37, 0, none⟩) 4 4 _)) ?_
     rintro _ w38 ⟨rfl, h38⟩
     refine ⟨fun _ => ⟨h38.at_ 3 rfl, trivial⟩, ?_⟩
     refine pR_to 21 (some 170) 4194303 rfl hs16 (x_tiRight h38 1 rfl s (by omega) [n, t] 2 rfl rfl (by decide) (by kernel_rfl)) ?_
     rintro _ w39 ⟨rfl, h39⟩
     refine ⟨fun _ => ⟨h39.at_ 3 rfl, trivial⟩, ?_⟩
     refine pR_to 22 none 8388607 rfl hs16 (xSs h39 4 106 (.tmp 2) (.tmp 162) 0 ([(D 2), (D 6), (iV .u64 0), nS, (lV (some ⟨g37, 0, none⟩) 4 4)]) ([(D 2), (D 6), (iV .u64 0), nS, (lV (some ⟨g37, 0, none⟩) 4 4)])) ?_
     rintro _ w40 h40
     refine ⟨fun _ => ⟨h40.at_ 3 rfl, trivial⟩, ?_⟩
     refine pR_to 23 (some 3) 16777215 rfl hs16 (OpTo.run (bV (rightM s [n, t])) (pureOp_run (by kernel_rfl) _) (R := fun v w => v = (bV (rightM s [n, t])) /\ w40 = w) ⟨rfl, rfl⟩) ?_
     rintro _ _ ⟨rfl, rfl⟩
     refine ⟨fun h => absurd h (by decide), ?_⟩
     refine pR_done hs16 ?_ _
     refine seq_n hK15 (wp_ret (blk_r (seq_r ?_)))
     refine post_2 rfl (by kernel_rfl) (rce (h40.at_ 4 rfl)) (rtm (bV (rightM s [n, t]))) ?_
     exact ⟨g37, _, _, rfl, h40.at_ 0 rfl, h40.at_ 2 rfl, (h40.mine 0 _ rfl _ rfl).elim (fun h => h.elim) id, fun q hq => Nat.le_trans h17.below0.size (hn18 q hq), h40.below0⟩
   ·
    refine pR_op 20 (some 169) 2082559 rfl (x_bs h18 2 ([(D n), (D t)]) 2 (by kernel_rfl)) ?_
    rintro _ w41 ⟨g41, rfl, h41⟩
    refine ⟨fun _ => ⟨h41.at_ 2 rfl, trivial⟩, ?_⟩
    refine pR_to 8 (some 157) 2082815 rfl hs16 (x_dp h41 56 [(bV b)] (by kernel_rfl) (ktruth_any b _)) ?_
    rintro _ w42 ⟨rfl, h42⟩
    refine ⟨fun _ => ⟨h42.at_ 2 rfl, trivial⟩, ?_⟩
    refine pR_to 11 (some 160) 2084863 rfl hs16 (x_dp h42 54 [(D t)] (by kernel_rfl) (knum_any t _)) ?_
    rintro _ w43 ⟨rfl, h43⟩
    refine ⟨fun _ => ⟨h43.at_ 2 rfl, trivial⟩, ?_⟩
    refine pR_to 12 (some 161) 2088959 rfl hs16 (x_bs h43 106 ([O, O, (iV .u64 ((IntKind.u64.wrap n))), nS, nS, (D 1), O, (iV .u64 0), (lV A18 s.data.toList.length c18), nS, O, O, (iV .u64 ((IntKind.u64.wrap ((b.toNat : Nat) : Int)))), nS, nS, O, O, (iV .u64 ((IntKind.u64.wrap t))), nS, nS]) 4 (by kernel_rfl)) ?_
    rintro _ w44 ⟨g44, rfl, h44⟩
    refine ⟨fun _ => ⟨h44.at_ 3 rfl, trivial⟩, ?_⟩
    refine pR_to 13 (some 162) 2097151 rfl hs16 (x_dp h44 50 [(D 6), (lV (some ⟨g44, 0, none⟩) 4 4)] (by kernel_rfl) (dseq_any 6 (some ⟨g44, 0, none⟩) 4 4 _)) ?_
    rintro _ w45 ⟨rfl, h45⟩
    refine ⟨fun _ => ⟨h45.at_ 3 rfl, trivial⟩, ?_⟩
    refine pR_to 21 (some 170) 4194303 rfl hs16 (x_tiRight h45 1 rfl s (by omega) [n, t] 2 rfl rfl (by decide) (by kernel_rfl)) ?_
    rintro _ w46 ⟨rfl, h46⟩
    refine ⟨fun _ => ⟨h46.at_ 3 rfl, trivial⟩, ?_⟩
    refine pR_to 22 none 8388607 rfl hs16 (xSs h46 4 106 (.tmp 2) (.tmp 162) 0 ([(D 2), (D 6), (iV .u64 0), nS, (lV (some ⟨g44, 0, none⟩) 4 4)]) ([(D 2), (D 6), (iV .u64 0), nS, (lV (some ⟨g44, 0, none⟩) 4 4)])) ?_
    rintro _ w47 h47
    refine ⟨fun _ => ⟨h47.at_ 3 rfl, trivial⟩, ?_⟩
    refine pR_to 23 (some 3) 16777215 rfl hs16 (OpTo.run (bV (rightM s [n, t])) (pureOp_run (by kernel_rfl) _) (R := fun v w => v = (bV (rightM s [n, t])) /\ w47 = w) ⟨rfl, rfl⟩) ?_
    rintro _ _ ⟨rfl, rfl⟩
    refine ⟨fun h => absurd h (by decide), ?_⟩
    refine pR_done hs16 ?_ _
    refine seq_n hK15 (wp_ret (blk_r (seq_r ?_)))
    refine post_2 rfl (by kernel_rfl) (rce (h47.at_ 4 rfl)) (rtm (bV (rightM s [n, t]))) ?_
    exact ⟨g44, _, _, rfl, h47.at_ 0 rfl, h47.at_ 2 rfl, (h47.mine 0 _ rfl _ rfl).elim (fun h => h.elim) id, fun q hq => Nat.le_trans h17.below0.size (hn18 q hq), h47.below0⟩
  ·
   refine pR_op 20 (some 169) 2082527 rfl (x_bs h17 2 ([(D n), (D t)]) 2 (by kernel_rfl)) ?_
   rintro _ w48 ⟨g48, rfl, h48⟩
   refine ⟨fun _ => ⟨h48.at_ 1 rfl, trivial⟩, ?_⟩
   refine pR_to 5 (some 154) 2082559 rfl hs16 (x_rawT h48 51 [(sV s)] (by kernel_rfl) (ktext_any s _ (by omega))) ?_
   rintro _ w49 ⟨A49, c49, rfl, h49, hn49⟩
   refine ⟨fun _ => ⟨h49.at_ 2 rfl, trivial⟩, ?_⟩
   refine pR_to 8 (some 157) 2082815 rfl hs16 (x_dp h49 56 [(bV b)] (by kernel_rfl) (ktruth_any b _)) ?_
   rintro _ w50 ⟨rfl, h50⟩
   refine ⟨fun _ => ⟨h50.at_ 2 rfl, trivial⟩, ?_⟩
   refine pR_to 11 (some 160) 2084863 rfl hs16 (x_dp h50 54 [(D t)] (by kernel_rfl) (knum_any t _)) ?_
   rintro _ w51 ⟨rfl, h51⟩
   refine ⟨fun _ => ⟨h51.at_ 2 rfl, trivial⟩, ?_⟩
   refine pR_to 12 (some 161) 2088959 rfl hs16 (x_bs h51 106 ([O, O, (iV .u64 ((IntKind.u64.wrap n))), nS, nS, (D 1), O, (iV .u64 0), (lV A49 s.data.toList.length c49), nS, O, O, (iV .u64 ((IntKind.u64.wrap ((b.toNat : Nat) : Int)))), nS, nS, O, O, (iV .u64 ((IntKind.u64.wrap t))), nS, nS]) 4 (by kernel_rfl)) ?_
   rintro _ w52 ⟨g52, rfl, h52⟩
   refine ⟨fun _ => ⟨h52.at_ 3 rfl, trivial⟩, ?_⟩
   refine pR_to 13 (some 162) 2097151 rfl hs16 (x_dp h52 50 [(D 6), (lV (some ⟨g52, 0, none⟩) 4 4)] (by kernel_rfl) (dseq_any 6 (some ⟨g52, 0, none⟩) 4 4 _)) ?_
   rintro _ w53 ⟨rfl, h53⟩
   refine ⟨fun _ => ⟨h53.at_ 3 rfl, trivial⟩, ?_⟩
   refine pR_to 21 (some 170) 4194303 rfl hs16 (x_tiRight h53 2 rfl s (by omega) [n, t] 2 rfl rfl (by decide) (by kernel_rfl)) ?_
   rintro _ w54 ⟨rfl, h54⟩
   refine ⟨fun _ => ⟨h54.at_ 3 rfl, trivial⟩, ?_⟩
   refine pR_to 22 none 8388607 rfl hs16 (xSs h54 4 106 (.tmp 2) (.tmp 162) 0 ([(D 2), (D 6), (iV .u64 0), nS, (lV (some ⟨g52, 0, none⟩) 4 4)]) ([(D 2), (D 6), (iV .u64 0), nS, (lV (some ⟨g52, 0, none⟩) 4 4)])) ?_
   rintro _ w55 h55
   refine ⟨fun _ => ⟨h55.at_ 3 rfl, trivial⟩, ?_⟩
   refine pR_to 23 (some 3) 16777215 rfl hs16 (OpTo.run (bV (rightM s [n, t])) (pureOp_run (by kernel_rfl) _) (R := fun v w => v = (bV (rightM s [n, t])) /\ w55 = w) ⟨rfl, rfl⟩) ?_
   rintro _ _ ⟨rfl, rfl⟩
   refine ⟨fun h => absurd h (by decide), ?_⟩
   refine pR_done hs16 ?_ _
   refine seq_n hK15 (wp_ret (blk_r (seq_r ?_)))
   refine post_2 rfl (by kernel_rfl) (rce (h55.at_ 4 rfl)) (rtm (bV (rightM s [n, t]))) ?_
   exact ⟨g52, _, _, rfl, h55.at_ 0 rfl, h55.at_ 1 rfl, (h55.mine 0 _ rfl _ rfl).elim (fun h => h.elim) id, fun q hq => Nat.le_trans h48.below0.size (hn49 q hq), h55.below0⟩
 ·
  refine pR_op 20 (some 169) 2082523 rfl (x_bs h16 2 ([(D n), (D t)]) 2 (by kernel_rfl)) ?_
  rintro _ w56 ⟨g56, rfl, h56⟩
  refine ⟨fun _ => ⟨h56.at_ 1 rfl, trivial⟩, ?_⟩
  refine pR_to 2 (some 151) 2082527 rfl hs16 (x_dp h56 54 [(D n)] (by kernel_rfl) (knum_any n _)) ?_
  rintro _ w57 ⟨rfl, h57⟩
  refine ⟨fun _ => ⟨h57.at_ 1 rfl, trivial⟩, ?_⟩
  refine pR_to 5 (some 154) 2082559 rfl hs16 (x_rawT h57 51 [(sV s)] (by kernel_rfl) (ktext_any s _ (by omega))) ?_
  rintro _ w58 ⟨A58, c58, rfl, h58, hn58⟩
  refine ⟨fun _ => ⟨h58.at_ 2 rfl, trivial⟩, ?_⟩
  refine pR_to 8 (some 157) 2082815 rfl hs16 (x_dp h58 56 [(bV b)] (by kernel_rfl) (ktruth_any b _)) ?_
  rintro _ w59 ⟨rfl, h59⟩
  refine ⟨fun _ => ⟨h59.at_ 2 rfl, trivial⟩, ?_⟩
  refine pR_to 11 (some 160) 2084863 rfl hs16 (x_dp h59 54 [(D t)] (by kernel_rfl) (knum_any t _)) ?_
  rintro _ w60 ⟨rfl, h60⟩
  refine ⟨fun _ => ⟨h60.at_ 2 rfl, trivial⟩, ?_⟩
  refine pR_to 12 (some 161) 2088959 rfl hs16 (x_bs h60 106 ([O, O, (iV .u64 ((IntKind.u64.wrap n))), nS, nS, (D 1), O, (iV .u64 0), (lV A58 s.data.toList.length c58), nS, O, O, (iV .u64 ((IntKind.u64.wrap ((b.toNat : Nat) : Int)))), nS, nS, O, O, (iV .u64 ((IntKind.u64.wrap t))), nS, nS]) 4 (by kernel_rfl)) ?_
  rintro _ w61 ⟨g61, rfl, h61⟩
  refine ⟨fun _ => ⟨h61.at_ 3 rfl, trivial⟩, ?_⟩
  refine pR_to 13 (some 162) 2097151 rfl hs16 (x_dp h61 50 [(D 6), (lV (some ⟨g61, 0, none⟩) 4 4)] (by kernel_rfl) (dseq_any 6 (some ⟨g61, 0, none⟩) 4 4 _)) ?_
  rintro _ w62 ⟨rfl, h62⟩
  refine ⟨fun _ => ⟨h62.at_ 3 rfl, trivial⟩, ?_⟩
  refine pR_to 21 (some 170) 4194303 rfl hs16 (x_tiRight h62 2 rfl s (by omega) [n, t] 2 rfl rfl (by decide) (by kernel_rfl)) ?_
  rintro _ w63 ⟨rfl, h63⟩
  refine ⟨fun _ => ⟨h63.at_ 3 rfl, trivial⟩, ?_⟩
  refine pR_to 22 none 8388607 rfl hs16 (xSs h63 4 106 (.tmp 2) (.tmp 162) 0 ([(D 2), (D 6), (iV .u64 0), nS, (lV (some ⟨g61, 0, none⟩) 4 4)]) ([(D 2), (D 6), (iV .u64 0), nS, (lV (some ⟨g61, 0, none⟩) 4 4)])) ?_
  rintro _ w64 h64
  refine ⟨fun _ => ⟨h64.at_ 3 rfl, trivial⟩, ?_⟩
  refine pR_to 23 (some 3) 16777215 rfl hs16 (OpTo.run (bV (rightM s [n, t])) (pureOp_run (by kernel_rfl) _) (R := fun v w => v = (bV (rightM s [n, t])) /\ w64 = w) ⟨rfl, rfl⟩) ?_
  rintro _ _ ⟨rfl, rfl⟩
  refine ⟨fun h => absurd h (by decide), ?_⟩
  refine pR_done hs16 ?_ _
  refine seq_n hK15 (wp_ret (blk_r (seq_r ?_)))
  refine post_2 rfl (by kernel_rfl) (rce (h64.at_ 4 rfl)) (rtm (bV (rightM s [n, t]))) ?_
  exact ⟨g61, _, _, rfl, h64.at_ 0 rfl, h64.at_ 1 rfl, (h64.mine 0 _ rfl _ rfl).elim (fun h => h.elim) id, fun q hq => Nat.le_trans h57.below0.size (hn58 q hq), h64.below0⟩
end
end Go.Proofs.Ytecomegocafocaa
