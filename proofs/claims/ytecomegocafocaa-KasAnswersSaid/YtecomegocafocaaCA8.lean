/- der.read of any bytes: plain functions. -/
import Derived.Test.YtecomegocafocaaCA7
set_option maxRecDepth 100000
set_option maxHeartbeats 4000000
namespace Go.Proofs.Ytecomegocafocaa
section
open Go.Value renaming int -> iV, slice -> lV, string -> sV, bool -> bV, agg -> aV
open Go.RowKit Go.QT
/-- What bytes are in der. -/
def rV (v : Value) : List Value := [.int .i64 1, .int .i64 0, .int .u64 0, v, .slice none 0 0]
theorem vInside_any (f a u r : Int) (s : ByteArray) (K : Fin 16 -> UInt8) (hs : s.size <= 1000000) (w : World) : Calls Try.prog 36 #[.iface 55 (aV ([(iV .i64 f)] ++ vb (kl K) ++ [(sV s), (iV .i64 a), (iV .i64 u), (iV .i64 r)]).toArray)] w fun e w' => ∃ g A c B d, e = .returned (.tuple #[.agg #[.int .i64 2, .int .i64 2, .int .u64 0, .slice none 0 0, .slice (some ⟨g, 0, none⟩) 6 6], .bool (rightM s [f, a, u, r])]) /\ Blk w' g 106 (nV f ++ rV (lV B (kl K).length d) ++ rV (lV A s.data.toList.length c) ++ nV a ++ nV u ++ nV r) /\ SB w' (lV A s.data.toList.length c) s.data.toList /\ SB w' (lV B (kl K).length d) (kl K) /\ w.heap.size <= g /\ (∀ q, (lV A s.data.toList.length c).ownBlock = some q -> w.heap.size <= q) /\ (∀ q, (lV B (kl K).length d).ownBlock = some q -> w.heap.size <= q) /\ Below w.heap.size w w' := by
 have h0 := Hp.nil (fun _ => False) w
 refine enter 179 Try.func36 rfl rfl ?_
 refine wp_reset 180 [(0, (Value.iface 55 (aV ([(D f)] ++ vb (kl K) ++ [(sV s), (D a), (D u), (D r)]).toArray)))] (fun x0 => ?_)
 refine wR fun K1 hK1 => ?_
 refine wT 2 (xN h0 106 ([O, O, (iV .u64 0), nS, nS])) ?_
 rintro _ w2 ⟨g2, rfl, h2⟩
 refine wq_p 1 [(3, V)] ?_
 refine wE hK1 (wp_seq_k fun K3 hK3 => wR fun K4 hK4 => ?_)
 refine wq_p 1 [(11, (Value.iface 55 (aV ([(D f)] ++ vb (kl K) ++ [(sV s), (D a), (D u), (D r)]).toArray)))] ?_
 refine wE hK4 (wp_block (wR fun K5 hK5 => ?_))
 refine wq_p 3 [(14, (aV ([eS, nS]).toArray)), (13, V), (12, (Value.tuple #[(aV ([eS, nS]).toArray), V]))] ?_
 refine wE hK5 (cF (wR fun K6 hK6 => ?_))
 refine wq_p 3 [(28, (aV ([(D f)] ++ vb (kl K) ++ [(sV s), (D a), (D u), (D r)]).toArray)), (27, I), (26, (Value.tuple #[(aV ([(D f)] ++ vb (kl K) ++ [(sV s), (D a), (D u), (D r)]).toArray), I]))] ?_
 refine wE hK6 (cT (wR fun K7 hK7 => ?_))
 refine wT 5 (xN h2 55 ([O] ++ vb (List.replicate 16 0) ++ [eS, O, O, O])) ?_
 rintro _ w8 ⟨g8, rfl, h8⟩
 refine wq_to none (xSs h8 0 55 (.tmp 5) (.tmp 28) 0 ([(D f)] ++ vb (kl K) ++ [(sV s), (D a), (D u), (D r)]) ([(D f)] ++ vb (kl K) ++ [(sV s), (D a), (D u), (D r)])) ?_
 rintro _ w9 h9
 refine wE hK7 (wp_seq_k fun K10 hK10 => ?_)
 refine pR_go h9 33 (fun W => (rBlk g8 55 ([(D f)] ++ vb (kl K) ++ [(sV s), (D a), (D u), (D r)])).Φ W /\ True) [(30, [5], 0), (31, [29], 1), (32, [30], 2), (33, [5], 0), (34, [32], 8), (35, [33], 20), (36, [5], 0), (37, [35], 64), (38, [36], 160), (39, [5], 0), (40, [38], 512), (41, [39], 1280), (42, [5], 0), (43, [41], 4096), (44, [42], 10240), (45, [5], 0), (46, [44], 32768), (47, [45], 81920), (48, [31, 34, 37, 40, 43, 46], 149796), (49, [47], 393216), (50, [5], 0), (51, [49], 1048576), (52, [5], 0), (53, [51], 4194304), (54, [5], 0), (55, [53], 16777216), (56, [5], 0), (57, [55], 67108864), (58, [5], 0), (59, [57], 268435456), (60, [52, 54, 56, 58], 713031680), (61, [50, 59], 1076363264), (0, [2, 48], 2148532223), (4, [60], 8589934591)] rfl (fun _ d _ _ _ h => by cases d <;> exact h) ?_
 intro hs11 w11 h11
 refine pR_p 23 [0, 3, 6, 9, 12, 15, 20, 22, 24, 26, 28] [(57, (pt g8 20)), (55, (pt g8 19)), (53, (pt g8 18)), (51, (pt g8 0)), (49, (pt g8 17)), (44, (pt g8 20)), (41, (pt g8 19)), (38, (pt g8 18)), (35, (pt g8 17)), (32, (pt g8 1)), (29, (pt g8 0))] 357601865 hs11 ⟨h11.at_ 0 rfl, trivial⟩ ?_
 refine pR_v 1 (some 30) (D f) 357601867 rfl hs11 ⟨h11.at_ 0 rfl, trivial⟩ (fun W hW => eL hW.1 3 (.tmp 29) 0 _) ?_
 refine pR_v 4 (some 33) (aV (vb (kl K)).toArray) 357601883 rfl hs11 ⟨h11.at_ 0 rfl, trivial⟩ (fun W hW => eLs hW.1 32 (.tmp 32) 1 (vb (kl K))) ?_
 refine pR_v 7 (some 36) (sV s) 357602011 rfl hs11 ⟨h11.at_ 0 rfl, trivial⟩ (fun W hW => eL hW.1 9 (.tmp 35) 17 _) ?_
 refine pR_v 10 (some 39) (D a) 357603035 rfl hs11 ⟨h11.at_ 0 rfl, trivial⟩ (fun W hW => eL hW.1 2 (.tmp 38) 18 _) ?_
 refine pR_v 13 (some 42) (D u) 357611227 rfl hs11 ⟨h11.at_ 0 rfl, trivial⟩ (fun W hW => eL hW.1 2 (.tmp 41) 19 _) ?_
 refine pR_v 16 (some 45) (D r) 357676763 rfl hs11 ⟨h11.at_ 0 rfl, trivial⟩ (fun W hW => eL hW.1 2 (.tmp 44) 20 _) ?_
 refine pR_v 21 (some 50) (sV s) 359773915 rfl hs11 ⟨h11.at_ 0 rfl, trivial⟩ (fun W hW => eL hW.1 9 (.tmp 49) 17 _) ?_
 refine pR_v 23 (some 52) (D f) 368162523 rfl hs11 ⟨h11.at_ 0 rfl, trivial⟩ (fun W hW => eL hW.1 3 (.tmp 51) 0 _) ?_
 refine pR_v 25 (some 54) (D a) 401716955 rfl hs11 ⟨h11.at_ 0 rfl, trivial⟩ (fun W hW => eL hW.1 2 (.tmp 53) 18 _) ?_
 refine pR_v 27 (some 56) (D u) 535934683 rfl hs11 ⟨h11.at_ 0 rfl, trivial⟩ (fun W hW => eL hW.1 2 (.tmp 55) 19 _) ?_
 refine pR_v 29 (some 58) (D r) 1072805595 rfl hs11 ⟨h11.at_ 0 rfl, trivial⟩ (fun W hW => eL hW.1 2 (.tmp 57) 20 _) ?_
 refine pR_or 2 30 hs11 ?_ ?_
 ·
  refine pR_op 2 (some 31) 1072805599 rfl (x_dp h11 54 [(D f)] (by kernel_rfl) (knum_any f _)) ?_
  rintro _ w12 ⟨rfl, h12⟩
  refine ⟨fun _ => ⟨h12.at_ 0 rfl, trivial⟩, ?_⟩
  refine pR_or 5 30 hs11 ?_ ?_
  ·
   refine pR_op 5 (some 34) 1072805631 rfl (x_rawT h12 55 [(aV (vb (kl K)).toArray)] (by kernel_rfl) (kkey_any K _)) ?_
   rintro _ w13 ⟨A13, c13, rfl, h13, hn13⟩
   refine ⟨fun _ => ⟨h13.at_ 1 rfl, trivial⟩, ?_⟩
   refine pR_or 8 30 hs11 ?_ ?_
   ·
    refine pR_op 8 (some 37) 1072805887 rfl (x_rawT h13 51 [(sV s)] (by kernel_rfl) (ktext_any s _ (by omega))) ?_
    rintro _ w14 ⟨A14, c14, rfl, h14, hn14⟩
    refine ⟨fun _ => ⟨h14.at_ 2 rfl, trivial⟩, ?_⟩
    refine pR_or 11 30 hs11 ?_ ?_
    ·
     refine pR_op 11 (some 40) 1072807935 rfl (x_dp h14 54 [(D a)] (by kernel_rfl) (knum_any a _)) ?_
     rintro _ w15 ⟨rfl, h15⟩
     refine ⟨fun _ => ⟨h15.at_ 2 rfl, trivial⟩, ?_⟩
     refine pR_or 14 30 hs11 ?_ ?_
     ·
      refine pR_op 14 (some 43) 1072824319 rfl (x_dp h15 54 [(D u)] (by kernel_rfl) (knum_any u _)) ?_
      rintro _ w16 ⟨rfl, h16⟩
      refine ⟨fun _ => ⟨h16.at_ 2 rfl, trivial⟩, ?_⟩
      refine pR_or 17 30 hs11 ?_ ?_
      ·
       refine pR_op 17 (some 46) 1072955391 rfl (x_dp h16 54 [(D r)] (by kernel_rfl) (knum_any r _)) ?_
       rintro _ w17 ⟨rfl, h17⟩
       refine ⟨fun _ => ⟨h17.at_ 2 rfl, trivial⟩, ?_⟩
       refine pR_or 18 30 hs11 ?_ ?_
       ·
        refine pR_op 18 (some 47) 1073217535 rfl (x_bs h17 106 ([O, O, (iV .u64 ((IntKind.u64.wrap f))), nS, nS, (D 1), O, (iV .u64 0), (lV A13 ((kl K).length) c13), nS, (D 1), O, (iV .u64 0), (lV A14 s.data.toList.length c14), nS, O, O, (iV .u64 ((IntKind.u64.wrap a))), nS, nS, O, O, (iV .u64 ((IntKind.u64.wrap u))), nS, nS, O, O, (iV .u64 ((IntKind.u64.wrap r))), nS, nS]) 6 (by kernel_rfl)) ?_
        rintro _ w18 ⟨g18, rfl, h18⟩
        refine ⟨fun _ => ⟨h18.at_ 3 rfl, trivial⟩, ?_⟩
        refine pR_or 19 30 hs11 ?_ ?_
        ·
         refine pR_op 19 (some 48) 1073741823 rfl (x_dp h18 50 [(D 2), (lV (some ⟨g18, 0, none⟩) 6 6)] (by kernel_rfl) (dseq_any 2 (some ⟨g18, 0, none⟩) 6 6 _)) ?_
         rintro _ w19 ⟨rfl, h19⟩
         refine ⟨fun _ => ⟨h19.at_ 3 rfl, trivial⟩, ?_⟩
         refine pR_to 30 (some 59) 2147483647 rfl hs11 (x_bs h19 2 ([(D f), (D a), (D u), (D r)]) 4 (by kernel_rfl)) ?_
         rintro _ w20 ⟨g20, rfl, h20⟩
         refine ⟨fun _ => ⟨h20.at_ 4 rfl, trivial⟩, ?_⟩
         refine pR_to 31 (some 60) 4294967295 rfl hs11 (x_tiRight h20 0 rfl s (by omega) [f, a, u, r] 4 rfl rfl (by decide) (by kernel_rfl)) ?_
         rintro _ w21 ⟨rfl, h21⟩
         refine ⟨fun _ => ⟨h21.at_ 4 rfl, trivial⟩, ?_⟩
         refine pR_to 32 none 8589934591 rfl hs11 (xSs h21 5 106 (.tmp 2) (.tmp 48) 0 ([(D 2), (D 2), (iV .u64 0), nS, (lV (some ⟨g18, 0, none⟩) 6 6)]) ([(D 2), (D 2), (iV .u64 0), nS, (lV (some ⟨g18, 0, none⟩) 6 6)])) ?_
         rintro _ w22 h22
         refine ⟨fun _ => ⟨h22.at_ 4 rfl, trivial⟩, ?_⟩
         refine pR_to 33 (some 3) 17179869183 rfl hs11 (OpTo.run (bV (rightM s [f, a, u, r])) (pureOp_run (by kernel_rfl) _) (R := fun v w => v = (bV (rightM s [f, a, u, r])) /\ w22 = w) ⟨rfl, rfl⟩) ?_
         rintro _ _ ⟨rfl, rfl⟩
         refine ⟨fun h => absurd h (by decide), ?_⟩
         refine pR_done hs11 ?_ _
         refine seq_n hK10 (wp_ret (blk_r (seq_r ?_)))
         refine post_2 rfl (by kernel_rfl) (rce (h22.at_ 5 rfl)) (rtm (bV (rightM s [f, a, u, r]))) ?_
         exact ⟨g18, _, _, _, _, rfl, h22.at_ 1 rfl, h22.at_ 2 rfl, h22.at_ 3 rfl, (h22.mine 1 _ rfl _ rfl).elim (fun h => h.elim) id, fun q hq => Nat.le_trans h13.below0.size (hn14 q hq), fun q hq => Nat.le_trans h12.below0.size (hn13 q hq), h22.below0⟩
        ·
         refine pR_op 30 (some 59) 2146959359 rfl (x_bs h18 2 ([(D f), (D a), (D u), (D r)]) 4 (by kernel_rfl)) ?_
         rintro _ w23 ⟨g23, rfl, h23⟩
         refine ⟨fun _ => ⟨h23.at_ 4 rfl, trivial⟩, ?_⟩
         refine pR_to 19 (some 48) 2147483647 rfl hs11 (x_dp h23 50 [(D 2), (lV (some ⟨g18, 0, none⟩) 6 6)] (by kernel_rfl) (dseq_any 2 (some ⟨g18, 0, none⟩) 6 6 _)) ?_
         rintro _ w24 ⟨rfl, h24⟩
         refine ⟨fun _ => ⟨h24.at_ 4 rfl, trivial⟩, ?_⟩
         refine pR_to 31 (some 60) 4294967295 rfl hs11 (x_tiRight h24 0 rfl s (by omega) [f, a, u, r] 4 rfl rfl (by decide) (by kernel_rfl)) ?_
         rintro _ w25 ⟨rfl, h25⟩
         refine ⟨fun _ => ⟨h25.at_ 4 rfl, trivial⟩, ?_⟩
         refine pR_to 32 none 8589934591 rfl hs11 (xSs h25 5 106 (.tmp 2) (.tmp 48) 0 ([(D 2), (D 2), (iV .u64 0), nS, (lV (some ⟨g18, 0, none⟩) 6 6)]) ([(D 2), (D 2), (iV .u64 0), nS, (lV (some ⟨g18, 0, none⟩) 6 6)])) ?_
         rintro _ w26 h26
         refine ⟨fun _ => ⟨h26.at_ 4 rfl, trivial⟩, ?_⟩
         refine pR_to 33 (some 3) 17179869183 rfl hs11 (OpTo.run (bV (rightM s [f, a, u, r])) (pureOp_run (by kernel_rfl) _) (R := fun v w => v = (bV (rightM s [f, a, u, r])) /\ w26 = w) ⟨rfl, rfl⟩) ?_
         rintro _ _ ⟨rfl, rfl⟩
         refine ⟨fun h => absurd h (by decide), ?_⟩
         refine pR_done hs11 ?_ _
         refine seq_n hK10 (wp_ret (blk_r (seq_r ?_)))
         refine post_2 rfl (by kernel_rfl) (rce (h26.at_ 5 rfl)) (rtm (bV (rightM s [f, a, u, r]))) ?_
         exact ⟨g18, _, _, _, _, rfl, h26.at_ 1 rfl, h26.at_ 2 rfl, h26.at_ 3 rfl, (h26.mine 1 _ rfl _ rfl).elim (fun h => h.elim) id, fun q hq => Nat.le_trans h13.below0.size (hn14 q hq), fun q hq => Nat.le_trans h12.below0.size (hn13 q hq), h26.below0⟩
       ·
        refine pR_op 30 (some 59) 2146697215 rfl (x_bs h17 2 ([(D f), (D a), (D u), (D r)]) 4 (by kernel_rfl)) ?_
        rintro _ w27 ⟨g27, rfl, h27⟩
        refine ⟨fun _ => ⟨h27.at_ 3 rfl, trivial⟩, ?_⟩
        refine pR_to 18 (some 47) 2146959359 rfl hs11 (x_bs h27 106 ([O, O, (iV .u64 ((IntKind.u64.wrap f))), nS, nS, (D 1), O, (iV .u64 0), (lV A13 ((kl K).length) c13), nS, (D 1), O, (iV .u64 0), (lV A14 s.data.toList.length c14), nS, O, O, (iV .u64 ((IntKind.u64.wrap a))), nS, nS, O, O, (iV .u64 ((IntKind.u64.wrap u))), nS, nS, O, O, (iV .u64 ((IntKind.u64.wrap r))), nS, nS]) 6 (by kernel_rfl)) ?_
        rintro _ w28 ⟨g28, rfl, h28⟩
        refine ⟨fun _ => ⟨h28.at_ 4 rfl, trivial⟩, ?_⟩
        refine pR_to 19 (some 48) 2147483647 rfl hs11 (x_dp h28 50 [(D 2), (lV (some ⟨g28, 0, none⟩) 6 6)] (by kernel_rfl) (dseq_any 2 (some ⟨g28, 0, none⟩) 6 6 _)) ?_
        rintro _ w29 ⟨rfl, h29⟩
        refine ⟨fun _ => ⟨h29.at_ 4 rfl, trivial⟩, ?_⟩
        refine pR_to 31 (some 60) 4294967295 rfl hs11 (x_tiRight h29 1 rfl s (by omega) [f, a, u, r] 4 rfl rfl (by decide) (by kernel_rfl)) ?_
        rintro _ w30 ⟨rfl, h30⟩
        refine ⟨fun _ => ⟨h30.at_ 4 rfl, trivial⟩, ?_⟩
        refine pR_to 32 none 8589934591 rfl hs11 (xSs h30 5 106 (.tmp 2) (.tmp 48) 0 ([(D 2), (D 2), (iV .u64 0), nS, (lV (some ⟨g28, 0, none⟩) 6 6)]) ([(D 2), (D 2), (iV .u64 0), nS, (lV (some ⟨g28, 0, none⟩) 6 6)])) ?_
        rintro _ w31 h31
        refine ⟨fun _ => ⟨h31.at_ 4 rfl, trivial⟩, ?_⟩
        refine pR_to 33 (some 3) 17179869183 rfl hs11 (OpTo.run (bV (rightM s [f, a, u, r])) (pureOp_run (by kernel_rfl) _) (R := fun v w => v = (bV (rightM s [f, a, u, r])) /\ w31 = w) ⟨rfl, rfl⟩) ?_
        rintro _ _ ⟨rfl, rfl⟩
        refine ⟨fun h => absurd h (by decide), ?_⟩
        refine pR_done hs11 ?_ _
        refine seq_n hK10 (wp_ret (blk_r (seq_r ?_)))
        refine post_2 rfl (by kernel_rfl) (rce (h31.at_ 5 rfl)) (rtm (bV (rightM s [f, a, u, r]))) ?_
        exact ⟨g28, _, _, _, _, rfl, h31.at_ 0 rfl, h31.at_ 2 rfl, h31.at_ 3 rfl, (h31.mine 0 _ rfl _ rfl).elim (fun h => h.elim) id, fun q hq => Nat.le_trans h13.below0.size (hn14 q hq), fun q hq => Nat.le_trans h12.below0.size (hn13 q hq), h31.below0⟩
      ·
       refine pR_op 30 (some 59) 2146566143 rfl (x_bs h16 2 ([(D f), (D a), (D u), (D r)]) 4 (by kernel_rfl)) ?_
       rintro _ w32 ⟨g32, rfl, h32⟩
       refine ⟨fun _ => ⟨h32.at_ 3 rfl, trivial⟩, ?_⟩
       refine pR_to 17 (some 46) 2146697215 rfl hs11 (x_dp h32 54 [(D r)] (by kernel_rfl) (knum_any r _)) ?_
       rintro _ w33 ⟨rfl, h33⟩
       refine ⟨fun _ => ⟨h33.at_ 3 rfl, trivial⟩, ?_⟩
       refine pR_to 18 (some 47) 2146959359 rfl hs11 (x_bs h33 106 ([O, O, (iV .u64 ((IntKind.u64.wrap f))), nS, nS, (D 1), O, (iV .u64 0), (lV A13 ((kl K).length) c13), nS, (D 1), O, (iV .u64 0), (lV A14 s.data.toList.length c14), nS, O, O, (iV .u64 ((IntKind.u64.wrap a))), nS, nS, O, O, (iV .u64 ((IntKind.u64.wrap u))), nS, nS, O, O, (iV .u64 ((IntKind.u64.wrap r))), nS, nS]) 6 (by kernel_rfl)) ?_
       rintro _ w34 ⟨g34, rfl, h34⟩
       refine ⟨fun _ => ⟨h34.at_ 4 rfl, trivial⟩, ?_⟩
       refine pR_to 19 (some 48) 2147483647 rfl hs11 (x_dp h34 50 [(D 2), (lV (some ⟨g34, 0, none⟩) 6 6)] (by kernel_rfl) (dseq_any 2 (some ⟨g34, 0, none⟩) 6 6 _)) ?_
       rintro _ w35 ⟨rfl, h35⟩
       refine ⟨fun _ => ⟨h35.at_ 4 rfl, trivial⟩, ?_⟩
       refine pR_to 31 (some 60) 4294967295 rfl hs11 (x_tiRight h35 1 rfl s (by omega) [f, a, u, r] 4 rfl rfl (by decide) (by kernel_rfl)) ?_
       rintro _ w36 ⟨rfl, h36⟩
       refine ⟨fun _ => ⟨h36.at_ 4 rfl, trivial⟩, ?_⟩
       refine pR_to 32 none 8589934591 rfl hs11 (xSs h36 5 106 (.tmp 2) (.tmp 48) 0 ([(D 2), (D 2), (iV .u64 0), nS, (lV (some ⟨g34, 0, none⟩) 6 6)]) ([(D 2), (D 2), (iV .u64 0), nS, (lV (some ⟨g34, 0, none⟩) 6 6)])) ?_
       rintro _ w37 h37
       refine ⟨fun _ => ⟨h37.at_ 4 rfl, trivial⟩, ?_⟩
       refine pR_to 33 (some 3) 17179869183 rfl hs11 (OpTo.run (bV (rightM s [f, a, u, r])) (pureOp_run (by kernel_rfl) _) (R := fun v w => v = (bV (rightM s [f, a, u, r])) /\ w37 = w) ⟨rfl, rfl⟩) ?_
       rintro _ _ ⟨rfl, rfl⟩
       refine ⟨fun h => absurd h (by decide), ?_⟩
       refine pR_done hs11 ?_ _
       refine seq_n hK10 (wp_ret (blk_r (seq_r ?_)))
       refine post_2 rfl (by kernel_rfl) (rce (h37.at_ 5 rfl)) (rtm (bV (rightM s [f, a, u, r]))) ?_
       exact ⟨g34, _, _, _, _, rfl, h37.at_ 0 rfl, h37.at_ 2 rfl, h37.at_ 3 rfl, (h37.mine 0 _ rfl _ rfl).elim (fun h => h.elim) id, fun q hq => Nat.le_trans h13.below0.size (hn14 q hq), fun q hq => Nat.le_trans h12.below0.size (hn13 q hq), h37.below0⟩
     ·
      refine pR_op 30 (some 59) 2146549759 rfl (x_bs h15 2 ([(D f), (D a), (D u), (D r)]) 4 (by kernel_rfl)) ?_
      rintro _ w38 ⟨g38, rfl, h38⟩
      refine ⟨fun _ => ⟨h38.at_ 3 rfl, trivial⟩, ?_⟩
      refine pR_to 14 (some 43) 2146566143 rfl hs11 (x_dp h38 54 [(D u)] (by kernel_rfl) (knum_any u _)) ?_
      rintro _ w39 ⟨rfl, h39⟩
      refine ⟨fun _ => ⟨h39.at_ 3 rfl, trivial⟩, ?_⟩
      refine pR_to 17 (some 46) 2146697215 rfl hs11 (x_dp h39 54 [(D r)] (by kernel_rfl) (knum_any r _)) ?_
      rintro _ w40 ⟨rfl, h40⟩
      refine ⟨fun _ => ⟨h40.at_ 3 rfl, trivial⟩, ?_⟩
      refine pR_to 18 (some 47) 2146959359 rfl hs11 (x_bs h40 106 ([O, O, (iV .u64 ((IntKind.u64.wrap f))), nS, nS, (D 1), O, (iV .u64 0), (lV A13 ((kl K).length) c13), nS, (D 1), O, (iV .u64 0), (lV A14 s.data.toList.length c14), nS, O, O, (iV .u64 ((IntKind.u64.wrap a))), nS, nS, O, O, (iV .u64 ((IntKind.u64.wrap u))), nS, nS, O, O, (iV .u64 ((IntKind.u64.wrap r))), nS, nS]) 6 (by kernel_rfl)) ?_
      rintro _ w41 ⟨g41, rfl, h41⟩
      refine ⟨fun _ => ⟨h41.at_ 4 rfl, trivial⟩, ?_⟩
      refine pR_to 19 (some 48) 2147483647 rfl hs11 (x_dp h41 50 [(D 2), (lV (some ⟨g41, 0, none⟩) 6 6)] (by kernel_rfl) (dseq_any 2 (some ⟨g41, 0, none⟩) 6 6 _)) ?_
      rintro _ w42 ⟨rfl, h42⟩
      refine ⟨fun _ => ⟨h42.at_ 4 rfl, trivial⟩, ?_⟩
      refine pR_to 31 (some 60) 4294967295 rfl hs11 (x_tiRight h42 1 rfl s (by omega) [f, a, u, r] 4 rfl rfl (by decide) (by kernel_rfl)) ?_
      rintro _ w43 ⟨rfl, h43⟩
      refine ⟨fun _ => ⟨h43.at_ 4 rfl, trivial⟩, ?_⟩
      refine pR_to 32 none 8589934591 rfl hs11 (xSs h43 5 106 (.tmp 2) (.tmp 48) 0 ([(D 2), (D 2), (iV .u64 0), nS, (lV (some ⟨g41, 0, none⟩) 6 6)]) ([(D 2), (D 2), (iV .u64 0), nS, (lV (some ⟨g41, 0, none⟩) 6 6)])) ?_
      rintro _ w44 h44
      refine ⟨fun _ => ⟨h44.at_ 4 rfl, trivial⟩, ?_⟩
      refine pR_to 33 (some 3) 17179869183 rfl hs11 (OpTo.run (bV (rightM s [f, a, u, r])) (pureOp_run (by kernel_rfl) _) (R := fun v w => v = (bV (rightM s [f, a, u, r])) /\ w44 = w) ⟨rfl, rfl⟩) ?_
      rintro _ _ ⟨rfl, rfl⟩
      refine ⟨fun h => absurd h (by decide), ?_⟩
      refine pR_done hs11 ?_ _
      refine seq_n hK10 (wp_ret (blk_r (seq_r ?_)))
      refine post_2 rfl (by kernel_rfl) (rce (h44.at_ 5 rfl)) (rtm (bV (rightM s [f, a, u, r]))) ?_
      exact ⟨g41, _, _, _, _, rfl, h44.at_ 0 rfl, h44.at_ 2 rfl, h44.at_ 3 rfl, (h44.mine 0 _ rfl _ rfl).elim (fun h => h.elim) id, fun q hq => Nat.le_trans h13.below0.size (hn14 q hq), fun q hq => Nat.le_trans h12.below0.size (hn13 q hq), h44.below0⟩
    ·
     refine pR_op 30 (some 59) 2146547711 rfl (x_bs h14 2 ([(D f), (D a), (D u), (D r)]) 4 (by kernel_rfl)) ?_
     rintro _ w45 ⟨g45, rfl, h45⟩
     refine ⟨fun _ => ⟨h45.at_ 3 rfl, trivial⟩, ?_⟩
     refine pR_to 11 (some 40) 2146549759 rfl hs11 (x_dp h45 54 [(D a)] (by kernel_rfl) (knum_any a _)) ?_
     rintro _ w46 ⟨rfl, h46⟩
     refine ⟨fun _ => ⟨h46.at_ 3 rfl, trivial⟩, ?_⟩
     refine pR_to 14 (some 43) 2146566143 rfl hs11 (x_dp h46 54 [(D u)] (by kernel_rfl) (knum_any u _)) ?_
     rintro _ w47 ⟨rfl, h47⟩
     refine ⟨fun _ => ⟨h47.at_ 3 rfl, trivial⟩, ?_⟩
     refine pR_to 17 (some 46) 2146697215 rfl hs11 (x_dp h47 54 [(D r)] (by kernel_rfl) (knum_any r _)) ?_
     rintro _ w48 ⟨rfl, h48⟩
     refine ⟨fun _ => ⟨h48.at_ 3 rfl, trivial⟩, ?_⟩
     refine pR_to 18 (some 47) 2146959359 rfl hs11 (x_bs h48 106 ([O, O, (iV .u64 ((IntKind.u64.wrap f))), nS, nS, (D 1), O, (iV .u64 0), (lV A13 ((kl K).length) c13), nS, (D 1), O, (iV .u64 0), (lV A14 s.data.toList.length c14), nS, O, O, (iV .u64 ((IntKind.u64.wrap a))), nS, nS, O, O, (iV .u64 ((IntKind.u64.wrap u))), nS, nS, O, O, (iV .u64 ((IntKind.u64.wrap r))), nS, nS]) 6 (by kernel_rfl)) ?_
     rintro _ w49 ⟨g49, rfl, h49⟩
     refine ⟨fun _ => ⟨h49.at_ 4 rfl, trivial⟩, ?_⟩
     refine pR_to 19 (some 48) 2147483647 rfl hs11 (x_dp h49 50 [(D 2), (lV (some ⟨g49, 0, none⟩) 6 6)] (by kernel_rfl) (dseq_any 2 (some ⟨g49, 0, none⟩) 6 6 _)) ?_
     rintro _ w50 ⟨rfl, h50⟩
     refine ⟨fun _ => ⟨h50.at_ 4 rfl, trivial⟩, ?_⟩
     refine pR_to 31 (some 60) 4294967295 rfl hs11 (x_tiRight h50 1 rfl s (by omega) [f, a, u, r] 4 rfl rfl (by decide) (by kernel_rfl)) ?_
     rintro _ w51 ⟨rfl, h51⟩
     refine ⟨fun _ => ⟨h51.at_ 4 rfl, trivial⟩, ?_⟩
     refine pR_to 32 none 8589934591 rfl hs11 (xSs h51 5 106 (.tmp 2) (.tmp 48) 0 ([(D 2), (D 2), (iV .u64 0), nS, (lV (some ⟨g49, 0, none⟩) 6 6)]) ([(D 2), (D 2), (iV .u64 0), nS, (lV (some ⟨g49, 0, none⟩) 6 6)])) ?_
     rintro _ w52 h52
     refine ⟨fun _ => ⟨h52.at_ 4 rfl, trivial⟩, ?_⟩
     refine pR_to 33 (some 3) 17179869183 rfl hs11 (OpTo.run (bV (rightM s [f, a, u, r])) (pureOp_run (by kernel_rfl) _) (R := fun v w => v = (bV (rightM s [f, a, u, r])) /\ w52 = w) ⟨rfl, rfl⟩) ?_
     rintro _ _ ⟨rfl, rfl⟩
     refine ⟨fun h => absurd h (by decide), ?_⟩
     refine pR_done hs11 ?_ _
     refine seq_n hK10 (wp_ret (blk_r (seq_r ?_)))
     refine post_2 rfl (by kernel_rfl) (rce (h52.at_ 5 rfl)) (rtm (bV (rightM s [f, a, u, r]))) ?_
     exact ⟨g49, _, _, _, _, rfl, h52.at_ 0 rfl, h52.at_ 2 rfl, h52.at_ 3 rfl, (h52.mine 0 _ rfl _ rfl).elim (fun h => h.elim) id, fun q hq => Nat.le_trans h13.below0.size (hn14 q hq), fun q hq => Nat.le_trans h12.below0.size (hn13 q hq), h52.below0⟩
   ·
    refine pR_op 30 (some 59) 2146547455 rfl (x_bs h13 2 ([(D f), (D a), (D u), (D r)]) 4 (by kernel_rfl)) ?_
    rintro _ w53 ⟨g53, rfl, h53⟩
    refine ⟨fun _ => ⟨h53.at_ 2 rfl, trivial⟩, ?_⟩
    refine pR_to 8 (some 37) 2146547711 rfl hs11 (x_rawT h53 51 [(sV s)] (by kernel_rfl) (ktext_any s _ (by omega))) ?_
    rintro _ w54 ⟨A54, c54, rfl, h54, hn54⟩
    refine ⟨fun _ => ⟨h54.at_ 3 rfl, trivial⟩, ?_⟩
    refine pR_to 11 (some 40) 2146549759 rfl hs11 (x_dp h54 54 [(D a)] (by kernel_rfl) (knum_any a _)) ?_
    rintro _ w55 ⟨rfl, h55⟩
    refine ⟨fun _ => ⟨h55.at_ 3 rfl, trivial⟩, ?_⟩
    refine pR_to 14 (some 43) 2146566143 rfl hs11 (x_dp h55 54 [(D u)] (by kernel_rfl) (knum_any u _)) ?_
    rintro _ w56 ⟨rfl, h56⟩
    refine ⟨fun _ => ⟨h56.at_ 3 rfl, trivial⟩, ?_⟩
    refine pR_to 17 (some 46) 2146697215 rfl hs11 (x_dp h56 54 [(D r)] (by kernel_rfl) (knum_any r _)) ?_
    rintro _ w57 ⟨rfl, h57⟩
    refine ⟨fun _ => ⟨h57.at_ 3 rfl, trivial⟩, ?_⟩
    refine pR_to 18 (some 47) 2146959359 rfl hs11 (x_bs h57 106 ([O, O, (iV .u64 ((IntKind.u64.wrap f))), nS, nS, (D 1), O, (iV .u64 0), (lV A13 ((kl K).length) c13), nS, (D 1), O, (iV .u64 0), (lV A54 s.data.toList.length c54), nS, O, O, (iV .u64 ((IntKind.u64.wrap a))), nS, nS, O, O, (iV .u64 ((IntKind.u64.wrap u))), nS, nS, O, O, (iV .u64 ((IntKind.u64.wrap r))), nS, nS]) 6 (by kernel_rfl)) ?_
    rintro _ w58 ⟨g58, rfl, h58⟩
    refine ⟨fun _ => ⟨h58.at_ 4 rfl, trivial⟩, ?_⟩
    refine pR_to 19 (some 48) 2147483647 rfl hs11 (x_dp h58 50 [(D 2), (lV (some ⟨g58, 0, none⟩) 6 6)] (by kernel_rfl) (dseq_any 2 (some ⟨g58, 0, none⟩) 6 6 _)) ?_
    rintro _ w59 ⟨rfl, h59⟩
    refine ⟨fun _ => ⟨h59.at_ 4 rfl, trivial⟩, ?_⟩
    refine pR_to 31 (some 60) 4294967295 rfl hs11 (x_tiRight h59 2 rfl s (by omega) [f, a, u, r] 4 rfl rfl (by decide) (by kernel_rfl)) ?_
    rintro _ w60 ⟨rfl, h60⟩
    refine ⟨fun _ => ⟨h60.at_ 4 rfl, trivial⟩, ?_⟩
    refine pR_to 32 none 8589934591 rfl hs11 (xSs h60 5 106 (.tmp 2) (.tmp 48) 0 ([(D 2), (D 2), (iV .u64 0), nS, (lV (some ⟨g58, 0, none⟩) 6 6)]) ([(D 2), (D 2), (iV .u64 0), nS, (lV (some ⟨g58, 0, none⟩) 6 6)])) ?_
    rintro _ w61 h61
    refine ⟨fun _ => ⟨h61.at_ 4 rfl, trivial⟩, ?_⟩
    refine pR_to 33 (some 3) 17179869183 rfl hs11 (OpTo.run (bV (rightM s [f, a, u, r])) (pureOp_run (by kernel_rfl) _) (R := fun v w => v = (bV (rightM s [f, a, u, r])) /\ w61 = w) ⟨rfl, rfl⟩) ?_
    rintro _ _ ⟨rfl, rfl⟩
    refine ⟨fun h => absurd h (by decide), ?_⟩
    refine pR_done hs11 ?_ _
    refine seq_n hK10 (wp_ret (blk_r (seq_r ?_)))
    refine post_2 rfl (by kernel_rfl) (rce (h61.at_ 5 rfl)) (rtm (bV (rightM s [f, a, u, r]))) ?_
    exact ⟨g58, _, _, _, _, rfl, h61.at_ 0 rfl, h61.at_ 1 rfl, h61.at_ 3 rfl, (h61.mine 0 _ rfl _ rfl).elim (fun h => h.elim) id, fun q hq => Nat.le_trans h53.below0.size (hn54 q hq), fun q hq => Nat.le_trans h12.below0.size (hn13 q hq), h61.below0⟩
  ·
   refine pR_op 30 (some 59) 2146547423 rfl (x_bs h12 2 ([(D f), (D a), (D u), (D r)]) 4 (by kernel_rfl)) ?_
   rintro _ w62 ⟨g62, rfl, h62⟩
   refine ⟨fun _ => ⟨h62.at_ 1 rfl, trivial⟩, ?_⟩
   refine pR_to 5 (some 34) 2146547455 rfl hs11 (x_rawT h62 55 [(aV (vb (kl K)).toArray)] (by kernel_rfl) (kkey_any K _)) ?_
   rintro _ w63 ⟨A63, c63, rfl, h63, hn63⟩
   refine ⟨fun _ => ⟨h63.at_ 2 rfl, trivial⟩, ?_⟩
   refine pR_to 8 (some 37) 2146547711 rfl hs11 (x_rawT h63 51 [(sV s)] (by kernel_rfl) (ktext_any s _ (by omega))) ?_
   rintro _ w64 ⟨A64, c64, rfl, h64, hn64⟩
   refine ⟨fun _ => ⟨h64.at_ 3 rfl, trivial⟩, ?_⟩
   refine pR_to 11 (some 40) 2146549759 rfl hs11 (x_dp h64 54 [(D a)] (by kernel_rfl) (knum_any a _)) ?_
   rintro _ w65 ⟨rfl, h65⟩
   refine ⟨fun _ => ⟨h65.at_ 3 rfl, trivial⟩, ?_⟩
   refine pR_to 14 (some 43) 2146566143 rfl hs11 (x_dp h65 54 [(D u)] (by kernel_rfl) (knum_any u _)) ?_
   rintro _ w66 ⟨rfl, h66⟩
   refine ⟨fun _ => ⟨h66.at_ 3 rfl, trivial⟩, ?_⟩
   refine pR_to 17 (some 46) 2146697215 rfl hs11 (x_dp h66 54 [(D r)] (by kernel_rfl) (knum_any r _)) ?_
   rintro _ w67 ⟨rfl, h67⟩
   refine ⟨fun _ => ⟨h67.at_ 3 rfl, trivial⟩, ?_⟩
   refine pR_to 18 (some 47) 2146959359 rfl hs11 (x_bs h67 106 ([O, O, (iV .u64 ((IntKind.u64.wrap f))), nS, nS, (D 1), O, (iV .u64 0), (lV A63 ((kl K).length) c63), nS, (D 1), O, (iV .u64 0), (lV A64 s.data.toList.length c64), nS, O, O, (iV .u64 ((IntKind.u64.wrap a))), nS, nS, O, O, (iV .u64 ((IntKind.u64.wrap u))), nS, nS, O, O, (iV .u64 ((IntKind.u64.wrap r))), nS, nS]) 6 (by kernel_rfl)) ?_
   rintro _ w68 ⟨g68, rfl, h68⟩
   refine ⟨fun _ => ⟨h68.at_ 4 rfl, trivial⟩, ?_⟩
   refine pR_to 19 (some 48) 2147483647 rfl hs11 (x_dp h68 50 [(D 2), (lV (some ⟨g68, 0, none⟩) 6 6)] (by kernel_rfl) (dseq_any 2 (some ⟨g68, 0, none⟩) 6 6 _)) ?_
   rintro _ w69 ⟨rfl, h69⟩
   refine ⟨fun _ => ⟨h69.at_ 4 rfl, trivial⟩, ?_⟩
   refine pR_to 31 (some 60) 4294967295 rfl hs11 (x_tiRight h69 3 rfl s (by omega) [f, a, u, r] 4 rfl rfl (by decide) (by kernel_rfl)) ?_
   rintro _ w70 ⟨rfl, h70⟩
   refine ⟨fun _ => ⟨h70.at_ 4 rfl, trivial⟩, ?_⟩
   refine pR_to 32 none 8589934591 rfl hs11 (xSs h70 5 106 (.tmp 2) (.tmp 48) 0 ([(D 2), (D 2), (iV .u64 0), nS, (lV (some ⟨g68, 0, none⟩) 6 6)]) ([(D 2), (D 2), (iV .u64 0), nS, (lV (some ⟨g68, 0, none⟩) 6 6)])) ?_
   rintro _ w71 h71
   refine ⟨fun _ => ⟨h71.at_ 4 rfl, trivial⟩, ?_⟩
   refine pR_to 33 (some 3) 17179869183 rfl hs11 (OpTo.run (bV (rightM s [f, a, u, r])) (pureOp_run (by kernel_rfl) _) (R := fun v w => v = (bV (rightM s [f, a, u, r])) /\ w71 = w) ⟨rfl, rfl⟩) ?_
   rintro _ _ ⟨rfl, rfl⟩
   refine ⟨fun h => absurd h (by decide), ?_⟩
   refine pR_done hs11 ?_ _
   refine seq_n hK10 (wp_ret (blk_r (seq_r ?_)))
   refine post_2 rfl (by kernel_rfl) (rce (h71.at_ 5 rfl)) (rtm (bV (rightM s [f, a, u, r]))) ?_
   exact ⟨g68, _, _, _, _, rfl, h71.at_ 0 rfl, h71.at_ 1 rfl, h71.at_ 2 rfl, (h71.mine 0 _ rfl _ rfl).elim (fun h => h.elim) id, fun q hq => Nat.le_trans h63.below0.size (hn64 q hq), fun q hq => Nat.le_trans h62.below0.size (hn63 q hq), h71.below0⟩
 ·
  refine pR_op 30 (some 59) 2146547419 rfl (x_bs h11 2 ([(D f), (D a), (D u), (D r)]) 4 (by kernel_rfl)) ?_
  rintro _ w72 ⟨g72, rfl, h72⟩
  refine ⟨fun _ => ⟨h72.at_ 1 rfl, trivial⟩, ?_⟩
  refine pR_to 2 (some 31) 2146547423 rfl hs11 (x_dp h72 54 [(D f)] (by kernel_rfl) (knum_any f _)) ?_
  rintro _ w73 ⟨rfl, h73⟩
  refine ⟨fun _ => ⟨h73.at_ 1 rfl, trivial⟩, ?_⟩
  refine pR_to 5 (some 34) 2146547455 rfl hs11 (x_rawT h73 55 [(aV (vb (kl K)).toArray)] (by kernel_rfl) (kkey_any K _)) ?_
  rintro _ w74 ⟨A74, c74, rfl, h74, hn74⟩
  refine ⟨fun _ => ⟨h74.at_ 2 rfl, trivial⟩, ?_⟩
  refine pR_to 8 (some 37) 2146547711 rfl hs11 (x_rawT h74 51 [(sV s)] (by kernel_rfl) (ktext_any s _ (by omega))) ?_
  rintro _ w75 ⟨A75, c75, rfl, h75, hn75⟩
  refine ⟨fun _ => ⟨h75.at_ 3 rfl, trivial⟩, ?_⟩
  refine pR_to 11 (some 40) 2146549759 rfl hs11 (x_dp h75 54 [(D a)] (by kernel_rfl) (knum_any a _)) ?_
  rintro _ w76 ⟨rfl, h76⟩
  refine ⟨fun _ => ⟨h76.at_ 3 rfl, trivial⟩, ?_⟩
  refine pR_to 14 (some 43) 2146566143 rfl hs11 (x_dp h76 54 [(D u)] (by kernel_rfl) (knum_any u _)) ?_
  rintro _ w77 ⟨rfl, h77⟩
  refine ⟨fun _ => ⟨h77.at_ 3 rfl, trivial⟩, ?_⟩
  refine pR_to 17 (some 46) 2146697215 rfl hs11 (x_dp h77 54 [(D r)] (by kernel_rfl) (knum_any r _)) ?_
  rintro _ w78 ⟨rfl, h78⟩
  refine ⟨fun _ => ⟨h78.at_ 3 rfl, trivial⟩, ?_⟩
  refine pR_to 18 (some 47) 2146959359 rfl hs11 (x_bs h78 106 ([O, O, (iV .u64 ((IntKind.u64.wrap f))), nS, nS, (D 1), O, (iV .u64 0), (lV A74 ((kl K).length) c74), nS, (D 1), O, (iV .u64 0), (lV A75 s.data.toList.length c75), nS, O, O, (iV .u64 ((IntKind.u64.wrap a))), nS, nS, O, O, (iV .u64 ((IntKind.u64.wrap u))), nS, nS, O, O, (iV .u64 ((IntKind.u64.wrap r))), nS, nS]) 6 (by kernel_rfl)) ?_
  rintro _ w79 ⟨g79, rfl, h79⟩
  refine ⟨fun _ => ⟨h79.at_ 4 rfl, trivial⟩, ?_⟩
  refine pR_to 19 (some 48) 2147483647 rfl hs11 (x_dp h79 50 [(D 2), (lV (some ⟨g79, 0, none⟩) 6 6)] (by kernel_rfl) (dseq_any 2 (some ⟨g79, 0, none⟩) 6 6 _)) ?_
  rintro _ w80 ⟨rfl, h80⟩
  refine ⟨fun _ => ⟨h80.at_ 4 rfl, trivial⟩, ?_⟩
  refine pR_to 31 (some 60) 4294967295 rfl hs11 (x_tiRight h80 3 rfl s (by omega) [f, a, u, r] 4 rfl rfl (by decide) (by kernel_rfl)) ?_
  rintro _ w81 ⟨rfl, h81⟩
  refine ⟨fun _ => ⟨h81.at_ 4 rfl, trivial⟩, ?_⟩
  refine pR_to 32 none 8589934591 rfl hs11 (xSs h81 5 106 (.tmp 2) (.tmp 48) 0 ([(D 2), (D 2), (iV .u64 0), nS, (lV (some ⟨g79, 0, none⟩) 6 6)]) ([(D 2), (D 2), (iV .u64 0), nS, (lV (some ⟨g79, 0, none⟩) 6 6)])) ?_
  rintro _ w82 h82
  refine ⟨fun _ => ⟨h82.at_ 4 rfl, trivial⟩, ?_⟩
  refine pR_to 33 (some 3) 17179869183 rfl hs11 (OpTo.run (bV (rightM s [f, a, u, r])) (pureOp_run (by kernel_rfl) _) (R := fun v w => v = (bV (rightM s [f, a, u, r])) /\ w82 = w) ⟨rfl, rfl⟩) ?_
  rintro _ _ ⟨rfl, rfl⟩
  refine ⟨fun h => absurd h (by decide), ?_⟩
  refine pR_done hs11 ?_ _
  refine seq_n hK10 (wp_ret (blk_r (seq_r ?_)))
  refine post_2 rfl (by kernel_rfl) (rce (h82.at_ 5 rfl)) (rtm (bV (rightM s [f, a, u, r]))) ?_
  exact ⟨g79, _, _, _, _, rfl, h82.at_ 0 rfl, h82.at_ 1 rfl, h82.at_ 2 rfl, (h82.mine 0 _ rfl _ rfl).elim (fun h => h.elim) id, fun q hq => Nat.le_trans h74.below0.size (hn75 q hq), fun q hq => Nat.le_trans h73.below0.size (hn74 q hq), h82.below0⟩
theorem vReply_any (f n a u r : Int) (s : ByteArray) (K : Fin 16 -> UInt8) (hs : s.size <= 1000000) (w : World) : Calls Try.prog 36 #[.iface 60 (aV ([(iV .i64 f)] ++ vb (kl K) ++ [(iV .i64 n), (sV s), (iV .i64 a), (iV .i64 u), (iV .i64 r)]).toArray)] w fun e w' => ∃ g A c B d, e = .returned (.tuple #[.agg #[.int .i64 2, .int .i64 3, .int .u64 0, .slice none 0 0, .slice (some ⟨g, 0, none⟩) 7 7], .bool (rightM s [f, n, a, u, r])]) /\ Blk w' g 106 (nV f ++ rV (lV B (kl K).length d) ++ nV n ++ rV (lV A s.data.toList.length c) ++ nV a ++ nV u ++ nV r) /\ SB w' (lV A s.data.toList.length c) s.data.toList /\ SB w' (lV B (kl K).length d) (kl K) /\ w.heap.size <= g /\ (∀ q, (lV A s.data.toList.length c).ownBlock = some q -> w.heap.size <= q) /\ (∀ q, (lV B (kl K).length d).ownBlock = some q -> w.heap.size <= q) /\ Below w.heap.size w w' := by
 have h0 := Hp.nil (fun _ => False) w
 refine enter 179 Try.func36 rfl rfl ?_
 refine wp_reset 180 [(0, (Value.iface 60 (aV ([(D f)] ++ vb (kl K) ++ [(D n), (sV s), (D a), (D u), (D r)]).toArray)))] (fun x0 => ?_)
 refine wR fun K1 hK1 => ?_
 refine wT 2 (xN h0 106 ([O, O, (iV .u64 0), nS, nS])) ?_
 rintro _ w2 ⟨g2, rfl, h2⟩
 refine wq_p 1 [(3, V)] ?_
 refine wE hK1 (wp_seq_k fun K3 hK3 => wR fun K4 hK4 => ?_)
 refine wq_p 1 [(11, (Value.iface 60 (aV ([(D f)] ++ vb (kl K) ++ [(D n), (sV s), (D a), (D u), (D r)]).toArray)))] ?_
 refine wE hK4 (wp_block (wR fun K5 hK5 => ?_))
 refine wq_p 3 [(14, (aV ([eS, nS]).toArray)), (13, V), (12, (Value.tuple #[(aV ([eS, nS]).toArray), V]))] ?_
 refine wE hK5 (cF (wR fun K6 hK6 => ?_))
 refine wq_p 3 [(28, (aV ([O] ++ vb (List.replicate 16 0) ++ [eS, O, O, O]).toArray)), (27, V), (26, (Value.tuple #[(aV ([O] ++ vb (List.replicate 16 0) ++ [eS, O, O, O]).toArray), V]))] ?_
 refine wE hK6 (cF (wR fun K7 hK7 => ?_))
 refine wq_p 3 [(63, (aV ([(D f)] ++ vb (kl K) ++ [(D n), (sV s), (D a), (D u), (D r)]).toArray)), (62, I), (61, (Value.tuple #[(aV ([(D f)] ++ vb (kl K) ++ [(D n), (sV s), (D a), (D u), (D r)]).toArray), I]))] ?_
 refine wE hK7 (cT (wR fun K8 hK8 => ?_))
 refine wT 6 (xN h2 60 ([O] ++ vb (List.replicate 16 0) ++ [O, eS, O, O, O])) ?_
 rintro _ w9 ⟨g9, rfl, h9⟩
 refine wq_to none (xSs h9 0 60 (.tmp 6) (.tmp 63) 0 ([(D f)] ++ vb (kl K) ++ [(D n), (sV s), (D a), (D u), (D r)]) ([(D f)] ++ vb (kl K) ++ [(D n), (sV s), (D a), (D u), (D r)])) ?_
 rintro _ w10 h10
 refine wE hK8 (wp_seq_k fun K11 hK11 => ?_)
 refine pR_go h10 38 (fun W => (rBlk g9 60 ([(D f)] ++ vb (kl K) ++ [(D n), (sV s), (D a), (D u), (D r)])).Φ W /\ True) [(65, [6], 0), (66, [64], 1), (67, [65], 2), (68, [6], 0), (69, [67], 8), (70, [68], 20), (71, [6], 0), (72, [70], 64), (73, [71], 160), (74, [6], 0), (75, [73], 512), (76, [74], 1280), (77, [6], 0), (78, [76], 4096), (79, [77], 10240), (80, [6], 0), (81, [79], 32768), (82, [80], 81920), (83, [6], 0), (84, [82], 262144), (85, [83], 655360), (86, [66, 69, 72, 75, 78, 81, 84], 1198372), (87, [85], 3145728), (88, [6], 0), (89, [87], 8388608), (90, [6], 0), (91, [89], 33554432), (92, [6], 0), (93, [91], 134217728), (94, [6], 0), (95, [93], 536870912), (96, [6], 0), (97, [95], 2147483648), (98, [6], 0), (99, [97], 8589934592), (100, [90, 92, 94, 96, 98], 22884122624), (101, [88, 99], 34380709888), (0, [2, 86], 68727865343), (4, [100], 274877906943)] rfl (fun _ d _ _ _ h => by cases d <;> exact h) ?_
 intro hs12 w12 h12
 refine pR_p 26 [0, 3, 6, 9, 12, 15, 18, 23, 25, 27, 29, 31, 33] [(97, (pt g9 21)), (95, (pt g9 20)), (93, (pt g9 19)), (91, (pt g9 17)), (89, (pt g9 0)), (87, (pt g9 18)), (82, (pt g9 21)), (79, (pt g9 20)), (76, (pt g9 19)), (73, (pt g9 18)), (70, (pt g9 17)), (67, (pt g9 1)), (64, (pt g9 0))] 11450749513 hs12 ⟨h12.at_ 0 rfl, trivial⟩ ?_
 refine pR_v 1 (some 65) (D f) 11450749515 rfl hs12 ⟨h12.at_ 0 rfl, trivial⟩ (fun W hW => eL hW.1 3 (.tmp 64) 0 _) ?_
 refine pR_v 4 (some 68) (aV (vb (kl K)).toArray) 11450749531 rfl hs12 ⟨h12.at_ 0 rfl, trivial⟩ (fun W hW => eLs hW.1 32 (.tmp 67) 1 (vb (kl K))) ?_
 refine pR_v 7 (some 71) (D n) 11450749659 rfl hs12 ⟨h12.at_ 0 rfl, trivial⟩ (fun W hW => eL hW.1 2 (.tmp 70) 17 _) ?_
 refine pR_v 10 (some 74) (sV s) 11450750683 rfl hs12 ⟨h12.at_ 0 rfl, trivial⟩ (fun W hW => eL hW.1 9 (.tmp 73) 18 _) ?_
 refine pR_v 13 (some 77) (D a) 11450758875 rfl hs12 ⟨h12.at_ 0 rfl, trivial⟩ (fun W hW => eL hW.1 2 (.tmp 76) 19 _) ?_
 refine pR_v 16 (some 80) (D u) 11450824411 rfl hs12 ⟨h12.at_ 0 rfl, trivial⟩ (fun W hW => eL hW.1 2 (.tmp 79) 20 _) ?_
 refine pR_v 19 (some 83) (D r) 11451348699 rfl hs12 ⟨h12.at_ 0 rfl, trivial⟩ (fun W hW => eL hW.1 2 (.tmp 82) 21 _) ?_
 refine pR_v 24 (some 88) (sV s) 11468125915 rfl hs12 ⟨h12.at_ 0 rfl, trivial⟩ (fun W hW => eL hW.1 9 (.tmp 87) 18 _) ?_
 refine pR_v 26 (some 90) (D f) 11535234779 rfl hs12 ⟨h12.at_ 0 rfl, trivial⟩ (fun W hW => eL hW.1 3 (.tmp 89) 0 _) ?_
 refine pR_v 28 (some 92) (D n) 11803670235 rfl hs12 ⟨h12.at_ 0 rfl, trivial⟩ (fun W hW => eL hW.1 2 (.tmp 91) 17 _) ?_
 refine pR_v 30 (some 94) (D a) 12877412059 rfl hs12 ⟨h12.at_ 0 rfl, trivial⟩ (fun W hW => eL hW.1 2 (.tmp 93) 19 _) ?_
 refine pR_v 32 (some 96) (D u) 17172379355 rfl hs12 ⟨h12.at_ 0 rfl, trivial⟩ (fun W hW => eL hW.1 2 (.tmp 95) 20 _) ?_
 refine pR_v 34 (some 98) (D r) 34352248539 rfl hs12 ⟨h12.at_ 0 rfl, trivial⟩ (fun W hW => eL hW.1 2 (.tmp 97) 21 _) ?_
 refine pR_or 2 35 hs12 ?_ ?_
 ·
  refine pR_op 2 (some 66) 34352248543 rfl (x_dp h12 54 [(D f)] (by kernel_rfl) (knum_any f _)) ?_
  rintro _ w13 ⟨rfl, h13⟩
  refine ⟨fun _ => ⟨h13.at_ 0 rfl, trivial⟩, ?_⟩
  refine pR_or 5 35 hs12 ?_ ?_
  ·
   refine pR_op 5 (some 69) 34352248575 rfl (x_rawT h13 55 [(aV (vb (kl K)).toArray)] (by kernel_rfl) (kkey_any K _)) ?_
   rintro _ w14 ⟨A14, c14, rfl, h14, hn14⟩
   refine ⟨fun _ => ⟨h14.at_ 1 rfl, trivial⟩, ?_⟩
   refine pR_or 8 35 hs12 ?_ ?_
   ·
    refine pR_op 8 (some 72) 34352248831 rfl (x_dp h14 54 [(D n)] (by kernel_rfl) (knum_any n _)) ?_
    rintro _ w15 ⟨rfl, h15⟩
    refine ⟨fun _ => ⟨h15.at_ 1 rfl, trivial⟩, ?_⟩
    refine pR_or 11 35 hs12 ?_ ?_
    ·
     refine pR_op 11 (some 75) 34352250879 rfl (x_rawT h15 51 [(sV s)] (by kernel_rfl) (ktext_any s _ (by omega))) ?_
     rintro _ w16 ⟨A16, c16, rfl, h16, hn16⟩
     refine ⟨fun _ => ⟨h16.at_ 2 rfl, trivial⟩, ?_⟩
     refine pR_or 14 35 hs12 ?_ ?_
     ·
      refine pR_op 14 (some 78) 34352267263 rfl (x_dp h16 54 [(D a)] (by kernel_rfl) (knum_any a _)) ?_
      rintro _ w17 ⟨rfl, h17⟩
      refine ⟨fun _ => ⟨h17.at_ 2 rfl, trivial⟩, ?_⟩
      refine pR_or 17 35 hs12 ?_ ?_
      ·
       refine pR_op 17 (some 81) 34352398335 rfl (x_dp h17 54 [(D u)] (by kernel_rfl) (knum_any u _)) ?_
       rintro _ w18 ⟨rfl, h18⟩
       refine ⟨fun _ => ⟨h18.at_ 2 rfl, trivial⟩, ?_⟩
       refine pR_or 20 35 hs12 ?_ ?_
       ·
        refine pR_op 20 (some 84) 34353446911 rfl (x_dp h18 54 [(D r)] (by kernel_rfl) (knum_any r _)) ?_
        rintro _ w19 ⟨rfl, h19⟩
        refine ⟨fun _ => ⟨h19.at_ 2 rfl, trivial⟩, ?_⟩
        refine pR_or 21 35 hs12 ?_ ?_
        ·
         refine pR_op 21 (some 85) 34355544063 rfl (x_bs h19 106 ([O, O, (iV .u64 ((IntKind.u64.wrap f))), nS, nS, (D 1), O, (iV .u64 0), (lV A14 ((kl K).length) c14), nS, O, O, (iV .u64 ((IntKind.u64.wrap n))), nS, nS, (D 1), O, (iV .u64 0), (lV A16 s.data.toList.length c16), nS, O, O, (iV .u64 ((IntKind.u64.wrap a))), nS, nS, O, O, (iV .u64 ((IntKind.u64.wrap u))), nS, nS, O, O, (iV .u64 ((IntKind.u64.wrap r))), nS, nS]) 7 (by kernel_rfl)) ?_
         rintro _ w20 ⟨g20, rfl, h20⟩
         refine ⟨fun _ => ⟨h20.at_ 3 rfl, trivial⟩, ?_⟩
         refine pR_or 22 35 hs12 ?_ ?_
         ·
          refine pR_op 22 (some 86) 34359738367 rfl (x_dp h20 50 [(D 3), (lV (some ⟨g20, 0, none⟩) 7 7)] (by kernel_rfl) (dseq_any 3 (some ⟨g20, 0, none⟩) 7 7 _)) ?_
          rintro _ w21 ⟨rfl, h21⟩
          refine ⟨fun _ => ⟨h21.at_ 3 rfl, trivial⟩, ?_⟩
          refine pR_to 35 (some 99) 68719476735 rfl hs12 (x_bs h21 2 ([(D f), (D n), (D a), (D u), (D r)]) 5 (by kernel_rfl)) ?_
          rintro _ w22 ⟨g22, rfl, h22⟩
          refine ⟨fun _ => ⟨h22.at_ 4 rfl, trivial⟩, ?_⟩
          refine pR_to 36 (some 100) 137438953471 rfl hs12 (x_tiRight h22 0 rfl s (by omega) [f, n, a, u, r] 5 rfl rfl (by decide) (by kernel_rfl)) ?_
          rintro _ w23 ⟨rfl, h23⟩
          refine ⟨fun _ => ⟨h23.at_ 4 rfl, trivial⟩, ?_⟩
          refine pR_to 37 none 274877906943 rfl hs12 (xSs h23 5 106 (.tmp 2) (.tmp 86) 0 ([(D 2), (D 3), (iV .u64 0), nS, (lV (some ⟨g20, 0, none⟩) 7 7)]) ([(D 2), (D 3), (iV .u64 0), nS, (lV (some ⟨g20, 0, none⟩) 7 7)])) ?_
          rintro _ w24 h24
          refine ⟨fun _ => ⟨h24.at_ 4 rfl, trivial⟩, ?_⟩
          refine pR_to 38 (some 3) 549755813887 rfl hs12 (OpTo.run (bV (rightM s [f, n, a, u, r])) (pureOp_run (by kernel_rfl) _) (R := fun v w => v = (bV (rightM s [f, n, a, u, r])) /\ w24 = w) ⟨rfl, rfl⟩) ?_
          rintro _ _ ⟨rfl, rfl⟩
          refine ⟨fun h => absurd h (by decide), ?_⟩
          refine pR_done hs12 ?_ _
          refine seq_n hK11 (wp_ret (blk_r (seq_r ?_)))
          refine post_2 rfl (by kernel_rfl) (rce (h24.at_ 5 rfl)) (rtm (bV (rightM s [f, n, a, u, r]))) ?_
          exact ⟨g20, _, _, _, _, rfl, h24.at_ 1 rfl, h24.at_ 2 rfl, h24.at_ 3 rfl, (h24.mine 1 _ rfl _ rfl).elim (fun h => h.elim) id, fun q hq => Nat.le_trans h15.below0.size (hn16 q hq), fun q hq => Nat.le_trans h13.below0.size (hn14 q hq), h24.below0⟩
         ·
          refine pR_op 35 (some 99) 68715282431 rfl (x_bs h20 2 ([(D f), (D n), (D a), (D u), (D r)]) 5 (by kernel_rfl)) ?_
          rintro _ w25 ⟨g25, rfl, h25⟩
          refine ⟨fun _ => ⟨h25.at_ 4 rfl, trivial⟩, ?_⟩
          refine pR_to 22 (some 86) 68719476735 rfl hs12 (x_dp h25 50 [(D 3), (lV (some ⟨g20, 0, none⟩) 7 7)] (by kernel_rfl) (dseq_any 3 (some ⟨g20, 0, none⟩) 7 7 _)) ?_
          rintro _ w26 ⟨rfl, h26⟩
          refine ⟨fun _ => ⟨h26.at_ 4 rfl, trivial⟩, ?_⟩
          refine pR_to 36 (some 100) 137438953471 rfl hs12 (x_tiRight h26 0 rfl s (by omega) [f, n, a, u, r] 5 rfl rfl (by decide) (by kernel_rfl)) ?_
          rintro _ w27 ⟨rfl, h27⟩
          refine ⟨fun _ => ⟨h27.at_ 4 rfl, trivial⟩, ?_⟩
          refine pR_to 37 none 274877906943 rfl hs12 (xSs h27 5 106 (.tmp 2) (.tmp 86) 0 ([(D 2), (D 3), (iV .u64 0), nS, (lV (some ⟨g20, 0, none⟩) 7 7)]) ([(D 2), (D 3), (iV .u64 0), nS, (lV (some ⟨g20, 0, none⟩) 7 7)])) ?_
          rintro _ w28 h28
          refine ⟨fun _ => ⟨h28.at_ 4 rfl, trivial⟩, ?_⟩
          refine pR_to 38 (some 3) 549755813887 rfl hs12 (OpTo.run (bV (rightM s [f, n, a, u, r])) (pureOp_run (by kernel_rfl) _) (R := fun v w => v = (bV (rightM s [f, n, a, u, r])) /\ w28 = w) ⟨rfl, rfl⟩) ?_
          rintro _ _ ⟨rfl, rfl⟩
          refine ⟨fun h => absurd h (by decide), ?_⟩
          refine pR_done hs12 ?_ _
          refine seq_n hK11 (wp_ret (blk_r (seq_r ?_)))
          refine post_2 rfl (by kernel_rfl) (rce (h28.at_ 5 rfl)) (rtm (bV (rightM s [f, n, a, u, r]))) ?_
          exact ⟨g20, _, _, _, _, rfl, h28.at_ 1 rfl, h28.at_ 2 rfl, h28.at_ 3 rfl, (h28.mine 1 _ rfl _ rfl).elim (fun h => h.elim) id, fun q hq => Nat.le_trans h15.below0.size (hn16 q hq), fun q hq => Nat.le_trans h13.below0.size (hn14 q hq), h28.below0⟩
        ·
         refine pR_op 35 (some 99) 68713185279 rfl (x_bs h19 2 ([(D f), (D n), (D a), (D u), (D r)]) 5 (by kernel_rfl)) ?_
         rintro _ w29 ⟨g29, rfl, h29⟩
         refine ⟨fun _ => ⟨h29.at_ 3 rfl, trivial⟩, ?_⟩
         refine pR_to 21 (some 85) 68715282431 rfl hs12 (x_bs h29 106 ([O, O, (iV .u64 ((IntKind.u64.wrap f))), nS, nS, (D 1), O, (iV .u64 0), (lV A14 ((kl K).length) c14), nS, O, O, (iV .u64 ((IntKind.u64.wrap n))), nS, nS, (D 1), O, (iV .u64 0), (lV A16 s.data.toList.length c16), nS, O, O, (iV .u64 ((IntKind.u64.wrap a))), nS, nS, O, O, (iV .u64 ((IntKind.u64.wrap u))), nS, nS, O, O, (iV .u64 ((IntKind.u64.wrap r))), nS, nS]) 7 (by kernel_rfl)) ?_
         rintro _ w30 ⟨g30, rfl, h30⟩
         refine ⟨fun _ => ⟨h30.at_ 4 rfl, trivial⟩, ?_⟩
         refine pR_to 22 (some 86) 68719476735 rfl hs12 (x_dp h30 50 [(D 3), (lV (some ⟨g30, 0, none⟩) 7 7)] (by kernel_rfl) (dseq_any 3 (some ⟨g30, 0, none⟩) 7 7 _)) ?_
         rintro _ w31 ⟨rfl, h31⟩
         refine ⟨fun _ => ⟨h31.at_ 4 rfl, trivial⟩, ?_⟩
         refine pR_to 36 (some 100) 137438953471 rfl hs12 (x_tiRight h31 1 rfl s (by omega) [f, n, a, u, r] 5 rfl rfl (by decide) (by kernel_rfl)) ?_
         rintro _ w32 ⟨rfl, h32⟩
         refine ⟨fun _ => ⟨h32.at_ 4 rfl, trivial⟩, ?_⟩
         refine pR_to 37 none 274877906943 rfl hs12 (xSs h32 5 106 (.tmp 2) (.tmp 86) 0 ([(D 2), (D 3), (iV .u64 0), nS, (lV (some ⟨g30, 0, none⟩) 7 7)]) ([(D 2), (D 3), (iV .u64 0), nS, (lV (some ⟨g30, 0, none⟩) 7 7)])) ?_
         rintro _ w33 h33
         refine ⟨fun _ => ⟨h33.at_ 4 rfl, trivial⟩, ?_⟩
         refine pR_to 38 (some 3) 549755813887 rfl hs12 (OpTo.run (bV (rightM s [f, n, a, u, r])) (pureOp_run (by kernel_rfl) _) (R := fun v w => v = (bV (rightM s [f, n, a, u, r])) /\ w33 = w) ⟨rfl, rfl⟩) ?_
         rintro _ _ ⟨rfl, rfl⟩
         refine ⟨fun h => absurd h (by decide), ?_⟩
         refine pR_done hs12 ?_ _
         refine seq_n hK11 (wp_ret (blk_r (seq_r ?_)))
         refine post_2 rfl (by kernel_rfl) (rce (h33.at_ 5 rfl)) (rtm (bV (rightM s [f, n, a, u, r]))) ?_
         exact ⟨g30, _, _, _, _, rfl, h33.at_ 0 rfl, h33.at_ 2 rfl, h33.at_ 3 rfl, (h33.mine 0 _ rfl _ rfl).elim (fun h => h.elim) id, fun q hq => Nat.le_trans h15.below0.size (hn16 q hq), fun q hq => Nat.le_trans h13.below0.size (hn14 q hq), h33.below0⟩
       ·
        refine pR_op 35 (some 99) 68712136703 rfl (x_bs h18 2 ([(D f), (D n), (D a), (D u), (D r)]) 5 (by kernel_rfl)) ?_
        rintro _ w34 ⟨g34, rfl, h34⟩
        refine ⟨fun _ => ⟨h34.at_ 3 rfl, trivial⟩, ?_⟩
        refine pR_to 20 (some 84) 68713185279 rfl hs12 (x_dp h34 54 [(D r)] (by kernel_rfl) (knum_any r _)) ?_
        rintro _ w35 ⟨rfl, h35⟩
        refine ⟨fun _ => ⟨h35.at_ 3 rfl, trivial⟩, ?_⟩
        refine pR_to 21 (some 85) 68715282431 rfl hs12 (x_bs h35 106 ([O, O, (iV .u64 ((IntKind.u64.wrap f))), nS, nS, (D 1), O, (iV .u64 0), (lV A14 ((kl K).length) c14), nS, O, O, (iV .u64 ((IntKind.u64.wrap n))), nS, nS, (D 1), O, (iV .u64 0), (lV A16 s.data.toList.length c16), nS, O, O, (iV .u64 ((IntKind.u64.wrap a))), nS, nS, O, O, (iV .u64 ((IntKind.u64.wrap u))), nS, nS, O, O, (iV .u64 ((IntKind.u64.wrap r))), nS, nS]) 7 (by kernel_rfl)) ?_
        rintro _ w36 ⟨g36, rfl, h36⟩
        refine ⟨fun _ => ⟨h36.at_ 4 rfl, trivial⟩, ?_⟩
        refine pR_to 22 (some 86) 68719476735 rfl hs12 (x_dp h36 50 [(D 3), (lV (some ⟨g36, 0, none⟩) 7 7)] (by kernel_rfl) (dseq_any 3 (some ⟨g36, 0, none⟩) 7 7 _)) ?_
        rintro _ w37 ⟨rfl, h37⟩
        refine ⟨fun _ => ⟨h37.at_ 4 rfl, trivial⟩, ?_⟩
        refine pR_to 36 (some 100) 137438953471 rfl hs12 (x_tiRight h37 1 rfl s (by omega) [f, n, a, u, r] 5 rfl rfl (by decide) (by kernel_rfl)) ?_
        rintro _ w38 ⟨rfl, h38⟩
        refine ⟨fun _ => ⟨h38.at_ 4 rfl, trivial⟩, ?_⟩
        refine pR_to 37 none 274877906943 rfl hs12 (xSs h38 5 106 (.tmp 2) (.tmp 86) 0 ([(D 2), (D 3), (iV .u64 0), nS, (lV (some ⟨g36, 0, none⟩) 7 7)]) ([(D 2), (D 3), (iV .u64 0), nS, (lV (some ⟨g36, 0, none⟩) 7 7)])) ?_
        rintro _ w39 h39
        refine ⟨fun _ => ⟨h39.at_ 4 rfl, trivial⟩, ?_⟩
        refine pR_to 38 (some 3) 549755813887 rfl hs12 (OpTo.run (bV (rightM s [f, n, a, u, r])) (pureOp_run (by kernel_rfl) _) (R := fun v w => v = (bV (rightM s [f, n, a, u, r])) /\ w39 = w) ⟨rfl, rfl⟩) ?_
        rintro _ _ ⟨rfl, rfl⟩
        refine ⟨fun h => absurd h (by decide), ?_⟩
        refine pR_done hs12 ?_ _
        refine seq_n hK11 (wp_ret (blk_r (seq_r ?_)))
        refine post_2 rfl (by kernel_rfl) (rce (h39.at_ 5 rfl)) (rtm (bV (rightM s [f, n, a, u, r]))) ?_
        exact ⟨g36, _, _, _, _, rfl, h39.at_ 0 rfl, h39.at_ 2 rfl, h39.at_ 3 rfl, (h39.mine 0 _ rfl _ rfl).elim (fun h => h.elim) id, fun q hq => Nat.le_trans h15.below0.size (hn16 q hq), fun q hq => Nat.le_trans h13.below0.size (hn14 q hq), h39.below0⟩
      ·
       refine pR_op 35 (some 99) 68712005631 rfl (x_bs h17 2 ([(D f), (D n), (D a), (D u), (D r)]) 5 (by kernel_rfl)) ?_
       rintro _ w40 ⟨g40, rfl, h40⟩
       refine ⟨fun _ => ⟨h40.at_ 3 rfl, trivial⟩, ?_⟩
       refine pR_to 17 (some 81) 68712136703 rfl hs12 (x_dp h40 54 [(D u)] (by kernel_rfl) (knum_any u _)) ?_
       rintro _ w41 ⟨rfl, h41⟩
       refine ⟨fun _ => ⟨h41.at_ 3 rfl, trivial⟩, ?_⟩
       refine pR_to 20 (some 84) 68713185279 rfl hs12 (x_dp h41 54 [(D r)] (by kernel_rfl) (knum_any r _)) ?_
       rintro _ w42 ⟨rfl, h42⟩
       refine ⟨fun _ => ⟨h42.at_ 3 rfl, trivial⟩, ?_⟩
       refine pR_to 21 (some 85) 68715282431 rfl hs12 (x_bs h42 106 ([O, O, (iV .u64 ((IntKind.u64.wrap f))), nS, nS, (D 1), O, (iV .u64 0), (lV A14 ((kl K).length) c14), nS, O, O, (iV .u64 ((IntKind.u64.wrap n))), nS, nS, (D 1), O, (iV .u64 0), (lV A16 s.data.toList.length c16), nS, O, O, (iV .u64 ((IntKind.u64.wrap a))), nS, nS, O, O, (iV .u64 ((IntKind.u64.wrap u))), nS, nS, O, O, (iV .u64 ((IntKind.u64.wrap r))), nS, nS]) 7 (by kernel_rfl)) ?_
       rintro _ w43 ⟨g43, rfl, h43⟩
       refine ⟨fun _ => ⟨h43.at_ 4 rfl, trivial⟩, ?_⟩
       refine pR_to 22 (some 86) 68719476735 rfl hs12 (x_dp h43 50 [(D 3), (lV (some ⟨g43, 0, none⟩) 7 7)] (by kernel_rfl) (dseq_any 3 (some ⟨g43, 0, none⟩) 7 7 _)) ?_
       rintro _ w44 ⟨rfl, h44⟩
       refine ⟨fun _ => ⟨h44.at_ 4 rfl, trivial⟩, ?_⟩
       refine pR_to 36 (some 100) 137438953471 rfl hs12 (x_tiRight h44 1 rfl s (by omega) [f, n, a, u, r] 5 rfl rfl (by decide) (by kernel_rfl)) ?_
       rintro _ w45 ⟨rfl, h45⟩
       refine ⟨fun _ => ⟨h45.at_ 4 rfl, trivial⟩, ?_⟩
       refine pR_to 37 none 274877906943 rfl hs12 (xSs h45 5 106 (.tmp 2) (.tmp 86) 0 ([(D 2), (D 3), (iV .u64 0), nS, (lV (some ⟨g43, 0, none⟩) 7 7)]) ([(D 2), (D 3), (iV .u64 0), nS, (lV (some ⟨g43, 0, none⟩) 7 7)])) ?_
       rintro _ w46 h46
       refine ⟨fun _ => ⟨h46.at_ 4 rfl, trivial⟩, ?_⟩
       refine pR_to 38 (some 3) 549755813887 rfl hs12 (OpTo.run (bV (rightM s [f, n, a, u, r])) (pureOp_run (by kernel_rfl) _) (R := fun v w => v = (bV (rightM s [f, n, a, u, r])) /\ w46 = w) ⟨rfl, rfl⟩) ?_
       rintro _ _ ⟨rfl, rfl⟩
       refine ⟨fun h => absurd h (by decide), ?_⟩
       refine pR_done hs12 ?_ _
       refine seq_n hK11 (wp_ret (blk_r (seq_r ?_)))
       refine post_2 rfl (by kernel_rfl) (rce (h46.at_ 5 rfl)) (rtm (bV (rightM s [f, n, a, u, r]))) ?_
       exact ⟨g43, _, _, _, _, rfl, h46.at_ 0 rfl, h46.at_ 2 rfl, h46.at_ 3 rfl, (h46.mine 0 _ rfl _ rfl).elim (fun h => h.elim) id, fun q hq => Nat.le_trans h15.below0.size (hn16 q hq), fun q hq => Nat.le_trans h13.below0.size (hn14 q hq), h46.below0⟩
     ·
      refine pR_op 35 (some 99) 68711989247 rfl (x_bs h16 2 ([(D f), (D n), (D a), (D u), (D r)]) 5 (by kernel_rfl)) ?_
      rintro _ w47 ⟨g47, rfl, h47⟩
      refine ⟨fun _ => ⟨h47.at_ 3 rfl, trivial⟩, ?_⟩
      refine pR_to 14 (some 78) 68712005631 rfl hs12 (x_dp h47 54 [(D a)] (by kernel_rfl) (knum_any a _)) ?_
      rintro _ w48 ⟨rfl, h48⟩
      refine ⟨fun _ => ⟨h48.at_ 3 rfl, trivial⟩, ?_⟩
      refine pR_to 17 (some 81) 68712136703 rfl hs12 (x_dp h48 54 [(D u)] (by kernel_rfl) (knum_any u _)) ?_
      rintro _ w49 ⟨rfl, h49⟩
      refine ⟨fun _ => ⟨h49.at_ 3 rfl, trivial⟩, ?_⟩
      refine pR_to 20 (some 84) 68713185279 rfl hs12 (x_dp h49 54 [(D r)] (by kernel_rfl) (knum_any r _)) ?_
      rintro _ w50 ⟨rfl, h50⟩
      refine ⟨fun _ => ⟨h50.at_ 3 rfl, trivial⟩, ?_⟩
      refine pR_to 21 (some 85) 68715282431 rfl hs12 (x_bs h50 106 ([O, O, (iV .u64 ((IntKind.u64.wrap f))), nS, nS, (D 1), O, (iV .u64 0), (lV A14 ((kl K).length) c14), nS, O, O, (iV .u64 ((IntKind.u64.wrap n))), nS, nS, (D 1), O, (iV .u64 0), (lV A16 s.data.toList.length c16), nS, O, O, (iV .u64 ((IntKind.u64.wrap a))), nS, nS, O, O, (iV .u64 ((IntKind.u64.wrap u))), nS, nS, O, O, (iV .u64 ((IntKind.u64.wrap r))), nS, nS]) 7 (by kernel_rfl)) ?_
      rintro _ w51 ⟨g51, rfl, h51⟩
      refine ⟨fun _ => ⟨h51.at_ 4 rfl, trivial⟩, ?_⟩
      refine pR_to 22 (some 86) 68719476735 rfl hs12 (x_dp h51 50 [(D 3), (lV (some ⟨g51, 0, none⟩) 7 7)] (by kernel_rfl) (dseq_any 3 (some ⟨g51, 0, none⟩) 7 7 _)) ?_
      rintro _ w52 ⟨rfl, h52⟩
      refine ⟨fun _ => ⟨h52.at_ 4 rfl, trivial⟩, ?_⟩
      refine pR_to 36 (some 100) 137438953471 rfl hs12 (x_tiRight h52 1 rfl s (by omega) [f, n, a, u, r] 5 rfl rfl (by decide) (by kernel_rfl)) ?_
      rintro _ w53 ⟨rfl, h53⟩
      refine ⟨fun _ => ⟨h53.at_ 4 rfl, trivial⟩, ?_⟩
      refine pR_to 37 none 274877906943 rfl hs12 (xSs h53 5 106 (.tmp 2) (.tmp 86) 0 ([(D 2), (D 3), (iV .u64 0), nS, (lV (some ⟨g51, 0, none⟩) 7 7)]) ([(D 2), (D 3), (iV .u64 0), nS, (lV (some ⟨g51, 0, none⟩) 7 7)])) ?_
      rintro _ w54 h54
      refine ⟨fun _ => ⟨h54.at_ 4 rfl, trivial⟩, ?_⟩
      refine pR_to 38 (some 3) 549755813887 rfl hs12 (OpTo.run (bV (rightM s [f, n, a, u, r])) (pureOp_run (by kernel_rfl) _) (R := fun v w => v = (bV (rightM s [f, n, a, u, r])) /\ w54 = w) ⟨rfl, rfl⟩) ?_
      rintro _ _ ⟨rfl, rfl⟩
      refine ⟨fun h => absurd h (by decide), ?_⟩
      refine pR_done hs12 ?_ _
      refine seq_n hK11 (wp_ret (blk_r (seq_r ?_)))
      refine post_2 rfl (by kernel_rfl) (rce (h54.at_ 5 rfl)) (rtm (bV (rightM s [f, n, a, u, r]))) ?_
      exact ⟨g51, _, _, _, _, rfl, h54.at_ 0 rfl, h54.at_ 2 rfl, h54.at_ 3 rfl, (h54.mine 0 _ rfl _ rfl).elim (fun h => h.elim) id, fun q hq => Nat.le_trans h15.below0.size (hn16 q hq), fun q hq => Nat.le_trans h13.below0.size (hn14 q hq), h54.below0⟩
    ·
     refine pR_op 35 (some 99) 68711987199 rfl (x_bs h15 2 ([(D f), (D n), (D a), (D u), (D r)]) 5 (by kernel_rfl)) ?_
     rintro _ w55 ⟨g55, rfl, h55⟩
     refine ⟨fun _ => ⟨h55.at_ 2 rfl, trivial⟩, ?_⟩
     refine pR_to 11 (some 75) 68711989247 rfl hs12 (x_rawT h55 51 [(sV s)] (by kernel_rfl) (ktext_any s _ (by omega))) ?_
     rintro _ w56 ⟨A56, c56, rfl, h56, hn56⟩
     refine ⟨fun _ => ⟨h56.at_ 3 rfl, trivial⟩, ?_⟩
     refine pR_to 14 (some 78) 68712005631 rfl hs12 (x_dp h56 54 [(D a)] (by kernel_rfl) (knum_any a _)) ?_
     rintro _ w57 ⟨rfl, h57⟩
     refine ⟨fun _ => ⟨h57.at_ 3 rfl, trivial⟩, ?_⟩
     refine pR_to 17 (some 81) 68712136703 rfl hs12 (x_dp h57 54 [(D u)] (by kernel_rfl) (knum_any u _)) ?_
     rintro _ w58 ⟨rfl, h58⟩
     refine ⟨fun _ => ⟨h58.at_ 3 rfl, trivial⟩, ?_⟩
     refine pR_to 20 (some 84) 68713185279 rfl hs12 (x_dp h58 54 [(D r)] (by kernel_rfl) (knum_any r _)) ?_
     rintro _ w59 ⟨rfl, h59⟩
     refine ⟨fun _ => ⟨h59.at_ 3 rfl, trivial⟩, ?_⟩
     refine pR_to 21 (some 85) 68715282431 rfl hs12 (x_bs h59 106 ([O, O, (iV .u64 ((IntKind.u64.wrap f))), nS, nS, (D 1), O, (iV .u64 0), (lV A14 ((kl K).length) c14), nS, O, O, (iV .u64 ((IntKind.u64.wrap n))), nS, nS, (D 1), O, (iV .u64 0), (lV A56 s.data.toList.length c56), nS, O, O, (iV .u64 ((IntKind.u64.wrap a))), nS, nS, O, O, (iV .u64 ((IntKind.u64.wrap u))), nS, nS, O, O, (iV .u64 ((IntKind.u64.wrap r))), nS, nS]) 7 (by kernel_rfl)) ?_
     rintro _ w60 ⟨g60, rfl, h60⟩
     refine ⟨fun _ => ⟨h60.at_ 4 rfl, trivial⟩, ?_⟩
     refine pR_to 22 (some 86) 68719476735 rfl hs12 (x_dp h60 50 [(D 3), (lV (some ⟨g60, 0, none⟩) 7 7)] (by kernel_rfl) (dseq_any 3 (some ⟨g60, 0, none⟩) 7 7 _)) ?_
     rintro _ w61 ⟨rfl, h61⟩
     refine ⟨fun _ => ⟨h61.at_ 4 rfl, trivial⟩, ?_⟩
     refine pR_to 36 (some 100) 137438953471 rfl hs12 (x_tiRight h61 2 rfl s (by omega) [f, n, a, u, r] 5 rfl rfl (by decide) (by kernel_rfl)) ?_
     rintro _ w62 ⟨rfl, h62⟩
     refine ⟨fun _ => ⟨h62.at_ 4 rfl, trivial⟩, ?_⟩
     refine pR_to 37 none 274877906943 rfl hs12 (xSs h62 5 106 (.tmp 2) (.tmp 86) 0 ([(D 2), (D 3), (iV .u64 0), nS, (lV (some ⟨g60, 0, none⟩) 7 7)]) ([(D 2), (D 3), (iV .u64 0), nS, (lV (some ⟨g60, 0, none⟩) 7 7)])) ?_
     rintro _ w63 h63
     refine ⟨fun _ => ⟨h63.at_ 4 rfl, trivial⟩, ?_⟩
     refine pR_to 38 (some 3) 549755813887 rfl hs12 (OpTo.run (bV (rightM s [f, n, a, u, r])) (pureOp_run (by kernel_rfl) _) (R := fun v w => v = (bV (rightM s [f, n, a, u, r])) /\ w63 = w) ⟨rfl, rfl⟩) ?_
     rintro _ _ ⟨rfl, rfl⟩
     refine ⟨fun h => absurd h (by decide), ?_⟩
     refine pR_done hs12 ?_ _
     refine seq_n hK11 (wp_ret (blk_r (seq_r ?_)))
     refine post_2 rfl (by kernel_rfl) (rce (h63.at_ 5 rfl)) (rtm (bV (rightM s [f, n, a, u, r]))) ?_
     exact ⟨g60, _, _, _, _, rfl, h63.at_ 0 rfl, h63.at_ 1 rfl, h63.at_ 3 rfl, (h63.mine 0 _ rfl _ rfl).elim (fun h => h.elim) id, fun q hq => Nat.le_trans h55.below0.size (hn56 q hq), fun q hq => Nat.le_trans h13.below0.size (hn14 q hq), h63.below0⟩
   ·
    refine pR_op 35 (some 99) 68711986943 rfl (x_bs h14 2 ([(D f), (D n), (D a), (D u), (D r)]) 5 (by kernel_rfl)) ?_
    rintro _ w64 ⟨g64, rfl, h64⟩
    refine ⟨fun _ => ⟨h64.at_ 2 rfl, trivial⟩, ?_⟩
    refine pR_to 8 (some 72) 68711987199 rfl hs12 (x_dp h64 54 [(D n)] (by kernel_rfl) (knum_any n _)) ?_
    rintro _ w65 ⟨rfl, h65⟩
    refine ⟨fun _ => ⟨h65.at_ 2 rfl, trivial⟩, ?_⟩
    refine pR_to 11 (some 75) 68711989247 rfl hs12 (x_rawT h65 51 [(sV s)] (by kernel_rfl) (ktext_any s _ (by omega))) ?_
    rintro _ w66 ⟨A66, c66, rfl, h66, hn66⟩
    refine ⟨fun _ => ⟨h66.at_ 3 rfl, trivial⟩, ?_⟩
    refine pR_to 14 (some 78) 68712005631 rfl hs12 (x_dp h66 54 [(D a)] (by kernel_rfl) (knum_any a _)) ?_
    rintro _ w67 ⟨rfl, h67⟩
    refine ⟨fun _ => ⟨h67.at_ 3 rfl, trivial⟩, ?_⟩
    refine pR_to 17 (some 81) 68712136703 rfl hs12 (x_dp h67 54 [(D u)] (by kernel_rfl) (knum_any u _)) ?_
    rintro _ w68 ⟨rfl, h68⟩
    refine ⟨fun _ => ⟨h68.at_ 3 rfl, trivial⟩, ?_⟩
    refine pR_to 20 (some 84) 68713185279 rfl hs12 (x_dp h68 54 [(D r)] (by kernel_rfl) (knum_any r _)) ?_
    rintro _ w69 ⟨rfl, h69⟩
    refine ⟨fun _ => ⟨h69.at_ 3 rfl, trivial⟩, ?_⟩
    refine pR_to 21 (some 85) 68715282431 rfl hs12 (x_bs h69 106 ([O, O, (iV .u64 ((IntKind.u64.wrap f))), nS, nS, (D 1), O, (iV .u64 0), (lV A14 ((kl K).length) c14), nS, O, O, (iV .u64 ((IntKind.u64.wrap n))), nS, nS, (D 1), O, (iV .u64 0), (lV A66 s.data.toList.length c66), nS, O, O, (iV .u64 ((IntKind.u64.wrap a))), nS, nS, O, O, (iV .u64 ((IntKind.u64.wrap u))), nS, nS, O, O, (iV .u64 ((IntKind.u64.wrap r))), nS, nS]) 7 (by kernel_rfl)) ?_
    rintro _ w70 ⟨g70, rfl, h70⟩
    refine ⟨fun _ => ⟨h70.at_ 4 rfl, trivial⟩, ?_⟩
    refine pR_to 22 (some 86) 68719476735 rfl hs12 (x_dp h70 50 [(D 3), (lV (some ⟨g70, 0, none⟩) 7 7)] (by kernel_rfl) (dseq_any 3 (some ⟨g70, 0, none⟩) 7 7 _)) ?_
    rintro _ w71 ⟨rfl, h71⟩
    refine ⟨fun _ => ⟨h71.at_ 4 rfl, trivial⟩, ?_⟩
    refine pR_to 36 (some 100) 137438953471 rfl hs12 (x_tiRight h71 2 rfl s (by omega) [f, n, a, u, r] 5 rfl rfl (by decide) (by kernel_rfl)) ?_
    rintro _ w72 ⟨rfl, h72⟩
    refine ⟨fun _ => ⟨h72.at_ 4 rfl, trivial⟩, ?_⟩
    refine pR_to 37 none 274877906943 rfl hs12 (xSs h72 5 106 (.tmp 2) (.tmp 86) 0 ([(D 2), (D 3), (iV .u64 0), nS, (lV (some ⟨g70, 0, none⟩) 7 7)]) ([(D 2), (D 3), (iV .u64 0), nS, (lV (some ⟨g70, 0, none⟩) 7 7)])) ?_
    rintro _ w73 h73
    refine ⟨fun _ => ⟨h73.at_ 4 rfl, trivial⟩, ?_⟩
    refine pR_to 38 (some 3) 549755813887 rfl hs12 (OpTo.run (bV (rightM s [f, n, a, u, r])) (pureOp_run (by kernel_rfl) _) (R := fun v w => v = (bV (rightM s [f, n, a, u, r])) /\ w73 = w) ⟨rfl, rfl⟩) ?_
    rintro _ _ ⟨rfl, rfl⟩
    refine ⟨fun h => absurd h (by decide), ?_⟩
    refine pR_done hs12 ?_ _
    refine seq_n hK11 (wp_ret (blk_r (seq_r ?_)))
    refine post_2 rfl (by kernel_rfl) (rce (h73.at_ 5 rfl)) (rtm (bV (rightM s [f, n, a, u, r]))) ?_
    exact ⟨g70, _, _, _, _, rfl, h73.at_ 0 rfl, h73.at_ 1 rfl, h73.at_ 3 rfl, (h73.mine 0 _ rfl _ rfl).elim (fun h => h.elim) id, fun q hq => Nat.le_trans h65.below0.size (hn66 q hq), fun q hq => Nat.le_trans h13.below0.size (hn14 q hq), h73.below0⟩
  ·
   refine pR_op 35 (some 99) 68711986911 rfl (x_bs h13 2 ([(D f), (D n), (D a), (D u), (D r)]) 5 (by kernel_rfl)) ?_
   rintro _ w74 ⟨g74, rfl, h74⟩
   refine ⟨fun _ => ⟨h74.at_ 1 rfl, trivial⟩, ?_⟩
   refine pR_to 5 (some 69) 68711986943 rfl hs12 (x_rawT h74 55 [(aV (vb (kl K)).toArray)] (by kernel_rfl) (kkey_any K _)) ?_
   rintro _ w75 ⟨A75, c75, rfl, h75, hn75⟩
   refine ⟨fun _ => ⟨h75.at_ 2 rfl, trivial⟩, ?_⟩
   refine pR_to 8 (some 72) 68711987199 rfl hs12 (x_dp h75 54 [(D n)] (by kernel_rfl) (knum_any n _)) ?_
   rintro _ w76 ⟨rfl, h76⟩
   refine ⟨fun _ => ⟨h76.at_ 2 rfl, trivial⟩, ?_⟩
   refine pR_to 11 (some 75) 68711989247 rfl hs12 (x_rawT h76 51 [(sV s)] (by kernel_rfl) (ktext_any s _ (by omega))) ?_
   rintro _ w77 ⟨A77, c77, rfl, h77, hn77⟩
   refine ⟨fun _ => ⟨h77.at_ 3 rfl, trivial⟩, ?_⟩
   refine pR_to 14 (some 78) 68712005631 rfl hs12 (x_dp h77 54 [(D a)] (by kernel_rfl) (knum_any a _)) ?_
   rintro _ w78 ⟨rfl, h78⟩
   refine ⟨fun _ => ⟨h78.at_ 3 rfl, trivial⟩, ?_⟩
   refine pR_to 17 (some 81) 68712136703 rfl hs12 (x_dp h78 54 [(D u)] (by kernel_rfl) (knum_any u _)) ?_
   rintro _ w79 ⟨rfl, h79⟩
   refine ⟨fun _ => ⟨h79.at_ 3 rfl, trivial⟩, ?_⟩
   refine pR_to 20 (some 84) 68713185279 rfl hs12 (x_dp h79 54 [(D r)] (by kernel_rfl) (knum_any r _)) ?_
   rintro _ w80 ⟨rfl, h80⟩
   refine ⟨fun _ => ⟨h80.at_ 3 rfl, trivial⟩, ?_⟩
   refine pR_to 21 (some 85) 68715282431 rfl hs12 (x_bs h80 106 ([O, O, (iV .u64 ((IntKind.u64.wrap f))), nS, nS, (D 1), O, (iV .u64 0), (lV A75 ((kl K).length) c75), nS, O, O, (iV .u64 ((IntKind.u64.wrap n))), nS, nS, (D 1), O, (iV .u64 0), (lV A77 s.data.toList.length c77), nS, O, O, (iV .u64 ((IntKind.u64.wrap a))), nS, nS, O, O, (iV .u64 ((IntKind.u64.wrap u))), nS, nS, O, O, (iV .u64 ((IntKind.u64.wrap r))), nS, nS]) 7 (by kernel_rfl)) ?_
   rintro _ w81 ⟨g81, rfl, h81⟩
   refine ⟨fun _ => ⟨h81.at_ 4 rfl, trivial⟩, ?_⟩
   refine pR_to 22 (some 86) 68719476735 rfl hs12 (x_dp h81 50 [(D 3), (lV (some ⟨g81, 0, none⟩) 7 7)] (by kernel_rfl) (dseq_any 3 (some ⟨g81, 0, none⟩) 7 7 _)) ?_
   rintro _ w82 ⟨rfl, h82⟩
   refine ⟨fun _ => ⟨h82.at_ 4 rfl, trivial⟩, ?_⟩
   refine pR_to 36 (some 100) 137438953471 rfl hs12 (x_tiRight h82 3 rfl s (by omega) [f, n, a, u, r] 5 rfl rfl (by decide) (by kernel_rfl)) ?_
   rintro _ w83 ⟨rfl, h83⟩
   refine ⟨fun _ => ⟨h83.at_ 4 rfl, trivial⟩, ?_⟩
   refine pR_to 37 none 274877906943 rfl hs12 (xSs h83 5 106 (.tmp 2) (.tmp 86) 0 ([(D 2), (D 3), (iV .u64 0), nS, (lV (some ⟨g81, 0, none⟩) 7 7)]) ([(D 2), (D 3), (iV .u64 0), nS, (lV (some ⟨g81, 0, none⟩) 7 7)])) ?_
   rintro _ w84 h84
   refine ⟨fun _ => ⟨h84.at_ 4 rfl, trivial⟩, ?_⟩
   refine pR_to 38 (some 3) 549755813887 rfl hs12 (OpTo.run (bV (rightM s [f, n, a, u, r])) (pureOp_run (by kernel_rfl) _) (R := fun v w => v = (bV (rightM s [f, n, a, u, r])) /\ w84 = w) ⟨rfl, rfl⟩) ?_
   rintro _ _ ⟨rfl, rfl⟩
   refine ⟨fun h => absurd h (by decide), ?_⟩
   refine pR_done hs12 ?_ _
   refine seq_n hK11 (wp_ret (blk_r (seq_r ?_)))
   refine post_2 rfl (by kernel_rfl) (rce (h84.at_ 5 rfl)) (rtm (bV (rightM s [f, n, a, u, r]))) ?_
   exact ⟨g81, _, _, _, _, rfl, h84.at_ 0 rfl, h84.at_ 1 rfl, h84.at_ 2 rfl, (h84.mine 0 _ rfl _ rfl).elim (fun h => h.elim) id, fun q hq => Nat.le_trans h76.below0.size (hn77 q hq), fun q hq => Nat.le_trans h74.below0.size (hn75 q hq), h84.below0⟩
 ·
  refine pR_op 35 (some 99) 68711986907 rfl (x_bs h12 2 ([(D f), (D n), (D a), (D u), (D r)]) 5 (by kernel_rfl)) ?_
  rintro _ w85 ⟨g85, rfl, h85⟩
  refine ⟨fun _ => ⟨h85.at_ 1 rfl, trivial⟩, ?_⟩
  refine pR_to 2 (some 66) 68711986911 rfl hs12 (x_dp h85 54 [(D f)] (by kernel_rfl) (knum_any f _)) ?_
  rintro _ w86 ⟨rfl, h86⟩
  refine ⟨fun _ => ⟨h86.at_ 1 rfl, trivial⟩, ?_⟩
  refine pR_to 5 (some 69) 68711986943 rfl hs12 (x_rawT h86 55 [(aV (vb (kl K)).toArray)] (by kernel_rfl) (kkey_any K _)) ?_
  rintro _ w87 ⟨A87, c87, rfl, h87, hn87⟩
  refine ⟨fun _ => ⟨h87.at_ 2 rfl, trivial⟩, ?_⟩
  refine pR_to 8 (some 72) 68711987199 rfl hs12 (x_dp h87 54 [(D n)] (by kernel_rfl) (knum_any n _)) ?_
  rintro _ w88 ⟨rfl, h88⟩
  refine ⟨fun _ => ⟨h88.at_ 2 rfl, trivial⟩, ?_⟩
  refine pR_to 11 (some 75) 68711989247 rfl hs12 (x_rawT h88 51 [(sV s)] (by kernel_rfl) (ktext_any s _ (by omega))) ?_
  rintro _ w89 ⟨A89, c89, rfl, h89, hn89⟩
  refine ⟨fun _ => ⟨h89.at_ 3 rfl, trivial⟩, ?_⟩
  refine pR_to 14 (some 78) 68712005631 rfl hs12 (x_dp h89 54 [(D a)] (by kernel_rfl) (knum_any a _)) ?_
  rintro _ w90 ⟨rfl, h90⟩
  refine ⟨fun _ => ⟨h90.at_ 3 rfl, trivial⟩, ?_⟩
  refine pR_to 17 (some 81) 68712136703 rfl hs12 (x_dp h90 54 [(D u)] (by kernel_rfl) (knum_any u _)) ?_
  rintro _ w91 ⟨rfl, h91⟩
  refine ⟨fun _ => ⟨h91.at_ 3 rfl, trivial⟩, ?_⟩
  refine pR_to 20 (some 84) 68713185279 rfl hs12 (x_dp h91 54 [(D r)] (by kernel_rfl) (knum_any r _)) ?_
  rintro _ w92 ⟨rfl, h92⟩
  refine ⟨fun _ => ⟨h92.at_ 3 rfl, trivial⟩, ?_⟩
  refine pR_to 21 (some 85) 68715282431 rfl hs12 (x_bs h92 106 ([O, O, (iV .u64 ((IntKind.u64.wrap f))), nS, nS, (D 1), O, (iV .u64 0), (lV A87 ((kl K).length) c87), nS, O, O, (iV .u64 ((IntKind.u64.wrap n))), nS, nS, (D 1), O, (iV .u64 0), (lV A89 s.data.toList.length c89), nS, O, O, (iV .u64 ((IntKind.u64.wrap a))), nS, nS, O, O, (iV .u64 ((IntKind.u64.wrap u))), nS, nS, O, O, (iV .u64 ((IntKind.u64.wrap r))), nS, nS]) 7 (by kernel_rfl)) ?_
  rintro _ w93 ⟨g93, rfl, h93⟩
  refine ⟨fun _ => ⟨h93.at_ 4 rfl, trivial⟩, ?_⟩
  refine pR_to 22 (some 86) 68719476735 rfl hs12 (x_dp h93 50 [(D 3), (lV (some ⟨g93, 0, none⟩) 7 7)] (by kernel_rfl) (dseq_any 3 (some ⟨g93, 0, none⟩) 7 7 _)) ?_
  rintro _ w94 ⟨rfl, h94⟩
  refine ⟨fun _ => ⟨h94.at_ 4 rfl, trivial⟩, ?_⟩
  refine pR_to 36 (some 100) 137438953471 rfl hs12 (x_tiRight h94 3 rfl s (by omega) [f, n, a, u, r] 5 rfl rfl (by decide) (by kernel_rfl)) ?_
  rintro _ w95 ⟨rfl, h95⟩
  refine ⟨fun _ => ⟨h95.at_ 4 rfl, trivial⟩, ?_⟩
  refine pR_to 37 none 274877906943 rfl hs12 (xSs h95 5 106 (.tmp 2) (.tmp 86) 0 ([(D 2), (D 3), (iV .u64 0), nS, (lV (some ⟨g93, 0, none⟩) 7 7)]) ([(D 2), (D 3), (iV .u64 0), nS, (lV (some ⟨g93, 0, none⟩) 7 7)])) ?_
  rintro _ w96 h96
  refine ⟨fun _ => ⟨h96.at_ 4 rfl, trivial⟩, ?_⟩
  refine pR_to 38 (some 3) 549755813887 rfl hs12 (OpTo.run (bV (rightM s [f, n, a, u, r])) (pureOp_run (by kernel_rfl) _) (R := fun v w => v = (bV (rightM s [f, n, a, u, r])) /\ w96 = w) ⟨rfl, rfl⟩) ?_
  rintro _ _ ⟨rfl, rfl⟩
  refine ⟨fun h => absurd h (by decide), ?_⟩
  refine pR_done hs12 ?_ _
  refine seq_n hK11 (wp_ret (blk_r (seq_r ?_)))
  refine post_2 rfl (by kernel_rfl) (rce (h96.at_ 5 rfl)) (rtm (bV (rightM s [f, n, a, u, r]))) ?_
  exact ⟨g93, _, _, _, _, rfl, h96.at_ 0 rfl, h96.at_ 1 rfl, h96.at_ 2 rfl, (h96.mine 0 _ rfl _ rfl).elim (fun h => h.elim) id, fun q hq => Nat.le_trans h88.below0.size (hn89 q hq), fun q hq => Nat.le_trans h86.below0.size (hn87 q hq), h96.below0⟩
end
section
open Go.Value renaming int -> iV, slice -> lV, string -> sV, bool -> bV, agg -> aV
open Go.RowKit Go.QT
theorem vPlain_any (B : Option Addr) (d : Nat) (b : Bytes) (w : World) (hb : SB w (.slice B b.length d) b) (hl : b.length <= 1000000) : Calls Try.prog 36 #[.iface 37 (.agg [lV B b.length d].toArray)] w fun e w' => ∃ g A c, e = .returned (.tuple #[.agg #[.int .i64 2, .int .i64 7, .int .u64 0, .slice none 0 0, .slice (some ⟨g, 0, none⟩) 1 1], .bool true]) /\ Blk w' g 106 (rV (.slice A b.length c)) /\ SB w' (.slice A b.length c) b /\ w.heap.size <= g /\ (∀ q, (lV A b.length c).ownBlock = some q -> w.heap.size <= q) /\ Below w.heap.size w w' := by
 have h0 := (Hp.nil (fun _ => False) w).addR (rSB _ b) hb (by simp)
 refine enter 179 Try.func36 rfl rfl ?_
 refine wp_reset 180 [(0, (Value.iface 37 (aV ([(lV B b.length d)]).toArray)))] (fun x0 => ?_)
 refine wR fun K1 hK1 => ?_
 refine wT 2 (xN h0 106 ([O, O, (iV .u64 0), nS, nS])) ?_
 rintro _ w2 ⟨g2, rfl, h2⟩
 refine wq_p 1 [(3, V)] ?_
 refine wE hK1 (wp_seq_k fun K3 hK3 => wR fun K4 hK4 => ?_)
 refine wq_p 1 [(11, (Value.iface 37 (aV ([(lV B b.length d)]).toArray)))] ?_
 refine wE hK4 (wp_block (wR fun K5 hK5 => ?_))
 refine wq_p 3 [(14, (aV ([eS, nS]).toArray)), (13, V), (12, (Value.tuple #[(aV ([eS, nS]).toArray), V]))] ?_
 refine wE hK5 (cF (wR fun K6 hK6 => ?_))
 refine wq_p 3 [(28, (aV ([O] ++ vb (List.replicate 16 0) ++ [eS, O, O, O]).toArray)), (27, V), (26, (Value.tuple #[(aV ([O] ++ vb (List.replicate 16 0) ++ [eS, O, O, O]).toArray), V]))] ?_
 refine wE hK6 (cF (wR fun K7 hK7 => ?_))
 refine wq_p 3 [(63, (aV ([O] ++ vb (List.replicate 16 0) ++ [O, eS, O, O, O]).toArray)), (62, V), (61, (Value.tuple #[(aV ([O] ++ vb (List.replicate 16 0) ++ [O, eS, O, O, O]).toArray), V]))] ?_
 refine wE hK7 (cF (wR fun K8 hK8 => ?_))
 refine wq_p 3 [(103, (aV ([eS, O, O] ++ vb (List.replicate 16 0) ++ [nS]).toArray)), (102, V), (101, (Value.tuple #[(aV ([eS, O, O] ++ vb (List.replicate 16 0) ++ [nS]).toArray), V]))] ?_
 refine wE hK8 (cF (wR fun K9 hK9 => ?_))
 refine wq_p 3 [(131, (aV ([O, O]).toArray)), (130, V), (129, (Value.tuple #[(aV ([O, O]).toArray), V]))] ?_
 refine wE hK9 (cF (wR fun K10 hK10 => ?_))
 refine wq_p 3 [(148, (aV ([O, eS, V, O]).toArray)), (147, V), (146, (Value.tuple #[(aV ([O, eS, V, O]).toArray), V]))] ?_
 refine wE hK10 (cF (wp_seq_k fun K11 hK11 => ?_))
 refine wp_reset 180 [(0, (Value.iface 37 (aV ([(lV B b.length d)]).toArray))), (2, (pt g2 0)), (3, V), (11, (Value.iface 37 (aV ([(lV B b.length d)]).toArray))), (13, V), (14, (aV ([eS, nS]).toArray)), (27, V), (28, (aV ([O] ++ vb (List.replicate 16 0) ++ [eS, O, O, O]).toArray)), (62, V), (63, (aV ([O] ++ vb (List.replicate 16 0) ++ [O, eS, O, O, O]).toArray)), (102, V), (103, (aV ([eS, O, O] ++ vb (List.replicate 16 0) ++ [nS]).toArray)), (130, V), (131, (aV ([O, O]).toArray)), (147, V), (148, (aV ([O, eS, V, O]).toArray))] (fun x12 => ?_)
 refine reg_lit ?_
 refine wq_p 3 [(173, (aV ([(lV B b.length d)]).toArray)), (172, I), (171, (Value.tuple #[(aV ([(lV B b.length d)]).toArray), I]))] ?_
 refine wE hK11 (cT (wR fun K13 hK13 => ?_))
 refine wT 10 (xN h2 37 ([nS])) ?_
 rintro _ w14 ⟨g14, rfl, h14⟩
 refine wq_to none (xSs h14 0 37 (.tmp 10) (.tmp 173) 0 ([(lV B b.length d)]) ([(lV B b.length d)])) ?_
 rintro _ w15 h15
 refine wE hK13 (wR fun K16 hK16 => ?_)
 refine wq_p 1 [(174, (pt g14 0))] (wV 175 (lV B b.length d) (eL (h15.at_ 0 rfl) 22 (.tmp 174) 0 _) ?_)
 refine wT 176 (x_rawT h15 52 [(lV B b.length d)] (by kernel_rfl) (draw_any (lV B b.length d) b _ (h15.rd 0 rfl) (by omega))) ?_
 rintro _ w17 ⟨A17, c17, rfl, h17, hn17⟩
 refine wT 177 (x_bs h17 106 ([(D 1), O, (iV .u64 0), (lV A17 b.length c17), nS]) 1 (by kernel_rfl)) ?_
 rintro _ w18 ⟨g18, rfl, h18⟩
 refine wT 178 (x_dp h18 50 [(D 7), (lV (some ⟨g18, 0, none⟩) 1 1)] (by kernel_rfl) (dseq_any 7 (some ⟨g18, 0, none⟩) 1 1 _)) ?_
 rintro _ w19 ⟨rfl, h19⟩
 refine wq_to none (xSs h19 3 106 (.tmp 2) (.tmp 178) 0 ([(D 2), (D 7), (iV .u64 0), nS, (lV (some ⟨g18, 0, none⟩) 1 1)]) ([(D 2), (D 7), (iV .u64 0), nS, (lV (some ⟨g18, 0, none⟩) 1 1)])) ?_
 rintro _ w20 h20
 refine wq_p 1 [(3, I)] ?_
 refine wE hK16 (wp_ret (blk_r (seq_r ?_)))
 refine post_2 rfl (by kernel_rfl) (rce (h20.at_ 3 rfl)) (rtm I) ?_
 exact ⟨g18, _, _, rfl, h20.at_ 0 rfl, h20.at_ 1 rfl, (h20.mine 0 _ rfl _ rfl).elim (fun h => h.elim) id, fun q hq => Nat.le_trans h15.below0.size (hn17 q hq), h20.below0⟩
end
section
open Go.RowKit Go.QT
theorem ine {a b : Nat} (h : a ≠ b) : Value.bool ((a : Int) != (b : Int)) = Value.bool true := by
 congr 1; rw [bne_iff_ne]; omega
theorem ieq {a b : Nat} (h : a = b) : Value.bool ((a : Int) != (b : Int)) = Value.bool false := by
 subst h; simp
/-- The error, how many bytes follow, where they begin. -/
def szB (L : Bytes) : Nat × Nat × Nat :=
 if L.length < 2 then (1, 0, 0) else
 if nb (gb L 1) < 128 then (if 2 + nb (gb L 1) <= L.length then (0, nb (gb L 1), 2) else (1, 0, 0)) else
 if nb (gb L 1) - 128 < 1 ∨ 2 < nb (gb L 1) - 128 then (3, 0, 0) else
 if L.length < 2 + (nb (gb L 1) - 128) then (1, 0, 0) else
 if getN ((L.take (2 + (nb (gb L 1) - 128))).drop 2) < 128 ∨ (nb (gb L 1) - 128 = 2 /\ getN ((L.take (2 + (nb (gb L 1) - 128))).drop 2) < 256) then (3, 0, 0) else
 if 2 + (nb (gb L 1) - 128) + getN ((L.take (2 + (nb (gb L 1) - 128))).drop 2) <= L.length then (0, getN ((L.take (2 + (nb (gb L 1) - 128))).drop 2), 2 + (nb (gb L 1) - 128)) else (1, 0, 0)
/-- Values one behind the other. -/
def lsB (rd : Bytes -> Nat ⊕ (DVal × Nat)) : Nat -> Bytes -> Nat ⊕ List DVal
 | 0, _ => .inr []
 | f + 1, l => if l.length = 0 then .inr [] else
   match rd l with
   | .inl e => .inl e
   | .inr (v, k) => match lsB rd f (l.drop k) with
     | .inl e => .inl e
     | .inr r => .inr (v :: r)
/-- What some bytes are, of a kind, a tag. -/
def ptB (rd : Bytes -> Nat ⊕ (DVal × Nat)) (k t : Nat) (B : Bytes) (n : Nat) : Nat ⊕ (DVal × Nat) :=
 if k = 0 then (if B.length = 0 ∨ 8 < B.length ∨ (1 < B.length /\ gb B 0 = 0) then .inl 4 else .inr (.mk 0 t (getN B) [] [], n))
 else if k = 1 then .inr (.mk 1 t 0 B [], n)
 else match lsB rd B.length B with
   | .inl e => .inl e
   | .inr ts => .inr (.mk 2 t 0 [] ts, n)
/-- der.read: the value and how many bytes it has; or an error. m: how much deeper it may go. -/
def rdB : Nat -> Bytes -> Nat ⊕ (DVal × Nat)
 | 0, _ => .inl 4
 | m + 1, L =>
   if (szB L).1 ≠ 0 then .inl (szB L).1 else
   if 2 < nb (gb L 0) / 64 ∨ 30 < nb (gb L 0) % 64 then .inl 2 else
   ptB (rdB m) (nb (gb L 0) / 64) (nb (gb L 0) % 64) ((L.take ((szB L).2.2 + (szB L).2.1)).drop (szB L).2.2) ((szB L).2.2 + (szB L).2.1)
/-- der.Read. -/
def RdB (L : Bytes) : Nat ⊕ DVal :=
 if 4096 < L.length then .inl 20 else
 match rdB 8 L with
 | .inl e => .inl e
 | .inr (v, n) => if n < L.length then .inl 5 else .inr v
theorem szB_ok {L : Bytes} (h : (szB L).1 = 0) : 2 <= (szB L).2.2 /\ (szB L).2.2 + (szB L).2.1 <= L.length := by
 unfold szB at h ⊢
 generalize nb (gb L 1) - 128 = K at *
 generalize getN ((L.take (2 + K)).drop 2) = m at *
 generalize nb (gb L 1) = y at *
 split at h
 · cases h
 rename_i h1
 rw [if_neg h1]
 split at h
 · rename_i h2
   rw [if_pos h2]
   split at h
   · rename_i h3; rw [if_pos h3]; exact ⟨Nat.le_refl _, h3⟩
   · cases h
 rename_i h2
 rw [if_neg h2]
 split at h
 · cases h
 rename_i h3
 rw [if_neg h3]
 split at h
 · cases h
 rename_i h4
 rw [if_neg h4]
 split at h
 · cases h
 rename_i h5
 rw [if_neg h5]
 split at h
 · rename_i h6; rw [if_pos h6]; exact ⟨Nat.le_add_right _ _, h6⟩
 · cases h
theorem ptB_n {rd : Bytes -> Nat ⊕ (DVal × Nat)} {k t n : Nat} {B : Bytes} {v : DVal} {m : Nat} (h : ptB rd k t B n = .inr (v, m)) : m = n := by
 unfold ptB at h
 split at h
 · split at h
   · cases h
   · injection h with h; injection h with h1 h2; exact h2.symm
 · split at h
   · injection h with h; injection h with h1 h2; exact h2.symm
   · split at h
     · cases h
     · injection h with h; injection h with h1 h2; exact h2.symm
theorem rdB_n {m : Nat} {L : Bytes} {v : DVal} {k : Nat} (h : rdB m L = .inr (v, k)) : 2 <= k /\ k <= L.length := by
 cases m with
 | zero => cases h
 | succ m =>
   rw [rdB] at h
   split at h
   · cases h
   rename_i h1
   split at h
   · cases h
   have h2 := szB_ok (L := L) (by omega)
   have := ptB_n h
   omega
theorem lsB_er {rd : Bytes -> Nat ⊕ (DVal × Nat)} (h : ∀ l e, rd l = .inl e -> e ≠ 0) : ∀ (f : Nat) (l : Bytes) (e : Nat), lsB rd f l = .inl e -> e ≠ 0
 | 0, _, _, hh => by cases hh
 | f + 1, l, e, hh => by
   rw [lsB] at hh
   split at hh
   · cases hh
   split at hh
   · rename_i hr; injection hh with hh; subst hh; exact h l _ hr
   split at hh
   · rename_i hr; injection hh with hh; subst hh; exact lsB_er h f _ _ hr
   · cases hh
theorem rdB_er : ∀ (m : Nat) (L : Bytes) (e : Nat), rdB m L = .inl e -> e ≠ 0
 | 0, _, _, h => by injection h with h; omega
 | m + 1, L, e, h => by
   rw [rdB] at h
   split at h
   · rename_i h1; injection h with h; omega
   split at h
   · injection h with h; omega
   unfold ptB at h
   split at h
   · split at h
     · injection h with h; omega
     · cases h
   split at h
   · cases h
   split at h
   · rename_i hr; injection h with h; subst h; exact lsB_er (rdB_er m) _ _ _ hr
   · cases h
/-- A list goes on behind its first values. -/
def preL (ts : List DVal) : Nat ⊕ List DVal -> Nat ⊕ List DVal
 | .inl e => .inl e
 | .inr r => .inr (ts ++ r)
theorem lsB_step {rd : Bytes -> Nat ⊕ (DVal × Nat)} {f : Nat} {l : Bytes} {v : DVal} {k : Nat} (h0 : l.length ≠ 0) (hr : rd l = .inr (v, k)) (ts : List DVal) : preL ts (lsB rd (f + 1) l) = preL (ts ++ [v]) (lsB rd f (l.drop k)) := by
 rw [lsB, if_neg h0, hr]
 simp only
 cases lsB rd f (l.drop k) with
 | inl e => rfl
 | inr r => show Sum.inr _ = Sum.inr _; rw [List.append_assoc]; rfl
theorem lsB_bad {rd : Bytes -> Nat ⊕ (DVal × Nat)} {f : Nat} {l : Bytes} {e : Nat} (h0 : l.length ≠ 0) (hr : rd l = .inl e) (ts : List DVal) : preL ts (lsB rd (f + 1) l) = .inl e := by
 rw [lsB, if_neg h0, hr]; rfl
theorem lsB_end {rd : Bytes -> Nat ⊕ (DVal × Nat)} {f : Nat} {l : Bytes} (h0 : l.length = 0) (ts : List DVal) : preL ts (lsB rd f l) = .inr ts := by
 cases f with
 | zero => show Sum.inr _ = _; rw [List.append_nil]
 | succ f => rw [lsB, if_pos h0]; show Sum.inr _ = _; rw [List.append_nil]
/-- What der.read leaves. -/
def ReadG (w : World) (r : Nat ⊕ (DVal × Nat)) (e : Ending) (w' : World) : Prop :=
 match r with
 | .inl c => DPost w (.tuple #[.agg #[.int .i64 0, .int .i64 0, .int .u64 0, .slice none 0 0, .slice none 0 0], .int .i64 0, .int .i64 (c : Int)]) e w'
 | .inr (v, k) => ReadPost w v k e w'
theorem readG_bad {w : World} {r : Nat ⊕ (DVal × Nat)} {c : Nat} (h : r = .inl c) {e : Ending} {w' : World} (hd : DPost w (.tuple #[.agg #[.int .i64 0, .int .i64 0, .int .u64 0, .slice none 0 0, .slice none 0 0], .int .i64 0, .int .i64 (c : Int)]) e w') : ReadG w r e w' := by subst h; exact hd
theorem readG_ok {w : World} {r : Nat ⊕ (DVal × Nat)} {v : DVal} {k : Nat} (h : r = .inr (v, k)) {e : Ending} {w' : World} (hd : ReadPost w v k e w') : ReadG w r e w' := by subst h; exact hd
def ReadGOk (w : World) (r : Nat ⊕ DVal) (e : Ending) (w' : World) : Prop :=
 match r with
 | .inl c => DPost w (.tuple #[.agg #[.int .i64 0, .int .i64 0, .int .u64 0, .slice none 0 0, .slice none 0 0], .int .i64 (c : Int)]) e w'
 | .inr v => ReadOk w v e w'
end
end Go.Proofs.Ytecomegocafocaa
