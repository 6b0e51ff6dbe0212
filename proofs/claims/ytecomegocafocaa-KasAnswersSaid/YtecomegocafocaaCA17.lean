/- The walks of kas: As. -/
import Derived.Test.YtecomegocafocaaCA16
set_option maxRecDepth 100000
set_option maxHeartbeats 4000000
namespace Go.Proofs.Ytecomegocafocaa
section
open Go.Value renaming int -> iV, slice -> lV, string -> sV, bool -> bV, agg -> aV
open Go.RowKit Go.QT
theorem x_bget {o : Oper} {a : Act} {F0 : Nat -> Prop} {w0 w : World} {ro rs : List Res} {v : Value} (h : Hp F0 w0 w ro rs) (al : List Value) (hp : pureVal Try.prog (execOp a.eval o) = some (.enter 38 al.toArray)) (hc : Calls Try.prog 38 al.toArray w (DPost w v)) :
   OpTo Try.prog o a w (fun u w' => u = v /\ Hp F0 w0 w' ro rs) := x_dp h 38 al hp hc
/-- Give at a caller. -/
theorem x_give {o : Oper} {a : Act} {F0 F : Nat -> Prop} {w0 w : World} {ro rs : List Res} {tb : Nat} {s s' : STab} {server : ByteArray} (h : Hp F0 w0 w ro rs) (i : Nat) (hi : rs[i]? = some (rTab F tb s)) (al : List Value) (hp : pureVal Try.prog (execOp a.eval o) = some (.enter 19 al.toArray)) (hc : Calls Try.prog 19 al.toArray w (GivePost w F tb s s' server)) :
   OpTo Try.prog o a w (fun u w' => ∃ A1 c1 A2 c2 F', u = .tuple #[.agg #[.string server, .slice A1 16 c1], .slice A2 16 c2, .int .i64 0] /\ Hp F0 w0 w' ro (rTab F' tb s' :: rSB (.slice A1 16 c1) (mkB 98 (s.boxes.length + 1)) :: rSB (.slice A2 16 c2) (mkB 98 (s.boxes.length + 2)) :: rs.eraseIdx i)) :=
 OpTo.enter 19 al hp hc fun _ _ ⟨A1, c1, A2, c2, F', he, hh⟩ => ⟨_, he, A1, c1, A2, c2, F', rfl, h.call1 i hi hh⟩
theorem x_giveN {o : Oper} {a : Act} {F0 F : Nat -> Prop} {w0 w : World} {ro rs : List Res} {tb cc : Nat} {s s' : STab} (h : Hp F0 w0 w ro rs) (i : Nat) (hi : rs[i]? = some (rTab F tb s)) (al : List Value) (hp : pureVal Try.prog (execOp a.eval o) = some (.enter 19 al.toArray)) (hc : Calls Try.prog 19 al.toArray w (GiveNo w F tb s' cc)) :
   OpTo Try.prog o a w (fun u w' => ∃ F', u = .tuple #[.agg #[.string ByteArray.empty, .slice none 0 0], .slice none 0 0, .int .i64 (cc : Int)] /\ Hp F0 w0 w' ro (rTab F' tb s' :: rs.eraseIdx i)) :=
 OpTo.enter 19 al hp hc fun _ _ ⟨he, F', hh⟩ => ⟨_, he, F', rfl, h.call1 i hi hh⟩
theorem as_none {F G : Nat -> Prop} {kb tb bb : Nat} {Kk : Fin 16 -> UInt8} {s : STab} {us : List User} {client : ByteArray} {now nonce till : Int} {P : Option Addr} {pc : Nat} {pre : Bytes} {w : World} (hT : (rTab F tb s).Φ w) (hB : (rBs G bb us).Φ w) (hFG : (rTab F tb s).dj (rBs G bb us)) (hK : Blk w kb 73 (kdcC tb bb Kk)) (hd : ¬ F kb) (hv : SB w (.slice P pre.length pc) pre) (hdv : (rSB (.slice P pre.length pc) pre).dj (rTab F tb s)) (h32 : us.length <= 1000000) (hb2 : placeB us client = false) : Calls Try.prog 14 #[(pt kb 0), (iV .i64 now), (aV ([(sV client), (iV .i64 nonce), (iV .i64 till), (lV P pre.length pc)]).toArray)] w (fun e w' => e = .returned (.tuple #[.agg #[.string ByteArray.empty, .string ByteArray.empty, .slice none 0 0, .slice none 0 0], .int .i64 9]) /\ ∃ F', Hp F w w' [] [rTab F' tb s]) := by
 have h0 := ((((Hp.one (rTab F tb s) hT).addR (rSB (.slice P pre.length pc) pre) hv (fun j r hj => by have h3 := sel1 hj; injection h3 with h3; subst h3; exact hdv)).addR (rBs G bb us) hB (fun j r hj => by have h3 := sel1 hj; injection h3 with h3; subst h3; exact hFG.symm)).addR (rBlk kb 73 (kdcC tb bb Kk)) hK (fun j s hj q h1 h2 => by have h3 := sel1 hj; injection h3 with h3; subst h3; exact hd (by rw [show q = kb from h1] at h2; exact h2)))
 refine enter 106 Try.func14 rfl rfl ?_
 refine wp_reset 109 [(0, (pt kb 0)), (1, (D now)), (2, (aV ([(sV client), (D nonce), (D till), (lV P pre.length pc)]).toArray))] (fun x0 => ?_)
 refine wR fun K1 hK1 => ?_
 refine wT 5 (xN h0 45 ([(sV client), (D nonce), (D till), (lV P pre.length pc)])) ?_
 rintro _ w2 ⟨g2, rfl, h2⟩
 refine wT 6 (xN h2 41 ([eS, eS, nS, nS])) ?_
 rintro _ w3 ⟨g3, rfl, h3⟩
 refine wq_p 1 [(7, O)] ?_
 refine wE hK1 (wp_seq_k fun K4 hK4 => ?_)
 have hJ6 : ∀ (gJ5_0 : Nat), ∀ (xJ6 : Nat -> Value) (aJ : Act) (wJ6 : World), aJ = patch xJ6 109 [(0, (pt kb 0)), (1, (D now)), (2, (aV ([(sV client), (D nonce), (D till), (lV P pre.length pc)]).toArray)), (5, (pt g2 0)), (6, (pt g3 0)), (7, O), (8, (pt gJ5_0 0)), (9, (D 9))] -> Hp F w wJ6 [rBlk kb 73 ([(Value.iface 24 (pt tb 0)), (pt bb 0)] ++ vb (kl Kk)), rBs G bb us, rSB ((lV P pre.length pc)) pre] [rBlk gJ5_0 95 ([eS] ++ vb (List.replicate 16 0) ++ [O, O, V]), rBlk g3 41 ([eS, eS, nS, nS]), rBlk g2 45 ([(sV client), (D nonce), (D till), (lV P pre.length pc)]), rTab F tb s] -> K4 aJ wJ6 := by
   rintro gJ5_0 xJ6 _ wJ6 rfl hJh6
   refine seq_n hK4 (wp_seq_k fun K7 hK7 => wR fun K8 hK8 => ?_)
   refine wq_p 2 [(25, I), (24, (D 9))] ?_
   refine wE hK8 (cT (wR fun K9 hK9 => ?_))
   refine wq_p 2 [(27, (D 9)), (26, (aV ([eS, eS, nS, nS]).toArray))] ?_
   refine wq_to none (xSs hJh6 1 41 (.tmp 6) (.tmp 26) 0 ([eS, eS, nS, nS]) ([eS, eS, nS, nS])) ?_
   rintro _ w10 h10
   refine wq_p 1 [(7, (D 9))] ?_
   refine wE hK9 (wp_ret (seq_r ?_))
   refine post_2 rfl (by kernel_rfl) (rce (h10.at_ 1 rfl)) (rtm (D 9)) ?_
   exact ⟨rfl, _, h10.sel [3] [] rfl rfl rfl⟩
 refine pR_go h3 12 (fun W => (rBlk kb 73 ([(Value.iface 24 (pt tb 0)), (pt bb 0)] ++ vb (kl Kk))).Φ W /\ (rBlk g2 45 ([(sV client), (D nonce), (D till), (lV P pre.length pc)])).Φ W /\ True) [(16, [0], 0), (17, [15], 1), (18, [16], 2), (19, [17], 4), (20, [5], 0), (21, [19], 16), (22, [18, 20], 40), (15, [21], 64), (23, [14], 128), (24, [14], 128), (9, [], 0), (0, [8, 22], 1535), (10, [23], 4095)] rfl (fun _ d _ _ _ h => by cases d <;> exact h) ?_
 intro hs11 w11 h11
 refine pR_p 9 [0, 1, 2, 4] [(19, (pt g2 0)), (17, (pt kb 1)), (16, (pt kb 0)), (15, (pt kb 0))] 23 hs11 ⟨h11.rd 0 rfl, h11.at_ 1 rfl, trivial⟩ ?_
 refine pR_v 3 (some 18) (pt bb 0) 31 rfl hs11 ⟨h11.rd 0 rfl, h11.at_ 1 rfl, trivial⟩ (fun W hW => eL hW.1 71 (.tmp 17) 1 _) ?_
 refine pR_v 5 (some 20) (sV client) 63 rfl hs11 ⟨h11.rd 0 rfl, h11.at_ 1 rfl, trivial⟩ (fun W hW => eL hW.2.1 9 (.tmp 19) 0 _) ?_
 refine pR_or 6 10 hs11 ?_ ?_
 ·
  refine pR_op 6 (some 21) 127 rfl (x_bget h11 [(pt bb 0), (sV client)] (by kernel_rfl) (get_no (h11.rd 1 rfl) h32 hb2)) ?_
  rintro _ w12 ⟨rfl, h12⟩
  refine ⟨fun _ => ⟨h12.rd 0 rfl, h12.at_ 1 rfl, trivial⟩, ?_⟩
  refine pR_p 3 [7, 8, 9] [(23, (D 9)), (22, (aV ([eS] ++ vb (List.replicate 16 0) ++ [O, O, V]).toArray)), (14, (Value.tuple #[(aV ([eS] ++ vb (List.replicate 16 0) ++ [O, O, V]).toArray), (D 9)]))] 1023 hs11 ⟨h12.rd 0 rfl, h12.at_ 1 rfl, trivial⟩ ?_
  refine pR_to 10 (some 8) 2047 rfl hs11 (xN h12 95 ([eS] ++ vb (List.replicate 16 0) ++ [O, O, V])) ?_
  rintro _ w13 ⟨g13, rfl, h13⟩
  refine ⟨fun _ => ⟨h13.rd 0 rfl, h13.at_ 2 rfl, trivial⟩, ?_⟩
  refine pR_to 11 none 4095 rfl hs11 (xSs h13 0 95 (.tmp 8) (.tmp 22) 0 ([eS] ++ vb (List.replicate 16 0) ++ [O, O, V]) ([eS] ++ vb (List.replicate 16 0) ++ [O, O, V])) ?_
  rintro _ w14 h14
  refine ⟨fun _ => ⟨h14.rd 0 rfl, h14.at_ 2 rfl, trivial⟩, ?_⟩
  refine pR_to 12 (some 9) 8191 rfl hs11 (OpTo.run (D 9) (pureOp_run (by kernel_rfl) _) (R := fun v w => v = (D 9) /\ w14 = w) ⟨rfl, rfl⟩) ?_
  rintro _ _ ⟨rfl, rfl⟩
  refine ⟨fun h => absurd h (by decide), ?_⟩
  refine pR_done hs11 ?_ _
  exact hJ6 g13 _ _ _ (pEq 109) (h14.sel [0, 1, 2, 3] [0, 1, 2] (by kernel_rfl) rfl rfl)
 ·
  refine pR_op 10 (some 8) 1087 rfl (xN h11 95 ([eS] ++ vb (List.replicate 16 0) ++ [O, O, V])) ?_
  rintro _ w15 ⟨g15, rfl, h15⟩
  refine ⟨fun _ => ⟨h15.rd 0 rfl, h15.at_ 2 rfl, trivial⟩, ?_⟩
  refine pR_to 6 (some 21) 1151 rfl hs11 (x_bget h15 [(pt bb 0), (sV client)] (by kernel_rfl) (get_no (h15.rd 1 rfl) h32 hb2)) ?_
  rintro _ w16 ⟨rfl, h16⟩
  refine ⟨fun _ => ⟨h16.rd 0 rfl, h16.at_ 2 rfl, trivial⟩, ?_⟩
  refine pR_p 2 [7, 8, 9] [(23, (D 9)), (22, (aV ([eS] ++ vb (List.replicate 16 0) ++ [O, O, V]).toArray)), (14, (Value.tuple #[(aV ([eS] ++ vb (List.replicate 16 0) ++ [O, O, V]).toArray), (D 9)]))] 2047 hs11 ⟨h16.rd 0 rfl, h16.at_ 2 rfl, trivial⟩ ?_
  refine pR_to 11 none 4095 rfl hs11 (xSs h16 0 95 (.tmp 8) (.tmp 22) 0 ([eS] ++ vb (List.replicate 16 0) ++ [O, O, V]) ([eS] ++ vb (List.replicate 16 0) ++ [O, O, V])) ?_
  rintro _ w17 h17
  refine ⟨fun _ => ⟨h17.rd 0 rfl, h17.at_ 2 rfl, trivial⟩, ?_⟩
  refine pR_to 12 (some 9) 8191 rfl hs11 (OpTo.run (D 9) (pureOp_run (by kernel_rfl) _) (R := fun v w => v = (D 9) /\ w17 = w) ⟨rfl, rfl⟩) ?_
  rintro _ _ ⟨rfl, rfl⟩
  refine ⟨fun h => absurd h (by decide), ?_⟩
  refine pR_done hs11 ?_ _
  exact hJ6 g15 _ _ _ (pEq 109) (h17.sel [0, 1, 2, 3] [0, 1, 2] (by kernel_rfl) rfl rfl)
theorem as_auth {F G : Nat -> Prop} {kb tb bb : Nat} {Kk : Fin 16 -> UInt8} {s : STab} {us : List User} {client : ByteArray} {now nonce till : Int} {P : Option Addr} {pc : Nat} {pre : Bytes} {w : World} (hT : (rTab F tb s).Φ w) (hB : (rBs G bb us).Φ w) (hFG : (rTab F tb s).dj (rBs G bb us)) (hs : Room 9 s) (hK : Blk w kb 73 (kdcC tb bb Kk)) (hd : ¬ F kb) (hv : SB w (.slice P pre.length pc) pre) (hdv : (rSB (.slice P pre.length pc) pre).dj (rTab F tb s)) (h32 : us.length <= 1000000) {u : User} (hb2 : placeB us client = true) (hu : us[placeI us client]? = some u) {cc : Nat} (hc : cc ≠ 0) (ho : outStamp (openTh s (kl u.key) 1 pre) = .tuple #[.agg #[.int .i64 0, .int .i64 0], .int .i64 (cc : Int)]) : Calls Try.prog 14 #[(pt kb 0), (iV .i64 now), (aV ([(sV client), (iV .i64 nonce), (iV .i64 till), (lV P pre.length pc)]).toArray)] w (fun e w' => e = .returned (.tuple #[.agg #[.string ByteArray.empty, .string ByteArray.empty, .slice none 0 0, .slice none 0 0], .int .i64 22]) /\ ∃ F', Hp F w w' [] [rTab F' tb s]) := by
 have h0 := ((((Hp.one (rTab F tb s) hT).addR (rSB (.slice P pre.length pc) pre) hv (fun j r hj => by have h3 := sel1 hj; injection h3 with h3; subst h3; exact hdv)).addR (rBs G bb us) hB (fun j r hj => by have h3 := sel1 hj; injection h3 with h3; subst h3; exact hFG.symm)).addR (rBlk kb 73 (kdcC tb bb Kk)) hK (fun j s hj q h1 h2 => by have h3 := sel1 hj; injection h3 with h3; subst h3; exact hd (by rw [show q = kb from h1] at h2; exact h2)))
 refine enter 106 Try.func14 rfl rfl ?_
 refine wp_reset 109 [(0, (pt kb 0)), (1, (D now)), (2, (aV ([(sV client), (D nonce), (D till), (lV P pre.length pc)]).toArray))] (fun x0 => ?_)
 refine wR fun K1 hK1 => ?_
 refine wT 5 (xN h0 45 ([(sV client), (D nonce), (D till), (lV P pre.length pc)])) ?_
 rintro _ w2 ⟨g2, rfl, h2⟩
 refine wT 6 (xN h2 41 ([eS, eS, nS, nS])) ?_
 rintro _ w3 ⟨g3, rfl, h3⟩
 refine wq_p 1 [(7, O)] ?_
 refine wE hK1 (wp_seq_k fun K4 hK4 => ?_)
 have hJ6 : ∀ (gJ5_0 : Nat), ∀ (xJ6 : Nat -> Value) (aJ : Act) (wJ6 : World), aJ = patch xJ6 109 [(0, (pt kb 0)), (1, (D now)), (2, (aV ([(sV client), (D nonce), (D till), (lV P pre.length pc)]).toArray)), (5, (pt g2 0)), (6, (pt g3 0)), (7, O), (8, (pt gJ5_0 0)), (9, O)] -> Hp F w wJ6 [rBlk kb 73 ([(Value.iface 24 (pt tb 0)), (pt bb 0)] ++ vb (kl Kk)), rBs G bb us, rSB ((lV P pre.length pc)) pre] [rBlk gJ5_0 95 ([(sV u.name)] ++ vb (kl u.key) ++ [(D u.life), (D u.renew), (bV u.mesh)]), rBlk g3 41 ([eS, eS, nS, nS]), rBlk g2 45 ([(sV client), (D nonce), (D till), (lV P pre.length pc)]), rTab F tb s] -> K4 aJ wJ6 := by
   rintro gJ5_0 xJ6 _ wJ6 rfl hJh6
   refine seq_n hK4 (wp_seq_k fun K7 hK7 => wR fun K8 hK8 => ?_)
   refine wq_p 2 [(25, V), (24, O)] ?_
   refine wE hK8 (cF (wp_skip (seq_n hK7 (wp_seq_k fun K9 hK9 => ?_))))
   have hJ11 : ∀ (gJ10_0 : Nat), ∀ (xJ11 : Nat -> Value) (aJ : Act) (wJ11 : World), aJ = patch xJ11 109 [(0, (pt kb 0)), (1, (D now)), (2, (aV ([(sV client), (D nonce), (D till), (lV P pre.length pc)]).toArray)), (5, (pt g2 0)), (6, (pt g3 0)), (7, O), (8, (pt gJ5_0 0)), (9, (D ((cc : Int)))), (10, (pt gJ10_0 0)), (25, V)] -> Hp F w wJ11 [rBlk kb 73 ([(Value.iface 24 (pt tb 0)), (pt bb 0)] ++ vb (kl Kk)), rBs G bb us, rSB ((lV P pre.length pc)) pre] [rBlk gJ10_0 49 ([O, O]), rBlk gJ5_0 95 ([(sV u.name)] ++ vb (kl u.key) ++ [(D u.life), (D u.renew), (bV u.mesh)]), rBlk g3 41 ([eS, eS, nS, nS]), rBlk g2 45 ([(sV client), (D nonce), (D till), (lV P pre.length pc)]), rTab F tb s] -> K9 aJ wJ11 := by
     rintro gJ10_0 xJ11 _ wJ11 rfl hJh11
     refine seq_n hK9 (wp_seq_k fun K12 hK12 => wp_block (wR fun K13 hK13 => ?_))
     refine wq_p 1 [(41, (D ((cc : Int))))] (wV 42 (.bool true) (eqI (bV (((cc : Int)) != 0)) (ine (b := 0) hc)) (wq_p 1 [(40, I)] ?_))
     refine wE hK13 (cT (wR fun K14 hK14 => ?_))
     refine wq_p 1 [(43, (aV ([eS, eS, nS, nS]).toArray))] ?_
     refine wq_to none (xSs hJh11 2 41 (.tmp 6) (.tmp 43) 0 ([eS, eS, nS, nS]) ([eS, eS, nS, nS])) ?_
     rintro _ w15 h15
     refine wq_p 1 [(7, (D 22))] ?_
     refine wE hK14 (wp_ret (blk_r (seq_r ?_)))
     refine post_2 rfl (by kernel_rfl) (rce (h15.at_ 2 rfl)) (rtm (D 22)) ?_
     exact ⟨rfl, _, h15.sel [4] [] rfl rfl rfl⟩
   refine pR_go hJh6 14 (fun W => (rBlk kb 73 ([(Value.iface 24 (pt tb 0)), (pt bb 0)] ++ vb (kl Kk))).Φ W /\ (rBlk gJ5_0 95 ([(sV u.name)] ++ vb (kl u.key) ++ [(D u.life), (D u.renew), (bV u.mesh)])).Φ W /\ (rBlk g2 45 ([(sV client), (D nonce), (D till), (lV P pre.length pc)])).Φ W /\ True) [(30, [0], 0), (31, [29], 1), (32, [30], 2), (33, [31], 4), (34, [8], 0), (35, [33], 16), (36, [5], 0), (37, [35], 64), (38, [32, 34, 36], 168), (29, [37], 256), (39, [28], 512), (40, [28], 512), (11, [], 0), (0, [10, 38], 6143), (10, [39], 16383)] rfl (fun _ d _ _ _ h => by cases d <;> exact h) ?_
   intro hs16 w16 h16
   refine pR_p 10 [0, 1, 2, 4, 6] [(35, (pt g2 3)), (33, (pt gJ5_0 1)), (31, (pt kb 0)), (30, (pt kb 0)), (29, (pt kb 0))] 87 hs16 ⟨h16.rd 0 rfl, h16.at_ 0 rfl, h16.at_ 2 rfl, trivial⟩ ?_
   refine pR_v 3 (some 32) (Value.iface 24 (pt tb 0)) 95 rfl hs16 ⟨h16.rd 0 rfl, h16.at_ 0 rfl, h16.at_ 2 rfl, trivial⟩ (fun W hW => eL hW.1 70 (.tmp 31) 0 _) ?_
   refine pR_v 5 (some 34) (aV (vb (kl u.key)).toArray) 127 rfl hs16 ⟨h16.rd 0 rfl, h16.at_ 0 rfl, h16.at_ 2 rfl, trivial⟩ (fun W hW => eLs hW.2.1 32 (.tmp 33) 1 (vb (kl u.key))) ?_
   refine pR_v 7 (some 36) (lV P pre.length pc) 255 rfl hs16 ⟨h16.rd 0 rfl, h16.at_ 0 rfl, h16.at_ 2 rfl, trivial⟩ (fun W hW => eL hW.2.2.1 22 (.tmp 35) 3 _) ?_
   refine pR_or 8 12 hs16 ?_ ?_
   ·
    refine pR_op 8 (some 37) 511 rfl (x_dp (v := .tuple #[.agg #[.int .i64 0, .int .i64 0], .int .i64 (cc : Int)]) h16 39 [(Value.iface 24 (pt tb 0)), (aV (vb (kl u.key)).toArray), (D 1), (lV P pre.length pc)] (by kernel_rfl) (ho ▸ oStamp_any (h16.at_ 3 rfl) hs.ok (h16.rd 2 rfl))) ?_
    rintro _ w17 ⟨rfl, h17⟩
    refine ⟨fun _ => ⟨h17.rd 0 rfl, h17.at_ 0 rfl, h17.at_ 2 rfl, trivial⟩, ?_⟩
    refine pR_p 3 [9, 10, 11] [(39, (D ((cc : Int)))), (38, (aV ([O, O]).toArray)), (28, (Value.tuple #[(aV ([O, O]).toArray), (D ((cc : Int)))]))] 4095 hs16 ⟨h17.rd 0 rfl, h17.at_ 0 rfl, h17.at_ 2 rfl, trivial⟩ ?_
    refine pR_to 12 (some 10) 8191 rfl hs16 (xN h17 49 ([O, O])) ?_
    rintro _ w18 ⟨g18, rfl, h18⟩
    refine ⟨fun _ => ⟨h18.rd 0 rfl, h18.at_ 1 rfl, h18.at_ 3 rfl, trivial⟩, ?_⟩
    refine pR_to 13 none 16383 rfl hs16 (xSs h18 0 49 (.tmp 10) (.tmp 38) 0 ([O, O]) ([O, O])) ?_
    rintro _ w19 h19
    refine ⟨fun _ => ⟨h19.rd 0 rfl, h19.at_ 1 rfl, h19.at_ 3 rfl, trivial⟩, ?_⟩
    refine pR_to 14 (some 9) 32767 rfl hs16 (OpTo.run (D ((cc : Int))) (pureOp_run (by kernel_rfl) _) (R := fun v w => v = (D ((cc : Int))) /\ w19 = w) ⟨rfl, rfl⟩) ?_
    rintro _ _ ⟨rfl, rfl⟩
    refine ⟨fun h => absurd h (by decide), ?_⟩
    refine pR_done hs16 ?_ _
    exact hJ11 g18 _ _ _ (pEq 109) (h19.sel [0, 1, 2, 3, 4] [0, 1, 2] (by kernel_rfl) rfl rfl)
   ·
    refine pR_op 12 (some 10) 4351 rfl (xN h16 49 ([O, O])) ?_
    rintro _ w20 ⟨g20, rfl, h20⟩
    refine ⟨fun _ => ⟨h20.rd 0 rfl, h20.at_ 1 rfl, h20.at_ 3 rfl, trivial⟩, ?_⟩
    refine pR_to 8 (some 37) 4607 rfl hs16 (x_dp (v := .tuple #[.agg #[.int .i64 0, .int .i64 0], .int .i64 (cc : Int)]) h20 39 [(Value.iface 24 (pt tb 0)), (aV (vb (kl u.key)).toArray), (D 1), (lV P pre.length pc)] (by kernel_rfl) (ho ▸ oStamp_any (h20.at_ 4 rfl) hs.ok (h20.rd 2 rfl))) ?_
    rintro _ w21 ⟨rfl, h21⟩
    refine ⟨fun _ => ⟨h21.rd 0 rfl, h21.at_ 1 rfl, h21.at_ 3 rfl, trivial⟩, ?_⟩
    refine pR_p 2 [9, 10, 11] [(39, (D ((cc : Int)))), (38, (aV ([O, O]).toArray)), (28, (Value.tuple #[(aV ([O, O]).toArray), (D ((cc : Int)))]))] 8191 hs16 ⟨h21.rd 0 rfl, h21.at_ 1 rfl, h21.at_ 3 rfl, trivial⟩ ?_
    refine pR_to 13 none 16383 rfl hs16 (xSs h21 0 49 (.tmp 10) (.tmp 38) 0 ([O, O]) ([O, O])) ?_
    rintro _ w22 h22
    refine ⟨fun _ => ⟨h22.rd 0 rfl, h22.at_ 1 rfl, h22.at_ 3 rfl, trivial⟩, ?_⟩
    refine pR_to 14 (some 9) 32767 rfl hs16 (OpTo.run (D ((cc : Int))) (pureOp_run (by kernel_rfl) _) (R := fun v w => v = (D ((cc : Int))) /\ w22 = w) ⟨rfl, rfl⟩) ?_
    rintro _ _ ⟨rfl, rfl⟩
    refine ⟨fun h => absurd h (by decide), ?_⟩
    refine pR_done hs16 ?_ _
    exact hJ11 g20 _ _ _ (pEq 109) (h22.sel [0, 1, 2, 3, 4] [0, 1, 2] (by kernel_rfl) rfl rfl)
 refine pR_go h3 12 (fun W => (rBlk kb 73 ([(Value.iface 24 (pt tb 0)), (pt bb 0)] ++ vb (kl Kk))).Φ W /\ (rBlk g2 45 ([(sV client), (D nonce), (D till), (lV P pre.length pc)])).Φ W /\ True) [(16, [0], 0), (17, [15], 1), (18, [16], 2), (19, [17], 4), (20, [5], 0), (21, [19], 16), (22, [18, 20], 40), (15, [21], 64), (23, [14], 128), (24, [14], 128), (9, [], 0), (0, [8, 22], 1535), (10, [23], 4095)] rfl (fun _ d _ _ _ h => by cases d <;> exact h) ?_
 intro hs23 w23 h23
 refine pR_p 9 [0, 1, 2, 4] [(19, (pt g2 0)), (17, (pt kb 1)), (16, (pt kb 0)), (15, (pt kb 0))] 23 hs23 ⟨h23.rd 0 rfl, h23.at_ 1 rfl, trivial⟩ ?_
 refine pR_v 3 (some 18) (pt bb 0) 31 rfl hs23 ⟨h23.rd 0 rfl, h23.at_ 1 rfl, trivial⟩ (fun W hW => eL hW.1 71 (.tmp 17) 1 _) ?_
 refine pR_v 5 (some 20) (sV client) 63 rfl hs23 ⟨h23.rd 0 rfl, h23.at_ 1 rfl, trivial⟩ (fun W hW => eL hW.2.1 9 (.tmp 19) 0 _) ?_
 refine pR_or 6 10 hs23 ?_ ?_
 ·
  refine pR_op 6 (some 21) 127 rfl (x_bget h23 [(pt bb 0), (sV client)] (by kernel_rfl) (get_yes (h23.rd 1 rfl) h32 hb2 hu)) ?_
  rintro _ w24 ⟨rfl, h24⟩
  refine ⟨fun _ => ⟨h24.rd 0 rfl, h24.at_ 1 rfl, trivial⟩, ?_⟩
  refine pR_p 3 [7, 8, 9] [(23, O), (22, (aV ([(sV u.name)] ++ vb (kl u.key) ++ [(D u.life), (D u.renew), (bV u.mesh)]).toArray)), (14, (Value.tuple #[(aV ([(sV u.name)] ++ vb (kl u.key) ++ [(D u.life), (D u.renew), (bV u.mesh)]).toArray), O]))] 1023 hs23 ⟨h24.rd 0 rfl, h24.at_ 1 rfl, trivial⟩ ?_
  refine pR_to 10 (some 8) 2047 rfl hs23 (xN h24 95 ([eS] ++ vb (List.replicate 16 0) ++ [O, O, V])) ?_
  rintro _ w25 ⟨g25, rfl, h25⟩
  refine ⟨fun _ => ⟨h25.rd 0 rfl, h25.at_ 2 rfl, trivial⟩, ?_⟩
  refine pR_to 11 none 4095 rfl hs23 (xSs h25 0 95 (.tmp 8) (.tmp 22) 0 ([(sV u.name)] ++ vb (kl u.key) ++ [(D u.life), (D u.renew), (bV u.mesh)]) ([(sV u.name)] ++ vb (kl u.key) ++ [(D u.life), (D u.renew), (bV u.mesh)])) ?_
  rintro _ w26 h26
  refine ⟨fun _ => ⟨h26.rd 0 rfl, h26.at_ 2 rfl, trivial⟩, ?_⟩
  refine pR_to 12 (some 9) 8191 rfl hs23 (OpTo.run O (pureOp_run (by kernel_rfl) _) (R := fun v w => v = O /\ w26 = w) ⟨rfl, rfl⟩) ?_
  rintro _ _ ⟨rfl, rfl⟩
  refine ⟨fun h => absurd h (by decide), ?_⟩
  refine pR_done hs23 ?_ _
  exact hJ6 g25 _ _ _ (pEq 109) (h26.sel [0, 1, 2, 3] [0, 1, 2] (by kernel_rfl) rfl rfl)
 ·
  refine pR_op 10 (some 8) 1087 rfl (xN h23 95 ([eS] ++ vb (List.replicate 16 0) ++ [O, O, V])) ?_
  rintro _ w27 ⟨g27, rfl, h27⟩
  refine ⟨fun _ => ⟨h27.rd 0 rfl, h27.at_ 2 rfl, trivial⟩, ?_⟩
  refine pR_to 6 (some 21) 1151 rfl hs23 (x_bget h27 [(pt bb 0), (sV client)] (by kernel_rfl) (get_yes (h27.rd 1 rfl) h32 hb2 hu)) ?_
  rintro _ w28 ⟨rfl, h28⟩
  refine ⟨fun _ => ⟨h28.rd 0 rfl, h28.at_ 2 rfl, trivial⟩, ?_⟩
  refine pR_p 2 [7, 8, 9] [(23, O), (22, (aV ([(sV u.name)] ++ vb (kl u.key) ++ [(D u.life), (D u.renew), (bV u.mesh)]).toArray)), (14, (Value.tuple #[(aV ([(sV u.name)] ++ vb (kl u.key) ++ [(D u.life), (D u.renew), (bV u.mesh)]).toArray), O]))] 2047 hs23 ⟨h28.rd 0 rfl, h28.at_ 2 rfl, trivial⟩ ?_
  refine pR_to 11 none 4095 rfl hs23 (xSs h28 0 95 (.tmp 8) (.tmp 22) 0 ([(sV u.name)] ++ vb (kl u.key) ++ [(D u.life), (D u.renew), (bV u.mesh)]) ([(sV u.name)] ++ vb (kl u.key) ++ [(D u.life), (D u.renew), (bV u.mesh)])) ?_
  rintro _ w29 h29
  refine ⟨fun _ => ⟨h29.rd 0 rfl, h29.at_ 2 rfl, trivial⟩, ?_⟩
  refine pR_to 12 (some 9) 8191 rfl hs23 (OpTo.run O (pureOp_run (by kernel_rfl) _) (R := fun v w => v = O /\ w29 = w) ⟨rfl, rfl⟩) ?_
  rintro _ _ ⟨rfl, rfl⟩
  refine ⟨fun h => absurd h (by decide), ?_⟩
  refine pR_done hs23 ?_ _
  exact hJ6 g27 _ _ _ (pEq 109) (h29.sel [0, 1, 2, 3] [0, 1, 2] (by kernel_rfl) rfl rfl)
theorem as_skew {F G : Nat -> Prop} {kb tb bb : Nat} {Kk : Fin 16 -> UInt8} {s : STab} {us : List User} {client : ByteArray} {now nonce till : Int} {P : Option Addr} {pc : Nat} {pre : Bytes} {w : World} (hT : (rTab F tb s).Φ w) (hB : (rBs G bb us).Φ w) (hFG : (rTab F tb s).dj (rBs G bb us)) (hs : Room 9 s) (hK : Blk w kb 73 (kdcC tb bb Kk)) (hd : ¬ F kb) (hv : SB w (.slice P pre.length pc) pre) (hdv : (rSB (.slice P pre.length pc) pre).dj (rTab F tb s)) (h32 : us.length <= 1000000) {u : User} (hb2 : placeB us client = true) (hu : us[placeI us client]? = some u) {t q : Int} (ho : openTh s (kl u.key) 1 pre = .inr (.stamp t q)) (hnear : nearF now t = false) : Calls Try.prog 14 #[(pt kb 0), (iV .i64 now), (aV ([(sV client), (iV .i64 nonce), (iV .i64 till), (lV P pre.length pc)]).toArray)] w (fun e w' => e = .returned (.tuple #[.agg #[.string ByteArray.empty, .string ByteArray.empty, .slice none 0 0, .slice none 0 0], .int .i64 11]) /\ ∃ F', Hp F w w' [] [rTab F' tb s]) := by
 have h0 := ((((Hp.one (rTab F tb s) hT).addR (rSB (.slice P pre.length pc) pre) hv (fun j r hj => by have h3 := sel1 hj; injection h3 with h3; subst h3; exact hdv)).addR (rBs G bb us) hB (fun j r hj => by have h3 := sel1 hj; injection h3 with h3; subst h3; exact hFG.symm)).addR (rBlk kb 73 (kdcC tb bb Kk)) hK (fun j s hj q h1 h2 => by have h3 := sel1 hj; injection h3 with h3; subst h3; exact hd (by rw [show q = kb from h1] at h2; exact h2)))
 refine enter 106 Try.func14 rfl rfl ?_
 refine wp_reset 109 [(0, (pt kb 0)), (1, (D now)), (2, (aV ([(sV client), (D nonce), (D till), (lV P pre.length pc)]).toArray))] (fun x0 => ?_)
 refine wR fun K1 hK1 => ?_
 refine wT 5 (xN h0 45 ([(sV client), (D nonce), (D till), (lV P pre.length pc)])) ?_
 rintro _ w2 ⟨g2, rfl, h2⟩
 refine wT 6 (xN h2 41 ([eS, eS, nS, nS])) ?_
 rintro _ w3 ⟨g3, rfl, h3⟩
 refine wq_p 1 [(7, O)] ?_
 refine wE hK1 (wp_seq_k fun K4 hK4 => ?_)
 have hJ6 : ∀ (gJ5_0 : Nat), ∀ (xJ6 : Nat -> Value) (aJ : Act) (wJ6 : World), aJ = patch xJ6 109 [(0, (pt kb 0)), (1, (D now)), (2, (aV ([(sV client), (D nonce), (D till), (lV P pre.length pc)]).toArray)), (5, (pt g2 0)), (6, (pt g3 0)), (7, O), (8, (pt gJ5_0 0)), (9, O)] -> Hp F w wJ6 [rBlk kb 73 ([(Value.iface 24 (pt tb 0)), (pt bb 0)] ++ vb (kl Kk)), rBs G bb us, rSB ((lV P pre.length pc)) pre] [rBlk gJ5_0 95 ([(sV u.name)] ++ vb (kl u.key) ++ [(D u.life), (D u.renew), (bV u.mesh)]), rBlk g3 41 ([eS, eS, nS, nS]), rBlk g2 45 ([(sV client), (D nonce), (D till), (lV P pre.length pc)]), rTab F tb s] -> K4 aJ wJ6 := by
   rintro gJ5_0 xJ6 _ wJ6 rfl hJh6
   refine seq_n hK4 (wp_seq_k fun K7 hK7 => wR fun K8 hK8 => ?_)
   refine wq_p 2 [(25, V), (24, O)] ?_
   refine wE hK8 (cF (wp_skip (seq_n hK7 (wp_seq_k fun K9 hK9 => ?_))))
   have hJ11 : ∀ (gJ10_0 : Nat), ∀ (xJ11 : Nat -> Value) (aJ : Act) (wJ11 : World), aJ = patch xJ11 109 [(0, (pt kb 0)), (1, (D now)), (2, (aV ([(sV client), (D nonce), (D till), (lV P pre.length pc)]).toArray)), (5, (pt g2 0)), (6, (pt g3 0)), (7, O), (8, (pt gJ5_0 0)), (9, O), (10, (pt gJ10_0 0)), (25, V)] -> Hp F w wJ11 [rBlk kb 73 ([(Value.iface 24 (pt tb 0)), (pt bb 0)] ++ vb (kl Kk)), rBs G bb us, rSB ((lV P pre.length pc)) pre] [rBlk gJ10_0 49 ([(D t), (D q)]), rBlk gJ5_0 95 ([(sV u.name)] ++ vb (kl u.key) ++ [(D u.life), (D u.renew), (bV u.mesh)]), rBlk g3 41 ([eS, eS, nS, nS]), rBlk g2 45 ([(sV client), (D nonce), (D till), (lV P pre.length pc)]), rTab F tb s] -> K9 aJ wJ11 := by
     rintro gJ10_0 xJ11 _ wJ11 rfl hJh11
     refine seq_n hK9 (wp_seq_k fun K12 hK12 => wp_block (wR fun K13 hK13 => ?_))
     refine wq_p 3 [(40, V), (42, V), (41, O)] ?_
     refine wE hK13 (cF (wR fun K14 hK14 => ?_))
     refine wq_p 2 [(46, (pt gJ10_0 0)), (45, (D now))] (wV 47 (D t) (eL (hJh11.at_ 0 rfl) 2 (.tmp 46) 0 _) ?_)
     refine wT 48 (x_dp (v := .bool false) hJh11 40 [(D now), (D t)] (by kernel_rfl) (hnear ▸ near_any now t _)) ?_
     rintro _ w15 ⟨rfl, h15⟩
     refine wq_p 2 [(44, I), (49, I)] ?_
     refine wE hK14 (cT (wR fun K16 hK16 => ?_))
     refine wq_p 1 [(50, (aV ([eS, eS, nS, nS]).toArray))] ?_
     refine wq_to none (xSs h15 2 41 (.tmp 6) (.tmp 50) 0 ([eS, eS, nS, nS]) ([eS, eS, nS, nS])) ?_
     rintro _ w17 h17
     refine wq_p 1 [(7, (D 11))] ?_
     refine wE hK16 (wp_ret (blk_r (seq_r ?_)))
     refine post_2 rfl (by kernel_rfl) (rce (h17.at_ 2 rfl)) (rtm (D 11)) ?_
     exact ⟨rfl, _, h17.sel [4] [] rfl rfl rfl⟩
   refine pR_go hJh6 14 (fun W => (rBlk kb 73 ([(Value.iface 24 (pt tb 0)), (pt bb 0)] ++ vb (kl Kk))).Φ W /\ (rBlk gJ5_0 95 ([(sV u.name)] ++ vb (kl u.key) ++ [(D u.life), (D u.renew), (bV u.mesh)])).Φ W /\ (rBlk g2 45 ([(sV client), (D nonce), (D till), (lV P pre.length pc)])).Φ W /\ True) [(30, [0], 0), (31, [29], 1), (32, [30], 2), (33, [31], 4), (34, [8], 0), (35, [33], 16), (36, [5], 0), (37, [35], 64), (38, [32, 34, 36], 168), (29, [37], 256), (39, [28], 512), (40, [28], 512), (11, [], 0), (0, [10, 38], 6143), (10, [39], 16383)] rfl (fun _ d _ _ _ h => by cases d <;> exact h) ?_
   intro hs18 w18 h18
   refine pR_p 10 [0, 1, 2, 4, 6] [(35, (pt g2 3)), (33, (pt gJ5_0 1)), (31, (pt kb 0)), (30, (pt kb 0)), (29, (pt kb 0))] 87 hs18 ⟨h18.rd 0 rfl, h18.at_ 0 rfl, h18.at_ 2 rfl, trivial⟩ ?_
   refine pR_v 3 (some 32) (Value.iface 24 (pt tb 0)) 95 rfl hs18 ⟨h18.rd 0 rfl, h18.at_ 0 rfl, h18.at_ 2 rfl, trivial⟩ (fun W hW => eL hW.1 70 (.tmp 31) 0 _) ?_
   refine pR_v 5 (some 34) (aV (vb (kl u.key)).toArray) 127 rfl hs18 ⟨h18.rd 0 rfl, h18.at_ 0 rfl, h18.at_ 2 rfl, trivial⟩ (fun W hW => eLs hW.2.1 32 (.tmp 33) 1 (vb (kl u.key))) ?_
   refine pR_v 7 (some 36) (lV P pre.length pc) 255 rfl hs18 ⟨h18.rd 0 rfl, h18.at_ 0 rfl, h18.at_ 2 rfl, trivial⟩ (fun W hW => eL hW.2.2.1 22 (.tmp 35) 3 _) ?_
   refine pR_or 8 12 hs18 ?_ ?_
   ·
    refine pR_op 8 (some 37) 511 rfl (x_oStamp h18 3 rfl u.key 1 (by kernel_rfl) hs.ok (h18.rd 2 rfl) ho) ?_
    rintro _ w19 ⟨rfl, h19⟩
    refine ⟨fun _ => ⟨h19.rd 0 rfl, h19.at_ 0 rfl, h19.at_ 2 rfl, trivial⟩, ?_⟩
    refine pR_p 3 [9, 10, 11] [(39, O), (38, (aV ([(D t), (D q)]).toArray)), (28, (Value.tuple #[(aV ([(D t), (D q)]).toArray), O]))] 4095 hs18 ⟨h19.rd 0 rfl, h19.at_ 0 rfl, h19.at_ 2 rfl, trivial⟩ ?_
    refine pR_to 12 (some 10) 8191 rfl hs18 (xN h19 49 ([O, O])) ?_
    rintro _ w20 ⟨g20, rfl, h20⟩
    refine ⟨fun _ => ⟨h20.rd 0 rfl, h20.at_ 1 rfl, h20.at_ 3 rfl, trivial⟩, ?_⟩
    refine pR_to 13 none 16383 rfl hs18 (xSs h20 0 49 (.tmp 10) (.tmp 38) 0 ([(D t), (D q)]) ([(D t), (D q)])) ?_
    rintro _ w21 h21
    refine ⟨fun _ => ⟨h21.rd 0 rfl, h21.at_ 1 rfl, h21.at_ 3 rfl, trivial⟩, ?_⟩
    refine pR_to 14 (some 9) 32767 rfl hs18 (OpTo.run O (pureOp_run (by kernel_rfl) _) (R := fun v w => v = O /\ w21 = w) ⟨rfl, rfl⟩) ?_
    rintro _ _ ⟨rfl, rfl⟩
    refine ⟨fun h => absurd h (by decide), ?_⟩
    refine pR_done hs18 ?_ _
    exact hJ11 g20 _ _ _ (pEq 109) (h21.sel [0, 1, 2, 3, 4] [0, 1, 2] (by kernel_rfl) rfl rfl)
   ·
    refine pR_op 12 (some 10) 4351 rfl (xN h18 49 ([O, O])) ?_
    rintro _ w22 ⟨g22, rfl, h22⟩
    refine ⟨fun _ => ⟨h22.rd 0 rfl, h22.at_ 1 rfl, h22.at_ 3 rfl, trivial⟩, ?_⟩
    refine pR_to 8 (some 37) 4607 rfl hs18 (x_oStamp h22 4 rfl u.key 1 (by kernel_rfl) hs.ok (h22.rd 2 rfl) ho) ?_
    rintro _ w23 ⟨rfl, h23⟩
    refine ⟨fun _ => ⟨h23.rd 0 rfl, h23.at_ 1 rfl, h23.at_ 3 rfl, trivial⟩, ?_⟩
    refine pR_p 2 [9, 10, 11] [(39, O), (38, (aV ([(D t), (D q)]).toArray)), (28, (Value.tuple #[(aV ([(D t), (D q)]).toArray), O]))] 8191 hs18 ⟨h23.rd 0 rfl, h23.at_ 1 rfl, h23.at_ 3 rfl, trivial⟩ ?_
    refine pR_to 13 none 16383 rfl hs18 (xSs h23 0 49 (.tmp 10) (.tmp 38) 0 ([(D t), (D q)]) ([(D t), (D q)])) ?_
    rintro _ w24 h24
    refine ⟨fun _ => ⟨h24.rd 0 rfl, h24.at_ 1 rfl, h24.at_ 3 rfl, trivial⟩, ?_⟩
    refine pR_to 14 (some 9) 32767 rfl hs18 (OpTo.run O (pureOp_run (by kernel_rfl) _) (R := fun v w => v = O /\ w24 = w) ⟨rfl, rfl⟩) ?_
    rintro _ _ ⟨rfl, rfl⟩
    refine ⟨fun h => absurd h (by decide), ?_⟩
    refine pR_done hs18 ?_ _
    exact hJ11 g22 _ _ _ (pEq 109) (h24.sel [0, 1, 2, 3, 4] [0, 1, 2] (by kernel_rfl) rfl rfl)
 refine pR_go h3 12 (fun W => (rBlk kb 73 ([(Value.iface 24 (pt tb 0)), (pt bb 0)] ++ vb (kl Kk))).Φ W /\ (rBlk g2 45 ([(sV client), (D nonce), (D till), (lV P pre.length pc)])).Φ W /\ True) [(16, [0], 0), (17, [15], 1), (18, [16], 2), (19, [17], 4), (20, [5], 0), (21, [19], 16), (22, [18, 20], 40), (15, [21], 64), (23, [14], 128), (24, [14], 128), (9, [], 0), (0, [8, 22], 1535), (10, [23], 4095)] rfl (fun _ d _ _ _ h => by cases d <;> exact h) ?_
 intro hs25 w25 h25
 refine pR_p 9 [0, 1, 2, 4] [(19, (pt g2 0)), (17, (pt kb 1)), (16, (pt kb 0)), (15, (pt kb 0))] 23 hs25 ⟨h25.rd 0 rfl, h25.at_ 1 rfl, trivial⟩ ?_
 refine pR_v 3 (some 18) (pt bb 0) 31 rfl hs25 ⟨h25.rd 0 rfl, h25.at_ 1 rfl, trivial⟩ (fun W hW => eL hW.1 71 (.tmp 17) 1 _) ?_
 refine pR_v 5 (some 20) (sV client) 63 rfl hs25 ⟨h25.rd 0 rfl, h25.at_ 1 rfl, trivial⟩ (fun W hW => eL hW.2.1 9 (.tmp 19) 0 _) ?_
 refine pR_or 6 10 hs25 ?_ ?_
 ·
  refine pR_op 6 (some 21) 127 rfl (x_bget h25 [(pt bb 0), (sV client)] (by kernel_rfl) (get_yes (h25.rd 1 rfl) h32 hb2 hu)) ?_
  rintro _ w26 ⟨rfl, h26⟩
  refine ⟨fun _ => ⟨h26.rd 0 rfl, h26.at_ 1 rfl, trivial⟩, ?_⟩
  refine pR_p 3 [7, 8, 9] [(23, O), (22, (aV ([(sV u.name)] ++ vb (kl u.key) ++ [(D u.life), (D u.renew), (bV u.mesh)]).toArray)), (14, (Value.tuple #[(aV ([(sV u.name)] ++ vb (kl u.key) ++ [(D u.life), (D u.renew), (bV u.mesh)]).toArray), O]))] 1023 hs25 ⟨h26.rd 0 rfl, h26.at_ 1 rfl, trivial⟩ ?_
  refine pR_to 10 (some 8) 2047 rfl hs25 (xN h26 95 ([eS] ++ vb (List.replicate 16 0) ++ [O, O, V])) ?_
  rintro _ w27 ⟨g27, rfl, h27⟩
  refine ⟨fun _ => ⟨h27.rd 0 rfl, h27.at_ 2 rfl, trivial⟩, ?_⟩
  refine pR_to 11 none 4095 rfl hs25 (xSs h27 0 95 (.tmp 8) (.tmp 22) 0 ([(sV u.name)] ++ vb (kl u.key) ++ [(D u.life), (D u.renew), (bV u.mesh)]) ([(sV u.name)] ++ vb (kl u.key) ++ [(D u.life), (D u.renew), (bV u.mesh)])) ?_
  rintro _ w28 h28
  refine ⟨fun _ => ⟨h28.rd 0 rfl, h28.at_ 2 rfl, trivial⟩, ?_⟩
  refine pR_to 12 (some 9) 8191 rfl hs25 (OpTo.run O (pureOp_run (by kernel_rfl) _) (R := fun v w => v = O /\ w28 = w) ⟨rfl, rfl⟩) ?_
  rintro _ _ ⟨rfl, rfl⟩
  refine ⟨fun h => absurd h (by decide), ?_⟩
  refine pR_done hs25 ?_ _
  exact hJ6 g27 _ _ _ (pEq 109) (h28.sel [0, 1, 2, 3] [0, 1, 2] (by kernel_rfl) rfl rfl)
 ·
  refine pR_op 10 (some 8) 1087 rfl (xN h25 95 ([eS] ++ vb (List.replicate 16 0) ++ [O, O, V])) ?_
  rintro _ w29 ⟨g29, rfl, h29⟩
  refine ⟨fun _ => ⟨h29.rd 0 rfl, h29.at_ 2 rfl, trivial⟩, ?_⟩
  refine pR_to 6 (some 21) 1151 rfl hs25 (x_bget h29 [(pt bb 0), (sV client)] (by kernel_rfl) (get_yes (h29.rd 1 rfl) h32 hb2 hu)) ?_
  rintro _ w30 ⟨rfl, h30⟩
  refine ⟨fun _ => ⟨h30.rd 0 rfl, h30.at_ 2 rfl, trivial⟩, ?_⟩
  refine pR_p 2 [7, 8, 9] [(23, O), (22, (aV ([(sV u.name)] ++ vb (kl u.key) ++ [(D u.life), (D u.renew), (bV u.mesh)]).toArray)), (14, (Value.tuple #[(aV ([(sV u.name)] ++ vb (kl u.key) ++ [(D u.life), (D u.renew), (bV u.mesh)]).toArray), O]))] 2047 hs25 ⟨h30.rd 0 rfl, h30.at_ 2 rfl, trivial⟩ ?_
  refine pR_to 11 none 4095 rfl hs25 (xSs h30 0 95 (.tmp 8) (.tmp 22) 0 ([(sV u.name)] ++ vb (kl u.key) ++ [(D u.life), (D u.renew), (bV u.mesh)]) ([(sV u.name)] ++ vb (kl u.key) ++ [(D u.life), (D u.renew), (bV u.mesh)])) ?_
  rintro _ w31 h31
  refine ⟨fun _ => ⟨h31.rd 0 rfl, h31.at_ 2 rfl, trivial⟩, ?_⟩
  refine pR_to 12 (some 9) 8191 rfl hs25 (OpTo.run O (pureOp_run (by kernel_rfl) _) (R := fun v w => v = O /\ w31 = w) ⟨rfl, rfl⟩) ?_
  rintro _ _ ⟨rfl, rfl⟩
  refine ⟨fun h => absurd h (by decide), ?_⟩
  refine pR_done hs25 ?_ _
  exact hJ6 g29 _ _ _ (pEq 109) (h31.sel [0, 1, 2, 3] [0, 1, 2] (by kernel_rfl) rfl rfl)
theorem as_exp {F G : Nat -> Prop} {kb tb bb : Nat} {Kk : Fin 16 -> UInt8} {s : STab} {us : List User} {client : ByteArray} {now nonce till : Int} {P : Option Addr} {pc : Nat} {pre : Bytes} {w : World} (hT : (rTab F tb s).Φ w) (hB : (rBs G bb us).Φ w) (hFG : (rTab F tb s).dj (rBs G bb us)) (hs : Room 9 s) (hK : Blk w kb 73 (kdcC tb bb Kk)) (hd : ¬ F kb) (hv : SB w (.slice P pre.length pc) pre) (hdv : (rSB (.slice P pre.length pc) pre).dj (rTab F tb s)) (h32 : us.length <= 1000000) {u : User} (hb2 : placeB us client = true) (hu : us[placeI us client]? = some u) {t q : Int} (ho : openTh s (kl u.key) 1 pre = .inr (.stamp t q)) (hnear : nearF now t = true) (ht : till <= now) : Calls Try.prog 14 #[(pt kb 0), (iV .i64 now), (aV ([(sV client), (iV .i64 nonce), (iV .i64 till), (lV P pre.length pc)]).toArray)] w (fun e w' => e = .returned (.tuple #[.agg #[.string ByteArray.empty, .string ByteArray.empty, .slice none 0 0, .slice none 0 0], .int .i64 12]) /\ ∃ F', Hp F w w' [] [rTab F' tb s]) := by
 have h0 := ((((Hp.one (rTab F tb s) hT).addR (rSB (.slice P pre.length pc) pre) hv (fun j r hj => by have h3 := sel1 hj; injection h3 with h3; subst h3; exact hdv)).addR (rBs G bb us) hB (fun j r hj => by have h3 := sel1 hj; injection h3 with h3; subst h3; exact hFG.symm)).addR (rBlk kb 73 (kdcC tb bb Kk)) hK (fun j s hj q h1 h2 => by have h3 := sel1 hj; injection h3 with h3; subst h3; exact hd (by rw [show q = kb from h1] at h2; exact h2)))
 refine enter 106 Try.func14 rfl rfl ?_
 refine wp_reset 109 [(0, (pt kb 0)), (1, (D now)), (2, (aV ([(sV client), (D nonce), (D till), (lV P pre.length pc)]).toArray))] (fun x0 => ?_)
 refine wR fun K1 hK1 => ?_
 refine wT 5 (xN h0 45 ([(sV client), (D nonce), (D till), (lV P pre.length pc)])) ?_
 rintro _ w2 ⟨g2, rfl, h2⟩
 refine wT 6 (xN h2 41 ([eS, eS, nS, nS])) ?_
 rintro _ w3 ⟨g3, rfl, h3⟩
 refine wq_p 1 [(7, O)] ?_
 refine wE hK1 (wp_seq_k fun K4 hK4 => ?_)
 have hJ6 : ∀ (gJ5_0 : Nat), ∀ (xJ6 : Nat -> Value) (aJ : Act) (wJ6 : World), aJ = patch xJ6 109 [(0, (pt kb 0)), (1, (D now)), (2, (aV ([(sV client), (D nonce), (D till), (lV P pre.length pc)]).toArray)), (5, (pt g2 0)), (6, (pt g3 0)), (7, O), (8, (pt gJ5_0 0)), (9, O)] -> Hp F w wJ6 [rBlk kb 73 ([(Value.iface 24 (pt tb 0)), (pt bb 0)] ++ vb (kl Kk)), rBs G bb us, rSB ((lV P pre.length pc)) pre] [rBlk gJ5_0 95 ([(sV u.name)] ++ vb (kl u.key) ++ [(D u.life), (D u.renew), (bV u.mesh)]), rBlk g3 41 ([eS, eS, nS, nS]), rBlk g2 45 ([(sV client), (D nonce), (D till), (lV P pre.length pc)]), rTab F tb s] -> K4 aJ wJ6 := by
   rintro gJ5_0 xJ6 _ wJ6 rfl hJh6
   refine seq_n hK4 (wp_seq_k fun K7 hK7 => wR fun K8 hK8 => ?_)
   refine wq_p 2 [(25, V), (24, O)] ?_
   refine wE hK8 (cF (wp_skip (seq_n hK7 (wp_seq_k fun K9 hK9 => ?_))))
   have hJ11 : ∀ (gJ10_0 : Nat), ∀ (xJ11 : Nat -> Value) (aJ : Act) (wJ11 : World), aJ = patch xJ11 109 [(0, (pt kb 0)), (1, (D now)), (2, (aV ([(sV client), (D nonce), (D till), (lV P pre.length pc)]).toArray)), (5, (pt g2 0)), (6, (pt g3 0)), (7, O), (8, (pt gJ5_0 0)), (9, O), (10, (pt gJ10_0 0)), (25, V)] -> Hp F w wJ11 [rBlk kb 73 ([(Value.iface 24 (pt tb 0)), (pt bb 0)] ++ vb (kl Kk)), rBs G bb us, rSB ((lV P pre.length pc)) pre] [rBlk gJ10_0 49 ([(D t), (D q)]), rBlk gJ5_0 95 ([(sV u.name)] ++ vb (kl u.key) ++ [(D u.life), (D u.renew), (bV u.mesh)]), rBlk g3 41 ([eS, eS, nS, nS]), rBlk g2 45 ([(sV client), (D nonce), (D till), (lV P pre.length pc)]), rTab F tb s] -> K9 aJ wJ11 := by
     rintro gJ10_0 xJ11 _ wJ11 rfl hJh11
     refine seq_n hK9 (wp_seq_k fun K12 hK12 => wp_block (wR fun K13 hK13 => ?_))
     refine wq_p 3 [(40, V), (42, V), (41, O)] ?_
     refine wE hK13 (cF (wR fun K14 hK14 => ?_))
     refine wq_p 2 [(46, (pt gJ10_0 0)), (45, (D now))] (wV 47 (D t) (eL (hJh11.at_ 0 rfl) 2 (.tmp 46) 0 _) ?_)
     refine wT 48 (x_dp (v := .bool true) hJh11 40 [(D now), (D t)] (by kernel_rfl) (hnear ▸ near_any now t _)) ?_
     rintro _ w15 ⟨rfl, h15⟩
     refine wq_p 2 [(44, V), (49, V)] ?_
     refine wE hK14 (cF (wR fun K16 hK16 => ?_))
     refine wq_p 1 [(52, (pt g2 2))] (wV 53 (D till) (eL (h15.at_ 3 rfl) 2 (.tmp 52) 2 _) (wq_p 1 [(54, (D now))] (wV 55 (.bool true) (eqI (bV (decide (till <= now))) (by simp; omega)) ?_)))
     refine wq_p 1 [(51, I)] ?_
     refine wE hK16 (cT (wR fun K17 hK17 => ?_))
     refine wq_p 1 [(56, (aV ([eS, eS, nS, nS]).toArray))] ?_
     refine wq_to none (xSs h15 2 41 (.tmp 6) (.tmp 56) 0 ([eS, eS, nS, nS]) ([eS, eS, nS, nS])) ?_
     rintro _ w18 h18
     refine wq_p 1 [(7, (D 12))] ?_
     refine wE hK17 (wp_ret (blk_r (seq_r ?_)))
     refine post_2 rfl (by kernel_rfl) (rce (h18.at_ 2 rfl)) (rtm (D 12)) ?_
     exact ⟨rfl, _, h18.sel [4] [] rfl rfl rfl⟩
   refine pR_go hJh6 14 (fun W => (rBlk kb 73 ([(Value.iface 24 (pt tb 0)), (pt bb 0)] ++ vb (kl Kk))).Φ W /\ (rBlk gJ5_0 95 ([(sV u.name)] ++ vb (kl u.key) ++ [(D u.life), (D u.renew), (bV u.mesh)])).Φ W /\ (rBlk g2 45 ([(sV client), (D nonce), (D till), (lV P pre.length pc)])).Φ W /\ True) [(30, [0], 0), (31, [29], 1), (32, [30], 2), (33, [31], 4), (34, [8], 0), (35, [33], 16), (36, [5], 0), (37, [35], 64), (38, [32, 34, 36], 168), (29, [37], 256), (39, [28], 512), (40, [28], 512), (11, [], 0), (0, [10, 38], 6143), (10, [39], 16383)] rfl (fun _ d _ _ _ h => by cases d <;> exact h) ?_
   intro hs19 w19 h19
   refine pR_p 10 [0, 1, 2, 4, 6] [(35, (pt g2 3)), (33, (pt gJ5_0 1)), (31, (pt kb 0)), (30, (pt kb 0)), (29, (pt kb 0))] 87 hs19 ⟨h19.rd 0 rfl, h19.at_ 0 rfl, h19.at_ 2 rfl, trivial⟩ ?_
   refine pR_v 3 (some 32) (Value.iface 24 (pt tb 0)) 95 rfl hs19 ⟨h19.rd 0 rfl, h19.at_ 0 rfl, h19.at_ 2 rfl, trivial⟩ (fun W hW => eL hW.1 70 (.tmp 31) 0 _) ?_
   refine pR_v 5 (some 34) (aV (vb (kl u.key)).toArray) 127 rfl hs19 ⟨h19.rd 0 rfl, h19.at_ 0 rfl, h19.at_ 2 rfl, trivial⟩ (fun W hW => eLs hW.2.1 32 (.tmp 33) 1 (vb (kl u.key))) ?_
   refine pR_v 7 (some 36) (lV P pre.length pc) 255 rfl hs19 ⟨h19.rd 0 rfl, h19.at_ 0 rfl, h19.at_ 2 rfl, trivial⟩ (fun W hW => eL hW.2.2.1 22 (.tmp 35) 3 _) ?_
   refine pR_or 8 12 hs19 ?_ ?_
   ·
    refine pR_op 8 (some 37) 511 rfl (x_oStamp h19 3 rfl u.key 1 (by kernel_rfl) hs.ok (h19.rd 2 rfl) ho) ?_
    rintro _ w20 ⟨rfl, h20⟩
    refine ⟨fun _ => ⟨h20.rd 0 rfl, h20.at_ 0 rfl, h20.at_ 2 rfl, trivial⟩, ?_⟩
    refine pR_p 3 [9, 10, 11] [(39, O), (38, (aV ([(D t), (D q)]).toArray)), (28, (Value.tuple #[(aV ([(D t), (D q)]).toArray), O]))] 4095 hs19 ⟨h20.rd 0 rfl, h20.at_ 0 rfl, h20.at_ 2 rfl, trivial⟩ ?_
    refine pR_to 12 (some 10) 8191 rfl hs19 (xN h20 49 ([O, O])) ?_
    rintro _ w21 ⟨g21, rfl, h21⟩
    refine ⟨fun _ => ⟨h21.rd 0 rfl, h21.at_ 1 rfl, h21.at_ 3 rfl, trivial⟩, ?_⟩
    refine pR_to 13 none 16383 rfl hs19 (xSs h21 0 49 (.tmp 10) (.tmp 38) 0 ([(D t), (D q)]) ([(D t), (D q)])) ?_
    rintro _ w22 h22
    refine ⟨fun _ => ⟨h22.rd 0 rfl, h22.at_ 1 rfl, h22.at_ 3 rfl, trivial⟩, ?_⟩
    refine pR_to 14 (some 9) 32767 rfl hs19 (OpTo.run O (pureOp_run (by kernel_rfl) _) (R := fun v w => v = O /\ w22 = w) ⟨rfl, rfl⟩) ?_
    rintro _ _ ⟨rfl, rfl⟩
    refine ⟨fun h => absurd h (by decide), ?_⟩
    refine pR_done hs19 ?_ _
    exact hJ11 g21 _ _ _ (pEq 109) (h22.sel [0, 1, 2, 3, 4] [0, 1, 2] (by kernel_rfl) rfl rfl)
   ·
    refine pR_op 12 (some 10) 4351 rfl (xN h19 49 ([O, O])) ?_
    rintro _ w23 ⟨g23, rfl, h23⟩
    refine ⟨fun _ => ⟨h23.rd 0 rfl, h23.at_ 1 rfl, h23.at_ 3 rfl, trivial⟩, ?_⟩
    refine pR_to 8 (some 37) 4607 rfl hs19 (x_oStamp h23 4 rfl u.key 1 (by kernel_rfl) hs.ok (h23.rd 2 rfl) ho) ?_
    rintro _ w24 ⟨rfl, h24⟩
    refine ⟨fun _ => ⟨h24.rd 0 rfl, h24.at_ 1 rfl, h24.at_ 3 rfl, trivial⟩, ?_⟩
    refine pR_p 2 [9, 10, 11] [(39, O), (38, (aV ([(D t), (D q)]).toArray)), (28, (Value.tuple #[(aV ([(D t), (D q)]).toArray), O]))] 8191 hs19 ⟨h24.rd 0 rfl, h24.at_ 1 rfl, h24.at_ 3 rfl, trivial⟩ ?_
    refine pR_to 13 none 16383 rfl hs19 (xSs h24 0 49 (.tmp 10) (.tmp 38) 0 ([(D t), (D q)]) ([(D t), (D q)])) ?_
    rintro _ w25 h25
    refine ⟨fun _ => ⟨h25.rd 0 rfl, h25.at_ 1 rfl, h25.at_ 3 rfl, trivial⟩, ?_⟩
    refine pR_to 14 (some 9) 32767 rfl hs19 (OpTo.run O (pureOp_run (by kernel_rfl) _) (R := fun v w => v = O /\ w25 = w) ⟨rfl, rfl⟩) ?_
    rintro _ _ ⟨rfl, rfl⟩
    refine ⟨fun h => absurd h (by decide), ?_⟩
    refine pR_done hs19 ?_ _
    exact hJ11 g23 _ _ _ (pEq 109) (h25.sel [0, 1, 2, 3, 4] [0, 1, 2] (by kernel_rfl) rfl rfl)
 refine pR_go h3 12 (fun W => (rBlk kb 73 ([(Value.iface 24 (pt tb 0)), (pt bb 0)] ++ vb (kl Kk))).Φ W /\ (rBlk g2 45 ([(sV client), (D nonce), (D till), (lV P pre.length pc)])).Φ W /\ True) [(16, [0], 0), (17, [15], 1), (18, [16], 2), (19, [17], 4), (20, [5], 0), (21, [19], 16), (22, [18, 20], 40), (15, [21], 64), (23, [14], 128), (24, [14], 128), (9, [], 0), (0, [8, 22], 1535), (10, [23], 4095)] rfl (fun _ d _ _ _ h => by cases d <;> exact h) ?_
 intro hs26 w26 h26
 refine pR_p 9 [0, 1, 2, 4] [(19, (pt g2 0)), (17, (pt kb 1)), (16, (pt kb 0)), (15, (pt kb 0))] 23 hs26 ⟨h26.rd 0 rfl, h26.at_ 1 rfl, trivial⟩ ?_
 refine pR_v 3 (some 18) (pt bb 0) 31 rfl hs26 ⟨h26.rd 0 rfl, h26.at_ 1 rfl, trivial⟩ (fun W hW => eL hW.1 71 (.tmp 17) 1 _) ?_
 refine pR_v 5 (some 20) (sV client) 63 rfl hs26 ⟨h26.rd 0 rfl, h26.at_ 1 rfl, trivial⟩ (fun W hW => eL hW.2.1 9 (.tmp 19) 0 _) ?_
 refine pR_or 6 10 hs26 ?_ ?_
 ·
  refine pR_op 6 (some 21) 127 rfl (x_bget h26 [(pt bb 0), (sV client)] (by kernel_rfl) (get_yes (h26.rd 1 rfl) h32 hb2 hu)) ?_
  rintro _ w27 ⟨rfl, h27⟩
  refine ⟨fun _ => ⟨h27.rd 0 rfl, h27.at_ 1 rfl, trivial⟩, ?_⟩
  refine pR_p 3 [7, 8, 9] [(23, O), (22, (aV ([(sV u.name)] ++ vb (kl u.key) ++ [(D u.life), (D u.renew), (bV u.mesh)]).toArray)), (14, (Value.tuple #[(aV ([(sV u.name)] ++ vb (kl u.key) ++ [(D u.life), (D u.renew), (bV u.mesh)]).toArray), O]))] 1023 hs26 ⟨h27.rd 0 rfl, h27.at_ 1 rfl, trivial⟩ ?_
  refine pR_to 10 (some 8) 2047 rfl hs26 (xN h27 95 ([eS] ++ vb (List.replicate 16 0) ++ [O, O, V])) ?_
  rintro _ w28 ⟨g28, rfl, h28⟩
  refine ⟨fun _ => ⟨h28.rd 0 rfl, h28.at_ 2 rfl, trivial⟩, ?_⟩
  refine pR_to 11 none 4095 rfl hs26 (xSs h28 0 95 (.tmp 8) (.tmp 22) 0 ([(sV u.name)] ++ vb (kl u.key) ++ [(D u.life), (D u.renew), (bV u.mesh)]) ([(sV u.name)] ++ vb (kl u.key) ++ [(D u.life), (D u.renew), (bV u.mesh)])) ?_
  rintro _ w29 h29
  refine ⟨fun _ => ⟨h29.rd 0 rfl, h29.at_ 2 rfl, trivial⟩, ?_⟩
  refine pR_to 12 (some 9) 8191 rfl hs26 (OpTo.run O (pureOp_run (by kernel_rfl) _) (R := fun v w => v = O /\ w29 = w) ⟨rfl, rfl⟩) ?_
  rintro _ _ ⟨rfl, rfl⟩
  refine ⟨fun h => absurd h (by decide), ?_⟩
  refine pR_done hs26 ?_ _
  exact hJ6 g28 _ _ _ (pEq 109) (h29.sel [0, 1, 2, 3] [0, 1, 2] (by kernel_rfl) rfl rfl)
 ·
  refine pR_op 10 (some 8) 1087 rfl (xN h26 95 ([eS] ++ vb (List.replicate 16 0) ++ [O, O, V])) ?_
  rintro _ w30 ⟨g30, rfl, h30⟩
  refine ⟨fun _ => ⟨h30.rd 0 rfl, h30.at_ 2 rfl, trivial⟩, ?_⟩
  refine pR_to 6 (some 21) 1151 rfl hs26 (x_bget h30 [(pt bb 0), (sV client)] (by kernel_rfl) (get_yes (h30.rd 1 rfl) h32 hb2 hu)) ?_
  rintro _ w31 ⟨rfl, h31⟩
  refine ⟨fun _ => ⟨h31.rd 0 rfl, h31.at_ 2 rfl, trivial⟩, ?_⟩
  refine pR_p 2 [7, 8, 9] [(23, O), (22, (aV ([(sV u.name)] ++ vb (kl u.key) ++ [(D u.life), (D u.renew), (bV u.mesh)]).toArray)), (14, (Value.tuple #[(aV ([(sV u.name)] ++ vb (kl u.key) ++ [(D u.life), (D u.renew), (bV u.mesh)]).toArray), O]))] 2047 hs26 ⟨h31.rd 0 rfl, h31.at_ 2 rfl, trivial⟩ ?_
  refine pR_to 11 none 4095 rfl hs26 (xSs h31 0 95 (.tmp 8) (.tmp 22) 0 ([(sV u.name)] ++ vb (kl u.key) ++ [(D u.life), (D u.renew), (bV u.mesh)]) ([(sV u.name)] ++ vb (kl u.key) ++ [(D u.life), (D u.renew), (bV u.mesh)])) ?_
  rintro _ w32 h32
  refine ⟨fun _ => ⟨h32.rd 0 rfl, h32.at_ 2 rfl, trivial⟩, ?_⟩
  refine pR_to 12 (some 9) 8191 rfl hs26 (OpTo.run O (pureOp_run (by kernel_rfl) _) (R := fun v w => v = O /\ w32 = w) ⟨rfl, rfl⟩) ?_
  rintro _ _ ⟨rfl, rfl⟩
  refine ⟨fun h => absurd h (by decide), ?_⟩
  refine pR_done hs26 ?_ _
  exact hJ6 g30 _ _ _ (pEq 109) (h32.sel [0, 1, 2, 3] [0, 1, 2] (by kernel_rfl) rfl rfl)
/-- What As leaves where it asks Give. -/
def AsPost (F : Nat -> Prop) (tb : Nat) (s : STab) (Kk : Fin 16 -> UInt8) (u : User) (b1 : Bytes) (w : World) (r : Nat ⊕ Bytes) (e : Ending) (w' : World) : Prop :=
 match r with
 | .inl cc => e = .returned (.tuple #[.agg #[.string ByteArray.empty, .string ByteArray.empty, .slice none 0 0, .slice none 0 0], .int .i64 (cc : Int)]) /\ ∃ F', Hp F w w' [] [rTab F' tb ((s.add SFrom.fresh).seal (kl Kk) 2 b1)]
 | .inr b2 => ∃ A1 c1 A2 c2 F', e = .returned (.tuple #[.agg #[.string u.name, .string ⟨#[107, 100, 99]⟩, .slice A1 16 c1, .slice A2 16 c2], .int .i64 0]) /\ Hp F w w' [] [rTab F' tb (((s.add SFrom.fresh).seal (kl Kk) 2 b1).seal (kl u.key) 3 b2), rSB (.slice A1 16 c1) (mkB 98 (s.boxes.length + 1)), rSB (.slice A2 16 c2) (mkB 98 (s.boxes.length + 2))]
theorem as_main {F G : Nat -> Prop} {kb tb bb : Nat} {Kk : Fin 16 -> UInt8} {s : STab} {us : List User} {client : ByteArray} {now nonce till : Int} {P : Option Addr} {pc : Nat} {pre : Bytes} {w : World} (hT : (rTab F tb s).Φ w) (hB : (rBs G bb us).Φ w) (hFG : (rTab F tb s).dj (rBs G bb us)) (hs : Room 9 s) (hK : Blk w kb 73 (kdcC tb bb Kk)) (hd : ¬ F kb) (hv : SB w (.slice P pre.length pc) pre) (hdv : (rSB (.slice P pre.length pc) pre).dj (rTab F tb s)) (h32 : us.length <= 1000000) {u : User} (hb2 : placeB us client = true) (hu : us[placeI us client]? = some u) {t q : Int} (ho : openTh s (kl u.key) 1 pre = .inr (.stamp t q)) (hnear : nearF now t = true) (ht : now < till) (hnow : 0 <= now /\ now <= 1099511627776) (hlife : 0 <= u.life /\ u.life <= 600) (hnm : u.name.size <= 1000) (K : Fin 16 -> UInt8) (hKK : kl K = mkB 107 (s.keys.length + 1)) {fl R : Int} (hfr : (0 < u.renew /\ u.renew <= 6000 /\ fl = 5 /\ R = now + u.renew) ∨ (u.renew <= 0 /\ fl = 4 /\ R = 0)) {b1 : Bytes} (hp1 : packB (.inside fl K u.name now (min till (now + u.life)) R) = .inr b1) {r : Nat ⊕ Bytes} (hp2 : packB (.reply fl K nonce ⟨#[107, 100, 99]⟩ now (min till (now + u.life)) R) = r) : Calls Try.prog 14 #[(pt kb 0), (iV .i64 now), (aV ([(sV client), (iV .i64 nonce), (iV .i64 till), (lV P pre.length pc)]).toArray)] w (AsPost F tb s Kk u b1 w r) := by
 have h0 := ((((Hp.one (rTab F tb s) hT).addR (rSB (.slice P pre.length pc) pre) hv (fun j r hj => by have h3 := sel1 hj; injection h3 with h3; subst h3; exact hdv)).addR (rBs G bb us) hB (fun j r hj => by have h3 := sel1 hj; injection h3 with h3; subst h3; exact hFG.symm)).addR (rBlk kb 73 (kdcC tb bb Kk)) hK (fun j s hj q h1 h2 => by have h3 := sel1 hj; injection h3 with h3; subst h3; exact hd (by rw [show q = kb from h1] at h2; exact h2)))
 refine enter 106 Try.func14 rfl rfl ?_
 refine wp_reset 109 [(0, (pt kb 0)), (1, (D now)), (2, (aV ([(sV client), (D nonce), (D till), (lV P pre.length pc)]).toArray))] (fun x0 => ?_)
 refine wR fun K1 hK1 => ?_
 refine wT 5 (xN h0 45 ([(sV client), (D nonce), (D till), (lV P pre.length pc)])) ?_
 rintro _ w2 ⟨g2, rfl, h2⟩
 refine wT 6 (xN h2 41 ([eS, eS, nS, nS])) ?_
 rintro _ w3 ⟨g3, rfl, h3⟩
 refine wq_p 1 [(7, O)] ?_
 refine wE hK1 (wp_seq_k fun K4 hK4 => ?_)
 have hJ6 : ∀ (gJ5_0 : Nat), ∀ (xJ6 : Nat -> Value) (aJ : Act) (wJ6 : World), aJ = patch xJ6 109 [(0, (pt kb 0)), (1, (D now)), (2, (aV ([(sV client), (D nonce), (D till), (lV P pre.length pc)]).toArray)), (5, (pt g2 0)), (6, (pt g3 0)), (7, O), (8, (pt gJ5_0 0)), (9, O)] -> Hp F w wJ6 [rBlk kb 73 ([(Value.iface 24 (pt tb 0)), (pt bb 0)] ++ vb (kl Kk)), rBs G bb us, rSB ((lV P pre.length pc)) pre] [rBlk gJ5_0 95 ([(sV u.name)] ++ vb (kl u.key) ++ [(D u.life), (D u.renew), (bV u.mesh)]), rBlk g3 41 ([eS, eS, nS, nS]), rBlk g2 45 ([(sV client), (D nonce), (D till), (lV P pre.length pc)]), rTab F tb s] -> K4 aJ wJ6 := by
   rintro gJ5_0 xJ6 _ wJ6 rfl hJh6
   refine seq_n hK4 (wp_seq_k fun K7 hK7 => wR fun K8 hK8 => ?_)
   refine wq_p 2 [(25, V), (24, O)] ?_
   refine wE hK8 (cF (wp_skip (seq_n hK7 (wp_seq_k fun K9 hK9 => ?_))))
   have hJ11 : ∀ (gJ10_0 : Nat), ∀ (xJ11 : Nat -> Value) (aJ : Act) (wJ11 : World), aJ = patch xJ11 109 [(0, (pt kb 0)), (1, (D now)), (2, (aV ([(sV client), (D nonce), (D till), (lV P pre.length pc)]).toArray)), (5, (pt g2 0)), (6, (pt g3 0)), (7, O), (8, (pt gJ5_0 0)), (9, O), (10, (pt gJ10_0 0)), (25, V)] -> Hp F w wJ11 [rBlk kb 73 ([(Value.iface 24 (pt tb 0)), (pt bb 0)] ++ vb (kl Kk)), rBs G bb us, rSB ((lV P pre.length pc)) pre] [rBlk gJ10_0 49 ([(D t), (D q)]), rBlk gJ5_0 95 ([(sV u.name)] ++ vb (kl u.key) ++ [(D u.life), (D u.renew), (bV u.mesh)]), rBlk g3 41 ([eS, eS, nS, nS]), rBlk g2 45 ([(sV client), (D nonce), (D till), (lV P pre.length pc)]), rTab F tb s] -> K9 aJ wJ11 := by
     rintro gJ10_0 xJ11 _ wJ11 rfl hJh11
     refine seq_n hK9 (wp_seq_k fun K12 hK12 => wp_block (wR fun K13 hK13 => ?_))
     refine wq_p 3 [(40, V), (42, V), (41, O)] ?_
     refine wE hK13 (cF (wR fun K14 hK14 => ?_))
     refine wq_p 2 [(46, (pt gJ10_0 0)), (45, (D now))] (wV 47 (D t) (eL (hJh11.at_ 0 rfl) 2 (.tmp 46) 0 _) ?_)
     refine wT 48 (x_dp (v := .bool true) hJh11 40 [(D now), (D t)] (by kernel_rfl) (hnear ▸ near_any now t _)) ?_
     rintro _ w15 ⟨rfl, h15⟩
     refine wq_p 2 [(44, V), (49, V)] ?_
     refine wE hK14 (cF (wR fun K16 hK16 => ?_))
     refine wq_p 1 [(52, (pt g2 2))] (wV 53 (D till) (eL (h15.at_ 3 rfl) 2 (.tmp 52) 2 _) (wq_p 1 [(54, (D now))] (wV 55 (.bool false) (eqI (bV (decide (till <= now))) (by simp; omega)) ?_)))
     refine wq_p 1 [(51, V)] ?_
     refine wE hK16 (cF (wp_skip (blk_n (seq_n hK12 (wp_seq_k fun K17 hK17 => ?_)))))
     have hJ19 : ∀ (gJ18_0 : Nat), ∀ (FJ18_1 : Nat -> Prop), ∀ (sJ18_2 : STab), (sJ18_2 = s.add SFrom.fresh) -> (Room 8 sJ18_2) -> ∀ (xJ19 : Nat -> Value) (aJ : Act) (wJ19 : World), aJ = patch xJ19 109 [(0, (pt kb 0)), (1, (D now)), (2, (aV ([(sV client), (D nonce), (D till), (lV P pre.length pc)]).toArray)), (5, (pt g2 0)), (6, (pt g3 0)), (7, O), (8, (pt gJ5_0 0)), (9, O), (10, (pt gJ10_0 0)), (11, (pt gJ18_0 0)), (25, V), (40, V), (44, V), (51, V)] -> Hp F w wJ19 [rBlk kb 73 ([(Value.iface 24 (pt tb 0)), (pt bb 0)] ++ vb (kl Kk)), rBs G bb us, rSB ((lV P pre.length pc)) pre] [rBlk gJ18_0 55 ([(D 4)] ++ vb (kl K) ++ [(sV u.name), (D now), (D (min till (now + u.life))), O]), rBlk gJ10_0 49 ([(D t), (D q)]), rBlk gJ5_0 95 ([(sV u.name)] ++ vb (kl u.key) ++ [(D u.life), (D u.renew), (bV u.mesh)]), rBlk g3 41 ([eS, eS, nS, nS]), rBlk g2 45 ([(sV client), (D nonce), (D till), (lV P pre.length pc)]), rTab FJ18_1 tb sJ18_2] -> K17 aJ wJ19 := by
       rintro gJ18_0 FJ18_1 sJ18_2 hsJ hrJ xJ19 _ wJ19 rfl hJh19
       refine seq_n hK17 (wp_seq_k fun K20 hK20 => wR fun K21 hK21 => ?_)
       refine wq_p 1 [(73, (pt gJ5_0 18))] (wV 74 (D u.renew) (eL (hJh19.at_ 2 rfl) 2 (.tmp 73) 18 _) (wq_p 1 [(75, (bV (decide (u.renew > 0))))] ?_))
       refine wE hK21 ?_
       have hJ23 : ∀ (xJ23 : Nat -> Value) (aJ : Act) (wJ23 : World), aJ = patch xJ23 109 [(0, (pt kb 0)), (1, (D now)), (2, (aV ([(sV client), (D nonce), (D till), (lV P pre.length pc)]).toArray)), (5, (pt g2 0)), (6, (pt g3 0)), (7, O), (8, (pt gJ5_0 0)), (9, O), (10, (pt gJ10_0 0)), (11, (pt gJ18_0 0)), (25, V), (40, V), (44, V), (51, V), (75, (bV (decide (u.renew > 0))))] -> Hp F w wJ23 [rBlk kb 73 ([(Value.iface 24 (pt tb 0)), (pt bb 0)] ++ vb (kl Kk)), rBs G bb us, rSB ((lV P pre.length pc)) pre] [rBlk gJ18_0 55 ([(D fl)] ++ vb (kl K) ++ [(sV u.name), (D now), (D (min till (now + u.life))), (D R)]), rBlk gJ10_0 49 ([(D t), (D q)]), rBlk gJ5_0 95 ([(sV u.name)] ++ vb (kl u.key) ++ [(D u.life), (D u.renew), (bV u.mesh)]), rBlk g3 41 ([eS, eS, nS, nS]), rBlk g2 45 ([(sV client), (D nonce), (D till), (lV P pre.length pc)]), rTab FJ18_1 tb sJ18_2] -> K20 aJ wJ23 := by
         rintro xJ23 _ wJ23 rfl hJh23
         refine seq_n hK20 (wp_seq_k fun K24 hK24 => ?_)
         rcases r with cc | b2
         ·
          have hJ27 : ∀ (gJ26_0 : Nat), ∀ (FJ26_1 : Nat -> Prop), ∀ (xJ27 : Nat -> Value) (aJ : Act) (wJ27 : World), aJ = patch xJ27 109 [(0, (pt kb 0)), (1, (D now)), (2, (aV ([(sV client), (D nonce), (D till), (lV P pre.length pc)]).toArray)), (5, (pt g2 0)), (6, (pt g3 0)), (7, O), (8, (pt gJ5_0 0)), (9, (D ((cc : Int)))), (10, (pt gJ10_0 0)), (11, (pt gJ18_0 0)), (12, (pt gJ26_0 0)), (13, nS), (25, V), (40, V), (44, V), (51, V), (75, (bV (decide (u.renew > 0))))] -> Hp F w wJ27 [rBlk kb 73 ([(Value.iface 24 (pt tb 0)), (pt bb 0)] ++ vb (kl Kk)), rBs G bb us, rSB ((lV P pre.length pc)) pre] [rBlk gJ26_0 39 ([eS, nS]), rTab FJ26_1 tb ((STab.seal sJ18_2 (kl Kk) 2 b1)), rBlk gJ18_0 55 ([(D fl)] ++ vb (kl K) ++ [(sV u.name), (D now), (D (min till (now + u.life))), (D R)]), rBlk gJ10_0 49 ([(D t), (D q)]), rBlk gJ5_0 95 ([(sV u.name)] ++ vb (kl u.key) ++ [(D u.life), (D u.renew), (bV u.mesh)]), rBlk g3 41 ([eS, eS, nS, nS]), rBlk g2 45 ([(sV client), (D nonce), (D till), (lV P pre.length pc)])] -> K24 aJ wJ27 := by
            rintro gJ26_0 FJ26_1 xJ27 _ wJ27 rfl hJh27
            refine seq_n hK24 (wp_seq_k fun K28 hK28 => wR fun K29 hK29 => ?_)
            refine wq_p 1 [(100, (D ((cc : Int))))] (wV 101 (.bool true) (eqI (bV (((cc : Int)) != 0)) (ine (b := 0) (pack_er hp2))) ?_)
            refine wE hK29 (cT (wR fun K30 hK30 => ?_))
            refine wq_p 2 [(103, (D ((cc : Int)))), (102, (aV ([eS, eS, nS, nS]).toArray))] ?_
            refine wq_to none (xSs hJh27 5 41 (.tmp 6) (.tmp 102) 0 ([eS, eS, nS, nS]) ([eS, eS, nS, nS])) ?_
            rintro _ w31 h31
            refine wq_p 1 [(7, (D ((cc : Int))))] ?_
            refine wE hK30 (wp_ret (seq_r ?_))
            refine post_2 rfl (by kernel_rfl) (rce (h31.at_ 5 rfl)) (rtm (D ((cc : Int)))) ?_
            subst hsJ
            exact ⟨rfl, _, h31.sel [1] [] rfl rfl rfl⟩
          refine pR_go hJh23 18 (fun W => (rBlk kb 73 ([(Value.iface 24 (pt tb 0)), (pt bb 0)] ++ vb (kl Kk))).Φ W /\ (rBlk gJ18_0 55 ([(D fl)] ++ vb (kl K) ++ [(sV u.name), (D now), (D (min till (now + u.life))), (D R)])).Φ W /\ (rBlk g2 45 ([(sV client), (D nonce), (D till), (lV P pre.length pc)])).Φ W /\ (rBlk gJ5_0 95 ([(sV u.name)] ++ vb (kl u.key) ++ [(D u.life), (D u.renew), (bV u.mesh)])).Φ W /\ True) [(87, [0], 0), (88, [0], 0), (89, [87], 2), (90, [88], 4), (91, [89], 8), (92, [11], 0), (93, [5], 0), (94, [92], 64), (95, [8], 0), (96, [94], 256), (97, [86, 90, 91, 93, 95], 689), (86, [96], 1024), (98, [85], 2048), (99, [85], 2048), (100, [85], 2048), (13, [], 0), (0, [12, 97], 40959), (14, [98], 114687), (10, [99], 262143)] rfl (fun _ d _ _ _ h => by cases d <;> exact h) ?_
          intro hs32 w32 h32
          refine pR_p 13 [0, 1, 2, 3, 6, 8] [(94, (pt gJ5_0 1)), (92, (pt g2 1)), (89, (pt kb 2)), (88, (pt kb 0)), (87, (pt kb 0)), (86, (pt kb 0))] 335 hs32 ⟨h32.rd 0 rfl, h32.at_ 0 rfl, h32.at_ 4 rfl, h32.at_ 2 rfl, trivial⟩ ?_
          refine pR_v 4 (some 90) (aV (vb (kl Kk)).toArray) 351 rfl hs32 ⟨h32.rd 0 rfl, h32.at_ 0 rfl, h32.at_ 4 rfl, h32.at_ 2 rfl, trivial⟩ (fun W hW => eLs hW.1 32 (.tmp 89) 2 (vb (kl Kk))) ?_
          refine pR_v 5 (some 91) (aV ([(D fl)] ++ vb (kl K) ++ [(sV u.name), (D now), (D (min till (now + u.life))), (D R)]).toArray) 383 rfl hs32 ⟨h32.rd 0 rfl, h32.at_ 0 rfl, h32.at_ 4 rfl, h32.at_ 2 rfl, trivial⟩ (fun W hW => eLs hW.2.1 55 (.tmp 11) 0 ([(D fl)] ++ vb (kl K) ++ [(sV u.name), (D now), (D (min till (now + u.life))), (D R)])) ?_
          refine pR_v 7 (some 93) (D nonce) 511 rfl hs32 ⟨h32.rd 0 rfl, h32.at_ 0 rfl, h32.at_ 4 rfl, h32.at_ 2 rfl, trivial⟩ (fun W hW => eL hW.2.2.1 2 (.tmp 92) 1 _) ?_
          refine pR_v 9 (some 95) (aV (vb (kl u.key)).toArray) 1023 rfl hs32 ⟨h32.rd 0 rfl, h32.at_ 0 rfl, h32.at_ 4 rfl, h32.at_ 2 rfl, trivial⟩ (fun W hW => eLs hW.2.2.2.1 32 (.tmp 94) 1 (vb (kl u.key))) ?_
          refine pR_or 10 15 hs32 ?_ ?_
          ·
           refine pR_op 10 (some 96) 2047 rfl (x_giveN h32 5 rfl [(pt kb 0), (sV (⟨#[107, 100, 99]⟩)), (aV (vb (kl Kk)).toArray), (aV ([(D fl)] ++ vb (kl K) ++ [(sV u.name), (D now), (D (min till (now + u.life))), (D R)]).toArray), (D nonce), (aV (vb (kl u.key)).toArray), (D 3)] (by kernel_rfl) (give_2 (h32.at_ 5 rfl) (hrJ.less (by decide)) (h32.rd 0 rfl) (fun hq => h32.rdis 0 5 _ _ rfl rfl kb rfl hq) (by omega) (by decide) hp1 hp2)) ?_
           rintro _ w33 ⟨F33, rfl, h33⟩
           refine ⟨fun _ => ⟨h33.rd 0 rfl, h33.at_ 1 rfl, h33.at_ 5 rfl, h33.at_ 3 rfl, trivial⟩, ?_⟩
           refine pR_p 4 [11, 12, 13, 14] [(99, (D ((cc : Int)))), (98, nS), (97, (aV ([eS, nS]).toArray)), (85, (Value.tuple #[(aV ([eS, nS]).toArray), nS, (D ((cc : Int)))]))] 32767 hs32 ⟨h33.rd 0 rfl, h33.at_ 1 rfl, h33.at_ 5 rfl, h33.at_ 3 rfl, trivial⟩ ?_
           refine pR_to 15 (some 12) 65535 rfl hs32 (xN h33 39 ([eS, nS])) ?_
           rintro _ w34 ⟨g34, rfl, h34⟩
           refine ⟨fun _ => ⟨h34.rd 0 rfl, h34.at_ 2 rfl, h34.at_ 6 rfl, h34.at_ 4 rfl, trivial⟩, ?_⟩
           refine pR_to 16 none 131071 rfl hs32 (xSs h34 0 39 (.tmp 12) (.tmp 97) 0 ([eS, nS]) ([eS, nS])) ?_
           rintro _ w35 h35
           refine ⟨fun _ => ⟨h35.rd 0 rfl, h35.at_ 2 rfl, h35.at_ 6 rfl, h35.at_ 4 rfl, trivial⟩, ?_⟩
           refine pR_p 1 [17] [(13, nS)] 262143 hs32 ⟨h35.rd 0 rfl, h35.at_ 2 rfl, h35.at_ 6 rfl, h35.at_ 4 rfl, trivial⟩ ?_
           refine pR_to 18 (some 9) 524287 rfl hs32 (OpTo.run (D ((cc : Int))) (pureOp_run (by kernel_rfl) _) (R := fun v w => v = (D ((cc : Int))) /\ w35 = w) ⟨rfl, rfl⟩) ?_
           rintro _ _ ⟨rfl, rfl⟩
           refine ⟨fun h => absurd h (by decide), ?_⟩
           refine pR_done hs32 ?_ _
           exact hJ27 g34 F33 _ _ _ (pEq 109) (h35.sel [0, 1, 2, 3, 4, 5, 6] [0, 1, 2] (by kernel_rfl) rfl rfl)
          ·
           refine pR_op 15 (some 12) 33791 rfl (xN h32 39 ([eS, nS])) ?_
           rintro _ w36 ⟨g36, rfl, h36⟩
           refine ⟨fun _ => ⟨h36.rd 0 rfl, h36.at_ 1 rfl, h36.at_ 5 rfl, h36.at_ 3 rfl, trivial⟩, ?_⟩
           refine pR_to 10 (some 96) 34815 rfl hs32 (x_giveN h36 6 rfl [(pt kb 0), (sV (⟨#[107, 100, 99]⟩)), (aV (vb (kl Kk)).toArray), (aV ([(D fl)] ++ vb (kl K) ++ [(sV u.name), (D now), (D (min till (now + u.life))), (D R)]).toArray), (D nonce), (aV (vb (kl u.key)).toArray), (D 3)] (by kernel_rfl) (give_2 (h36.at_ 6 rfl) (hrJ.less (by decide)) (h36.rd 0 rfl) (fun hq => h36.rdis 0 6 _ _ rfl rfl kb rfl hq) (by omega) (by decide) hp1 hp2)) ?_
           rintro _ w37 ⟨F37, rfl, h37⟩
           refine ⟨fun _ => ⟨h37.rd 0 rfl, h37.at_ 2 rfl, h37.at_ 6 rfl, h37.at_ 4 rfl, trivial⟩, ?_⟩
           refine pR_p 3 [11, 12, 13, 14] [(99, (D ((cc : Int)))), (98, nS), (97, (aV ([eS, nS]).toArray)), (85, (Value.tuple #[(aV ([eS, nS]).toArray), nS, (D ((cc : Int)))]))] 65535 hs32 ⟨h37.rd 0 rfl, h37.at_ 2 rfl, h37.at_ 6 rfl, h37.at_ 4 rfl, trivial⟩ ?_
           refine pR_to 16 none 131071 rfl hs32 (xSs h37 1 39 (.tmp 12) (.tmp 97) 0 ([eS, nS]) ([eS, nS])) ?_
           rintro _ w38 h38
           refine ⟨fun _ => ⟨h38.rd 0 rfl, h38.at_ 2 rfl, h38.at_ 6 rfl, h38.at_ 4 rfl, trivial⟩, ?_⟩
           refine pR_p 1 [17] [(13, nS)] 262143 hs32 ⟨h38.rd 0 rfl, h38.at_ 2 rfl, h38.at_ 6 rfl, h38.at_ 4 rfl, trivial⟩ ?_
           refine pR_to 18 (some 9) 524287 rfl hs32 (OpTo.run (D ((cc : Int))) (pureOp_run (by kernel_rfl) _) (R := fun v w => v = (D ((cc : Int))) /\ w38 = w) ⟨rfl, rfl⟩) ?_
           rintro _ _ ⟨rfl, rfl⟩
           refine ⟨fun h => absurd h (by decide), ?_⟩
           refine pR_done hs32 ?_ _
           exact hJ27 g36 F37 _ _ _ (pEq 109) (h38.sel [1, 0, 2, 3, 4, 5, 6] [0, 1, 2] (by kernel_rfl) rfl rfl)
         ·
          have hJ40 : ∀ (gJ39_0 : Nat), ∀ (BJ39_1 : Option Addr), ∀ (dJ39_2 : Nat), ∀ (AJ39_3 : Option Addr), ∀ (cJ39_4 : Nat), ∀ (FJ39_5 : Nat -> Prop), ∀ (xJ40 : Nat -> Value) (aJ : Act) (wJ40 : World), aJ = patch xJ40 109 [(0, (pt kb 0)), (1, (D now)), (2, (aV ([(sV client), (D nonce), (D till), (lV P pre.length pc)]).toArray)), (5, (pt g2 0)), (6, (pt g3 0)), (7, O), (8, (pt gJ5_0 0)), (9, O), (10, (pt gJ10_0 0)), (11, (pt gJ18_0 0)), (12, (pt gJ39_0 0)), (13, (lV BJ39_1 16 dJ39_2)), (25, V), (40, V), (44, V), (51, V), (75, (bV (decide (u.renew > 0))))] -> Hp F w wJ40 [rBlk kb 73 ([(Value.iface 24 (pt tb 0)), (pt bb 0)] ++ vb (kl Kk)), rBs G bb us, rSB ((lV P pre.length pc)) pre] [rBlk gJ39_0 39 ([(sV (⟨#[107, 100, 99]⟩)), (lV AJ39_3 16 cJ39_4)]), rTab FJ39_5 tb ((STab.seal (STab.seal sJ18_2 (kl Kk) 2 b1) (kl u.key) 3 b2)), rSB ((lV AJ39_3 16 cJ39_4)) (mkB 98 (sJ18_2.boxes.length + 1)), rSB ((lV BJ39_1 16 dJ39_2)) (mkB 98 (sJ18_2.boxes.length + 2)), rBlk gJ18_0 55 ([(D fl)] ++ vb (kl K) ++ [(sV u.name), (D now), (D (min till (now + u.life))), (D R)]), rBlk gJ10_0 49 ([(D t), (D q)]), rBlk gJ5_0 95 ([(sV u.name)] ++ vb (kl u.key) ++ [(D u.life), (D u.renew), (bV u.mesh)]), rBlk g3 41 ([eS, eS, nS, nS]), rBlk g2 45 ([(sV client), (D nonce), (D till), (lV P pre.length pc)])] -> K24 aJ wJ40 := by
            rintro gJ39_0 BJ39_1 dJ39_2 AJ39_3 cJ39_4 FJ39_5 xJ40 _ wJ40 rfl hJh40
            refine seq_n hK24 (wp_seq_k fun K41 hK41 => wR fun K42 hK42 => ?_)
            refine wq_p 1 [(100, O)] (wq_p 1 [(101, V)] ?_)
            refine wE hK42 (cF (wp_skip (seq_n hK41 (wR fun K43 hK43 => ?_))))
            refine wq_p 1 [(104, (pt gJ5_0 0))] (wV 105 (sV u.name) (eL (hJh40.at_ 6 rfl) 9 (.tmp 104) 0 _) (wV 106 (aV ([(sV (⟨#[107, 100, 99]⟩)), (lV AJ39_3 16 cJ39_4)]).toArray) (eLs (hJh40.at_ 0 rfl) 39 (.tmp 12) 0 ([(sV (⟨#[107, 100, 99]⟩)), (lV AJ39_3 16 cJ39_4)])) (wq_p 2 [(108, (aV ([(sV u.name), (sV (⟨#[107, 100, 99]⟩)), (lV AJ39_3 16 cJ39_4), (lV BJ39_1 16 dJ39_2)]).toArray)), (107, (lV BJ39_1 16 dJ39_2))] ?_)))
            refine wq_to none (xSs hJh40 7 41 (.tmp 6) (.tmp 108) 0 ([(sV u.name), (sV (⟨#[107, 100, 99]⟩)), (lV AJ39_3 16 cJ39_4), (lV BJ39_1 16 dJ39_2)]) ([(sV u.name), (sV (⟨#[107, 100, 99]⟩)), (lV AJ39_3 16 cJ39_4), (lV BJ39_1 16 dJ39_2)])) ?_
            rintro _ w44 h44
            refine wq_p 1 [(7, O)] ?_
            refine wE hK43 (wp_ret ?_)
            refine post_2 rfl (by kernel_rfl) (rce (h44.at_ 7 rfl)) (rtm O) ?_
            subst hsJ
            exact ⟨_, _, _, _, _, rfl, h44.sel [1, 2, 3] [] rfl rfl rfl⟩
          refine pR_go hJh23 18 (fun W => (rBlk kb 73 ([(Value.iface 24 (pt tb 0)), (pt bb 0)] ++ vb (kl Kk))).Φ W /\ (rBlk gJ18_0 55 ([(D fl)] ++ vb (kl K) ++ [(sV u.name), (D now), (D (min till (now + u.life))), (D R)])).Φ W /\ (rBlk g2 45 ([(sV client), (D nonce), (D till), (lV P pre.length pc)])).Φ W /\ (rBlk gJ5_0 95 ([(sV u.name)] ++ vb (kl u.key) ++ [(D u.life), (D u.renew), (bV u.mesh)])).Φ W /\ True) [(87, [0], 0), (88, [0], 0), (89, [87], 2), (90, [88], 4), (91, [89], 8), (92, [11], 0), (93, [5], 0), (94, [92], 64), (95, [8], 0), (96, [94], 256), (97, [86, 90, 91, 93, 95], 689), (86, [96], 1024), (98, [85], 2048), (99, [85], 2048), (100, [85], 2048), (13, [], 0), (0, [12, 97], 40959), (14, [98], 114687), (10, [99], 262143)] rfl (fun _ d _ _ _ h => by cases d <;> exact h) ?_
          intro hs45 w45 h45
          refine pR_p 13 [0, 1, 2, 3, 6, 8] [(94, (pt gJ5_0 1)), (92, (pt g2 1)), (89, (pt kb 2)), (88, (pt kb 0)), (87, (pt kb 0)), (86, (pt kb 0))] 335 hs45 ⟨h45.rd 0 rfl, h45.at_ 0 rfl, h45.at_ 4 rfl, h45.at_ 2 rfl, trivial⟩ ?_
          refine pR_v 4 (some 90) (aV (vb (kl Kk)).toArray) 351 rfl hs45 ⟨h45.rd 0 rfl, h45.at_ 0 rfl, h45.at_ 4 rfl, h45.at_ 2 rfl, trivial⟩ (fun W hW => eLs hW.1 32 (.tmp 89) 2 (vb (kl Kk))) ?_
          refine pR_v 5 (some 91) (aV ([(D fl)] ++ vb (kl K) ++ [(sV u.name), (D now), (D (min till (now + u.life))), (D R)]).toArray) 383 rfl hs45 ⟨h45.rd 0 rfl, h45.at_ 0 rfl, h45.at_ 4 rfl, h45.at_ 2 rfl, trivial⟩ (fun W hW => eLs hW.2.1 55 (.tmp 11) 0 ([(D fl)] ++ vb (kl K) ++ [(sV u.name), (D now), (D (min till (now + u.life))), (D R)])) ?_
          refine pR_v 7 (some 93) (D nonce) 511 rfl hs45 ⟨h45.rd 0 rfl, h45.at_ 0 rfl, h45.at_ 4 rfl, h45.at_ 2 rfl, trivial⟩ (fun W hW => eL hW.2.2.1 2 (.tmp 92) 1 _) ?_
          refine pR_v 9 (some 95) (aV (vb (kl u.key)).toArray) 1023 rfl hs45 ⟨h45.rd 0 rfl, h45.at_ 0 rfl, h45.at_ 4 rfl, h45.at_ 2 rfl, trivial⟩ (fun W hW => eLs hW.2.2.2.1 32 (.tmp 94) 1 (vb (kl u.key))) ?_
          refine pR_or 10 15 hs45 ?_ ?_
          ·
           refine pR_op 10 (some 96) 2047 rfl (x_give h45 5 rfl [(pt kb 0), (sV (⟨#[107, 100, 99]⟩)), (aV (vb (kl Kk)).toArray), (aV ([(D fl)] ++ vb (kl K) ++ [(sV u.name), (D now), (D (min till (now + u.life))), (D R)]).toArray), (D nonce), (aV (vb (kl u.key)).toArray), (D 3)] (by kernel_rfl) (give_ok (h45.at_ 5 rfl) (hrJ.less (by decide)) (h45.rd 0 rfl) (fun hq => h45.rdis 0 5 _ _ rfl rfl kb rfl hq) (by omega) (by decide) hp1 hp2)) ?_
           rintro _ w46 ⟨A46, c46, B46, d46, F46, rfl, h46⟩
           refine ⟨fun _ => ⟨h46.rd 0 rfl, h46.at_ 3 rfl, h46.at_ 7 rfl, h46.at_ 5 rfl, trivial⟩, ?_⟩
           refine pR_p 4 [11, 12, 13, 14] [(99, O), (98, (lV B46 16 d46)), (97, (aV ([(sV (⟨#[107, 100, 99]⟩)), (lV A46 16 c46)]).toArray)), (85, (Value.tuple #[(aV ([(sV (⟨#[107, 100, 99]⟩)), (lV A46 16 c46)]).toArray), (lV B46 16 d46), O]))] 32767 hs45 ⟨h46.rd 0 rfl, h46.at_ 3 rfl, h46.at_ 7 rfl, h46.at_ 5 rfl, trivial⟩ ?_
           refine pR_to 15 (some 12) 65535 rfl hs45 (xN h46 39 ([eS, nS])) ?_
           rintro _ w47 ⟨g47, rfl, h47⟩
           refine ⟨fun _ => ⟨h47.rd 0 rfl, h47.at_ 4 rfl, h47.at_ 8 rfl, h47.at_ 6 rfl, trivial⟩, ?_⟩
           refine pR_to 16 none 131071 rfl hs45 (xSs h47 0 39 (.tmp 12) (.tmp 97) 0 ([(sV (⟨#[107, 100, 99]⟩)), (lV A46 16 c46)]) ([(sV (⟨#[107, 100, 99]⟩)), (lV A46 16 c46)])) ?_
           rintro _ w48 h48
           refine ⟨fun _ => ⟨h48.rd 0 rfl, h48.at_ 4 rfl, h48.at_ 8 rfl, h48.at_ 6 rfl, trivial⟩, ?_⟩
           refine pR_p 1 [17] [(13, (lV B46 16 d46))] 262143 hs45 ⟨h48.rd 0 rfl, h48.at_ 4 rfl, h48.at_ 8 rfl, h48.at_ 6 rfl, trivial⟩ ?_
           refine pR_to 18 (some 9) 524287 rfl hs45 (OpTo.run O (pureOp_run (by kernel_rfl) _) (R := fun v w => v = O /\ w48 = w) ⟨rfl, rfl⟩) ?_
           rintro _ _ ⟨rfl, rfl⟩
           refine ⟨fun h => absurd h (by decide), ?_⟩
           refine pR_done hs45 ?_ _
           exact hJ40 g47 B46 d46 A46 c46 F46 _ _ _ (pEq 109) (h48.sel [0, 1, 2, 3, 4, 5, 6, 7, 8] [0, 1, 2] (by kernel_rfl) rfl rfl)
          ·
           refine pR_op 15 (some 12) 33791 rfl (xN h45 39 ([eS, nS])) ?_
           rintro _ w49 ⟨g49, rfl, h49⟩
           refine ⟨fun _ => ⟨h49.rd 0 rfl, h49.at_ 1 rfl, h49.at_ 5 rfl, h49.at_ 3 rfl, trivial⟩, ?_⟩
           refine pR_to 10 (some 96) 34815 rfl hs45 (x_give h49 6 rfl [(pt kb 0), (sV (⟨#[107, 100, 99]⟩)), (aV (vb (kl Kk)).toArray), (aV ([(D fl)] ++ vb (kl K) ++ [(sV u.name), (D now), (D (min till (now + u.life))), (D R)]).toArray), (D nonce), (aV (vb (kl u.key)).toArray), (D 3)] (by kernel_rfl) (give_ok (h49.at_ 6 rfl) (hrJ.less (by decide)) (h49.rd 0 rfl) (fun hq => h49.rdis 0 6 _ _ rfl rfl kb rfl hq) (by omega) (by decide) hp1 hp2)) ?_
           rintro _ w50 ⟨A50, c50, B50, d50, F50, rfl, h50⟩
           refine ⟨fun _ => ⟨h50.rd 0 rfl, h50.at_ 4 rfl, h50.at_ 8 rfl, h50.at_ 6 rfl, trivial⟩, ?_⟩
           refine pR_p 3 [11, 12, 13, 14] [(99, O), (98, (lV B50 16 d50)), (97, (aV ([(sV (⟨#[107, 100, 99]⟩)), (lV A50 16 c50)]).toArray)), (85, (Value.tuple #[(aV ([(sV (⟨#[107, 100, 99]⟩)), (lV A50 16 c50)]).toArray), (lV B50 16 d50), O]))] 65535 hs45 ⟨h50.rd 0 rfl, h50.at_ 4 rfl, h50.at_ 8 rfl, h50.at_ 6 rfl, trivial⟩ ?_
           refine pR_to 16 none 131071 rfl hs45 (xSs h50 3 39 (.tmp 12) (.tmp 97) 0 ([(sV (⟨#[107, 100, 99]⟩)), (lV A50 16 c50)]) ([(sV (⟨#[107, 100, 99]⟩)), (lV A50 16 c50)])) ?_
           rintro _ w51 h51
           refine ⟨fun _ => ⟨h51.rd 0 rfl, h51.at_ 4 rfl, h51.at_ 8 rfl, h51.at_ 6 rfl, trivial⟩, ?_⟩
           refine pR_p 1 [17] [(13, (lV B50 16 d50))] 262143 hs45 ⟨h51.rd 0 rfl, h51.at_ 4 rfl, h51.at_ 8 rfl, h51.at_ 6 rfl, trivial⟩ ?_
           refine pR_to 18 (some 9) 524287 rfl hs45 (OpTo.run O (pureOp_run (by kernel_rfl) _) (R := fun v w => v = O /\ w51 = w) ⟨rfl, rfl⟩) ?_
           rintro _ _ ⟨rfl, rfl⟩
           refine ⟨fun h => absurd h (by decide), ?_⟩
           refine pR_done hs45 ?_ _
           exact hJ40 g49 B50 d50 A50 c50 F50 _ _ _ (pEq 109) (h51.sel [3, 0, 1, 2, 4, 5, 6, 7, 8] [0, 1, 2] (by kernel_rfl) rfl rfl)
       refine wp_if (u.renew > 0) (by kernel_rfl) (fun b52 => ?_) (fun b52 => ?_)
       ·
        have hf : fl = 5 /\ R = now + u.renew := by
          rcases hfr with h | h
          · exact h.2.2
          · exact absurd b52 (by have := h.1; omega)
        refine wR fun K53 hK53 => ?_
        refine wq_p 1 [(76, (pt gJ18_0 0))] (wV 77 (D 4) (eL (hJh19.at_ 0 rfl) 3 (.tmp 76) 0 _) (wV 78 (D 5) (eqI (D (bits .or .i64 4 1)) rfl) (wq_p 1 [(79, (pt gJ18_0 0))] ?_)))
        refine wq_to none (xSt hJh19 0 3 (.tmp 79) (.tmp 78) 0 (D 5) ([(D 5)] ++ vb (kl K) ++ [(sV u.name), (D now), (D (min till (now + u.life))), O])) ?_
        rintro _ w54 h54
        refine wE hK53 (reg_lit ?_)
        refine wq_p 2 [(81, (pt gJ5_0 18)), (80, (D now))] (wV 82 (D u.renew) (eL (h54.at_ 2 rfl) 2 (.tmp 81) 18 _) (wV 83 (D (now + u.renew)) (exec_add _ _ _ _ rfl now u.renew (by kernel_rfl) (by kernel_rfl) (now + u.renew) rfl (by omega) (by omega) _) (wq_p 1 [(84, (pt gJ18_0 20))] ?_)))
        refine wq_to none (xSt h54 0 2 (.tmp 84) (.tmp 83) 20 (D (now + u.renew)) ([(D 5)] ++ vb (kl K) ++ [(sV u.name), (D now), (D (min till (now + u.life))), (D (now + u.renew))])) ?_
        rintro _ w55 h55
        have h56 : Hp F w w55 [rBlk kb 73 ([(Value.iface 24 (pt tb 0)), (pt bb 0)] ++ vb (kl Kk)), rBs G bb us, rSB ((lV P pre.length pc)) pre] [rBlk gJ18_0 55 ([(iV .i64 fl)] ++ vb (kl K) ++ [(sV u.name), (iV .i64 now), (iV .i64 (min till (now + u.life))), (iV .i64 R)]), rBlk gJ10_0 49 ([(iV .i64 t), (iV .i64 q)]), rBlk gJ5_0 95 ([(sV u.name)] ++ vb (kl u.key) ++ [(iV .i64 u.life), (iV .i64 u.renew), (bV u.mesh)]), rBlk g3 41 ([(sV ByteArray.empty), (sV ByteArray.empty), (lV none 0 0), (lV none 0 0)]), rBlk g2 45 ([(sV client), (iV .i64 nonce), (iV .i64 till), (lV P pre.length pc)]), rTab FJ18_1 tb sJ18_2] := by rw [hf.1, hf.2]; exact h55
        refine wl_end rfl ?_
        exact hJ23  _ _ _ (pEq 109) (h56.sel [0, 1, 2, 3, 4, 5] [0, 1, 2] (by kernel_rfl) rfl rfl)
       ·
        have hf : fl = 4 /\ R = 0 := by
          rcases hfr with h | h
          · exact absurd h.1 b52
          · exact h.2
        have h57 : Hp F w wJ19 [rBlk kb 73 ([(Value.iface 24 (pt tb 0)), (pt bb 0)] ++ vb (kl Kk)), rBs G bb us, rSB ((lV P pre.length pc)) pre] [rBlk gJ18_0 55 ([(iV .i64 fl)] ++ vb (kl K) ++ [(sV u.name), (iV .i64 now), (iV .i64 (min till (now + u.life))), (iV .i64 R)]), rBlk gJ10_0 49 ([(iV .i64 t), (iV .i64 q)]), rBlk gJ5_0 95 ([(sV u.name)] ++ vb (kl u.key) ++ [(iV .i64 u.life), (iV .i64 u.renew), (bV u.mesh)]), rBlk g3 41 ([(sV ByteArray.empty), (sV ByteArray.empty), (lV none 0 0), (lV none 0 0)]), rBlk g2 45 ([(sV client), (iV .i64 nonce), (iV .i64 till), (lV P pre.length pc)]), rTab FJ18_1 tb sJ18_2] := by rw [hf.1, hf.2]; exact hJh19
        refine wp_skip ?_
        exact hJ23  _ _ _ (pEq 109) (h57.sel [0, 1, 2, 3, 4, 5] [0, 1, 2] (by kernel_rfl) rfl rfl)
     refine pR_go h15 17 (fun W => (rBlk kb 73 ([(Value.iface 24 (pt tb 0)), (pt bb 0)] ++ vb (kl Kk))).Φ W /\ (rBlk gJ5_0 95 ([(sV u.name)] ++ vb (kl u.key) ++ [(D u.life), (D u.renew), (bV u.mesh)])).Φ W /\ (rBlk g2 45 ([(sV client), (D nonce), (D till), (lV P pre.length pc)])).Φ W /\ True) [(58, [0], 0), (59, [57], 1), (60, [58], 2), (61, [59], 4), (62, [60], 8), (63, [8], 0), (64, [62], 32), (65, [1], 0), (66, [5], 0), (67, [65], 256), (68, [1], 0), (69, [8], 0), (70, [68], 2048), (71, [67, 69], 5120), (72, [66, 70], 8704), (73, [61, 63, 64, 71], 16592), (12, [], 0), (0, [11, 72], 131071)] rfl (fun _ d _ _ _ h => by cases d <;> exact h) ?_
     intro hs58 w58 h58
     refine pR_p 10 [0, 1, 2, 5, 7, 8, 10, 11] [(68, (pt gJ5_0 17)), (67, (D now)), (65, (pt g2 2)), (64, (D now)), (62, (pt gJ5_0 0)), (59, (pt kb 0)), (58, (pt kb 0)), (57, (pt kb 0))] 3495 hs58 ⟨h58.rd 0 rfl, h58.at_ 1 rfl, h58.at_ 3 rfl, trivial⟩ ?_
     refine pR_v 3 (some 60) (Value.iface 24 (pt tb 0)) 3503 rfl hs58 ⟨h58.rd 0 rfl, h58.at_ 1 rfl, h58.at_ 3 rfl, trivial⟩ (fun W hW => eL hW.1 70 (.tmp 59) 0 _) ?_
     refine pR_v 6 (some 63) (sV u.name) 3567 rfl hs58 ⟨h58.rd 0 rfl, h58.at_ 1 rfl, h58.at_ 3 rfl, trivial⟩ (fun W hW => eL hW.2.1 9 (.tmp 62) 0 _) ?_
     refine pR_v 9 (some 66) (D till) 4079 rfl hs58 ⟨h58.rd 0 rfl, h58.at_ 1 rfl, h58.at_ 3 rfl, trivial⟩ (fun W hW => eL hW.2.2.1 2 (.tmp 65) 2 _) ?_
     refine pR_v 12 (some 69) (D u.life) 8175 rfl hs58 ⟨h58.rd 0 rfl, h58.at_ 1 rfl, h58.at_ 3 rfl, trivial⟩ (fun W hW => eL hW.2.1 2 (.tmp 68) 17 _) ?_
     refine pR_v 13 (some 70) (D (now + u.life)) 16367 rfl hs58 ⟨h58.rd 0 rfl, h58.at_ 1 rfl, h58.at_ 3 rfl, trivial⟩ (fun W hW => exec_add _ _ _ _ rfl now u.life (by kernel_rfl) (by kernel_rfl) (now + u.life) rfl (by omega) (by omega) _) ?_
     refine pR_v 14 (some 71) (D (min till (now + u.life))) 32751 rfl hs58 ⟨h58.rd 0 rfl, h58.at_ 1 rfl, h58.at_ 3 rfl, trivial⟩ (fun W hW => e_min (.tmp 66) (.tmp 70) #[2, 2] (by kernel_rfl) .i64 .i64 till (now + u.life) (by kernel_rfl) (by kernel_rfl) (min till (now + u.life)) (by split <;> omega) _) ?_
     refine pR_or 4 16 hs58 ?_ ?_
     ·
      refine pR_op 4 (some 61) 32767 rfl (x_fresh h58 4 rfl  (by kernel_rfl) hs.keys) ?_
      rintro _ w59 ⟨K59, F59, s59, rfl, hK59, hs59, h59⟩
      refine ⟨fun _ => ⟨h59.rd 0 rfl, h59.at_ 1 rfl, h59.at_ 3 rfl, trivial⟩, ?_⟩
      obtain rfl : K = K59 := kl_inj (hKK.trans hK59.symm)
      have hr59 : Room 8 s59 := by rw [hs59]; exact hs.add _
      refine pR_p 2 [15] [(72, (aV ([(D 4)] ++ vb (kl K) ++ [(sV u.name), (D now), (D (min till (now + u.life))), O]).toArray))] 65535 hs58 ⟨h59.rd 0 rfl, h59.at_ 1 rfl, h59.at_ 3 rfl, trivial⟩ ?_
      refine pR_to 16 (some 11) 131071 rfl hs58 (xN h59 55 ([O] ++ vb (List.replicate 16 0) ++ [eS, O, O, O])) ?_
      rintro _ w60 ⟨g60, rfl, h60⟩
      refine ⟨fun _ => ⟨h60.rd 0 rfl, h60.at_ 2 rfl, h60.at_ 4 rfl, trivial⟩, ?_⟩
      refine pR_to 17 none 262143 rfl hs58 (xSs h60 0 55 (.tmp 11) (.tmp 72) 0 ([(D 4)] ++ vb (kl K) ++ [(sV u.name), (D now), (D (min till (now + u.life))), O]) ([(D 4)] ++ vb (kl K) ++ [(sV u.name), (D now), (D (min till (now + u.life))), O])) ?_
      rintro _ w61 h61
      refine ⟨fun h => absurd h (by decide), ?_⟩
      refine pR_done hs58 ?_ _
      exact hJ19 g60 F59 s59 hs59 hr59 _ _ _ (pEq 109) (h61.sel [0, 1, 2, 3, 4, 5] [0, 1, 2] (by kernel_rfl) rfl rfl)
     ·
      refine pR_op 16 (some 11) 98287 rfl (xN h58 55 ([O] ++ vb (List.replicate 16 0) ++ [eS, O, O, O])) ?_
      rintro _ w62 ⟨g62, rfl, h62⟩
      refine ⟨fun _ => ⟨h62.rd 0 rfl, h62.at_ 2 rfl, h62.at_ 4 rfl, trivial⟩, ?_⟩
      refine pR_to 4 (some 61) 98303 rfl hs58 (x_fresh h62 5 rfl  (by kernel_rfl) hs.keys) ?_
      rintro _ w63 ⟨K63, F63, s63, rfl, hK63, hs63, h63⟩
      refine ⟨fun _ => ⟨h63.rd 0 rfl, h63.at_ 2 rfl, h63.at_ 4 rfl, trivial⟩, ?_⟩
      obtain rfl : K = K63 := kl_inj (hKK.trans hK63.symm)
      have hr63 : Room 8 s63 := by rw [hs63]; exact hs.add _
      refine pR_p 1 [15] [(72, (aV ([(D 4)] ++ vb (kl K) ++ [(sV u.name), (D now), (D (min till (now + u.life))), O]).toArray))] 131071 hs58 ⟨h63.rd 0 rfl, h63.at_ 2 rfl, h63.at_ 4 rfl, trivial⟩ ?_
      refine pR_to 17 none 262143 rfl hs58 (xSs h63 0 55 (.tmp 11) (.tmp 72) 0 ([(D 4)] ++ vb (kl K) ++ [(sV u.name), (D now), (D (min till (now + u.life))), O]) ([(D 4)] ++ vb (kl K) ++ [(sV u.name), (D now), (D (min till (now + u.life))), O])) ?_
      rintro _ w64 h64
      refine ⟨fun h => absurd h (by decide), ?_⟩
      refine pR_done hs58 ?_ _
      exact hJ19 g62 F63 s63 hs63 hr63 _ _ _ (pEq 109) (h64.sel [0, 1, 2, 3, 4, 5] [0, 1, 2] (by kernel_rfl) rfl rfl)
   refine pR_go hJh6 14 (fun W => (rBlk kb 73 ([(Value.iface 24 (pt tb 0)), (pt bb 0)] ++ vb (kl Kk))).Φ W /\ (rBlk gJ5_0 95 ([(sV u.name)] ++ vb (kl u.key) ++ [(D u.life), (D u.renew), (bV u.mesh)])).Φ W /\ (rBlk g2 45 ([(sV client), (D nonce), (D till), (lV P pre.length pc)])).Φ W /\ True) [(30, [0], 0), (31, [29], 1), (32, [30], 2), (33, [31], 4), (34, [8], 0), (35, [33], 16), (36, [5], 0), (37, [35], 64), (38, [32, 34, 36], 168), (29, [37], 256), (39, [28], 512), (40, [28], 512), (11, [], 0), (0, [10, 38], 6143), (10, [39], 16383)] rfl (fun _ d _ _ _ h => by cases d <;> exact h) ?_
   intro hs65 w65 h65
   refine pR_p 10 [0, 1, 2, 4, 6] [(35, (pt g2 3)), (33, (pt gJ5_0 1)), (31, (pt kb 0)), (30, (pt kb 0)), (29, (pt kb 0))] 87 hs65 ⟨h65.rd 0 rfl, h65.at_ 0 rfl, h65.at_ 2 rfl, trivial⟩ ?_
   refine pR_v 3 (some 32) (Value.iface 24 (pt tb 0)) 95 rfl hs65 ⟨h65.rd 0 rfl, h65.at_ 0 rfl, h65.at_ 2 rfl, trivial⟩ (fun W hW => eL hW.1 70 (.tmp 31) 0 _) ?_
   refine pR_v 5 (some 34) (aV (vb (kl u.key)).toArray) 127 rfl hs65 ⟨h65.rd 0 rfl, h65.at_ 0 rfl, h65.at_ 2 rfl, trivial⟩ (fun W hW => eLs hW.2.1 32 (.tmp 33) 1 (vb (kl u.key))) ?_
   refine pR_v 7 (some 36) (lV P pre.length pc) 255 rfl hs65 ⟨h65.rd 0 rfl, h65.at_ 0 rfl, h65.at_ 2 rfl, trivial⟩ (fun W hW => eL hW.2.2.1 22 (.tmp 35) 3 _) ?_
   refine pR_or 8 12 hs65 ?_ ?_
   ·
    refine pR_op 8 (some 37) 511 rfl (x_oStamp h65 3 rfl u.key 1 (by kernel_rfl) hs.ok (h65.rd 2 rfl) ho) ?_
    rintro _ w66 ⟨rfl, h66⟩
    refine ⟨fun _ => ⟨h66.rd 0 rfl, h66.at_ 0 rfl, h66.at_ 2 rfl, trivial⟩, ?_⟩
    refine pR_p 3 [9, 10, 11] [(39, O), (38, (aV ([(D t), (D q)]).toArray)), (28, (Value.tuple #[(aV ([(D t), (D q)]).toArray), O]))] 4095 hs65 ⟨h66.rd 0 rfl, h66.at_ 0 rfl, h66.at_ 2 rfl, trivial⟩ ?_
    refine pR_to 12 (some 10) 8191 rfl hs65 (xN h66 49 ([O, O])) ?_
    rintro _ w67 ⟨g67, rfl, h67⟩
    refine ⟨fun _ => ⟨h67.rd 0 rfl, h67.at_ 1 rfl, h67.at_ 3 rfl, trivial⟩, ?_⟩
    refine pR_to 13 none 16383 rfl hs65 (xSs h67 0 49 (.tmp 10) (.tmp 38) 0 ([(D t), (D q)]) ([(D t), (D q)])) ?_
    rintro _ w68 h68
    refine ⟨fun _ => ⟨h68.rd 0 rfl, h68.at_ 1 rfl, h68.at_ 3 rfl, trivial⟩, ?_⟩
    refine pR_to 14 (some 9) 32767 rfl hs65 (OpTo.run O (pureOp_run (by kernel_rfl) _) (R := fun v w => v = O /\ w68 = w) ⟨rfl, rfl⟩) ?_
    rintro _ _ ⟨rfl, rfl⟩
    refine ⟨fun h => absurd h (by decide), ?_⟩
    refine pR_done hs65 ?_ _
    exact hJ11 g67 _ _ _ (pEq 109) (h68.sel [0, 1, 2, 3, 4] [0, 1, 2] (by kernel_rfl) rfl rfl)
   ·
    refine pR_op 12 (some 10) 4351 rfl (xN h65 49 ([O, O])) ?_
    rintro _ w69 ⟨g69, rfl, h69⟩
    refine ⟨fun _ => ⟨h69.rd 0 rfl, h69.at_ 1 rfl, h69.at_ 3 rfl, trivial⟩, ?_⟩
    refine pR_to 8 (some 37) 4607 rfl hs65 (x_oStamp h69 4 rfl u.key 1 (by kernel_rfl) hs.ok (h69.rd 2 rfl) ho) ?_
    rintro _ w70 ⟨rfl, h70⟩
    refine ⟨fun _ => ⟨h70.rd 0 rfl, h70.at_ 1 rfl, h70.at_ 3 rfl, trivial⟩, ?_⟩
    refine pR_p 2 [9, 10, 11] [(39, O), (38, (aV ([(D t), (D q)]).toArray)), (28, (Value.tuple #[(aV ([(D t), (D q)]).toArray), O]))] 8191 hs65 ⟨h70.rd 0 rfl, h70.at_ 1 rfl, h70.at_ 3 rfl, trivial⟩ ?_
    refine pR_to 13 none 16383 rfl hs65 (xSs h70 0 49 (.tmp 10) (.tmp 38) 0 ([(D t), (D q)]) ([(D t), (D q)])) ?_
    rintro _ w71 h71
    refine ⟨fun _ => ⟨h71.rd 0 rfl, h71.at_ 1 rfl, h71.at_ 3 rfl, trivial⟩, ?_⟩
    refine pR_to 14 (some 9) 32767 rfl hs65 (OpTo.run O (pureOp_run (by kernel_rfl) _) (R := fun v w => v = O /\ w71 = w) ⟨rfl, rfl⟩) ?_
    rintro _ _ ⟨rfl, rfl⟩
    refine ⟨fun h => absurd h (by decide), ?_⟩
    refine pR_done hs65 ?_ _
    exact hJ11 g69 _ _ _ (pEq 109) (h71.sel [0, 1, 2, 3, 4] [0, 1, 2] (by kernel_rfl) rfl rfl)
 refine pR_go h3 12 (fun W => (rBlk kb 73 ([(Value.iface 24 (pt tb 0)), (pt bb 0)] ++ vb (kl Kk))).Φ W /\ (rBlk g2 45 ([(sV client), (D nonce), (D till), (lV P pre.length pc)])).Φ W /\ True) [(16, [0], 0), (17, [15], 1), (18, [16], 2), (19, [17], 4), (20, [5], 0), (21, [19], 16), (22, [18, 20], 40), (15, [21], 64), (23, [14], 128), (24, [14], 128), (9, [], 0), (0, [8, 22], 1535), (10, [23], 4095)] rfl (fun _ d _ _ _ h => by cases d <;> exact h) ?_
 intro hs72 w72 h72
 refine pR_p 9 [0, 1, 2, 4] [(19, (pt g2 0)), (17, (pt kb 1)), (16, (pt kb 0)), (15, (pt kb 0))] 23 hs72 ⟨h72.rd 0 rfl, h72.at_ 1 rfl, trivial⟩ ?_
 refine pR_v 3 (some 18) (pt bb 0) 31 rfl hs72 ⟨h72.rd 0 rfl, h72.at_ 1 rfl, trivial⟩ (fun W hW => eL hW.1 71 (.tmp 17) 1 _) ?_
 refine pR_v 5 (some 20) (sV client) 63 rfl hs72 ⟨h72.rd 0 rfl, h72.at_ 1 rfl, trivial⟩ (fun W hW => eL hW.2.1 9 (.tmp 19) 0 _) ?_
 refine pR_or 6 10 hs72 ?_ ?_
 ·
  refine pR_op 6 (some 21) 127 rfl (x_bget h72 [(pt bb 0), (sV client)] (by kernel_rfl) (get_yes (h72.rd 1 rfl) h32 hb2 hu)) ?_
  rintro _ w73 ⟨rfl, h73⟩
  refine ⟨fun _ => ⟨h73.rd 0 rfl, h73.at_ 1 rfl, trivial⟩, ?_⟩
  refine pR_p 3 [7, 8, 9] [(23, O), (22, (aV ([(sV u.name)] ++ vb (kl u.key) ++ [(D u.life), (D u.renew), (bV u.mesh)]).toArray)), (14, (Value.tuple #[(aV ([(sV u.name)] ++ vb (kl u.key) ++ [(D u.life), (D u.renew), (bV u.mesh)]).toArray), O]))] 1023 hs72 ⟨h73.rd 0 rfl, h73.at_ 1 rfl, trivial⟩ ?_
  refine pR_to 10 (some 8) 2047 rfl hs72 (xN h73 95 ([eS] ++ vb (List.replicate 16 0) ++ [O, O, V])) ?_
  rintro _ w74 ⟨g74, rfl, h74⟩
  refine ⟨fun _ => ⟨h74.rd 0 rfl, h74.at_ 2 rfl, trivial⟩, ?_⟩
  refine pR_to 11 none 4095 rfl hs72 (xSs h74 0 95 (.tmp 8) (.tmp 22) 0 ([(sV u.name)] ++ vb (kl u.key) ++ [(D u.life), (D u.renew), (bV u.mesh)]) ([(sV u.name)] ++ vb (kl u.key) ++ [(D u.life), (D u.renew), (bV u.mesh)])) ?_
  rintro _ w75 h75
  refine ⟨fun _ => ⟨h75.rd 0 rfl, h75.at_ 2 rfl, trivial⟩, ?_⟩
  refine pR_to 12 (some 9) 8191 rfl hs72 (OpTo.run O (pureOp_run (by kernel_rfl) _) (R := fun v w => v = O /\ w75 = w) ⟨rfl, rfl⟩) ?_
  rintro _ _ ⟨rfl, rfl⟩
  refine ⟨fun h => absurd h (by decide), ?_⟩
  refine pR_done hs72 ?_ _
  exact hJ6 g74 _ _ _ (pEq 109) (h75.sel [0, 1, 2, 3] [0, 1, 2] (by kernel_rfl) rfl rfl)
 ·
  refine pR_op 10 (some 8) 1087 rfl (xN h72 95 ([eS] ++ vb (List.replicate 16 0) ++ [O, O, V])) ?_
  rintro _ w76 ⟨g76, rfl, h76⟩
  refine ⟨fun _ => ⟨h76.rd 0 rfl, h76.at_ 2 rfl, trivial⟩, ?_⟩
  refine pR_to 6 (some 21) 1151 rfl hs72 (x_bget h76 [(pt bb 0), (sV client)] (by kernel_rfl) (get_yes (h76.rd 1 rfl) h32 hb2 hu)) ?_
  rintro _ w77 ⟨rfl, h77⟩
  refine ⟨fun _ => ⟨h77.rd 0 rfl, h77.at_ 2 rfl, trivial⟩, ?_⟩
  refine pR_p 2 [7, 8, 9] [(23, O), (22, (aV ([(sV u.name)] ++ vb (kl u.key) ++ [(D u.life), (D u.renew), (bV u.mesh)]).toArray)), (14, (Value.tuple #[(aV ([(sV u.name)] ++ vb (kl u.key) ++ [(D u.life), (D u.renew), (bV u.mesh)]).toArray), O]))] 2047 hs72 ⟨h77.rd 0 rfl, h77.at_ 2 rfl, trivial⟩ ?_
  refine pR_to 11 none 4095 rfl hs72 (xSs h77 0 95 (.tmp 8) (.tmp 22) 0 ([(sV u.name)] ++ vb (kl u.key) ++ [(D u.life), (D u.renew), (bV u.mesh)]) ([(sV u.name)] ++ vb (kl u.key) ++ [(D u.life), (D u.renew), (bV u.mesh)])) ?_
  rintro _ w78 h78
  refine ⟨fun _ => ⟨h78.rd 0 rfl, h78.at_ 2 rfl, trivial⟩, ?_⟩
  refine pR_to 12 (some 9) 8191 rfl hs72 (OpTo.run O (pureOp_run (by kernel_rfl) _) (R := fun v w => v = O /\ w78 = w) ⟨rfl, rfl⟩) ?_
  rintro _ _ ⟨rfl, rfl⟩
  refine ⟨fun h => absurd h (by decide), ?_⟩
  refine pR_done hs72 ?_ _
  exact hJ6 g76 _ _ _ (pEq 109) (h78.sel [0, 1, 2, 3] [0, 1, 2] (by kernel_rfl) rfl rfl)
end
end Go.Proofs.Ytecomegocafocaa
