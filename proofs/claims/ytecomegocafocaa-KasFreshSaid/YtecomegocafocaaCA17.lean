/- The walks of kas: As. -/
import Derived.Test.YtecomegocafocaaCA16
set_option maxRecDepth 100000
set_option maxHeartbeats 4000000
namespace Go.Proofs.Ytecomegocafocaa
section
open Go.Value renaming int -> iV, slice -> lV, string -> sV, bool -> bV, agg -> aV
open Go.RowKit Go.QT
theorem x_bget {o : Oper} {a : Act} {F0 : Nat -> Prop} {w0 w : World} {ro rs : List Res} {v : Value} (h : Hp F0 w0 w ro rs) (al : List Value) (hp : pureVal Try.prog (execOp a.eval o) = some (.enter 38 al.toArray)) (hc : Calls Try.prog 38 al.toArray w (DPost w v)) :
   OpTo Try.prog o a w (fun u w' => u = v /\ Hp F0 w0 w' ro rs) := x_dp h 38 al hp hc
/-- Give at a caller. -/
theorem x_give {o : Oper} {a : Act} {F0 F : Nat -> Prop} {w0 w : World} {ro rs : List Res} {tb : Nat} {s s' : STab} {server : ByteArray} (h : Hp F0 w0 w ro rs) (i : Nat) (hi : rs[i]? = some (rTab F tb s)) (al : List Value) (hp : pureVal Try.prog (execOp a.eval o) = some (.enter 19 al.toArray)) (hc : Calls Try.prog 19 al.toArray w (GivePost w F tb s s' server)) :
   OpTo Try.prog o a w (fun u w' => ∃ A1 c1 A2 c2 F', u = .tuple #[.agg #[.string server, .slice A1 16 c1], .slice A2 16 c2, .int .i64 0] /\ Hp F0 w0 w' ro (rTab F' tb s' :: rSB (.slice A1 16 c1) (mkB 98 (s.boxes.length + 1)) :: rSB (.slice A2 16 c2) (mkB 98 (s.boxes.length + 2)) :: rs.eraseIdx i)) :=
 OpTo.enter 19 al hp hc fun _ _ ⟨A1, c1, A2, c2, F', he, hh⟩ => ⟨_, he, A1, c1, A2, c2, F', rfl, h.call1 i hi hh⟩
theorem x_giveN {o : Oper} {a : Act} {F0 F : Nat -> Prop} {w0 w : World} {ro rs : List Res} {tb cc : Nat} {s s' : STab} (h : Hp F0 w0 w ro rs) (i : Nat) (hi : rs[i]? = some (rTab F tb s)) (al : List Value) (hp : pureVal Try.prog (execOp a.eval o) = some (.enter 19 al.toArray)) (hc : Calls Try.prog 19 al.toArray w (GiveNo w F tb s' cc)) :
   OpTo Try.prog o a w (fun u w' => ∃ F', u = .tuple #[.agg #[.string ByteArray.empty, .slice none 0 0], .slice none 0 0, .int .i64 (cc : Int)] /\ Hp F0 w0 w' ro (rTab F' tb s' :: rs.eraseIdx i)) :=
 OpTo.enter 19 al hp hc fun _ _ ⟨he, F', hh⟩ => ⟨_, he, F', rfl, h.call1 i hi hh⟩
theorem as_none {F G : Nat -> Prop} {kb tb bb : Nat} {Kk : Fin 16 -> UInt8} {s : STab} {us : List User} {client : ByteArray} {now nonce till : Int} {P : Option Addr} {pc : Nat} {pre : Bytes} {w : World} (hT : (rTab F tb s).Φ w) (hB : (rBs G bb us).Φ w) (hFG : (rTab F tb s).dj (rBs G bb us)) (hK : Blk w kb 73 (kdcC tb bb Kk)) (hd : ¬ F kb) (hv : SB w (.slice P pre.length pc) pre) (hdv : (rSB (.slice P pre.length pc) pre).dj (rTab F tb s)) (h32 : us.length <= 1000000) (hb2 : placeB us client = false) : Calls Try.prog 14 #[(pt kb 0), (iV .i64 now), (aV ([(sV client), (iV .i64 nonce), (iV .i64 till), (lV P pre.length pc)]).toArray)] w (fun e w' => e = .returned (.tuple #[.agg #[.string ByteArray.empty, .string ByteArray.empty, .slice none 0 0, .slice none 0 0], .int .i64 9]) /\ ∃ F', Hp F w w' [] [rTab F' tb s]) := by
 have h0 := ((((Hp.one (rTab F tb s) hT).addR (rSB (.slice P pre.length pc) pre) hv (fun j r hj => by have h3 := sel1 hj; injection h3 with h3; subst h3; exact hdv)).addR (rBs G bb us) hB (fun j r hj => by have h3 := sel1 hj; injection h3 with h3; subst h3; exact hFG.symm)).addR (rBlk kb 73 (kdcC tb bb Kk)) hK (fun j s hj q h1 h2 => by have h3 := sel1 hj; injection h3 with h3; subst h3; exact hd (by rw [show q = kb from h1] at h2; exact h2)))
 refine enter 106 Try.func14 rfl rfl ?_
 refine wp_reset 109 [(0, (pt kb 0)), (1, (iV .i64 now)), (2, (aV ([(sV client), (iV .i64 nonce), (iV .i64 till), (lV P pre.length pc)]).toArray))] (fun x0 => ?_)
 refine wR fun K1 hK1 => ?_
 refine wT 5 (xN h0 45 ([(sV client), (D nonce), (D till), (lV P pre.length pc)])) ?_
 rintro _ w2 ⟨g2, rfl, h2⟩
 refine wT 6 (xN h2 41 ([(sV ByteArray.empty), (sV ByteArray.empty), (lV none 0 0), (lV none 0 0)])) ?_
 rintro _ w3 ⟨g3, rfl, h3⟩
 refine wq_p 1 [(7, O)] ?_
 refine wE hK1 (wp_seq_k fun K4 hK4 => ?_)
 have hJ6 : ∀ (gJ5_0 : Nat), ∀ (xJ6 : Nat -> Value) (aJ : Act) (wJ6 : World), aJ = patch xJ6 109 [(0, (pt kb 0)), (1, (D now)), (2, (aV ([(sV client), (D nonce), (D till), (lV P pre.length pc)]).toArray)), (5, (pt g2 0)), (6, (pt g3 0)), (7, O), (8, (pt gJ5_0 0)), (9, (D 9))] -> Hp F w wJ6 [rBlk kb 73 ([(Value.iface 24 (pt tb 0)), (pt bb 0)] ++ vb (kl Kk)), rBs G bb us, rSB ((lV P pre.length pc)) pre] [rBlk gJ5_0 95 ([(sV ByteArray.empty)] ++ vb (List.replicate 16 0) ++ [O, O, (bV false)]), rBlk g3 41 ([(sV ByteArray.empty), (sV ByteArray.empty), (lV none 0 0), (lV none 0 0)]), rBlk g2 45 ([(sV client), (D nonce), (D till), (lV P pre.length pc)]), rTab F tb s] -> K4 aJ wJ6 := by
   rintro gJ5_0 xJ6 _ wJ6 rfl hJh6
   refine seq_n hK4 (wp_seq_k fun K7 hK7 => wR fun K8 hK8 => ?_)
   refine wq_p 2 [(25, (bV true)), (24, (D 9))] ?_
   refine wE hK8 (cT (wR fun K9 hK9 => ?_))
   refine wq_p 2 [(27, (D 9)), (26, (aV ([(sV ByteArray.empty), (sV ByteArray.empty), (lV none 0 0), (lV none 0 0)]).toArray))] ?_
   refine wq_to none (xSs hJh6 1 41 (.tmp 6) (.tmp 26) 0 ([(sV ByteArray.empty), (sV ByteArray.empty), (lV none 0 0), (lV none 0 0)]) ([(sV ByteArray.empty), (sV ByteArray.empty), (lV none 0 0), (lV none 0 0)])) ?_
   rintro _ w10 h10
   refine wq_p 1 [(7, (D 9))] ?_
   refine wE hK9 (wp_ret (seq_r ?_))
   refine post_2 rfl (by kernel_rfl) (rce (h10.at_ 1 rfl)) (rtm (iV .i64 9)) ?_
   exact ⟨rfl, _, h10.sel [3] [] rfl rfl rfl⟩
 refine pR_go h3 12 (fun W => (rBlk kb 73 ([(Value.iface 24 (pt tb 0)), (pt bb 0)] ++ vb (kl Kk))).Φ W /\ (rBlk g2 45 ([(sV client), (D nonce), (D till), (lV P pre.length pc)])).Φ W /\ True) [(16, [0], 0), (17, [15], 1), (18, [16], 2), (19, [17], 4), (20, [5], 0), (21, [19], 16), (22, [18, 20], 40), (15, [21], 64), (23, [14], 128), (24, [14], 128), (9, [], 0), (0, [8, 22], 1535), (10, [23], 4095)] rfl (fun _ d _ _ _ h => by cases d <;> exact h) ?_
 intro hs11 w11 h11
 refine pR_p 9 [0, 1, 2, 4] [(19, (pt g2 0)), (17, (pt kb 1)), (16, (pt kb 0)), (15, (pt kb 0))] 23 hs11 ⟨h11.rd 0 rfl, h11.at_ 1 rfl, trivial⟩ ?_
 refine pR_v 3 (some 18) (pt bb 0) 31 rfl hs11 ⟨h11.rd 0 rfl, h11.at_ 1 rfl, trivial⟩ (fun W hW => eL hW.1 71 (.tmp 17) 1 _) ?_
 refine pR_v 5 (some 20) (sV client) 63 rfl hs11 ⟨h11.rd 0 rfl, h11.at_ 1 rfl, trivial⟩ (fun W hW => eL hW.2.1 9 (.tmp 19) 0 _) ?_
 refine pR_or 6 10 hs11 ?_ ?_
 ·
  refine pR_op 6 (some 21) 127 rfl (x_bget h11 [(pt bb 0), (sV client)] (by kernel_rfl) (get_no (h11.rd 1 rfl) h32 hb2)) ?_
  rintro _ w12 ⟨rfl, h12⟩
  refine ⟨fun _ => ⟨h12.rd 0 rfl, h12.at_ 1 rfl, trivial⟩, ?_⟩
  refine pR_p 3 [7, 8, 9] [(23, (D 9)), (22, (aV ([(sV ByteArray.empty)] ++ vb (List.replicate 16 0) ++ [O, O, (bV false)]).toArray)), (14, (Value.tuple #[(aV ([(sV ByteArray.empty)] ++ vb (List.replicate 16 0) ++ [O, O, (bV false)]).toArray), (D 9)]))] 1023 hs11 ⟨h12.rd 0 rfl, h12.at_ 1 rfl, trivial⟩ ?_
  refine pR_to 10 (some 8) 2047 rfl hs11 (xN h12 95 ([(sV ByteArray.empty)] ++ vb (List.replicate 16 0) ++ [O, O, (bV false)])) ?_
  rintro _ w13 ⟨g13, rfl, h13⟩
  refine ⟨fun _ => ⟨h13.rd 0 rfl, h13.at_ 2 rfl, trivial⟩, ?_⟩
  refine pR_to 11 none 4095 rfl hs11 (xSs h13 0 95 (.tmp 8) (.tmp 22) 0 ([(sV ByteArray.empty)] ++ vb (List.replicate 16 0) ++ [O, O, (bV false)]) ([(sV ByteArray.empty)] ++ vb (List.replicate 16 0) ++ [O, O, (bV false)])) ?_
  rintro _ w14 h14
  refine ⟨fun _ => ⟨h14.rd 0 rfl, h14.at_ 2 rfl, trivial⟩, ?_⟩
  refine pR_to 12 (some 9) 8191 rfl hs11 (OpTo.run (D 9) (pureOp_run (by kernel_rfl) _) (R := fun v w => v = (D 9) /\ w14 = w) ⟨rfl, rfl⟩) ?_
  rintro _ _ ⟨rfl, rfl⟩
  refine ⟨fun h => absurd h (by decide), ?_⟩
  refine pR_done hs11 ?_ _
  exact hJ6 g13 _ _ _ (pEq 109) (h14.sel [0, 1, 2, 3] [0, 1, 2] (by kernel_rfl) rfl rfl)
 ·
  refine pR_op 10 (some 8) 1087 rfl (xN h11 95 ([(sV ByteArray.empty)] ++ vb (List.replicate 16 0) ++ [O, O, (bV false)])) ?_
  rintro _ w15 ⟨g15, rfl, h15⟩
  refine ⟨fun _ => ⟨h15.rd 0 rfl, h15.at_ 2 rfl, trivial⟩, ?_⟩
  refine pR_to 6 (some 21) 1151 rfl hs11 (x_bget h15 [(pt bb 0), (sV client)] (by kernel_rfl) (get_no (h15.rd 1 rfl) h32 hb2)) ?_
  rintro _ w16 ⟨rfl, h16⟩
  refine ⟨fun _ => ⟨h16.rd 0 rfl, h16.at_ 2 rfl, trivial⟩, ?_⟩
  refine pR_p 2 [7, 8, 9] [(23, (D 9)), (22, (aV ([(sV ByteArray.empty)] ++ vb (List.replicate 16 0) ++ [O, O, (bV false)]).toArray)), (14, (Value.tuple #[(aV ([(sV ByteArray.empty)] ++ vb (List.replicate 16 0) ++ [O, O, (bV false)]).toArray), (D 9)]))] 2047 hs11 ⟨h16.rd 0 rfl, h16.at_ 2 rfl, trivial⟩ ?_
  refine pR_to 11 none 4095 rfl hs11 (xSs h16 0 95 (.tmp 8) (.tmp 22) 0 ([(sV ByteArray.empty)] ++ vb (List.replicate 16 0) ++ [O, O, (bV false)]) ([(sV ByteArray.empty)] ++ vb (List.replicate 16 0) ++ [O, O, (bV false)])) ?_
  rintro _ w17 h17
  refine ⟨fun _ => ⟨h17.rd 0 rfl, h17.at_ 2 rfl, trivial⟩, ?_⟩
  refine pR_to 12 (some 9) 8191 rfl hs11 (OpTo.run (D 9) (pureOp_run (by kernel_rfl) _) (R := fun v w => v = (D 9) /\ w17 = w) ⟨rfl, rfl⟩) ?_
  rintro _ _ ⟨rfl, rfl⟩
  refine ⟨fun h => absurd h (by decide), ?_⟩
  refine pR_done hs11 ?_ _
  exact hJ6 g15 _ _ _ (pEq 109) (h17.sel [0, 1, 2, 3] [0, 1, 2] (by kernel_rfl) rfl rfl)
theorem as_no_r {F G : Nat -> Prop} {kb tb bb : Nat} {Kk : Fin 16 -> UInt8} {s : STab} {us : List User} {client : ByteArray} {now nonce till : Int} {P : Option Addr} {pc : Nat} {pre : Bytes} {w : World} (hT : (rTab F tb s).Φ w) (hB : (rBs G bb us).Φ w) (hFG : (rTab F tb s).dj (rBs G bb us)) (hs : Room 9 s) (hK : Blk w kb 73 (kdcC tb bb Kk)) (hd : ¬ F kb) (hv : SB w (.slice P pre.length pc) pre) (hdv : (rSB (.slice P pre.length pc) pre).dj (rTab F tb s)) (h32 : us.length <= 1000000) {u : User} (hb2 : placeB us client = true) (hu : us[placeI us client]? = some u) {t q : Int} (ho : openTh s (kl u.key) 1 pre = .inr (.stamp t q)) (hnear : nearF now t = true) (ht : now < till) (hnow : 0 <= now /\ now <= 1099511627776) (hlife : 0 <= u.life /\ u.life <= 600) (hren : 0 < u.renew /\ u.renew <= 6000) (hnm : u.name.size <= 1000) (K : Fin 16 -> UInt8) (hKK : kl K = mkB 107 (s.keys.length + 1)) {b1 : Bytes} {cc : Nat} (hp1 : packB (.inside 5 K u.name now (min till (now + u.life)) (now + u.renew)) = .inr b1) (hp2 : packB (.reply 5 K nonce ⟨#[107, 100, 99]⟩ now (min till (now + u.life)) (now + u.renew)) = .inl cc) : Calls Try.prog 14 #[(pt kb 0), (iV .i64 now), (aV ([(sV client), (iV .i64 nonce), (iV .i64 till), (lV P pre.length pc)]).toArray)] w (fun e w' => e = .returned (.tuple #[.agg #[.string ByteArray.empty, .string ByteArray.empty, .slice none 0 0, .slice none 0 0], .int .i64 (cc : Int)]) /\ ∃ F', Hp F w w' [] [rTab F' tb ((s.add SFrom.fresh).seal (kl Kk) 2 b1)]) := by
 have h0 := ((((Hp.one (rTab F tb s) hT).addR (rSB (.slice P pre.length pc) pre) hv (fun j r hj => by have h3 := sel1 hj; injection h3 with h3; subst h3; exact hdv)).addR (rBs G bb us) hB (fun j r hj => by have h3 := sel1 hj; injection h3 with h3; subst h3; exact hFG.symm)).addR (rBlk kb 73 (kdcC tb bb Kk)) hK (fun j s hj q h1 h2 => by have h3 := sel1 hj; injection h3 with h3; subst h3; exact hd (by rw [show q = kb from h1] at h2; exact h2)))
 refine enter 106 Try.func14 rfl rfl ?_
 refine wp_reset 109 [(0, (pt kb 0)), (1, (iV .i64 now)), (2, (aV ([(sV client), (iV .i64 nonce), (iV .i64 till), (lV P pre.length pc)]).toArray))] (fun x0 => ?_)
 refine wR fun K1 hK1 => ?_
 refine wT 5 (xN h0 45 ([(sV client), (D nonce), (D till), (lV P pre.length pc)])) ?_
 rintro _ w2 ⟨g2, rfl, h2⟩
 refine wT 6 (xN h2 41 ([(sV ByteArray.empty), (sV ByteArray.empty), (lV none 0 0), (lV none 0 0)])) ?_
 rintro _ w3 ⟨g3, rfl, h3⟩
 refine wq_p 1 [(7, O)] ?_
 refine wE hK1 (wp_seq_k fun K4 hK4 => ?_)
 have hJ6 : ∀ (gJ5_0 : Nat), ∀ (xJ6 : Nat -> Value) (aJ : Act) (wJ6 : World), aJ = patch xJ6 109 [(0, (pt kb 0)), (1, (D now)), (2, (aV ([(sV client), (D nonce), (D till), (lV P pre.length pc)]).toArray)), (5, (pt g2 0)), (6, (pt g3 0)), (7, O), (8, (pt gJ5_0 0)), (9, O)] -> Hp F w wJ6 [rBlk kb 73 ([(Value.iface 24 (pt tb 0)), (pt bb 0)] ++ vb (kl Kk)), rBs G bb us, rSB ((lV P pre.length pc)) pre] [rBlk gJ5_0 95 ([(sV u.name)] ++ vb (kl u.key) ++ [(D u.life), (D u.renew), (bV u.mesh)]), rBlk g3 41 ([(sV ByteArray.empty), (sV ByteArray.empty), (lV none 0 0), (lV none 0 0)]), rBlk g2 45 ([(sV client), (D nonce), (D till), (lV P pre.length pc)]), rTab F tb s] -> K4 aJ wJ6 := by
   rintro gJ5_0 xJ6 _ wJ6 rfl hJh6
   refine seq_n hK4 (wp_seq_k fun K7 hK7 => wR fun K8 hK8 => ?_)
   refine wq_p 2 [(25, (bV false)), (24, O)] ?_
   refine wE hK8 (cF (wp_skip (seq_n hK7 (wp_seq_k fun K9 hK9 => ?_))))
   have hJ11 : ∀ (gJ10_0 : Nat), ∀ (xJ11 : Nat -> Value) (aJ : Act) (wJ11 : World), aJ = patch xJ11 109 [(0, (pt kb 0)), (1, (D now)), (2, (aV ([(sV client), (D nonce), (D till), (lV P pre.length pc)]).toArray)), (5, (pt g2 0)), (6, (pt g3 0)), (7, O), (8, (pt gJ5_0 0)), (9, O), (10, (pt gJ10_0 0)), (25, (bV false))] -> Hp F w wJ11 [rBlk kb 73 ([(Value.iface 24 (pt tb 0)), (pt bb 0)] ++ vb (kl Kk)), rBs G bb us, rSB ((lV P pre.length pc)) pre] [rBlk gJ10_0 49 ([(D t), (D q)]), rBlk gJ5_0 95 ([(sV u.name)] ++ vb (kl u.key) ++ [(D u.life), (D u.renew), (bV u.mesh)]), rBlk g3 41 ([(sV ByteArray.empty), (sV ByteArray.empty), (lV none 0 0), (lV none 0 0)]), rBlk g2 45 ([(sV client), (D nonce), (D till), (lV P pre.length pc)]), rTab F tb s] -> K9 aJ wJ11 := by
     rintro gJ10_0 xJ11 _ wJ11 rfl hJh11
     refine seq_n hK9 (wp_seq_k fun K12 hK12 => wp_block (wR fun K13 hK13 => ?_))
     refine wq_p 3 [(40, (bV false)), (42, (bV false)), (41, O)] ?_
     refine wE hK13 (cF (wR fun K14 hK14 => ?_))
     refine wq_p 2 [(46, (pt gJ10_0 0)), (45, (D now))] (wV 47 (D t) (eL (hJh11.at_ 0 rfl) 2 (.tmp 46) 0 _) ?_)
     refine wT 48 (x_dp (v := .bool true) hJh11 40 [(D now), (D t)] (by kernel_rfl) (hnear ▸ near_any now t _)) ?_
     rintro _ w15 ⟨rfl, h15⟩
     refine wq_p 2 [(44, (bV false)), (49, (bV false))] ?_
     refine wE hK14 (cF (wR fun K16 hK16 => ?_))
     refine wq_p 1 [(52, (pt g2 2))] (wV 53 (D till) (eL (h15.at_ 3 rfl) 2 (.tmp 52) 2 _) (wq_p 1 [(54, (D now))] (wV 55 (.bool false) (eqI (bV (decide (till <= now))) (by simp; omega)) ?_)))
     refine wq_p 1 [(51, (bV false))] ?_
     refine wE hK16 (cF (wp_skip (blk_n (seq_n hK12 (wp_seq_k fun K17 hK17 => ?_)))))
     have hJ19 : ∀ (gJ18_0 : Nat), ∀ (FJ18_1 : Nat -> Prop), ∀ (sJ18_2 : STab), (sJ18_2 = s.add SFrom.fresh) -> (Room 8 sJ18_2) -> ∀ (xJ19 : Nat -> Value) (aJ : Act) (wJ19 : World), aJ = patch xJ19 109 [(0, (pt kb 0)), (1, (D now)), (2, (aV ([(sV client), (D nonce), (D till), (lV P pre.length pc)]).toArray)), (5, (pt g2 0)), (6, (pt g3 0)), (7, O), (8, (pt gJ5_0 0)), (9, O), (10, (pt gJ10_0 0)), (11, (pt gJ18_0 0)), (25, (bV false)), (40, (bV false)), (44, (bV false)), (51, (bV false))] -> Hp F w wJ19 [rBlk kb 73 ([(Value.iface 24 (pt tb 0)), (pt bb 0)] ++ vb (kl Kk)), rBs G bb us, rSB ((lV P pre.length pc)) pre] [rBlk gJ18_0 55 ([(D 4)] ++ vb (kl K) ++ [(sV u.name), (D now), (D (min till (now + u.life))), O]), rBlk gJ10_0 49 ([(D t), (D q)]), rBlk gJ5_0 95 ([(sV u.name)] ++ vb (kl u.key) ++ [(D u.life), (D u.renew), (bV u.mesh)]), rBlk g3 41 ([(sV ByteArray.empty), (sV ByteArray.empty), (lV none 0 0), (lV none 0 0)]), rBlk g2 45 ([(sV client), (D nonce), (D till), (lV P pre.length pc)]), rTab FJ18_1 tb sJ18_2] -> K17 aJ wJ19 := by
       rintro gJ18_0 FJ18_1 sJ18_2 hsJ hrJ xJ19 _ wJ19 rfl hJh19
       refine seq_n hK17 (wp_seq_k fun K20 hK20 => wR fun K21 hK21 => ?_)
       refine wq_p 1 [(73, (pt gJ5_0 18))] (wV 74 (D u.renew) (eL (hJh19.at_ 2 rfl) 2 (.tmp 73) 18 _) (wV 75 (.bool true) (eqI (bV (decide (u.renew > 0))) (by simp; omega)) ?_))
       refine wE hK21 (cT (wR fun K22 hK22 => ?_))
       refine wq_p 1 [(76, (pt gJ18_0 0))] (wV 77 (D 4) (eL (hJh19.at_ 0 rfl) 3 (.tmp 76) 0 _) (wV 78 (D 5) (eqI (D (bits .or .i64 4 1)) rfl) (wq_p 1 [(79, (pt gJ18_0 0))] ?_)))
       refine wq_to none (xSt hJh19 0 3 (.tmp 79) (.tmp 78) 0 (D 5) ([(D 5)] ++ vb (kl K) ++ [(sV u.name), (D now), (D (min till (now + u.life))), O])) ?_
       rintro _ w23 h23
       refine wE hK22 (reg_lit ?_)
       refine wq_p 2 [(81, (pt gJ5_0 18)), (80, (D now))] (wV 82 (D u.renew) (eL (h23.at_ 2 rfl) 2 (.tmp 81) 18 _) (wV 83 (D (now + u.renew)) (exec_add _ _ _ _ rfl now u.renew (by kernel_rfl) (by kernel_rfl) (now + u.renew) rfl (by omega) (by omega) _) (wq_p 1 [(84, (pt gJ18_0 20))] ?_)))
       refine wq_to none (xSt h23 0 2 (.tmp 84) (.tmp 83) 20 (D (now + u.renew)) ([(D 5)] ++ vb (kl K) ++ [(sV u.name), (D now), (D (min till (now + u.life))), (D (now + u.renew))])) ?_
       rintro _ w24 h24
       refine wE hK20 (wp_seq_k fun K25 hK25 => ?_)
       have hJ27 : ∀ (gJ26_0 : Nat), ∀ (FJ26_1 : Nat -> Prop), ∀ (xJ27 : Nat -> Value) (aJ : Act) (wJ27 : World), aJ = patch xJ27 109 [(0, (pt kb 0)), (1, (D now)), (2, (aV ([(sV client), (D nonce), (D till), (lV P pre.length pc)]).toArray)), (5, (pt g2 0)), (6, (pt g3 0)), (7, O), (8, (pt gJ5_0 0)), (9, (D ((cc : Int)))), (10, (pt gJ10_0 0)), (11, (pt gJ18_0 0)), (12, (pt gJ26_0 0)), (13, (lV none 0 0)), (25, (bV false)), (40, (bV false)), (44, (bV false)), (51, (bV false)), (75, (bV true))] -> Hp F w wJ27 [rBlk kb 73 ([(Value.iface 24 (pt tb 0)), (pt bb 0)] ++ vb (kl Kk)), rBs G bb us, rSB ((lV P pre.length pc)) pre] [rBlk gJ26_0 39 ([(sV ByteArray.empty), (lV none 0 0)]), rTab FJ26_1 tb ((STab.seal sJ18_2 (kl Kk) 2 b1)), rBlk gJ18_0 55 ([(D 5)] ++ vb (kl K) ++ [(sV u.name), (D now), (D (min till (now + u.life))), (D (now + u.renew))]), rBlk gJ10_0 49 ([(D t), (D q)]), rBlk gJ5_0 95 ([(sV u.name)] ++ vb (kl u.key) ++ [(D u.life), (D u.renew), (bV u.mesh)]), rBlk g3 41 ([(sV ByteArray.empty), (sV ByteArray.empty), (lV none 0 0), (lV none 0 0)]), rBlk g2 45 ([(sV client), (D nonce), (D till), (lV P pre.length pc)])] -> K25 aJ wJ27 := by
         rintro gJ26_0 FJ26_1 xJ27 _ wJ27 rfl hJh27
         refine seq_n hK25 (wp_seq_k fun K28 hK28 => wR fun K29 hK29 => ?_)
         refine wq_p 1 [(100, (D ((cc : Int))))] (wV 101 (.bool true) (eqI (bV (((cc : Int)) != 0)) (ine (b := 0) (pack_er hp2))) ?_)
         refine wE hK29 (cT (wR fun K30 hK30 => ?_))
         refine wq_p 2 [(103, (D ((cc : Int)))), (102, (aV ([(sV ByteArray.empty), (sV ByteArray.empty), (lV none 0 0), (lV none 0 0)]).toArray))] ?_
         refine wq_to none (xSs hJh27 5 41 (.tmp 6) (.tmp 102) 0 ([(sV ByteArray.empty), (sV ByteArray.empty), (lV none 0 0), (lV none 0 0)]) ([(sV ByteArray.empty), (sV ByteArray.empty), (lV none 0 0), (lV none 0 0)])) ?_
         rintro _ w31 h31
         refine wq_p 1 [(7, (D ((cc : Int))))] ?_
         refine wE hK30 (wp_ret (seq_r ?_))
         refine post_2 rfl (by kernel_rfl) (rce (h31.at_ 5 rfl)) (rtm (iV .i64 ((cc : Int)))) ?_
         subst hsJ
         exact ⟨rfl, _, h31.sel [1] [] rfl rfl rfl⟩
       refine pR_go h24 18 (fun W => (rBlk kb 73 ([(Value.iface 24 (pt tb 0)), (pt bb 0)] ++ vb (kl Kk))).Φ W /\ (rBlk gJ18_0 55 ([(D 5)] ++ vb (kl K) ++ [(sV u.name), (D now), (D (min till (now + u.life))), (D (now + u.renew))])).Φ W /\ (rBlk g2 45 ([(sV client), (D nonce), (D till), (lV P pre.length pc)])).Φ W /\ (rBlk gJ5_0 95 ([(sV u.name)] ++ vb (kl u.key) ++ [(D u.life), (D u.renew), (bV u.mesh)])).Φ W /\ True) [(87, [0], 0), (88, [0], 0), (89, [87], 2), (90, [88], 4), (91, [89], 8), (92, [11], 0), (93, [5], 0), (94, [92], 64), (95, [8], 0), (96, [94], 256), (97, [86, 90, 91, 93, 95], 689), (86, [96], 1024), (98, [85], 2048), (99, [85], 2048), (100, [85], 2048), (13, [], 0), (0, [12, 97], 40959), (14, [98], 114687), (10, [99], 262143)] rfl (fun _ d _ _ _ h => by cases d <;> exact h) ?_
       intro hs32 w32 h32
       refine pR_p 13 [0, 1, 2, 3, 6, 8] [(94, (pt gJ5_0 1)), (92, (pt g2 1)), (89, (pt kb 2)), (88, (pt kb 0)), (87, (pt kb 0)), (86, (pt kb 0))] 335 hs32 ⟨h32.rd 0 rfl, h32.at_ 0 rfl, h32.at_ 4 rfl, h32.at_ 2 rfl, trivial⟩ ?_
       refine pR_v 4 (some 90) (aV (vb (kl Kk)).toArray) 351 rfl hs32 ⟨h32.rd 0 rfl, h32.at_ 0 rfl, h32.at_ 4 rfl, h32.at_ 2 rfl, trivial⟩ (fun W hW => eLs hW.1 32 (.tmp 89) 2 (vb (kl Kk))) ?_
       refine pR_v 5 (some 91) (aV ([(D 5)] ++ vb (kl K) ++ [(sV u.name), (D now), (D (min till (now + u.life))), (D (now + u.renew))]).toArray) 383 rfl hs32 ⟨h32.rd 0 rfl, h32.at_ 0 rfl, h32.at_ 4 rfl, h32.at_ 2 rfl, trivial⟩ (fun W hW => eLs hW.2.1 55 (.tmp 11) 0 ([(D 5)] ++ vb (kl K) ++ [(sV u.name), (D now), (D (min till (now + u.life))), (D (now + u.renew))])) ?_
       refine pR_v 7 (some 93) (D nonce) 511 rfl hs32 ⟨h32.rd 0 rfl, h32.at_ 0 rfl, h32.at_ 4 rfl, h32.at_ 2 rfl, trivial⟩ (fun W hW => eL hW.2.2.1 2 (.tmp 92) 1 _) ?_
       refine pR_v 9 (some 95) (aV (vb (kl u.key)).toArray) 1023 rfl hs32 ⟨h32.rd 0 rfl, h32.at_ 0 rfl, h32.at_ 4 rfl, h32.at_ 2 rfl, trivial⟩ (fun W hW => eLs hW.2.2.2.1 32 (.tmp 94) 1 (vb (kl u.key))) ?_
       refine pR_or 10 15 hs32 ?_ ?_
       ·
        refine pR_op 10 (some 96) 2047 rfl (x_giveN h32 5 rfl [(pt kb 0), (sV (⟨#[107, 100, 99]⟩)), (aV (vb (kl Kk)).toArray), (aV ([(D 5)] ++ vb (kl K) ++ [(sV u.name), (D now), (D (min till (now + u.life))), (D (now + u.renew))]).toArray), (D nonce), (aV (vb (kl u.key)).toArray), (D 3)] (by kernel_rfl) (give_2 (h32.at_ 5 rfl) (hrJ.less (by decide)) (h32.rd 0 rfl) (fun hq => h32.rdis 0 5 _ _ rfl rfl kb rfl hq) (by omega) (by decide) hp1 hp2)) ?_
        rintro _ w33 ⟨F33, rfl, h33⟩
        refine ⟨fun _ => ⟨h33.rd 0 rfl, h33.at_ 1 rfl, h33.at_ 5 rfl, h33.at_ 3 rfl, trivial⟩, ?_⟩
        refine pR_p 4 [11, 12, 13, 14] [(99, (D ((cc : Int)))), (98, (lV none 0 0)), (97, (aV ([(sV ByteArray.empty), (lV none 0 0)]).toArray)), (85, (Value.tuple #[(aV ([(sV ByteArray.empty), (lV none 0 0)]).toArray), (lV none 0 0), (D ((cc : Int)))]))] 32767 hs32 ⟨h33.rd 0 rfl, h33.at_ 1 rfl, h33.at_ 5 rfl, h33.at_ 3 rfl, trivial⟩ ?_
        refine pR_to 15 (some 12) 65535 rfl hs32 (xN h33 39 ([(sV ByteArray.empty), (lV none 0 0)])) ?_
        rintro _ w34 ⟨g34, rfl, h34⟩
        refine ⟨fun _ => ⟨h34.rd 0 rfl, h34.at_ 2 rfl, h34.at_ 6 rfl, h34.at_ 4 rfl, trivial⟩, ?_⟩
        refine pR_to 16 none 131071 rfl hs32 (xSs h34 0 39 (.tmp 12) (.tmp 97) 0 ([(sV ByteArray.empty), (lV none 0 0)]) ([(sV ByteArray.empty), (lV none 0 0)])) ?_
        rintro _ w35 h35
        refine ⟨fun _ => ⟨h35.rd 0 rfl, h35.at_ 2 rfl, h35.at_ 6 rfl, h35.at_ 4 rfl, trivial⟩, ?_⟩
        refine pR_p 1 [17] [(13, (lV none 0 0))] 262143 hs32 ⟨h35.rd 0 rfl, h35.at_ 2 rfl, h35.at_ 6 rfl, h35.at_ 4 rfl, trivial⟩ ?_
        refine pR_to 18 (some 9) 524287 rfl hs32 (OpTo.run (D ((cc : Int))) (pureOp_run (by kernel_rfl) _) (R := fun v w => v = (D ((cc : Int))) /\ w35 = w) ⟨rfl, rfl⟩) ?_
        rintro _ _ ⟨rfl, rfl⟩
        refine ⟨fun h => absurd h (by decide), ?_⟩
        refine pR_done hs32 ?_ _
        exact hJ27 g34 F33 _ _ _ (pEq 109) (h35.sel [0, 1, 2, 3, 4, 5, 6] [0, 1, 2] (by kernel_rfl) rfl rfl)
       ·
        refine pR_op 15 (some 12) 33791 rfl (xN h32 39 ([(sV ByteArray.empty), (lV none 0 0)])) ?_
        rintro _ w36 ⟨g36, rfl, h36⟩
        refine ⟨fun _ => ⟨h36.rd 0 rfl, h36.at_ 1 rfl, h36.at_ 5 rfl, h36.at_ 3 rfl, trivial⟩, ?_⟩
        refine pR_to 10 (some 96) 34815 rfl hs32 (x_giveN h36 6 rfl [(pt kb 0), (sV (⟨#[107, 100, 99]⟩)), (aV (vb (kl Kk)).toArray), (aV ([(D 5)] ++ vb (kl K) ++ [(sV u.name), (D now), (D (min till (now + u.life))), (D (now + u.renew))]).toArray), (D nonce), (aV (vb (kl u.key)).toArray), (D 3)] (by kernel_rfl) (give_2 (h36.at_ 6 rfl) (hrJ.less (by decide)) (h36.rd 0 rfl) (fun hq => h36.rdis 0 6 _ _ rfl rfl kb rfl hq) (by omega) (by decide) hp1 hp2)) ?_
        rintro _ w37 ⟨F37, rfl, h37⟩
        refine ⟨fun _ => ⟨h37.rd 0 rfl, h37.at_ 2 rfl, h37.at_ 6 rfl, h37.at_ 4 rfl, trivial⟩, ?_⟩
        refine pR_p 3 [11, 12, 13, 14] [(99, (D ((cc : Int)))), (98, (lV none 0 0)), (97, (aV ([(sV ByteArray.empty), (lV none 0 0)]).toArray)), (85, (Value.tuple #[(aV ([(sV ByteArray.empty), (lV none 0 0)]).toArray), (lV none 0 0), (D ((cc : Int)))]))] 65535 hs32 ⟨h37.rd 0 rfl, h37.at_ 2 rfl, h37.at_ 6 rfl, h37.at_ 4 rfl, trivial⟩ ?_
        refine pR_to 16 none 131071 rfl hs32 (xSs h37 1 39 (.tmp 12) (.tmp 97) 0 ([(sV ByteArray.empty), (lV none 0 0)]) ([(sV ByteArray.empty), (lV none 0 0)])) ?_
        rintro _ w38 h38
        refine ⟨fun _ => ⟨h38.rd 0 rfl, h38.at_ 2 rfl, h38.at_ 6 rfl, h38.at_ 4 rfl, trivial⟩, ?_⟩
        refine pR_p 1 [17] [(13, (lV none 0 0))] 262143 hs32 ⟨h38.rd 0 rfl, h38.at_ 2 rfl, h38.at_ 6 rfl, h38.at_ 4 rfl, trivial⟩ ?_
        refine pR_to 18 (some 9) 524287 rfl hs32 (OpTo.run (D ((cc : Int))) (pureOp_run (by kernel_rfl) _) (R := fun v w => v = (D ((cc : Int))) /\ w38 = w) ⟨rfl, rfl⟩) ?_
        rintro _ _ ⟨rfl, rfl⟩
        refine ⟨fun h => absurd h (by decide), ?_⟩
        refine pR_done hs32 ?_ _
        exact hJ27 g36 F37 _ _ _ (pEq 109) (h38.sel [1, 0, 2, 3, 4, 5, 6] [0, 1, 2] (by kernel_rfl) rfl rfl)
     refine pR_go h15 17 (fun W => (rBlk kb 73 ([(Value.iface 24 (pt tb 0)), (pt bb 0)] ++ vb (kl Kk))).Φ W /\ (rBlk gJ5_0 95 ([(sV u.name)] ++ vb (kl u.key) ++ [(D u.life), (D u.renew), (bV u.mesh)])).Φ W /\ (rBlk g2 45 ([(sV client), (D nonce), (D till), (lV P pre.length pc)])).Φ W /\ True) [(58, [0], 0), (59, [57], 1), (60, [58], 2), (61, [59], 4), (62, [60], 8), (63, [8], 0), (64, [62], 32), (65, [1], 0), (66, [5], 0), (67, [65], 256), (68, [1], 0), (69, [8], 0), (70, [68], 2048), (71, [67, 69], 5120), (72, [66, 70], 8704), (73, [61, 63, 64, 71], 16592), (12, [], 0), (0, [11, 72], 131071)] rfl (fun _ d _ _ _ h => by cases d <;> exact h) ?_
     intro hs39 w39 h39
     refine pR_p 10 [0, 1, 2, 5, 7, 8, 10, 11] [(68, (pt gJ5_0 17)), (67, (D now)), (65, (pt g2 2)), (64, (D now)), (62, (pt gJ5_0 0)), (59, (pt kb 0)), (58, (pt kb 0)), (57, (pt kb 0))] 3495 hs39 ⟨h39.rd 0 rfl, h39.at_ 1 rfl, h39.at_ 3 rfl, trivial⟩ ?_
     refine pR_v 3 (some 60) (Value.iface 24 (pt tb 0)) 3503 rfl hs39 ⟨h39.rd 0 rfl, h39.at_ 1 rfl, h39.at_ 3 rfl, trivial⟩ (fun W hW => eL hW.1 70 (.tmp 59) 0 _) ?_
     refine pR_v 6 (some 63) (sV u.name) 3567 rfl hs39 ⟨h39.rd 0 rfl, h39.at_ 1 rfl, h39.at_ 3 rfl, trivial⟩ (fun W hW => eL hW.2.1 9 (.tmp 62) 0 _) ?_
     refine pR_v 9 (some 66) (D till) 4079 rfl hs39 ⟨h39.rd 0 rfl, h39.at_ 1 rfl, h39.at_ 3 rfl, trivial⟩ (fun W hW => eL hW.2.2.1 2 (.tmp 65) 2 _) ?_
     refine pR_v 12 (some 69) (D u.life) 8175 rfl hs39 ⟨h39.rd 0 rfl, h39.at_ 1 rfl, h39.at_ 3 rfl, trivial⟩ (fun W hW => eL hW.2.1 2 (.tmp 68) 17 _) ?_
     refine pR_v 13 (some 70) (D (now + u.life)) 16367 rfl hs39 ⟨h39.rd 0 rfl, h39.at_ 1 rfl, h39.at_ 3 rfl, trivial⟩ (fun W hW => exec_add _ _ _ _ rfl now u.life (by kernel_rfl) (by kernel_rfl) (now + u.life) rfl (by omega) (by omega) _) ?_
     refine pR_v 14 (some 71) (D (min till (now + u.life))) 32751 rfl hs39 ⟨h39.rd 0 rfl, h39.at_ 1 rfl, h39.at_ 3 rfl, trivial⟩ (fun W hW => e_min (.tmp 66) (.tmp 70) #[2, 2] (by kernel_rfl) .i64 .i64 till (now + u.life) (by kernel_rfl) (by kernel_rfl) (min till (now + u.life)) (by split <;> omega) _) ?_
     refine pR_or 4 16 hs39 ?_ ?_
     ·
      refine pR_op 4 (some 61) 32767 rfl (x_fresh h39 4 rfl  (by kernel_rfl) hs.keys) ?_
      rintro _ w40 ⟨K40, F40, s40, rfl, hK40, hs40, h40⟩
      refine ⟨fun _ => ⟨h40.rd 0 rfl, h40.at_ 1 rfl, h40.at_ 3 rfl, trivial⟩, ?_⟩
      obtain rfl : K = K40 := kl_inj (hKK.trans hK40.symm)
      have hr40 : Room 8 s40 := by rw [hs40]; exact hs.add _
      refine pR_p 2 [15] [(72, (aV ([(D 4)] ++ vb (kl K) ++ [(sV u.name), (D now), (D (min till (now + u.life))), O]).toArray))] 65535 hs39 ⟨h40.rd 0 rfl, h40.at_ 1 rfl, h40.at_ 3 rfl, trivial⟩ ?_
      refine pR_to 16 (some 11) 131071 rfl hs39 (xN h40 55 ([O] ++ vb (List.replicate 16 0) ++ [(sV ByteArray.empty), O, O, O])) ?_
      rintro _ w41 ⟨g41, rfl, h41⟩
      refine ⟨fun _ => ⟨h41.rd 0 rfl, h41.at_ 2 rfl, h41.at_ 4 rfl, trivial⟩, ?_⟩
      refine pR_to 17 none 262143 rfl hs39 (xSs h41 0 55 (.tmp 11) (.tmp 72) 0 ([(D 4)] ++ vb (kl K) ++ [(sV u.name), (D now), (D (min till (now + u.life))), O]) ([(D 4)] ++ vb (kl K) ++ [(sV u.name), (D now), (D (min till (now + u.life))), O])) ?_
      rintro _ w42 h42
      refine ⟨fun h => absurd h (by decide), ?_⟩
      refine pR_done hs39 ?_ _
      exact hJ19 g41 F40 s40 hs40 hr40 _ _ _ (pEq 109) (h42.sel [0, 1, 2, 3, 4, 5] [0, 1, 2] (by kernel_rfl) rfl rfl)
     ·
      refine pR_op 16 (some 11) 98287 rfl (xN h39 55 ([O] ++ vb (List.replicate 16 0) ++ [(sV ByteArray.empty), O, O, O])) ?_
      rintro _ w43 ⟨g43, rfl, h43⟩
      refine ⟨fun _ => ⟨h43.rd 0 rfl, h43.at_ 2 rfl, h43.at_ 4 rfl, trivial⟩, ?_⟩
      refine pR_to 4 (some 61) 98303 rfl hs39 (x_fresh h43 5 rfl  (by kernel_rfl) hs.keys) ?_
      rintro _ w44 ⟨K44, F44, s44, rfl, hK44, hs44, h44⟩
      refine ⟨fun _ => ⟨h44.rd 0 rfl, h44.at_ 2 rfl, h44.at_ 4 rfl, trivial⟩, ?_⟩
      obtain rfl : K = K44 := kl_inj (hKK.trans hK44.symm)
      have hr44 : Room 8 s44 := by rw [hs44]; exact hs.add _
      refine pR_p 1 [15] [(72, (aV ([(D 4)] ++ vb (kl K) ++ [(sV u.name), (D now), (D (min till (now + u.life))), O]).toArray))] 131071 hs39 ⟨h44.rd 0 rfl, h44.at_ 2 rfl, h44.at_ 4 rfl, trivial⟩ ?_
      refine pR_to 17 none 262143 rfl hs39 (xSs h44 0 55 (.tmp 11) (.tmp 72) 0 ([(D 4)] ++ vb (kl K) ++ [(sV u.name), (D now), (D (min till (now + u.life))), O]) ([(D 4)] ++ vb (kl K) ++ [(sV u.name), (D now), (D (min till (now + u.life))), O])) ?_
      rintro _ w45 h45
      refine ⟨fun h => absurd h (by decide), ?_⟩
      refine pR_done hs39 ?_ _
      exact hJ19 g43 F44 s44 hs44 hr44 _ _ _ (pEq 109) (h45.sel [0, 1, 2, 3, 4, 5] [0, 1, 2] (by kernel_rfl) rfl rfl)
   refine pR_go hJh6 14 (fun W => (rBlk kb 73 ([(Value.iface 24 (pt tb 0)), (pt bb 0)] ++ vb (kl Kk))).Φ W /\ (rBlk gJ5_0 95 ([(sV u.name)] ++ vb (kl u.key) ++ [(D u.life), (D u.renew), (bV u.mesh)])).Φ W /\ (rBlk g2 45 ([(sV client), (D nonce), (D till), (lV P pre.length pc)])).Φ W /\ True) [(30, [0], 0), (31, [29], 1), (32, [30], 2), (33, [31], 4), (34, [8], 0), (35, [33], 16), (36, [5], 0), (37, [35], 64), (38, [32, 34, 36], 168), (29, [37], 256), (39, [28], 512), (40, [28], 512), (11, [], 0), (0, [10, 38], 6143), (10, [39], 16383)] rfl (fun _ d _ _ _ h => by cases d <;> exact h) ?_
   intro hs46 w46 h46
   refine pR_p 10 [0, 1, 2, 4, 6] [(35, (pt g2 3)), (33, (pt gJ5_0 1)), (31, (pt kb 0)), (30, (pt kb 0)), (29, (pt kb 0))] 87 hs46 ⟨h46.rd 0 rfl, h46.at_ 0 rfl, h46.at_ 2 rfl, trivial⟩ ?_
   refine pR_v 3 (some 32) (Value.iface 24 (pt tb 0)) 95 rfl hs46 ⟨h46.rd 0 rfl, h46.at_ 0 rfl, h46.at_ 2 rfl, trivial⟩ (fun W hW => eL hW.1 70 (.tmp 31) 0 _) ?_
   refine pR_v 5 (some 34) (aV (vb (kl u.key)).toArray) 127 rfl hs46 ⟨h46.rd 0 rfl, h46.at_ 0 rfl, h46.at_ 2 rfl, trivial⟩ (fun W hW => eLs hW.2.1 32 (.tmp 33) 1 (vb (kl u.key))) ?_
   refine pR_v 7 (some 36) (lV P pre.length pc) 255 rfl hs46 ⟨h46.rd 0 rfl, h46.at_ 0 rfl, h46.at_ 2 rfl, trivial⟩ (fun W hW => eL hW.2.2.1 22 (.tmp 35) 3 _) ?_
   refine pR_or 8 12 hs46 ?_ ?_
   ·
    refine pR_op 8 (some 37) 511 rfl (x_oStamp h46 3 rfl u.key 1 (by kernel_rfl) hs.ok (h46.rd 2 rfl) ho) ?_
    rintro _ w47 ⟨rfl, h47⟩
    refine ⟨fun _ => ⟨h47.rd 0 rfl, h47.at_ 0 rfl, h47.at_ 2 rfl, trivial⟩, ?_⟩
    refine pR_p 3 [9, 10, 11] [(39, O), (38, (aV ([(D t), (D q)]).toArray)), (28, (Value.tuple #[(aV ([(D t), (D q)]).toArray), O]))] 4095 hs46 ⟨h47.rd 0 rfl, h47.at_ 0 rfl, h47.at_ 2 rfl, trivial⟩ ?_
    refine pR_to 12 (some 10) 8191 rfl hs46 (xN h47 49 ([O, O])) ?_
    rintro _ w48 ⟨g48, rfl, h48⟩
    refine ⟨fun _ => ⟨h48.rd 0 rfl, h48.at_ 1 rfl, h48.at_ 3 rfl, trivial⟩, ?_⟩
    refine pR_to 13 none 16383 rfl hs46 (xSs h48 0 49 (.tmp 10) (.tmp 38) 0 ([(D t), (D q)]) ([(D t), (D q)])) ?_
    rintro _ w49 h49
    refine ⟨fun _ => ⟨h49.rd 0 rfl, h49.at_ 1 rfl, h49.at_ 3 rfl, trivial⟩, ?_⟩
    refine pR_to 14 (some 9) 32767 rfl hs46 (OpTo.run O (pureOp_run (by kernel_rfl) _) (R := fun v w => v = O /\ w49 = w) ⟨rfl, rfl⟩) ?_
    rintro _ _ ⟨rfl, rfl⟩
    refine ⟨fun h => absurd h (by decide), ?_⟩
    refine pR_done hs46 ?_ _
    exact hJ11 g48 _ _ _ (pEq 109) (h49.sel [0, 1, 2, 3, 4] [0, 1, 2] (by kernel_rfl) rfl rfl)
   ·
    refine pR_op 12 (some 10) 4351 rfl (xN h46 49 ([O, O])) ?_
    rintro _ w50 ⟨g50, rfl, h50⟩
    refine ⟨fun _ => ⟨h50.rd 0 rfl, h50.at_ 1 rfl, h50.at_ 3 rfl, trivial⟩, ?_⟩
    refine pR_to 8 (some 37) 4607 rfl hs46 (x_oStamp h50 4 rfl u.key 1 (by kernel_rfl) hs.ok (h50.rd 2 rfl) ho) ?_
    rintro _ w51 ⟨rfl, h51⟩
    refine ⟨fun _ => ⟨h51.rd 0 rfl, h51.at_ 1 rfl, h51.at_ 3 rfl, trivial⟩, ?_⟩
    refine pR_p 2 [9, 10, 11] [(39, O), (38, (aV ([(D t), (D q)]).toArray)), (28, (Value.tuple #[(aV ([(D t), (D q)]).toArray), O]))] 8191 hs46 ⟨h51.rd 0 rfl, h51.at_ 1 rfl, h51.at_ 3 rfl, trivial⟩ ?_
    refine pR_to 13 none 16383 rfl hs46 (xSs h51 0 49 (.tmp 10) (.tmp 38) 0 ([(D t), (D q)]) ([(D t), (D q)])) ?_
    rintro _ w52 h52
    refine ⟨fun _ => ⟨h52.rd 0 rfl, h52.at_ 1 rfl, h52.at_ 3 rfl, trivial⟩, ?_⟩
    refine pR_to 14 (some 9) 32767 rfl hs46 (OpTo.run O (pureOp_run (by kernel_rfl) _) (R := fun v w => v = O /\ w52 = w) ⟨rfl, rfl⟩) ?_
    rintro _ _ ⟨rfl, rfl⟩
    refine ⟨fun h => absurd h (by decide), ?_⟩
    refine pR_done hs46 ?_ _
    exact hJ11 g50 _ _ _ (pEq 109) (h52.sel [0, 1, 2, 3, 4] [0, 1, 2] (by kernel_rfl) rfl rfl)
 refine pR_go h3 12 (fun W => (rBlk kb 73 ([(Value.iface 24 (pt tb 0)), (pt bb 0)] ++ vb (kl Kk))).Φ W /\ (rBlk g2 45 ([(sV client), (D nonce), (D till), (lV P pre.length pc)])).Φ W /\ True) [(16, [0], 0), (17, [15], 1), (18, [16], 2), (19, [17], 4), (20, [5], 0), (21, [19], 16), (22, [18, 20], 40), (15, [21], 64), (23, [14], 128), (24, [14], 128), (9, [], 0), (0, [8, 22], 1535), (10, [23], 4095)] rfl (fun _ d _ _ _ h => by cases d <;> exact h) ?_
 intro hs53 w53 h53
 refine pR_p 9 [0, 1, 2, 4] [(19, (pt g2 0)), (17, (pt kb 1)), (16, (pt kb 0)), (15, (pt kb 0))] 23 hs53 ⟨h53.rd 0 rfl, h53.at_ 1 rfl, trivial⟩ ?_
 refine pR_v 3 (some 18) (pt bb 0) 31 rfl hs53 ⟨h53.rd 0 rfl, h53.at_ 1 rfl, trivial⟩ (fun W hW => eL hW.1 71 (.tmp 17) 1 _) ?_
 refine pR_v 5 (some 20) (sV client) 63 rfl hs53 ⟨h53.rd 0 rfl, h53.at_ 1 rfl, trivial⟩ (fun W hW => eL hW.2.1 9 (.tmp 19) 0 _) ?_
 refine pR_or 6 10 hs53 ?_ ?_
 ·
  refine pR_op 6 (some 21) 127 rfl (x_bget h53 [(pt bb 0), (sV client)] (by kernel_rfl) (get_yes (h53.rd 1 rfl) h32 hb2 hu)) ?_
  rintro _ w54 ⟨rfl, h54⟩
  refine ⟨fun _ => ⟨h54.rd 0 rfl, h54.at_ 1 rfl, trivial⟩, ?_⟩
  refine pR_p 3 [7, 8, 9] [(23, O), (22, (aV ([(sV u.name)] ++ vb (kl u.key) ++ [(D u.life), (D u.renew), (bV u.mesh)]).toArray)), (14, (Value.tuple #[(aV ([(sV u.name)] ++ vb (kl u.key) ++ [(D u.life), (D u.renew), (bV u.mesh)]).toArray), O]))] 1023 hs53 ⟨h54.rd 0 rfl, h54.at_ 1 rfl, trivial⟩ ?_
  refine pR_to 10 (some 8) 2047 rfl hs53 (xN h54 95 ([(sV ByteArray.empty)] ++ vb (List.replicate 16 0) ++ [O, O, (bV false)])) ?_
  rintro _ w55 ⟨g55, rfl, h55⟩
  refine ⟨fun _ => ⟨h55.rd 0 rfl, h55.at_ 2 rfl, trivial⟩, ?_⟩
  refine pR_to 11 none 4095 rfl hs53 (xSs h55 0 95 (.tmp 8) (.tmp 22) 0 ([(sV u.name)] ++ vb (kl u.key) ++ [(D u.life), (D u.renew), (bV u.mesh)]) ([(sV u.name)] ++ vb (kl u.key) ++ [(D u.life), (D u.renew), (bV u.mesh)])) ?_
  rintro _ w56 h56
  refine ⟨fun _ => ⟨h56.rd 0 rfl, h56.at_ 2 rfl, trivial⟩, ?_⟩
  refine pR_to 12 (some 9) 8191 rfl hs53 (OpTo.run O (pureOp_run (by kernel_rfl) _) (R := fun v w => v = O /\ w56 = w) ⟨rfl, rfl⟩) ?_
  rintro _ _ ⟨rfl, rfl⟩
  refine ⟨fun h => absurd h (by decide), ?_⟩
  refine pR_done hs53 ?_ _
  exact hJ6 g55 _ _ _ (pEq 109) (h56.sel [0, 1, 2, 3] [0, 1, 2] (by kernel_rfl) rfl rfl)
 ·
  refine pR_op 10 (some 8) 1087 rfl (xN h53 95 ([(sV ByteArray.empty)] ++ vb (List.replicate 16 0) ++ [O, O, (bV false)])) ?_
  rintro _ w57 ⟨g57, rfl, h57⟩
  refine ⟨fun _ => ⟨h57.rd 0 rfl, h57.at_ 2 rfl, trivial⟩, ?_⟩
  refine pR_to 6 (some 21) 1151 rfl hs53 (x_bget h57 [(pt bb 0), (sV client)] (by kernel_rfl) (get_yes (h57.rd 1 rfl) h32 hb2 hu)) ?_
  rintro _ w58 ⟨rfl, h58⟩
  refine ⟨fun _ => ⟨h58.rd 0 rfl, h58.at_ 2 rfl, trivial⟩, ?_⟩
  refine pR_p 2 [7, 8, 9] [(23, O), (22, (aV ([(sV u.name)] ++ vb (kl u.key) ++ [(D u.life), (D u.renew), (bV u.mesh)]).toArray)), (14, (Value.tuple #[(aV ([(sV u.name)] ++ vb (kl u.key) ++ [(D u.life), (D u.renew), (bV u.mesh)]).toArray), O]))] 2047 hs53 ⟨h58.rd 0 rfl, h58.at_ 2 rfl, trivial⟩ ?_
  refine pR_to 11 none 4095 rfl hs53 (xSs h58 0 95 (.tmp 8) (.tmp 22) 0 ([(sV u.name)] ++ vb (kl u.key) ++ [(D u.life), (D u.renew), (bV u.mesh)]) ([(sV u.name)] ++ vb (kl u.key) ++ [(D u.life), (D u.renew), (bV u.mesh)])) ?_
  rintro _ w59 h59
  refine ⟨fun _ => ⟨h59.rd 0 rfl, h59.at_ 2 rfl, trivial⟩, ?_⟩
  refine pR_to 12 (some 9) 8191 rfl hs53 (OpTo.run O (pureOp_run (by kernel_rfl) _) (R := fun v w => v = O /\ w59 = w) ⟨rfl, rfl⟩) ?_
  rintro _ _ ⟨rfl, rfl⟩
  refine ⟨fun h => absurd h (by decide), ?_⟩
  refine pR_done hs53 ?_ _
  exact hJ6 g57 _ _ _ (pEq 109) (h59.sel [0, 1, 2, 3] [0, 1, 2] (by kernel_rfl) rfl rfl)
theorem as_ok_r {F G : Nat -> Prop} {kb tb bb : Nat} {Kk : Fin 16 -> UInt8} {s : STab} {us : List User} {client : ByteArray} {now nonce till : Int} {P : Option Addr} {pc : Nat} {pre : Bytes} {w : World} (hT : (rTab F tb s).Φ w) (hB : (rBs G bb us).Φ w) (hFG : (rTab F tb s).dj (rBs G bb us)) (hs : Room 9 s) (hK : Blk w kb 73 (kdcC tb bb Kk)) (hd : ¬ F kb) (hv : SB w (.slice P pre.length pc) pre) (hdv : (rSB (.slice P pre.length pc) pre).dj (rTab F tb s)) (h32 : us.length <= 1000000) {u : User} (hb2 : placeB us client = true) (hu : us[placeI us client]? = some u) {t q : Int} (ho : openTh s (kl u.key) 1 pre = .inr (.stamp t q)) (hnear : nearF now t = true) (ht : now < till) (hnow : 0 <= now /\ now <= 1099511627776) (hlife : 0 <= u.life /\ u.life <= 600) (hren : 0 < u.renew /\ u.renew <= 6000) (hnm : u.name.size <= 1000) (K : Fin 16 -> UInt8) (hKK : kl K = mkB 107 (s.keys.length + 1)) {b1 b2 : Bytes} (hp1 : packB (.inside 5 K u.name now (min till (now + u.life)) (now + u.renew)) = .inr b1) (hp2 : packB (.reply 5 K nonce ⟨#[107, 100, 99]⟩ now (min till (now + u.life)) (now + u.renew)) = .inr b2) : Calls Try.prog 14 #[(pt kb 0), (iV .i64 now), (aV ([(sV client), (iV .i64 nonce), (iV .i64 till), (lV P pre.length pc)]).toArray)] w (fun e w' => ∃ A1 c1 A2 c2 F', e = .returned (.tuple #[.agg #[.string u.name, .string ⟨#[107, 100, 99]⟩, .slice A1 16 c1, .slice A2 16 c2], .int .i64 0]) /\ Hp F w w' [] [rTab F' tb (((s.add SFrom.fresh).seal (kl Kk) 2 b1).seal (kl u.key) 3 b2), rSB (.slice A1 16 c1) (mkB 98 (s.boxes.length + 1)), rSB (.slice A2 16 c2) (mkB 98 (s.boxes.length + 2))]) := by
 have h0 := ((((Hp.one (rTab F tb s) hT).addR (rSB (.slice P pre.length pc) pre) hv (fun j r hj => by have h3 := sel1 hj; injection h3 with h3; subst h3; exact hdv)).addR (rBs G bb us) hB (fun j r hj => by have h3 := sel1 hj; injection h3 with h3; subst h3; exact hFG.symm)).addR (rBlk kb 73 (kdcC tb bb Kk)) hK (fun j s hj q h1 h2 => by have h3 := sel1 hj; injection h3 with h3; subst h3; exact hd (by rw [show q = kb from h1] at h2; exact h2)))
 refine enter 106 Try.func14 rfl rfl ?_
 refine wp_reset 109 [(0, (pt kb 0)), (1, (iV .i64 now)), (2, (aV ([(sV client), (iV .i64 nonce), (iV .i64 till), (lV P pre.length pc)]).toArray))] (fun x0 => ?_)
 refine wR fun K1 hK1 => ?_
 refine wT 5 (xN h0 45 ([(sV client), (D nonce), (D till), (lV P pre.length pc)])) ?_
 rintro _ w2 ⟨g2, rfl, h2⟩
 refine wT 6 (xN h2 41 ([(sV ByteArray.empty), (sV ByteArray.empty), (lV none 0 0), (lV none 0 0)])) ?_
 rintro _ w3 ⟨g3, rfl, h3⟩
 refine wq_p 1 [(7, O)] ?_
 refine wE hK1 (wp_seq_k fun K4 hK4 => ?_)
 have hJ6 : ∀ (gJ5_0 : Nat), ∀ (xJ6 : Nat -> Value) (aJ : Act) (wJ6 : World), aJ = patch xJ6 109 [(0, (pt kb 0)), (1, (D now)), (2, (aV ([(sV client), (D nonce), (D till), (lV P pre.length pc)]).toArray)), (5, (pt g2 0)), (6, (pt g3 0)), (7, O), (8, (pt gJ5_0 0)), (9, O)] -> Hp F w wJ6 [rBlk kb 73 ([(Value.iface 24 (pt tb 0)), (pt bb 0)] ++ vb (kl Kk)), rBs G bb us, rSB ((lV P pre.length pc)) pre] [rBlk gJ5_0 95 ([(sV u.name)] ++ vb (kl u.key) ++ [(D u.life), (D u.renew), (bV u.mesh)]), rBlk g3 41 ([(sV ByteArray.empty), (sV ByteArray.empty), (lV none 0 0), (lV none 0 0)]), rBlk g2 45 ([(sV client), (D nonce), (D till), (lV P pre.length pc)]), rTab F tb s] -> K4 aJ wJ6 := by
   rintro gJ5_0 xJ6 _ wJ6 rfl hJh6
   refine seq_n hK4 (wp_seq_k fun K7 hK7 => wR fun K8 hK8 => ?_)
   refine wq_p 2 [(25, (bV false)), (24, O)] ?_
   refine wE hK8 (cF (wp_skip (seq_n hK7 (wp_seq_k fun K9 hK9 => ?_))))
   have hJ11 : ∀ (gJ10_0 : Nat), ∀ (xJ11 : Nat -> Value) (aJ : Act) (wJ11 : World), aJ = patch xJ11 109 [(0, (pt kb 0)), (1, (D now)), (2, (aV ([(sV client), (D nonce), (D till), (lV P pre.length pc)]).toArray)), (5, (pt g2 0)), (6, (pt g3 0)), (7, O), (8, (pt gJ5_0 0)), (9, O), (10, (pt gJ10_0 0)), (25, (bV false))] -> Hp F w wJ11 [rBlk kb 73 ([(Value.iface 24 (pt tb 0)), (pt bb 0)] ++ vb (kl Kk)), rBs G bb us, rSB ((lV P pre.length pc)) pre] [rBlk gJ10_0 49 ([(D t), (D q)]), rBlk gJ5_0 95 ([(sV u.name)] ++ vb (kl u.key) ++ [(D u.life), (D u.renew), (bV u.mesh)]), rBlk g3 41 ([(sV ByteArray.empty), (sV ByteArray.empty), (lV none 0 0), (lV none 0 0)]), rBlk g2 45 ([(sV client), (D nonce), (D till), (lV P pre.length pc)]), rTab F tb s] -> K9 aJ wJ11 := by
     rintro gJ10_0 xJ11 _ wJ11 rfl hJh11
     refine seq_n hK9 (wp_seq_k fun K12 hK12 => wp_block (wR fun K13 hK13 => ?_))
     refine wq_p 3 [(40, (bV false)), (42, (bV false)), (41, O)] ?_
     refine wE hK13 (cF (wR fun K14 hK14 => ?_))
     refine wq_p 2 [(46, (pt gJ10_0 0)), (45, (D now))] (wV 47 (D t) (eL (hJh11.at_ 0 rfl) 2 (.tmp 46) 0 _) ?_)
     refine wT 48 (x_dp (v := .bool true) hJh11 40 [(D now), (D t)] (by kernel_rfl) (hnear ▸ near_any now t _)) ?_
     rintro _ w15 ⟨rfl, h15⟩
     refine wq_p 2 [(44, (bV false)), (49, (bV false))] ?_
     refine wE hK14 (cF (wR fun K16 hK16 => ?_))
     refine wq_p 1 [(52, (pt g2 2))] (wV 53 (D till) (eL (h15.at_ 3 rfl) 2 (.tmp 52) 2 _) (wq_p 1 [(54, (D now))] (wV 55 (.bool false) (eqI (bV (decide (till <= now))) (by simp; omega)) ?_)))
     refine wq_p 1 [(51, (bV false))] ?_
     refine wE hK16 (cF (wp_skip (blk_n (seq_n hK12 (wp_seq_k fun K17 hK17 => ?_)))))
     have hJ19 : ∀ (gJ18_0 : Nat), ∀ (FJ18_1 : Nat -> Prop), ∀ (sJ18_2 : STab), (sJ18_2 = s.add SFrom.fresh) -> (Room 8 sJ18_2) -> ∀ (xJ19 : Nat -> Value) (aJ : Act) (wJ19 : World), aJ = patch xJ19 109 [(0, (pt kb 0)), (1, (D now)), (2, (aV ([(sV client), (D nonce), (D till), (lV P pre.length pc)]).toArray)), (5, (pt g2 0)), (6, (pt g3 0)), (7, O), (8, (pt gJ5_0 0)), (9, O), (10, (pt gJ10_0 0)), (11, (pt gJ18_0 0)), (25, (bV false)), (40, (bV false)), (44, (bV false)), (51, (bV false))] -> Hp F w wJ19 [rBlk kb 73 ([(Value.iface 24 (pt tb 0)), (pt bb 0)] ++ vb (kl Kk)), rBs G bb us, rSB ((lV P pre.length pc)) pre] [rBlk gJ18_0 55 ([(D 4)] ++ vb (kl K) ++ [(sV u.name), (D now), (D (min till (now + u.life))), O]), rBlk gJ10_0 49 ([(D t), (D q)]), rBlk gJ5_0 95 ([(sV u.name)] ++ vb (kl u.key) ++ [(D u.life), (D u.renew), (bV u.mesh)]), rBlk g3 41 ([(sV ByteArray.empty), (sV ByteArray.empty), (lV none 0 0), (lV none 0 0)]), rBlk g2 45 ([(sV client), (D nonce), (D till), (lV P pre.length pc)]), rTab FJ18_1 tb sJ18_2] -> K17 aJ wJ19 := by
       rintro gJ18_0 FJ18_1 sJ18_2 hsJ hrJ xJ19 _ wJ19 rfl hJh19
       refine seq_n hK17 (wp_seq_k fun K20 hK20 => wR fun K21 hK21 => ?_)
       refine wq_p 1 [(73, (pt gJ5_0 18))] (wV 74 (D u.renew) (eL (hJh19.at_ 2 rfl) 2 (.tmp 73) 18 _) (wV 75 (.bool true) (eqI (bV (decide (u.renew > 0))) (by simp; omega)) ?_))
       refine wE hK21 (cT (wR fun K22 hK22 => ?_))
       refine wq_p 1 [(76, (pt gJ18_0 0))] (wV 77 (D 4) (eL (hJh19.at_ 0 rfl) 3 (.tmp 76) 0 _) (wV 78 (D 5) (eqI (D (bits .or .i64 4 1)) rfl) (wq_p 1 [(79, (pt gJ18_0 0))] ?_)))
       refine wq_to none (xSt hJh19 0 3 (.tmp 79) (.tmp 78) 0 (D 5) ([(D 5)] ++ vb (kl K) ++ [(sV u.name), (D now), (D (min till (now + u.life))), O])) ?_
       rintro _ w23 h23
       refine wE hK22 (reg_lit ?_)
       refine wq_p 2 [(81, (pt gJ5_0 18)), (80, (D now))] (wV 82 (D u.renew) (eL (h23.at_ 2 rfl) 2 (.tmp 81) 18 _) (wV 83 (D (now + u.renew)) (exec_add _ _ _ _ rfl now u.renew (by kernel_rfl) (by kernel_rfl) (now + u.renew) rfl (by omega) (by omega) _) (wq_p 1 [(84, (pt gJ18_0 20))] ?_)))
       refine wq_to none (xSt h23 0 2 (.tmp 84) (.tmp 83) 20 (D (now + u.renew)) ([(D 5)] ++ vb (kl K) ++ [(sV u.name), (D now), (D (min till (now + u.life))), (D (now + u.renew))])) ?_
       rintro _ w24 h24
       refine wE hK20 (wp_seq_k fun K25 hK25 => ?_)
       have hJ27 : ∀ (gJ26_0 : Nat), ∀ (BJ26_1 : Option Addr), ∀ (dJ26_2 : Nat), ∀ (AJ26_3 : Option Addr), ∀ (cJ26_4 : Nat), ∀ (FJ26_5 : Nat -> Prop), ∀ (xJ27 : Nat -> Value) (aJ : Act) (wJ27 : World), aJ = patch xJ27 109 [(0, (pt kb 0)), (1, (D now)), (2, (aV ([(sV client), (D nonce), (D till), (lV P pre.length pc)]).toArray)), (5, (pt g2 0)), (6, (pt g3 0)), (7, O), (8, (pt gJ5_0 0)), (9, O), (10, (pt gJ10_0 0)), (11, (pt gJ18_0 0)), (12, (pt gJ26_0 0)), (13, (lV BJ26_1 16 dJ26_2)), (25, (bV false)), (40, (bV false)), (44, (bV false)), (51, (bV false)), (75, (bV true))] -> Hp F w wJ27 [rBlk kb 73 ([(Value.iface 24 (pt tb 0)), (pt bb 0)] ++ vb (kl Kk)), rBs G bb us, rSB ((lV P pre.length pc)) pre] [rBlk gJ26_0 39 ([(sV (⟨#[107, 100, 99]⟩)), (lV AJ26_3 16 cJ26_4)]), rTab FJ26_5 tb ((STab.seal (STab.seal sJ18_2 (kl Kk) 2 b1) (kl u.key) 3 b2)), rSB ((lV AJ26_3 16 cJ26_4)) (mkB 98 (sJ18_2.boxes.length + 1)), rSB ((lV BJ26_1 16 dJ26_2)) (mkB 98 (sJ18_2.boxes.length + 2)), rBlk gJ18_0 55 ([(D 5)] ++ vb (kl K) ++ [(sV u.name), (D now), (D (min till (now + u.life))), (D (now + u.renew))]), rBlk gJ10_0 49 ([(D t), (D q)]), rBlk gJ5_0 95 ([(sV u.name)] ++ vb (kl u.key) ++ [(D u.life), (D u.renew), (bV u.mesh)]), rBlk g3 41 ([(sV ByteArray.empty), (sV ByteArray.empty), (lV none 0 0), (lV none 0 0)]), rBlk g2 45 ([(sV client), (D nonce), (D till), (lV P pre.length pc)])] -> K25 aJ wJ27 := by
         rintro gJ26_0 BJ26_1 dJ26_2 AJ26_3 cJ26_4 FJ26_5 xJ27 _ wJ27 rfl hJh27
         refine seq_n hK25 (wp_seq_k fun K28 hK28 => wR fun K29 hK29 => ?_)
         refine wq_p 2 [(101, (bV false)), (100, O)] ?_
         refine wE hK29 (cF (wp_skip (seq_n hK28 (wR fun K30 hK30 => ?_))))
         refine wq_p 1 [(104, (pt gJ5_0 0))] (wV 105 (sV u.name) (eL (hJh27.at_ 6 rfl) 9 (.tmp 104) 0 _) (wV 106 (aV ([(sV (⟨#[107, 100, 99]⟩)), (lV AJ26_3 16 cJ26_4)]).toArray) (eLs (hJh27.at_ 0 rfl) 39 (.tmp 12) 0 ([(sV (⟨#[107, 100, 99]⟩)), (lV AJ26_3 16 cJ26_4)])) (wq_p 2 [(108, (aV ([(sV u.name), (sV (⟨#[107, 100, 99]⟩)), (lV AJ26_3 16 cJ26_4), (lV BJ26_1 16 dJ26_2)]).toArray)), (107, (lV BJ26_1 16 dJ26_2))] ?_)))
         refine wq_to none (xSs hJh27 7 41 (.tmp 6) (.tmp 108) 0 ([(sV u.name), (sV (⟨#[107, 100, 99]⟩)), (lV AJ26_3 16 cJ26_4), (lV BJ26_1 16 dJ26_2)]) ([(sV u.name), (sV (⟨#[107, 100, 99]⟩)), (lV AJ26_3 16 cJ26_4), (lV BJ26_1 16 dJ26_2)])) ?_
         rintro _ w31 h31
         refine wq_p 1 [(7, O)] ?_
         refine wE hK30 (wp_ret ?_)
         refine post_2 rfl (by kernel_rfl) (rce (h31.at_ 7 rfl)) (rtm (iV .i64 0)) ?_
         subst hsJ
         exact ⟨_, _, _, _, _, rfl, h31.sel [1, 2, 3] [] rfl rfl rfl⟩
       refine pR_go h24 18 (fun W => (rBlk kb 73 ([(Value.iface 24 (pt tb 0)), (pt bb 0)] ++ vb (kl Kk))).Φ W /\ (rBlk gJ18_0 55 ([(D 5)] ++ vb (kl K) ++ [(sV u.name), (D now), (D (min till (now + u.life))), (D (now + u.renew))])).Φ W /\ (rBlk g2 45 ([(sV client), (D nonce), (D till), (lV P pre.length pc)])).Φ W /\ (rBlk gJ5_0 95 ([(sV u.name)] ++ vb (kl u.key) ++ [(D u.life), (D u.renew), (bV u.mesh)])).Φ W /\ True) [(87, [0], 0), (88, [0], 0), (89, [87], 2), (90, [88], 4), (91, [89], 8), (92, [11], 0), (93, [5], 0), (94, [92], 64), (95, [8], 0), (96, [94], 256), (97, [86, 90, 91, 93, 95], 689), (86, [96], 1024), (98, [85], 2048), (99, [85], 2048), (100, [85], 2048), (13, [], 0), (0, [12, 97], 40959), (14, [98], 114687), (10, [99], 262143)] rfl (fun _ d _ _ _ h => by cases d <;> exact h) ?_
       intro hs32 w32 h32
       refine pR_p 13 [0, 1, 2, 3, 6, 8] [(94, (pt gJ5_0 1)), (92, (pt g2 1)), (89, (pt kb 2)), (88, (pt kb 0)), (87, (pt kb 0)), (86, (pt kb 0))] 335 hs32 ⟨h32.rd 0 rfl, h32.at_ 0 rfl, h32.at_ 4 rfl, h32.at_ 2 rfl, trivial⟩ ?_
       refine pR_v 4 (some 90) (aV (vb (kl Kk)).toArray) 351 rfl hs32 ⟨h32.rd 0 rfl, h32.at_ 0 rfl, h32.at_ 4 rfl, h32.at_ 2 rfl, trivial⟩ (fun W hW => eLs hW.1 32 (.tmp 89) 2 (vb (kl Kk))) ?_
       refine pR_v 5 (some 91) (aV ([(D 5)] ++ vb (kl K) ++ [(sV u.name), (D now), (D (min till (now + u.life))), (D (now + u.renew))]).toArray) 383 rfl hs32 ⟨h32.rd 0 rfl, h32.at_ 0 rfl, h32.at_ 4 rfl, h32.at_ 2 rfl, trivial⟩ (fun W hW => eLs hW.2.1 55 (.tmp 11) 0 ([(D 5)] ++ vb (kl K) ++ [(sV u.name), (D now), (D (min till (now + u.life))), (D (now + u.renew))])) ?_
       refine pR_v 7 (some 93) (D nonce) 511 rfl hs32 ⟨h32.rd 0 rfl, h32.at_ 0 rfl, h32.at_ 4 rfl, h32.at_ 2 rfl, trivial⟩ (fun W hW => eL hW.2.2.1 2 (.tmp 92) 1 _) ?_
       refine pR_v 9 (some 95) (aV (vb (kl u.key)).toArray) 1023 rfl hs32 ⟨h32.rd 0 rfl, h32.at_ 0 rfl, h32.at_ 4 rfl, h32.at_ 2 rfl, trivial⟩ (fun W hW => eLs hW.2.2.2.1 32 (.tmp 94) 1 (vb (kl u.key))) ?_
       refine pR_or 10 15 hs32 ?_ ?_
       ·
        refine pR_op 10 (some 96) 2047 rfl (x_give h32 5 rfl [(pt kb 0), (sV (⟨#[107, 100, 99]⟩)), (aV (vb (kl Kk)).toArray), (aV ([(D 5)] ++ vb (kl K) ++ [(sV u.name), (D now), (D (min till (now + u.life))), (D (now + u.renew))]).toArray), (D nonce), (aV (vb (kl u.key)).toArray), (D 3)] (by kernel_rfl) (give_ok (h32.at_ 5 rfl) (hrJ.less (by decide)) (h32.rd 0 rfl) (fun hq => h32.rdis 0 5 _ _ rfl rfl kb rfl hq) (by omega) (by decide) hp1 hp2)) ?_
        rintro _ w33 ⟨A33, c33, B33, d33, F33, rfl, h33⟩
        refine ⟨fun _ => ⟨h33.rd 0 rfl, h33.at_ 3 rfl, h33.at_ 7 rfl, h33.at_ 5 rfl, trivial⟩, ?_⟩
        refine pR_p 4 [11, 12, 13, 14] [(99, O), (98, (lV B33 16 d33)), (97, (aV ([(sV (⟨#[107, 100, 99]⟩)), (lV A33 16 c33)]).toArray)), (85, (Value.tuple #[(aV ([(sV (⟨#[107, 100, 99]⟩)), (lV A33 16 c33)]).toArray), (lV B33 16 d33), O]))] 32767 hs32 ⟨h33.rd 0 rfl, h33.at_ 3 rfl, h33.at_ 7 rfl, h33.at_ 5 rfl, trivial⟩ ?_
        refine pR_to 15 (some 12) 65535 rfl hs32 (xN h33 39 ([(sV ByteArray.empty), (lV none 0 0)])) ?_
        rintro _ w34 ⟨g34, rfl, h34⟩
        refine ⟨fun _ => ⟨h34.rd 0 rfl, h34.at_ 4 rfl, h34.at_ 8 rfl, h34.at_ 6 rfl, trivial⟩, ?_⟩
        refine pR_to 16 none 131071 rfl hs32 (xSs h34 0 39 (.tmp 12) (.tmp 97) 0 ([(sV (⟨#[107, 100, 99]⟩)), (lV A33 16 c33)]) ([(sV (⟨#[107, 100, 99]⟩)), (lV A33 16 c33)])) ?_
        rintro _ w35 h35
        refine ⟨fun _ => ⟨h35.rd 0 rfl, h35.at_ 4 rfl, h35.at_ 8 rfl, h35.at_ 6 rfl, trivial⟩, ?_⟩
        refine pR_p 1 [17] [(13, (lV B33 16 d33))] 262143 hs32 ⟨h35.rd 0 rfl, h35.at_ 4 rfl, h35.at_ 8 rfl, h35.at_ 6 rfl, trivial⟩ ?_
        refine pR_to 18 (some 9) 524287 rfl hs32 (OpTo.run O (pureOp_run (by kernel_rfl) _) (R := fun v w => v = O /\ w35 = w) ⟨rfl, rfl⟩) ?_
        rintro _ _ ⟨rfl, rfl⟩
        refine ⟨fun h => absurd h (by decide), ?_⟩
        refine pR_done hs32 ?_ _
        exact hJ27 g34 B33 d33 A33 c33 F33 _ _ _ (pEq 109) (h35.sel [0, 1, 2, 3, 4, 5, 6, 7, 8] [0, 1, 2] (by kernel_rfl) rfl rfl)
       ·
        refine pR_op 15 (some 12) 33791 rfl (xN h32 39 ([(sV ByteArray.empty), (lV none 0 0)])) ?_
        rintro _ w36 ⟨g36, rfl, h36⟩
        refine ⟨fun _ => ⟨h36.rd 0 rfl, h36.at_ 1 rfl, h36.at_ 5 rfl, h36.at_ 3 rfl, trivial⟩, ?_⟩
        refine pR_to 10 (some 96) 34815 rfl hs32 (x_give h36 6 rfl [(pt kb 0), (sV (⟨#[107, 100, 99]⟩)), (aV (vb (kl Kk)).toArray), (aV ([(D 5)] ++ vb (kl K) ++ [(sV u.name), (D now), (D (min till (now + u.life))), (D (now + u.renew))]).toArray), (D nonce), (aV (vb (kl u.key)).toArray), (D 3)] (by kernel_rfl) (give_ok (h36.at_ 6 rfl) (hrJ.less (by decide)) (h36.rd 0 rfl) (fun hq => h36.rdis 0 6 _ _ rfl rfl kb rfl hq) (by omega) (by decide) hp1 hp2)) ?_
        rintro _ w37 ⟨A37, c37, B37, d37, F37, rfl, h37⟩
        refine ⟨fun _ => ⟨h37.rd 0 rfl, h37.at_ 4 rfl, h37.at_ 8 rfl, h37.at_ 6 rfl, trivial⟩, ?_⟩
        refine pR_p 3 [11, 12, 13, 14] [(99, O), (98, (lV B37 16 d37)), (97, (aV ([(sV (⟨#[107, 100, 99]⟩)), (lV A37 16 c37)]).toArray)), (85, (Value.tuple #[(aV ([(sV (⟨#[107, 100, 99]⟩)), (lV A37 16 c37)]).toArray), (lV B37 16 d37), O]))] 65535 hs32 ⟨h37.rd 0 rfl, h37.at_ 4 rfl, h37.at_ 8 rfl, h37.at_ 6 rfl, trivial⟩ ?_
        refine pR_to 16 none 131071 rfl hs32 (xSs h37 3 39 (.tmp 12) (.tmp 97) 0 ([(sV (⟨#[107, 100, 99]⟩)), (lV A37 16 c37)]) ([(sV (⟨#[107, 100, 99]⟩)), (lV A37 16 c37)])) ?_
        rintro _ w38 h38
        refine ⟨fun _ => ⟨h38.rd 0 rfl, h38.at_ 4 rfl, h38.at_ 8 rfl, h38.at_ 6 rfl, trivial⟩, ?_⟩
        refine pR_p 1 [17] [(13, (lV B37 16 d37))] 262143 hs32 ⟨h38.rd 0 rfl, h38.at_ 4 rfl, h38.at_ 8 rfl, h38.at_ 6 rfl, trivial⟩ ?_
        refine pR_to 18 (some 9) 524287 rfl hs32 (OpTo.run O (pureOp_run (by kernel_rfl) _) (R := fun v w => v = O /\ w38 = w) ⟨rfl, rfl⟩) ?_
        rintro _ _ ⟨rfl, rfl⟩
        refine ⟨fun h => absurd h (by decide), ?_⟩
        refine pR_done hs32 ?_ _
        exact hJ27 g36 B37 d37 A37 c37 F37 _ _ _ (pEq 109) (h38.sel [3, 0, 1, 2, 4, 5, 6, 7, 8] [0, 1, 2] (by kernel_rfl) rfl rfl)
     refine pR_go h15 17 (fun W => (rBlk kb 73 ([(Value.iface 24 (pt tb 0)), (pt bb 0)] ++ vb (kl Kk))).Φ W /\ (rBlk gJ5_0 95 ([(sV u.name)] ++ vb (kl u.key) ++ [(D u.life), (D u.renew), (bV u.mesh)])).Φ W /\ (rBlk g2 45 ([(sV client), (D nonce), (D till), (lV P pre.length pc)])).Φ W /\ True) [(58, [0], 0), (59, [57], 1), (60, [58], 2), (61, [59], 4), (62, [60], 8), (63, [8], 0), (64, [62], 32), (65, [1], 0), (66, [5], 0), (67, [65], 256), (68, [1], 0), (69, [8], 0), (70, [68], 2048), (71, [67, 69], 5120), (72, [66, 70], 8704), (73, [61, 63, 64, 71], 16592), (12, [], 0), (0, [11, 72], 131071)] rfl (fun _ d _ _ _ h => by cases d <;> exact h) ?_
     intro hs39 w39 h39
     refine pR_p 10 [0, 1, 2, 5, 7, 8, 10, 11] [(68, (pt gJ5_0 17)), (67, (D now)), (65, (pt g2 2)), (64, (D now)), (62, (pt gJ5_0 0)), (59, (pt kb 0)), (58, (pt kb 0)), (57, (pt kb 0))] 3495 hs39 ⟨h39.rd 0 rfl, h39.at_ 1 rfl, h39.at_ 3 rfl, trivial⟩ ?_
     refine pR_v 3 (some 60) (Value.iface 24 (pt tb 0)) 3503 rfl hs39 ⟨h39.rd 0 rfl, h39.at_ 1 rfl, h39.at_ 3 rfl, trivial⟩ (fun W hW => eL hW.1 70 (.tmp 59) 0 _) ?_
     refine pR_v 6 (some 63) (sV u.name) 3567 rfl hs39 ⟨h39.rd 0 rfl, h39.at_ 1 rfl, h39.at_ 3 rfl, trivial⟩ (fun W hW => eL hW.2.1 9 (.tmp 62) 0 _) ?_
     refine pR_v 9 (some 66) (D till) 4079 rfl hs39 ⟨h39.rd 0 rfl, h39.at_ 1 rfl, h39.at_ 3 rfl, trivial⟩ (fun W hW => eL hW.2.2.1 2 (.tmp 65) 2 _) ?_
     refine pR_v 12 (some 69) (D u.life) 8175 rfl hs39 ⟨h39.rd 0 rfl, h39.at_ 1 rfl, h39.at_ 3 rfl, trivial⟩ (fun W hW => eL hW.2.1 2 (.tmp 68) 17 _) ?_
     refine pR_v 13 (some 70) (D (now + u.life)) 16367 rfl hs39 ⟨h39.rd 0 rfl, h39.at_ 1 rfl, h39.at_ 3 rfl, trivial⟩ (fun W hW => exec_add _ _ _ _ rfl now u.life (by kernel_rfl) (by kernel_rfl) (now + u.life) rfl (by omega) (by omega) _) ?_
     refine pR_v 14 (some 71) (D (min till (now + u.life))) 32751 rfl hs39 ⟨h39.rd 0 rfl, h39.at_ 1 rfl, h39.at_ 3 rfl, trivial⟩ (fun W hW => e_min (.tmp 66) (.tmp 70) #[2, 2] (by kernel_rfl) .i64 .i64 till (now + u.life) (by kernel_rfl) (by kernel_rfl) (min till (now + u.life)) (by split <;> omega) _) ?_
     refine pR_or 4 16 hs39 ?_ ?_
     ·
      refine pR_op 4 (some 61) 32767 rfl (x_fresh h39 4 rfl  (by kernel_rfl) hs.keys) ?_
      rintro _ w40 ⟨K40, F40, s40, rfl, hK40, hs40, h40⟩
      refine ⟨fun _ => ⟨h40.rd 0 rfl, h40.at_ 1 rfl, h40.at_ 3 rfl, trivial⟩, ?_⟩
      obtain rfl : K = K40 := kl_inj (hKK.trans hK40.symm)
      have hr40 : Room 8 s40 := by rw [hs40]; exact hs.add _
      refine pR_p 2 [15] [(72, (aV ([(D 4)] ++ vb (kl K) ++ [(sV u.name), (D now), (D (min till (now + u.life))), O]).toArray))] 65535 hs39 ⟨h40.rd 0 rfl, h40.at_ 1 rfl, h40.at_ 3 rfl, trivial⟩ ?_
      refine pR_to 16 (some 11) 131071 rfl hs39 (xN h40 55 ([O] ++ vb (List.replicate 16 0) ++ [(sV ByteArray.empty), O, O, O])) ?_
      rintro _ w41 ⟨g41, rfl, h41⟩
      refine ⟨fun _ => ⟨h41.rd 0 rfl, h41.at_ 2 rfl, h41.at_ 4 rfl, trivial⟩, ?_⟩
      refine pR_to 17 none 262143 rfl hs39 (xSs h41 0 55 (.tmp 11) (.tmp 72) 0 ([(D 4)] ++ vb (kl K) ++ [(sV u.name), (D now), (D (min till (now + u.life))), O]) ([(D 4)] ++ vb (kl K) ++ [(sV u.name), (D now), (D (min till (now + u.life))), O])) ?_
      rintro _ w42 h42
      refine ⟨fun h => absurd h (by decide), ?_⟩
      refine pR_done hs39 ?_ _
      exact hJ19 g41 F40 s40 hs40 hr40 _ _ _ (pEq 109) (h42.sel [0, 1, 2, 3, 4, 5] [0, 1, 2] (by kernel_rfl) rfl rfl)
     ·
      refine pR_op 16 (some 11) 98287 rfl (xN h39 55 ([O] ++ vb (List.replicate 16 0) ++ [(sV ByteArray.empty), O, O, O])) ?_
      rintro _ w43 ⟨g43, rfl, h43⟩
      refine ⟨fun _ => ⟨h43.rd 0 rfl, h43.at_ 2 rfl, h43.at_ 4 rfl, trivial⟩, ?_⟩
      refine pR_to 4 (some 61) 98303 rfl hs39 (x_fresh h43 5 rfl  (by kernel_rfl) hs.keys) ?_
      rintro _ w44 ⟨K44, F44, s44, rfl, hK44, hs44, h44⟩
      refine ⟨fun _ => ⟨h44.rd 0 rfl, h44.at_ 2 rfl, h44.at_ 4 rfl, trivial⟩, ?_⟩
      obtain rfl : K = K44 := kl_inj (hKK.trans hK44.symm)
      have hr44 : Room 8 s44 := by rw [hs44]; exact hs.add _
      refine pR_p 1 [15] [(72, (aV ([(D 4)] ++ vb (kl K) ++ [(sV u.name), (D now), (D (min till (now + u.life))), O]).toArray))] 131071 hs39 ⟨h44.rd 0 rfl, h44.at_ 2 rfl, h44.at_ 4 rfl, trivial⟩ ?_
      refine pR_to 17 none 262143 rfl hs39 (xSs h44 0 55 (.tmp 11) (.tmp 72) 0 ([(D 4)] ++ vb (kl K) ++ [(sV u.name), (D now), (D (min till (now + u.life))), O]) ([(D 4)] ++ vb (kl K) ++ [(sV u.name), (D now), (D (min till (now + u.life))), O])) ?_
      rintro _ w45 h45
      refine ⟨fun h => absurd h (by decide), ?_⟩
      refine pR_done hs39 ?_ _
      exact hJ19 g43 F44 s44 hs44 hr44 _ _ _ (pEq 109) (h45.sel [0, 1, 2, 3, 4, 5] [0, 1, 2] (by kernel_rfl) rfl rfl)
   refine pR_go hJh6 14 (fun W => (rBlk kb 73 ([(Value.iface 24 (pt tb 0)), (pt bb 0)] ++ vb (kl Kk))).Φ W /\ (rBlk gJ5_0 95 ([(sV u.name)] ++ vb (kl u.key) ++ [(D u.life), (D u.renew), (bV u.mesh)])).Φ W /\ (rBlk g2 45 ([(sV client), (D nonce), (D till), (lV P pre.length pc)])).Φ W /\ True) [(30, [0], 0), (31, [29], 1), (32, [30], 2), (33, [31], 4), (34, [8], 0), (35, [33], 16), (36, [5], 0), (37, [35], 64), (38, [32, 34, 36], 168), (29, [37], 256), (39, [28], 512), (40, [28], 512), (11, [], 0), (0, [10, 38], 6143), (10, [39], 16383)] rfl (fun _ d _ _ _ h => by cases d <;> exact h) ?_
   intro hs46 w46 h46
   refine pR_p 10 [0, 1, 2, 4, 6] [(35, (pt g2 3)), (33, (pt gJ5_0 1)), (31, (pt kb 0)), (30, (pt kb 0)), (29, (pt kb 0))] 87 hs46 ⟨h46.rd 0 rfl, h46.at_ 0 rfl, h46.at_ 2 rfl, trivial⟩ ?_
   refine pR_v 3 (some 32) (Value.iface 24 (pt tb 0)) 95 rfl hs46 ⟨h46.rd 0 rfl, h46.at_ 0 rfl, h46.at_ 2 rfl, trivial⟩ (fun W hW => eL hW.1 70 (.tmp 31) 0 _) ?_
   refine pR_v 5 (some 34) (aV (vb (kl u.key)).toArray) 127 rfl hs46 ⟨h46.rd 0 rfl, h46.at_ 0 rfl, h46.at_ 2 rfl, trivial⟩ (fun W hW => eLs hW.2.1 32 (.tmp 33) 1 (vb (kl u.key))) ?_
   refine pR_v 7 (some 36) (lV P pre.length pc) 255 rfl hs46 ⟨h46.rd 0 rfl, h46.at_ 0 rfl, h46.at_ 2 rfl, trivial⟩ (fun W hW => eL hW.2.2.1 22 (.tmp 35) 3 _) ?_
   refine pR_or 8 12 hs46 ?_ ?_
   ·
    refine pR_op 8 (some 37) 511 rfl (x_oStamp h46 3 rfl u.key 1 (by kernel_rfl) hs.ok (h46.rd 2 rfl) ho) ?_
    rintro _ w47 ⟨rfl, h47⟩
    refine ⟨fun _ => ⟨h47.rd 0 rfl, h47.at_ 0 rfl, h47.at_ 2 rfl, trivial⟩, ?_⟩
    refine pR_p 3 [9, 10, 11] [(39, O), (38, (aV ([(D t), (D q)]).toArray)), (28, (Value.tuple #[(aV ([(D t), (D q)]).toArray), O]))] 4095 hs46 ⟨h47.rd 0 rfl, h47.at_ 0 rfl, h47.at_ 2 rfl, trivial⟩ ?_
    refine pR_to 12 (some 10) 8191 rfl hs46 (xN h47 49 ([O, O])) ?_
    rintro _ w48 ⟨g48, rfl, h48⟩
    refine ⟨fun _ => ⟨h48.rd 0 rfl, h48.at_ 1 rfl, h48.at_ 3 rfl, trivial⟩, ?_⟩
    refine pR_to 13 none 16383 rfl hs46 (xSs h48 0 49 (.tmp 10) (.tmp 38) 0 ([(D t), (D q)]) ([(D t), (D q)])) ?_
    rintro _ w49 h49
    refine ⟨fun _ => ⟨h49.rd 0 rfl, h49.at_ 1 rfl, h49.at_ 3 rfl, trivial⟩, ?_⟩
    refine pR_to 14 (some 9) 32767 rfl hs46 (OpTo.run O (pureOp_run (by kernel_rfl) _) (R := fun v w => v = O /\ w49 = w) ⟨rfl, rfl⟩) ?_
    rintro _ _ ⟨rfl, rfl⟩
    refine ⟨fun h => absurd h (by decide), ?_⟩
    refine pR_done hs46 ?_ _
    exact hJ11 g48 _ _ _ (pEq 109) (h49.sel [0, 1, 2, 3, 4] [0, 1, 2] (by kernel_rfl) rfl rfl)
   ·
    refine pR_op 12 (some 10) 4351 rfl (xN h46 49 ([O, O])) ?_
    rintro _ w50 ⟨g50, rfl, h50⟩
    refine ⟨fun _ => ⟨h50.rd 0 rfl, h50.at_ 1 rfl, h50.at_ 3 rfl, trivial⟩, ?_⟩
    refine pR_to 8 (some 37) 4607 rfl hs46 (x_oStamp h50 4 rfl u.key 1 (by kernel_rfl) hs.ok (h50.rd 2 rfl) ho) ?_
    rintro _ w51 ⟨rfl, h51⟩
    refine ⟨fun _ => ⟨h51.rd 0 rfl, h51.at_ 1 rfl, h51.at_ 3 rfl, trivial⟩, ?_⟩
    refine pR_p 2 [9, 10, 11] [(39, O), (38, (aV ([(D t), (D q)]).toArray)), (28, (Value.tuple #[(aV ([(D t), (D q)]).toArray), O]))] 8191 hs46 ⟨h51.rd 0 rfl, h51.at_ 1 rfl, h51.at_ 3 rfl, trivial⟩ ?_
    refine pR_to 13 none 16383 rfl hs46 (xSs h51 0 49 (.tmp 10) (.tmp 38) 0 ([(D t), (D q)]) ([(D t), (D q)])) ?_
    rintro _ w52 h52
    refine ⟨fun _ => ⟨h52.rd 0 rfl, h52.at_ 1 rfl, h52.at_ 3 rfl, trivial⟩, ?_⟩
    refine pR_to 14 (some 9) 32767 rfl hs46 (OpTo.run O (pureOp_run (by kernel_rfl) _) (R := fun v w => v = O /\ w52 = w) ⟨rfl, rfl⟩) ?_
    rintro _ _ ⟨rfl, rfl⟩
    refine ⟨fun h => absurd h (by decide), ?_⟩
    refine pR_done hs46 ?_ _
    exact hJ11 g50 _ _ _ (pEq 109) (h52.sel [0, 1, 2, 3, 4] [0, 1, 2] (by kernel_rfl) rfl rfl)
 refine pR_go h3 12 (fun W => (rBlk kb 73 ([(Value.iface 24 (pt tb 0)), (pt bb 0)] ++ vb (kl Kk))).Φ W /\ (rBlk g2 45 ([(sV client), (D nonce), (D till), (lV P pre.length pc)])).Φ W /\ True) [(16, [0], 0), (17, [15], 1), (18, [16], 2), (19, [17], 4), (20, [5], 0), (21, [19], 16), (22, [18, 20], 40), (15, [21], 64), (23, [14], 128), (24, [14], 128), (9, [], 0), (0, [8, 22], 1535), (10, [23], 4095)] rfl (fun _ d _ _ _ h => by cases d <;> exact h) ?_
 intro hs53 w53 h53
 refine pR_p 9 [0, 1, 2, 4] [(19, (pt g2 0)), (17, (pt kb 1)), (16, (pt kb 0)), (15, (pt kb 0))] 23 hs53 ⟨h53.rd 0 rfl, h53.at_ 1 rfl, trivial⟩ ?_
 refine pR_v 3 (some 18) (pt bb 0) 31 rfl hs53 ⟨h53.rd 0 rfl, h53.at_ 1 rfl, trivial⟩ (fun W hW => eL hW.1 71 (.tmp 17) 1 _) ?_
 refine pR_v 5 (some 20) (sV client) 63 rfl hs53 ⟨h53.rd 0 rfl, h53.at_ 1 rfl, trivial⟩ (fun W hW => eL hW.2.1 9 (.tmp 19) 0 _) ?_
 refine pR_or 6 10 hs53 ?_ ?_
 ·
  refine pR_op 6 (some 21) 127 rfl (x_bget h53 [(pt bb 0), (sV client)] (by kernel_rfl) (get_yes (h53.rd 1 rfl) h32 hb2 hu)) ?_
  rintro _ w54 ⟨rfl, h54⟩
  refine ⟨fun _ => ⟨h54.rd 0 rfl, h54.at_ 1 rfl, trivial⟩, ?_⟩
  refine pR_p 3 [7, 8, 9] [(23, O), (22, (aV ([(sV u.name)] ++ vb (kl u.key) ++ [(D u.life), (D u.renew), (bV u.mesh)]).toArray)), (14, (Value.tuple #[(aV ([(sV u.name)] ++ vb (kl u.key) ++ [(D u.life), (D u.renew), (bV u.mesh)]).toArray), O]))] 1023 hs53 ⟨h54.rd 0 rfl, h54.at_ 1 rfl, trivial⟩ ?_
  refine pR_to 10 (some 8) 2047 rfl hs53 (xN h54 95 ([(sV ByteArray.empty)] ++ vb (List.replicate 16 0) ++ [O, O, (bV false)])) ?_
  rintro _ w55 ⟨g55, rfl, h55⟩
  refine ⟨fun _ => ⟨h55.rd 0 rfl, h55.at_ 2 rfl, trivial⟩, ?_⟩
  refine pR_to 11 none 4095 rfl hs53 (xSs h55 0 95 (.tmp 8) (.tmp 22) 0 ([(sV u.name)] ++ vb (kl u.key) ++ [(D u.life), (D u.renew), (bV u.mesh)]) ([(sV u.name)] ++ vb (kl u.key) ++ [(D u.life), (D u.renew), (bV u.mesh)])) ?_
  rintro _ w56 h56
  refine ⟨fun _ => ⟨h56.rd 0 rfl, h56.at_ 2 rfl, trivial⟩, ?_⟩
  refine pR_to 12 (some 9) 8191 rfl hs53 (OpTo.run O (pureOp_run (by kernel_rfl) _) (R := fun v w => v = O /\ w56 = w) ⟨rfl, rfl⟩) ?_
  rintro _ _ ⟨rfl, rfl⟩
  refine ⟨fun h => absurd h (by decide), ?_⟩
  refine pR_done hs53 ?_ _
  exact hJ6 g55 _ _ _ (pEq 109) (h56.sel [0, 1, 2, 3] [0, 1, 2] (by kernel_rfl) rfl rfl)
 ·
  refine pR_op 10 (some 8) 1087 rfl (xN h53 95 ([(sV ByteArray.empty)] ++ vb (List.replicate 16 0) ++ [O, O, (bV false)])) ?_
  rintro _ w57 ⟨g57, rfl, h57⟩
  refine ⟨fun _ => ⟨h57.rd 0 rfl, h57.at_ 2 rfl, trivial⟩, ?_⟩
  refine pR_to 6 (some 21) 1151 rfl hs53 (x_bget h57 [(pt bb 0), (sV client)] (by kernel_rfl) (get_yes (h57.rd 1 rfl) h32 hb2 hu)) ?_
  rintro _ w58 ⟨rfl, h58⟩
  refine ⟨fun _ => ⟨h58.rd 0 rfl, h58.at_ 2 rfl, trivial⟩, ?_⟩
  refine pR_p 2 [7, 8, 9] [(23, O), (22, (aV ([(sV u.name)] ++ vb (kl u.key) ++ [(D u.life), (D u.renew), (bV u.mesh)]).toArray)), (14, (Value.tuple #[(aV ([(sV u.name)] ++ vb (kl u.key) ++ [(D u.life), (D u.renew), (bV u.mesh)]).toArray), O]))] 2047 hs53 ⟨h58.rd 0 rfl, h58.at_ 2 rfl, trivial⟩ ?_
  refine pR_to 11 none 4095 rfl hs53 (xSs h58 0 95 (.tmp 8) (.tmp 22) 0 ([(sV u.name)] ++ vb (kl u.key) ++ [(D u.life), (D u.renew), (bV u.mesh)]) ([(sV u.name)] ++ vb (kl u.key) ++ [(D u.life), (D u.renew), (bV u.mesh)])) ?_
  rintro _ w59 h59
  refine ⟨fun _ => ⟨h59.rd 0 rfl, h59.at_ 2 rfl, trivial⟩, ?_⟩
  refine pR_to 12 (some 9) 8191 rfl hs53 (OpTo.run O (pureOp_run (by kernel_rfl) _) (R := fun v w => v = O /\ w59 = w) ⟨rfl, rfl⟩) ?_
  rintro _ _ ⟨rfl, rfl⟩
  refine ⟨fun h => absurd h (by decide), ?_⟩
  refine pR_done hs53 ?_ _
  exact hJ6 g57 _ _ _ (pEq 109) (h59.sel [0, 1, 2, 3] [0, 1, 2] (by kernel_rfl) rfl rfl)
theorem as_ok_n {F G : Nat -> Prop} {kb tb bb : Nat} {Kk : Fin 16 -> UInt8} {s : STab} {us : List User} {client : ByteArray} {now nonce till : Int} {P : Option Addr} {pc : Nat} {pre : Bytes} {w : World} (hT : (rTab F tb s).Φ w) (hB : (rBs G bb us).Φ w) (hFG : (rTab F tb s).dj (rBs G bb us)) (hs : Room 9 s) (hK : Blk w kb 73 (kdcC tb bb Kk)) (hd : ¬ F kb) (hv : SB w (.slice P pre.length pc) pre) (hdv : (rSB (.slice P pre.length pc) pre).dj (rTab F tb s)) (h32 : us.length <= 1000000) {u : User} (hb2 : placeB us client = true) (hu : us[placeI us client]? = some u) {t q : Int} (ho : openTh s (kl u.key) 1 pre = .inr (.stamp t q)) (hnear : nearF now t = true) (ht : now < till) (hnow : 0 <= now /\ now <= 1099511627776) (hlife : 0 <= u.life /\ u.life <= 600) (hren : u.renew <= 0) (hnm : u.name.size <= 1000) (K : Fin 16 -> UInt8) (hKK : kl K = mkB 107 (s.keys.length + 1)) {b1 b2 : Bytes} (hp1 : packB (.inside 4 K u.name now (min till (now + u.life)) 0) = .inr b1) (hp2 : packB (.reply 4 K nonce ⟨#[107, 100, 99]⟩ now (min till (now + u.life)) 0) = .inr b2) : Calls Try.prog 14 #[(pt kb 0), (iV .i64 now), (aV ([(sV client), (iV .i64 nonce), (iV .i64 till), (lV P pre.length pc)]).toArray)] w (fun e w' => ∃ A1 c1 A2 c2 F', e = .returned (.tuple #[.agg #[.string u.name, .string ⟨#[107, 100, 99]⟩, .slice A1 16 c1, .slice A2 16 c2], .int .i64 0]) /\ Hp F w w' [] [rTab F' tb (((s.add SFrom.fresh).seal (kl Kk) 2 b1).seal (kl u.key) 3 b2), rSB (.slice A1 16 c1) (mkB 98 (s.boxes.length + 1)), rSB (.slice A2 16 c2) (mkB 98 (s.boxes.length + 2))]) := by
 have h0 := ((((Hp.one (rTab F tb s) hT).addR (rSB (.slice P pre.length pc) pre) hv (fun j r hj => by have h3 := sel1 hj; injection h3 with h3; subst h3; exact hdv)).addR (rBs G bb us) hB (fun j r hj => by have h3 := sel1 hj; injection h3 with h3; subst h3; exact hFG.symm)).addR (rBlk kb 73 (kdcC tb bb Kk)) hK (fun j s hj q h1 h2 => by have h3 := sel1 hj; injection h3 with h3; subst h3; exact hd (by rw [show q = kb from h1] at h2; exact h2)))
 refine enter 106 Try.func14 rfl rfl ?_
 refine wp_reset 109 [(0, (pt kb 0)), (1, (iV .i64 now)), (2, (aV ([(sV client), (iV .i64 nonce), (iV .i64 till), (lV P pre.length pc)]).toArray))] (fun x0 => ?_)
 refine wR fun K1 hK1 => ?_
 refine wT 5 (xN h0 45 ([(sV client), (D nonce), (D till), (lV P pre.length pc)])) ?_
 rintro _ w2 ⟨g2, rfl, h2⟩
 refine wT 6 (xN h2 41 ([(sV ByteArray.empty), (sV ByteArray.empty), (lV none 0 0), (lV none 0 0)])) ?_
 rintro _ w3 ⟨g3, rfl, h3⟩
 refine wq_p 1 [(7, O)] ?_
 refine wE hK1 (wp_seq_k fun K4 hK4 => ?_)
 have hJ6 : ∀ (gJ5_0 : Nat), ∀ (xJ6 : Nat -> Value) (aJ : Act) (wJ6 : World), aJ = patch xJ6 109 [(0, (pt kb 0)), (1, (D now)), (2, (aV ([(sV client), (D nonce), (D till), (lV P pre.length pc)]).toArray)), (5, (pt g2 0)), (6, (pt g3 0)), (7, O), (8, (pt gJ5_0 0)), (9, O)] -> Hp F w wJ6 [rBlk kb 73 ([(Value.iface 24 (pt tb 0)), (pt bb 0)] ++ vb (kl Kk)), rBs G bb us, rSB ((lV P pre.length pc)) pre] [rBlk gJ5_0 95 ([(sV u.name)] ++ vb (kl u.key) ++ [(D u.life), (D u.renew), (bV u.mesh)]), rBlk g3 41 ([(sV ByteArray.empty), (sV ByteArray.empty), (lV none 0 0), (lV none 0 0)]), rBlk g2 45 ([(sV client), (D nonce), (D till), (lV P pre.length pc)]), rTab F tb s] -> K4 aJ wJ6 := by
   rintro gJ5_0 xJ6 _ wJ6 rfl hJh6
   refine seq_n hK4 (wp_seq_k fun K7 hK7 => wR fun K8 hK8 => ?_)
   refine wq_p 2 [(25, (bV false)), (24, O)] ?_
   refine wE hK8 (cF (wp_skip (seq_n hK7 (wp_seq_k fun K9 hK9 => ?_))))
   have hJ11 : ∀ (gJ10_0 : Nat), ∀ (xJ11 : Nat -> Value) (aJ : Act) (wJ11 : World), aJ = patch xJ11 109 [(0, (pt kb 0)), (1, (D now)), (2, (aV ([(sV client), (D nonce), (D till), (lV P pre.length pc)]).toArray)), (5, (pt g2 0)), (6, (pt g3 0)), (7, O), (8, (pt gJ5_0 0)), (9, O), (10, (pt gJ10_0 0)), (25, (bV false))] -> Hp F w wJ11 [rBlk kb 73 ([(Value.iface 24 (pt tb 0)), (pt bb 0)] ++ vb (kl Kk)), rBs G bb us, rSB ((lV P pre.length pc)) pre] [rBlk gJ10_0 49 ([(D t), (D q)]), rBlk gJ5_0 95 ([(sV u.name)] ++ vb (kl u.key) ++ [(D u.life), (D u.renew), (bV u.mesh)]), rBlk g3 41 ([(sV ByteArray.empty), (sV ByteArray.empty), (lV none 0 0), (lV none 0 0)]), rBlk g2 45 ([(sV client), (D nonce), (D till), (lV P pre.length pc)]), rTab F tb s] -> K9 aJ wJ11 := by
     rintro gJ10_0 xJ11 _ wJ11 rfl hJh11
     refine seq_n hK9 (wp_seq_k fun K12 hK12 => wp_block (wR fun K13 hK13 => ?_))
     refine wq_p 3 [(40, (bV false)), (42, (bV false)), (41, O)] ?_
     refine wE hK13 (cF (wR fun K14 hK14 => ?_))
     refine wq_p 2 [(46, (pt gJ10_0 0)), (45, (D now))] (wV 47 (D t) (eL (hJh11.at_ 0 rfl) 2 (.tmp 46) 0 _) ?_)
     refine wT 48 (x_dp (v := .bool true) hJh11 40 [(D now), (D t)] (by kernel_rfl) (hnear ▸ near_any now t _)) ?_
     rintro _ w15 ⟨rfl, h15⟩
     refine wq_p 2 [(44, (bV false)), (49, (bV false))] ?_
     refine wE hK14 (cF (wR fun K16 hK16 => ?_))
     refine wq_p 1 [(52, (pt g2 2))] (wV 53 (D till) (eL (h15.at_ 3 rfl) 2 (.tmp 52) 2 _) (wq_p 1 [(54, (D now))] (wV 55 (.bool false) (eqI (bV (decide (till <= now))) (by simp; omega)) ?_)))
     refine wq_p 1 [(51, (bV false))] ?_
     refine wE hK16 (cF (wp_skip (blk_n (seq_n hK12 (wp_seq_k fun K17 hK17 => ?_)))))
     have hJ19 : ∀ (gJ18_0 : Nat), ∀ (FJ18_1 : Nat -> Prop), ∀ (sJ18_2 : STab), (sJ18_2 = s.add SFrom.fresh) -> (Room 8 sJ18_2) -> ∀ (xJ19 : Nat -> Value) (aJ : Act) (wJ19 : World), aJ = patch xJ19 109 [(0, (pt kb 0)), (1, (D now)), (2, (aV ([(sV client), (D nonce), (D till), (lV P pre.length pc)]).toArray)), (5, (pt g2 0)), (6, (pt g3 0)), (7, O), (8, (pt gJ5_0 0)), (9, O), (10, (pt gJ10_0 0)), (11, (pt gJ18_0 0)), (25, (bV false)), (40, (bV false)), (44, (bV false)), (51, (bV false))] -> Hp F w wJ19 [rBlk kb 73 ([(Value.iface 24 (pt tb 0)), (pt bb 0)] ++ vb (kl Kk)), rBs G bb us, rSB ((lV P pre.length pc)) pre] [rBlk gJ18_0 55 ([(D 4)] ++ vb (kl K) ++ [(sV u.name), (D now), (D (min till (now + u.life))), O]), rBlk gJ10_0 49 ([(D t), (D q)]), rBlk gJ5_0 95 ([(sV u.name)] ++ vb (kl u.key) ++ [(D u.life), (D u.renew), (bV u.mesh)]), rBlk g3 41 ([(sV ByteArray.empty), (sV ByteArray.empty), (lV none 0 0), (lV none 0 0)]), rBlk g2 45 ([(sV client), (D nonce), (D till), (lV P pre.length pc)]), rTab FJ18_1 tb sJ18_2] -> K17 aJ wJ19 := by
       rintro gJ18_0 FJ18_1 sJ18_2 hsJ hrJ xJ19 _ wJ19 rfl hJh19
       refine seq_n hK17 (wp_seq_k fun K20 hK20 => wR fun K21 hK21 => ?_)
       refine wq_p 1 [(73, (pt gJ5_0 18))] (wV 74 (D u.renew) (eL (hJh19.at_ 2 rfl) 2 (.tmp 73) 18 _) (wV 75 (.bool false) (eqI (bV (decide (u.renew > 0))) (by simp; omega)) ?_))
       refine wE hK21 (cF (wp_skip (seq_n hK20 (wp_seq_k fun K22 hK22 => ?_))))
       have hJ24 : ∀ (gJ23_0 : Nat), ∀ (BJ23_1 : Option Addr), ∀ (dJ23_2 : Nat), ∀ (AJ23_3 : Option Addr), ∀ (cJ23_4 : Nat), ∀ (FJ23_5 : Nat -> Prop), ∀ (xJ24 : Nat -> Value) (aJ : Act) (wJ24 : World), aJ = patch xJ24 109 [(0, (pt kb 0)), (1, (D now)), (2, (aV ([(sV client), (D nonce), (D till), (lV P pre.length pc)]).toArray)), (5, (pt g2 0)), (6, (pt g3 0)), (7, O), (8, (pt gJ5_0 0)), (9, O), (10, (pt gJ10_0 0)), (11, (pt gJ18_0 0)), (12, (pt gJ23_0 0)), (13, (lV BJ23_1 16 dJ23_2)), (25, (bV false)), (40, (bV false)), (44, (bV false)), (51, (bV false)), (75, (bV false))] -> Hp F w wJ24 [rBlk kb 73 ([(Value.iface 24 (pt tb 0)), (pt bb 0)] ++ vb (kl Kk)), rBs G bb us, rSB ((lV P pre.length pc)) pre] [rBlk gJ23_0 39 ([(sV (⟨#[107, 100, 99]⟩)), (lV AJ23_3 16 cJ23_4)]), rTab FJ23_5 tb ((STab.seal (STab.seal sJ18_2 (kl Kk) 2 b1) (kl u.key) 3 b2)), rSB ((lV AJ23_3 16 cJ23_4)) (mkB 98 (sJ18_2.boxes.length + 1)), rSB ((lV BJ23_1 16 dJ23_2)) (mkB 98 (sJ18_2.boxes.length + 2)), rBlk gJ18_0 55 ([(D 4)] ++ vb (kl K) ++ [(sV u.name), (D now), (D (min till (now + u.life))), O]), rBlk gJ10_0 49 ([(D t), (D q)]), rBlk gJ5_0 95 ([(sV u.name)] ++ vb (kl u.key) ++ [(D u.life), (D u.renew), (bV u.mesh)]), rBlk g3 41 ([(sV ByteArray.empty), (sV ByteArray.empty), (lV none 0 0), (lV none 0 0)]), rBlk g2 45 ([(sV client), (D nonce), (D till), (lV P pre.length pc)])] -> K22 aJ wJ24 := by
         rintro gJ23_0 BJ23_1 dJ23_2 AJ23_3 cJ23_4 FJ23_5 xJ24 _ wJ24 rfl hJh24
         refine seq_n hK22 (wp_seq_k fun K25 hK25 => wR fun K26 hK26 => ?_)
         refine wq_p 2 [(101, (bV false)), (100, O)] ?_
         refine wE hK26 (cF (wp_skip (seq_n hK25 (wR fun K27 hK27 => ?_))))
         refine wq_p 1 [(104, (pt gJ5_0 0))] (wV 105 (sV u.name) (eL (hJh24.at_ 6 rfl) 9 (.tmp 104) 0 _) (wV 106 (aV ([(sV (⟨#[107, 100, 99]⟩)), (lV AJ23_3 16 cJ23_4)]).toArray) (eLs (hJh24.at_ 0 rfl) 39 (.tmp 12) 0 ([(sV (⟨#[107, 100, 99]⟩)), (lV AJ23_3 16 cJ23_4)])) (wq_p 2 [(108, (aV ([(sV u.name), (sV (⟨#[107, 100, 99]⟩)), (lV AJ23_3 16 cJ23_4), (lV BJ23_1 16 dJ23_2)]).toArray)), (107, (lV BJ23_1 16 dJ23_2))] ?_)))
         refine wq_to none (xSs hJh24 7 41 (.tmp 6) (.tmp 108) 0 ([(sV u.name), (sV (⟨#[107, 100, 99]⟩)), (lV AJ23_3 16 cJ23_4), (lV BJ23_1 16 dJ23_2)]) ([(sV u.name), (sV (⟨#[107, 100, 99]⟩)), (lV AJ23_3 16 cJ23_4), (lV BJ23_1 16 dJ23_2)])) ?_
         rintro _ w28 h28
         refine wq_p 1 [(7, O)] ?_
         refine wE hK27 (wp_ret ?_)
         refine post_2 rfl (by kernel_rfl) (rce (h28.at_ 7 rfl)) (rtm (iV .i64 0)) ?_
         subst hsJ
         exact ⟨_, _, _, _, _, rfl, h28.sel [1, 2, 3] [] rfl rfl rfl⟩
       refine pR_go hJh19 18 (fun W => (rBlk kb 73 ([(Value.iface 24 (pt tb 0)), (pt bb 0)] ++ vb (kl Kk))).Φ W /\ (rBlk gJ18_0 55 ([(D 4)] ++ vb (kl K) ++ [(sV u.name), (D now), (D (min till (now + u.life))), O])).Φ W /\ (rBlk g2 45 ([(sV client), (D nonce), (D till), (lV P pre.length pc)])).Φ W /\ (rBlk gJ5_0 95 ([(sV u.name)] ++ vb (kl u.key) ++ [(D u.life), (D u.renew), (bV u.mesh)])).Φ W /\ True) [(87, [0], 0), (88, [0], 0), (89, [87], 2), (90, [88], 4), (91, [89], 8), (92, [11], 0), (93, [5], 0), (94, [92], 64), (95, [8], 0), (96, [94], 256), (97, [86, 90, 91, 93, 95], 689), (86, [96], 1024), (98, [85], 2048), (99, [85], 2048), (100, [85], 2048), (13, [], 0), (0, [12, 97], 40959), (14, [98], 114687), (10, [99], 262143)] rfl (fun _ d _ _ _ h => by cases d <;> exact h) ?_
       intro hs29 w29 h29
       refine pR_p 13 [0, 1, 2, 3, 6, 8] [(94, (pt gJ5_0 1)), (92, (pt g2 1)), (89, (pt kb 2)), (88, (pt kb 0)), (87, (pt kb 0)), (86, (pt kb 0))] 335 hs29 ⟨h29.rd 0 rfl, h29.at_ 0 rfl, h29.at_ 4 rfl, h29.at_ 2 rfl, trivial⟩ ?_
       refine pR_v 4 (some 90) (aV (vb (kl Kk)).toArray) 351 rfl hs29 ⟨h29.rd 0 rfl, h29.at_ 0 rfl, h29.at_ 4 rfl, h29.at_ 2 rfl, trivial⟩ (fun W hW => eLs hW.1 32 (.tmp 89) 2 (vb (kl Kk))) ?_
       refine pR_v 5 (some 91) (aV ([(D 4)] ++ vb (kl K) ++ [(sV u.name), (D now), (D (min till (now + u.life))), O]).toArray) 383 rfl hs29 ⟨h29.rd 0 rfl, h29.at_ 0 rfl, h29.at_ 4 rfl, h29.at_ 2 rfl, trivial⟩ (fun W hW => eLs hW.2.1 55 (.tmp 11) 0 ([(D 4)] ++ vb (kl K) ++ [(sV u.name), (D now), (D (min till (now + u.life))), O])) ?_
       refine pR_v 7 (some 93) (D nonce) 511 rfl hs29 ⟨h29.rd 0 rfl, h29.at_ 0 rfl, h29.at_ 4 rfl, h29.at_ 2 rfl, trivial⟩ (fun W hW => eL hW.2.2.1 2 (.tmp 92) 1 _) ?_
       refine pR_v 9 (some 95) (aV (vb (kl u.key)).toArray) 1023 rfl hs29 ⟨h29.rd 0 rfl, h29.at_ 0 rfl, h29.at_ 4 rfl, h29.at_ 2 rfl, trivial⟩ (fun W hW => eLs hW.2.2.2.1 32 (.tmp 94) 1 (vb (kl u.key))) ?_
       refine pR_or 10 15 hs29 ?_ ?_
       ·
        refine pR_op 10 (some 96) 2047 rfl (x_give h29 5 rfl [(pt kb 0), (sV (⟨#[107, 100, 99]⟩)), (aV (vb (kl Kk)).toArray), (aV ([(D 4)] ++ vb (kl K) ++ [(sV u.name), (D now), (D (min till (now + u.life))), O]).toArray), (D nonce), (aV (vb (kl u.key)).toArray), (D 3)] (by kernel_rfl) (give_ok (h29.at_ 5 rfl) (hrJ.less (by decide)) (h29.rd 0 rfl) (fun hq => h29.rdis 0 5 _ _ rfl rfl kb rfl hq) (by omega) (by decide) hp1 hp2)) ?_
        rintro _ w30 ⟨A30, c30, B30, d30, F30, rfl, h30⟩
        refine ⟨fun _ => ⟨h30.rd 0 rfl, h30.at_ 3 rfl, h30.at_ 7 rfl, h30.at_ 5 rfl, trivial⟩, ?_⟩
        refine pR_p 4 [11, 12, 13, 14] [(99, O), (98, (lV B30 16 d30)), (97, (aV ([(sV (⟨#[107, 100, 99]⟩)), (lV A30 16 c30)]).toArray)), (85, (Value.tuple #[(aV ([(sV (⟨#[107, 100, 99]⟩)), (lV A30 16 c30)]).toArray), (lV B30 16 d30), O]))] 32767 hs29 ⟨h30.rd 0 rfl, h30.at_ 3 rfl, h30.at_ 7 rfl, h30.at_ 5 rfl, trivial⟩ ?_
        refine pR_to 15 (some 12) 65535 rfl hs29 (xN h30 39 ([(sV ByteArray.empty), (lV none 0 0)])) ?_
        rintro _ w31 ⟨g31, rfl, h31⟩
        refine ⟨fun _ => ⟨h31.rd 0 rfl, h31.at_ 4 rfl, h31.at_ 8 rfl, h31.at_ 6 rfl, trivial⟩, ?_⟩
        refine pR_to 16 none 131071 rfl hs29 (xSs h31 0 39 (.tmp 12) (.tmp 97) 0 ([(sV (⟨#[107, 100, 99]⟩)), (lV A30 16 c30)]) ([(sV (⟨#[107, 100, 99]⟩)), (lV A30 16 c30)])) ?_
        rintro _ w32 h32
        refine ⟨fun _ => ⟨h32.rd 0 rfl, h32.at_ 4 rfl, h32.at_ 8 rfl, h32.at_ 6 rfl, trivial⟩, ?_⟩
        refine pR_p 1 [17] [(13, (lV B30 16 d30))] 262143 hs29 ⟨h32.rd 0 rfl, h32.at_ 4 rfl, h32.at_ 8 rfl, h32.at_ 6 rfl, trivial⟩ ?_
        refine pR_to 18 (some 9) 524287 rfl hs29 (OpTo.run O (pureOp_run (by kernel_rfl) _) (R := fun v w => v = O /\ w32 = w) ⟨rfl, rfl⟩) ?_
        rintro _ _ ⟨rfl, rfl⟩
        refine ⟨fun h => absurd h (by decide), ?_⟩
        refine pR_done hs29 ?_ _
        exact hJ24 g31 B30 d30 A30 c30 F30 _ _ _ (pEq 109) (h32.sel [0, 1, 2, 3, 4, 5, 6, 7, 8] [0, 1, 2] (by kernel_rfl) rfl rfl)
       ·
        refine pR_op 15 (some 12) 33791 rfl (xN h29 39 ([(sV ByteArray.empty), (lV none 0 0)])) ?_
        rintro _ w33 ⟨g33, rfl, h33⟩
        refine ⟨fun _ => ⟨h33.rd 0 rfl, h33.at_ 1 rfl, h33.at_ 5 rfl, h33.at_ 3 rfl, trivial⟩, ?_⟩
        refine pR_to 10 (some 96) 34815 rfl hs29 (x_give h33 6 rfl [(pt kb 0), (sV (⟨#[107, 100, 99]⟩)), (aV (vb (kl Kk)).toArray), (aV ([(D 4)] ++ vb (kl K) ++ [(sV u.name), (D now), (D (min till (now + u.life))), O]).toArray), (D nonce), (aV (vb (kl u.key)).toArray), (D 3)] (by kernel_rfl) (give_ok (h33.at_ 6 rfl) (hrJ.less (by decide)) (h33.rd 0 rfl) (fun hq => h33.rdis 0 6 _ _ rfl rfl kb rfl hq) (by omega) (by decide) hp1 hp2)) ?_
        rintro _ w34 ⟨A34, c34, B34, d34, F34, rfl, h34⟩
        refine ⟨fun _ => ⟨h34.rd 0 rfl, h34.at_ 4 rfl, h34.at_ 8 rfl, h34.at_ 6 rfl, trivial⟩, ?_⟩
        refine pR_p 3 [11, 12, 13, 14] [(99, O), (98, (lV B34 16 d34)), (97, (aV ([(sV (⟨#[107, 100, 99]⟩)), (lV A34 16 c34)]).toArray)), (85, (Value.tuple #[(aV ([(sV (⟨#[107, 100, 99]⟩)), (lV A34 16 c34)]).toArray), (lV B34 16 d34), O]))] 65535 hs29 ⟨h34.rd 0 rfl, h34.at_ 4 rfl, h34.at_ 8 rfl, h34.at_ 6 rfl, trivial⟩ ?_
        refine pR_to 16 none 131071 rfl hs29 (xSs h34 3 39 (.tmp 12) (.tmp 97) 0 ([(sV (⟨#[107, 100, 99]⟩)), (lV A34 16 c34)]) ([(sV (⟨#[107, 100, 99]⟩)), (lV A34 16 c34)])) ?_
        rintro _ w35 h35
        refine ⟨fun _ => ⟨h35.rd 0 rfl, h35.at_ 4 rfl, h35.at_ 8 rfl, h35.at_ 6 rfl, trivial⟩, ?_⟩
        refine pR_p 1 [17] [(13, (lV B34 16 d34))] 262143 hs29 ⟨h35.rd 0 rfl, h35.at_ 4 rfl, h35.at_ 8 rfl, h35.at_ 6 rfl, trivial⟩ ?_
        refine pR_to 18 (some 9) 524287 rfl hs29 (OpTo.run O (pureOp_run (by kernel_rfl) _) (R := fun v w => v = O /\ w35 = w) ⟨rfl, rfl⟩) ?_
        rintro _ _ ⟨rfl, rfl⟩
        refine ⟨fun h => absurd h (by decide), ?_⟩
        refine pR_done hs29 ?_ _
        exact hJ24 g33 B34 d34 A34 c34 F34 _ _ _ (pEq 109) (h35.sel [3, 0, 1, 2, 4, 5, 6, 7, 8] [0, 1, 2] (by kernel_rfl) rfl rfl)
     refine pR_go h15 17 (fun W => (rBlk kb 73 ([(Value.iface 24 (pt tb 0)), (pt bb 0)] ++ vb (kl Kk))).Φ W /\ (rBlk gJ5_0 95 ([(sV u.name)] ++ vb (kl u.key) ++ [(D u.life), (D u.renew), (bV u.mesh)])).Φ W /\ (rBlk g2 45 ([(sV client), (D nonce), (D till), (lV P pre.length pc)])).Φ W /\ True) [(58, [0], 0), (59, [57], 1), (60, [58], 2), (61, [59], 4), (62, [60], 8), (63, [8], 0), (64, [62], 32), (65, [1], 0), (66, [5], 0), (67, [65], 256), (68, [1], 0), (69, [8], 0), (70, [68], 2048), (71, [67, 69], 5120), (72, [66, 70], 8704), (73, [61, 63, 64, 71], 16592), (12, [], 0), (0, [11, 72], 131071)] rfl (fun _ d _ _ _ h => by cases d <;> exact h) ?_
     intro hs36 w36 h36
     refine pR_p 10 [0, 1, 2, 5, 7, 8, 10, 11] [(68, (pt gJ5_0 17)), (67, (D now)), (65, (pt g2 2)), (64, (D now)), (62, (pt gJ5_0 0)), (59, (pt kb 0)), (58, (pt kb 0)), (57, (pt kb 0))] 3495 hs36 ⟨h36.rd 0 rfl, h36.at_ 1 rfl, h36.at_ 3 rfl, trivial⟩ ?_
     refine pR_v 3 (some 60) (Value.iface 24 (pt tb 0)) 3503 rfl hs36 ⟨h36.rd 0 rfl, h36.at_ 1 rfl, h36.at_ 3 rfl, trivial⟩ (fun W hW => eL hW.1 70 (.tmp 59) 0 _) ?_
     refine pR_v 6 (some 63) (sV u.name) 3567 rfl hs36 ⟨h36.rd 0 rfl, h36.at_ 1 rfl, h36.at_ 3 rfl, trivial⟩ (fun W hW => eL hW.2.1 9 (.tmp 62) 0 _) ?_
     refine pR_v 9 (some 66) (D till) 4079 rfl hs36 ⟨h36.rd 0 rfl, h36.at_ 1 rfl, h36.at_ 3 rfl, trivial⟩ (fun W hW => eL hW.2.2.1 2 (.tmp 65) 2 _) ?_
     refine pR_v 12 (some 69) (D u.life) 8175 rfl hs36 ⟨h36.rd 0 rfl, h36.at_ 1 rfl, h36.at_ 3 rfl, trivial⟩ (fun W hW => eL hW.2.1 2 (.tmp 68) 17 _) ?_
     refine pR_v 13 (some 70) (D (now + u.life)) 16367 rfl hs36 ⟨h36.rd 0 rfl, h36.at_ 1 rfl, h36.at_ 3 rfl, trivial⟩ (fun W hW => exec_add _ _ _ _ rfl now u.life (by kernel_rfl) (by kernel_rfl) (now + u.life) rfl (by omega) (by omega) _) ?_
     refine pR_v 14 (some 71) (D (min till (now + u.life))) 32751 rfl hs36 ⟨h36.rd 0 rfl, h36.at_ 1 rfl, h36.at_ 3 rfl, trivial⟩ (fun W hW => e_min (.tmp 66) (.tmp 70) #[2, 2] (by kernel_rfl) .i64 .i64 till (now + u.life) (by kernel_rfl) (by kernel_rfl) (min till (now + u.life)) (by split <;> omega) _) ?_
     refine pR_or 4 16 hs36 ?_ ?_
     ·
      refine pR_op 4 (some 61) 32767 rfl (x_fresh h36 4 rfl  (by kernel_rfl) hs.keys) ?_
      rintro _ w37 ⟨K37, F37, s37, rfl, hK37, hs37, h37⟩
      refine ⟨fun _ => ⟨h37.rd 0 rfl, h37.at_ 1 rfl, h37.at_ 3 rfl, trivial⟩, ?_⟩
      obtain rfl : K = K37 := kl_inj (hKK.trans hK37.symm)
      have hr37 : Room 8 s37 := by rw [hs37]; exact hs.add _
      refine pR_p 2 [15] [(72, (aV ([(D 4)] ++ vb (kl K) ++ [(sV u.name), (D now), (D (min till (now + u.life))), O]).toArray))] 65535 hs36 ⟨h37.rd 0 rfl, h37.at_ 1 rfl, h37.at_ 3 rfl, trivial⟩ ?_
      refine pR_to 16 (some 11) 131071 rfl hs36 (xN h37 55 ([O] ++ vb (List.replicate 16 0) ++ [(sV ByteArray.empty), O, O, O])) ?_
      rintro _ w38 ⟨g38, rfl, h38⟩
      refine ⟨fun _ => ⟨h38.rd 0 rfl, h38.at_ 2 rfl, h38.at_ 4 rfl, trivial⟩, ?_⟩
      refine pR_to 17 none 262143 rfl hs36 (xSs h38 0 55 (.tmp 11) (.tmp 72) 0 ([(D 4)] ++ vb (kl K) ++ [(sV u.name), (D now), (D (min till (now + u.life))), O]) ([(D 4)] ++ vb (kl K) ++ [(sV u.name), (D now), (D (min till (now + u.life))), O])) ?_
      rintro _ w39 h39
      refine ⟨fun h => absurd h (by decide), ?_⟩
      refine pR_done hs36 ?_ _
      exact hJ19 g38 F37 s37 hs37 hr37 _ _ _ (pEq 109) (h39.sel [0, 1, 2, 3, 4, 5] [0, 1, 2] (by kernel_rfl) rfl rfl)
     ·
      refine pR_op 16 (some 11) 98287 rfl (xN h36 55 ([O] ++ vb (List.replicate 16 0) ++ [(sV ByteArray.empty), O, O, O])) ?_
      rintro _ w40 ⟨g40, rfl, h40⟩
      refine ⟨fun _ => ⟨h40.rd 0 rfl, h40.at_ 2 rfl, h40.at_ 4 rfl, trivial⟩, ?_⟩
      refine pR_to 4 (some 61) 98303 rfl hs36 (x_fresh h40 5 rfl  (by kernel_rfl) hs.keys) ?_
      rintro _ w41 ⟨K41, F41, s41, rfl, hK41, hs41, h41⟩
      refine ⟨fun _ => ⟨h41.rd 0 rfl, h41.at_ 2 rfl, h41.at_ 4 rfl, trivial⟩, ?_⟩
      obtain rfl : K = K41 := kl_inj (hKK.trans hK41.symm)
      have hr41 : Room 8 s41 := by rw [hs41]; exact hs.add _
      refine pR_p 1 [15] [(72, (aV ([(D 4)] ++ vb (kl K) ++ [(sV u.name), (D now), (D (min till (now + u.life))), O]).toArray))] 131071 hs36 ⟨h41.rd 0 rfl, h41.at_ 2 rfl, h41.at_ 4 rfl, trivial⟩ ?_
      refine pR_to 17 none 262143 rfl hs36 (xSs h41 0 55 (.tmp 11) (.tmp 72) 0 ([(D 4)] ++ vb (kl K) ++ [(sV u.name), (D now), (D (min till (now + u.life))), O]) ([(D 4)] ++ vb (kl K) ++ [(sV u.name), (D now), (D (min till (now + u.life))), O])) ?_
      rintro _ w42 h42
      refine ⟨fun h => absurd h (by decide), ?_⟩
      refine pR_done hs36 ?_ _
      exact hJ19 g40 F41 s41 hs41 hr41 _ _ _ (pEq 109) (h42.sel [0, 1, 2, 3, 4, 5] [0, 1, 2] (by kernel_rfl) rfl rfl)
   refine pR_go hJh6 14 (fun W => (rBlk kb 73 ([(Value.iface 24 (pt tb 0)), (pt bb 0)] ++ vb (kl Kk))).Φ W /\ (rBlk gJ5_0 95 ([(sV u.name)] ++ vb (kl u.key) ++ [(D u.life), (D u.renew), (bV u.mesh)])).Φ W /\ (rBlk g2 45 ([(sV client), (D nonce), (D till), (lV P pre.length pc)])).Φ W /\ True) [(30, [0], 0), (31, [29], 1), (32, [30], 2), (33, [31], 4), (34, [8], 0), (35, [33], 16), (36, [5], 0), (37, [35], 64), (38, [32, 34, 36], 168), (29, [37], 256), (39, [28], 512), (40, [28], 512), (11, [], 0), (0, [10, 38], 6143), (10, [39], 16383)] rfl (fun _ d _ _ _ h => by cases d <;> exact h) ?_
   intro hs43 w43 h43
   refine pR_p 10 [0, 1, 2, 4, 6] [(35, (pt g2 3)), (33, (pt gJ5_0 1)), (31, (pt kb 0)), (30, (pt kb 0)), (29, (pt kb 0))] 87 hs43 ⟨h43.rd 0 rfl, h43.at_ 0 rfl, h43.at_ 2 rfl, trivial⟩ ?_
   refine pR_v 3 (some 32) (Value.iface 24 (pt tb 0)) 95 rfl hs43 ⟨h43.rd 0 rfl, h43.at_ 0 rfl, h43.at_ 2 rfl, trivial⟩ (fun W hW => eL hW.1 70 (.tmp 31) 0 _) ?_
   refine pR_v 5 (some 34) (aV (vb (kl u.key)).toArray) 127 rfl hs43 ⟨h43.rd 0 rfl, h43.at_ 0 rfl, h43.at_ 2 rfl, trivial⟩ (fun W hW => eLs hW.2.1 32 (.tmp 33) 1 (vb (kl u.key))) ?_
   refine pR_v 7 (some 36) (lV P pre.length pc) 255 rfl hs43 ⟨h43.rd 0 rfl, h43.at_ 0 rfl, h43.at_ 2 rfl, trivial⟩ (fun W hW => eL hW.2.2.1 22 (.tmp 35) 3 _) ?_
   refine pR_or 8 12 hs43 ?_ ?_
   ·
    refine pR_op 8 (some 37) 511 rfl (x_oStamp h43 3 rfl u.key 1 (by kernel_rfl) hs.ok (h43.rd 2 rfl) ho) ?_
    rintro _ w44 ⟨rfl, h44⟩
    refine ⟨fun _ => ⟨h44.rd 0 rfl, h44.at_ 0 rfl, h44.at_ 2 rfl, trivial⟩, ?_⟩
    refine pR_p 3 [9, 10, 11] [(39, O), (38, (aV ([(D t), (D q)]).toArray)), (28, (Value.tuple #[(aV ([(D t), (D q)]).toArray), O]))] 4095 hs43 ⟨h44.rd 0 rfl, h44.at_ 0 rfl, h44.at_ 2 rfl, trivial⟩ ?_
    refine pR_to 12 (some 10) 8191 rfl hs43 (xN h44 49 ([O, O])) ?_
    rintro _ w45 ⟨g45, rfl, h45⟩
    refine ⟨fun _ => ⟨h45.rd 0 rfl, h45.at_ 1 rfl, h45.at_ 3 rfl, trivial⟩, ?_⟩
    refine pR_to 13 none 16383 rfl hs43 (xSs h45 0 49 (.tmp 10) (.tmp 38) 0 ([(D t), (D q)]) ([(D t), (D q)])) ?_
    rintro _ w46 h46
    refine ⟨fun _ => ⟨h46.rd 0 rfl, h46.at_ 1 rfl, h46.at_ 3 rfl, trivial⟩, ?_⟩
    refine pR_to 14 (some 9) 32767 rfl hs43 (OpTo.run O (pureOp_run (by kernel_rfl) _) (R := fun v w => v = O /\ w46 = w) ⟨rfl, rfl⟩) ?_
    rintro _ _ ⟨rfl, rfl⟩
    refine ⟨fun h => absurd h (by decide), ?_⟩
    refine pR_done hs43 ?_ _
    exact hJ11 g45 _ _ _ (pEq 109) (h46.sel [0, 1, 2, 3, 4] [0, 1, 2] (by kernel_rfl) rfl rfl)
   ·
    refine pR_op 12 (some 10) 4351 rfl (xN h43 49 ([O, O])) ?_
    rintro _ w47 ⟨g47, rfl, h47⟩
    refine ⟨fun _ => ⟨h47.rd 0 rfl, h47.at_ 1 rfl, h47.at_ 3 rfl, trivial⟩, ?_⟩
    refine pR_to 8 (some 37) 4607 rfl hs43 (x_oStamp h47 4 rfl u.key 1 (by kernel_rfl) hs.ok (h47.rd 2 rfl) ho) ?_
    rintro _ w48 ⟨rfl, h48⟩
    refine ⟨fun _ => ⟨h48.rd 0 rfl, h48.at_ 1 rfl, h48.at_ 3 rfl, trivial⟩, ?_⟩
    refine pR_p 2 [9, 10, 11] [(39, O), (38, (aV ([(D t), (D q)]).toArray)), (28, (Value.tuple #[(aV ([(D t), (D q)]).toArray), O]))] 8191 hs43 ⟨h48.rd 0 rfl, h48.at_ 1 rfl, h48.at_ 3 rfl, trivial⟩ ?_
    refine pR_to 13 none 16383 rfl hs43 (xSs h48 0 49 (.tmp 10) (.tmp 38) 0 ([(D t), (D q)]) ([(D t), (D q)])) ?_
    rintro _ w49 h49
    refine ⟨fun _ => ⟨h49.rd 0 rfl, h49.at_ 1 rfl, h49.at_ 3 rfl, trivial⟩, ?_⟩
    refine pR_to 14 (some 9) 32767 rfl hs43 (OpTo.run O (pureOp_run (by kernel_rfl) _) (R := fun v w => v = O /\ w49 = w) ⟨rfl, rfl⟩) ?_
    rintro _ _ ⟨rfl, rfl⟩
    refine ⟨fun h => absurd h (by decide), ?_⟩
    refine pR_done hs43 ?_ _
    exact hJ11 g47 _ _ _ (pEq 109) (h49.sel [0, 1, 2, 3, 4] [0, 1, 2] (by kernel_rfl) rfl rfl)
 refine pR_go h3 12 (fun W => (rBlk kb 73 ([(Value.iface 24 (pt tb 0)), (pt bb 0)] ++ vb (kl Kk))).Φ W /\ (rBlk g2 45 ([(sV client), (D nonce), (D till), (lV P pre.length pc)])).Φ W /\ True) [(16, [0], 0), (17, [15], 1), (18, [16], 2), (19, [17], 4), (20, [5], 0), (21, [19], 16), (22, [18, 20], 40), (15, [21], 64), (23, [14], 128), (24, [14], 128), (9, [], 0), (0, [8, 22], 1535), (10, [23], 4095)] rfl (fun _ d _ _ _ h => by cases d <;> exact h) ?_
 intro hs50 w50 h50
 refine pR_p 9 [0, 1, 2, 4] [(19, (pt g2 0)), (17, (pt kb 1)), (16, (pt kb 0)), (15, (pt kb 0))] 23 hs50 ⟨h50.rd 0 rfl, h50.at_ 1 rfl, trivial⟩ ?_
 refine pR_v 3 (some 18) (pt bb 0) 31 rfl hs50 ⟨h50.rd 0 rfl, h50.at_ 1 rfl, trivial⟩ (fun W hW => eL hW.1 71 (.tmp 17) 1 _) ?_
 refine pR_v 5 (some 20) (sV client) 63 rfl hs50 ⟨h50.rd 0 rfl, h50.at_ 1 rfl, trivial⟩ (fun W hW => eL hW.2.1 9 (.tmp 19) 0 _) ?_
 refine pR_or 6 10 hs50 ?_ ?_
 ·
  refine pR_op 6 (some 21) 127 rfl (x_bget h50 [(pt bb 0), (sV client)] (by kernel_rfl) (get_yes (h50.rd 1 rfl) h32 hb2 hu)) ?_
  rintro _ w51 ⟨rfl, h51⟩
  refine ⟨fun _ => ⟨h51.rd 0 rfl, h51.at_ 1 rfl, trivial⟩, ?_⟩
  refine pR_p 3 [7, 8, 9] [(23, O), (22, (aV ([(sV u.name)] ++ vb (kl u.key) ++ [(D u.life), (D u.renew), (bV u.mesh)]).toArray)), (14, (Value.tuple #[(aV ([(sV u.name)] ++ vb (kl u.key) ++ [(D u.life), (D u.renew), (bV u.mesh)]).toArray), O]))] 1023 hs50 ⟨h51.rd 0 rfl, h51.at_ 1 rfl, trivial⟩ ?_
  refine pR_to 10 (some 8) 2047 rfl hs50 (xN h51 95 ([(sV ByteArray.empty)] ++ vb (List.replicate 16 0) ++ [O, O, (bV false)])) ?_
  rintro _ w52 ⟨g52, rfl, h52⟩
  refine ⟨fun _ => ⟨h52.rd 0 rfl, h52.at_ 2 rfl, trivial⟩, ?_⟩
  refine pR_to 11 none 4095 rfl hs50 (xSs h52 0 95 (.tmp 8) (.tmp 22) 0 ([(sV u.name)] ++ vb (kl u.key) ++ [(D u.life), (D u.renew), (bV u.mesh)]) ([(sV u.name)] ++ vb (kl u.key) ++ [(D u.life), (D u.renew), (bV u.mesh)])) ?_
  rintro _ w53 h53
  refine ⟨fun _ => ⟨h53.rd 0 rfl, h53.at_ 2 rfl, trivial⟩, ?_⟩
  refine pR_to 12 (some 9) 8191 rfl hs50 (OpTo.run O (pureOp_run (by kernel_rfl) _) (R := fun v w => v = O /\ w53 = w) ⟨rfl, rfl⟩) ?_
  rintro _ _ ⟨rfl, rfl⟩
  refine ⟨fun h => absurd h (by decide), ?_⟩
  refine pR_done hs50 ?_ _
  exact hJ6 g52 _ _ _ (pEq 109) (h53.sel [0, 1, 2, 3] [0, 1, 2] (by kernel_rfl) rfl rfl)
 ·
  refine pR_op 10 (some 8) 1087 rfl (xN h50 95 ([(sV ByteArray.empty)] ++ vb (List.replicate 16 0) ++ [O, O, (bV false)])) ?_
  rintro _ w54 ⟨g54, rfl, h54⟩
  refine ⟨fun _ => ⟨h54.rd 0 rfl, h54.at_ 2 rfl, trivial⟩, ?_⟩
  refine pR_to 6 (some 21) 1151 rfl hs50 (x_bget h54 [(pt bb 0), (sV client)] (by kernel_rfl) (get_yes (h54.rd 1 rfl) h32 hb2 hu)) ?_
  rintro _ w55 ⟨rfl, h55⟩
  refine ⟨fun _ => ⟨h55.rd 0 rfl, h55.at_ 2 rfl, trivial⟩, ?_⟩
  refine pR_p 2 [7, 8, 9] [(23, O), (22, (aV ([(sV u.name)] ++ vb (kl u.key) ++ [(D u.life), (D u.renew), (bV u.mesh)]).toArray)), (14, (Value.tuple #[(aV ([(sV u.name)] ++ vb (kl u.key) ++ [(D u.life), (D u.renew), (bV u.mesh)]).toArray), O]))] 2047 hs50 ⟨h55.rd 0 rfl, h55.at_ 2 rfl, trivial⟩ ?_
  refine pR_to 11 none 4095 rfl hs50 (xSs h55 0 95 (.tmp 8) (.tmp 22) 0 ([(sV u.name)] ++ vb (kl u.key) ++ [(D u.life), (D u.renew), (bV u.mesh)]) ([(sV u.name)] ++ vb (kl u.key) ++ [(D u.life), (D u.renew), (bV u.mesh)])) ?_
  rintro _ w56 h56
  refine ⟨fun _ => ⟨h56.rd 0 rfl, h56.at_ 2 rfl, trivial⟩, ?_⟩
  refine pR_to 12 (some 9) 8191 rfl hs50 (OpTo.run O (pureOp_run (by kernel_rfl) _) (R := fun v w => v = O /\ w56 = w) ⟨rfl, rfl⟩) ?_
  rintro _ _ ⟨rfl, rfl⟩
  refine ⟨fun h => absurd h (by decide), ?_⟩
  refine pR_done hs50 ?_ _
  exact hJ6 g54 _ _ _ (pEq 109) (h56.sel [0, 1, 2, 3] [0, 1, 2] (by kernel_rfl) rfl rfl)
end
end Go.Proofs.Ytecomegocafocaa
