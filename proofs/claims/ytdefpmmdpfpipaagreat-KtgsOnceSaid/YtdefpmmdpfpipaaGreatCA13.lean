/- The law's helpers: open. -/
import Derived.Laws.Cover1
import Derived.Test.YtdefpmmdpfpipaaGreatCA12
set_option maxRecDepth 100000
set_option maxHeartbeats 4000000
namespace Go.Proofs.YtdefpmmdpfpipaaGreat
section
open Go.RowKit Go.QT
section
variable {o : Oper} {a : Act} {F0 : Nat -> Prop} {w0 w : World} {ro rs : List Res}
theorem x_equalT (h : Hp F0 w0 w ro rs) {l m : Bytes} {u v : Value} (b : Bool) (hp : pureVal Tryz.prog (execOp a.eval o) = some (.enter 49 #[u, v])) (hu : SB w u l) (hv : SB w v m) (hb : decide (l = m) = b) : OpTo Tryz.prog o a w (fun x w' => x = .bool b /\ Hp F0 w0 w' ro rs) := by
 subst hb
 exact OpTo.enter 49 [u, v] hp (equal_any u v l m w hu hv) fun e w' hq => ⟨_, hq.1, rfl, hq.2 ▸ h⟩
/-- Show, at a caller. -/
theorem x_show (h : Hp F0 w0 w ro rs) (i : Nat) {G : Nat -> Prop} {cb most : Nat} {l : List Sh} (hi : rs[i]? = some (rCa G cb most l)) (rr : Nat × List Sh) (al : List Value) (hp : pureVal Tryz.prog (execOp a.eval o) = some (.enter 50 al.toArray)) (hc : Calls Tryz.prog 50 al.toArray w (ShPost G cb most w rr)) :
   OpTo Tryz.prog o a w (fun u w' => ∃ G', u = .int .i64 (rr.1 : Int) /\ Hp F0 w0 w' ro (rCa G' cb most rr.2 :: rs.eraseIdx i)) :=
 OpTo.enter 50 al hp hc fun e w' hq => by
   obtain ⟨he, G', h2⟩ := hq
   exact ⟨_, he, G', rfl, h.call1 i hi h2⟩
end
/-- What who leaves. -/
def WhPost (F G : Nat -> Prop) (tb cb most : Nat) (v : Value) (s2 : STab) (rr : Nat × List Sh) (w : World) (e : Ending) (w' : World) : Prop :=
 ∃ F' G', e = .returned (.tuple #[v, .int .i64 (rr.1 : Int)]) /\ Hp (fun q => F q ∨ G q) w w' [] [rTab F' tb s2, rCa G' cb most rr.2]
theorem x_who {o : Oper} {a : Act} {F0 F G : Nat -> Prop} {w0 w : World} {ro rs : List Res} {tb cb most : Nat} {s s2 : STab} {l : List Sh} {v : Value} {rr : Nat × List Sh} (h : Hp F0 w0 w ro rs) (i j : Nat) (hi : rs[i]? = some (rTab F tb s)) (hj : rs[j]? = some (rCa G cb most l)) (al : List Value) (hij : decide (i ≠ j) = true) (hp : pureVal Tryz.prog (execOp a.eval o) = some (.enter 29 al.toArray)) (hc : Calls Tryz.prog 29 al.toArray w (WhPost F G tb cb most v s2 rr w)) :
   OpTo Tryz.prog o a w (fun u w' => ∃ F' G', u = .tuple #[v, .int .i64 (rr.1 : Int)] /\ Hp F0 w0 w' ro ((rs.set i (rTab F' tb s2)).set j (rCa G' cb most rr.2))) :=
 OpTo.enter 29 al hp hc fun e w' hq => by
   obtain ⟨F', G', he, h2⟩ := hq
   exact ⟨_, he, F', G', rfl, h.upd2 i j hi hj (of_decide_eq_true hij) h2⟩
/-- What a server's memory is. -/
def svC (kb cb bk : Nat) : List Value := [pt kb 0, pt cb 0, pt bk 0]
theorem who_any {F G : Nat -> Prop} {sv kb cb bk tb bb most : Nat} {Kk Ky K2 : Fin 16 -> UInt8} {s : STab} {sl : List Sh} {now : Int} {C D : Option Addr} {c d : Nat} {l au b β : Bytes} {Rq : Res} {qv : Value} {rr : Nat × List Sh} {f a u r t q : Int} {c1 : ByteArray} {w : World}
   (h0 : Hp (fun q => F q ∨ G q) w w [rBlk sv 73 (svC kb cb bk), rBlk kb 78 (kdcC tb bb Kk), rSB (Value.slice C l.length c) l, rSB (Value.slice D au.length d) au, Rq] [rTab F tb s, rCa G cb most sl]) (hs : TabOk s) (_hm : s.sums.length < 1000000)
   (ho : openTh s (kl Kk) 2 l = .inr (.inside f Ky c1 a u r)) (hu : now < u) (hau : openTh s (kl Ky) 7 au = .inr (.authent c1 t q K2 b)) (hb : b = mkB 100 (s.sumAt β + 1))
   (hSum : ∀ w', (rTab F tb s).Φ w' -> Rq.Φ w' -> Rq.dj (rTab F tb s) -> Calls Tryz.prog 23 #[(Value.iface 28 (pt tb 0)), qv] w' (SumPost F tb s β w'))
   (hSh : ∀ w', (rCa G cb most sl).Φ w' -> Calls Tryz.prog 50 #[pt cb 0, .int .i64 now, .string c1, .int .i64 t, .int .i64 q] w' (ShPost G cb most w' rr)) :
   Calls Tryz.prog 29 #[pt sv 0, .int .i64 now, (Value.agg ([(Value.string (⟨#[107, 100, 99]⟩)), (Value.slice C l.length c)]).toArray), (Value.slice D au.length d), qv] w (WhPost F G tb cb most ((Value.agg ([(Value.int .i64 f)] ++ vb (kl Ky) ++ [(Value.string c1), (Value.int .i64 a), (Value.int .i64 u), (Value.int .i64 r)]).toArray)) (s.digest β) rr w) := by
 have h0 := h0
 refine mE 79 ?_
 refine mT (xN h0 35 ([(Value.string (⟨#[107, 100, 99]⟩)), (Value.slice C l.length c)])) ?_
 rintro _ w2 ⟨g2, rfl, h2⟩
 refine mT (xN h2 54 ([(Value.int .i64 0)] ++ vb (List.replicate 16 0) ++ [(Value.string ByteArray.empty), (Value.int .i64 0), (Value.int .i64 0), (Value.int .i64 0)])) ?_
 rintro _ w3 ⟨g3, rfl, h3⟩
 refine ma h3 1 ?_
 refine mD h3 [(pt sv 0), (Value.int .i64 now), (Value.agg ([(Value.string (⟨#[107, 100, 99]⟩)), (Value.slice C l.length c)]).toArray)] (opened_ok (h3.rd 0 rfl) (h3.rd 1 rfl) (h3.at_ 2 rfl) hs (h3.rd 2 rfl) (by rw [ho]; rfl) hu) (fun w5 h5 => ?_)
 refine mT (xN h5 54 ([(Value.int .i64 0)] ++ vb (List.replicate 16 0) ++ [(Value.string ByteArray.empty), (Value.int .i64 0), (Value.int .i64 0), (Value.int .i64 0)])) ?_
 rintro _ w6 ⟨g6, rfl, h6⟩
 refine mT (xR h6 0 ([(Value.int .i64 f)] ++ vb (kl Ky) ++ [(Value.string c1), (Value.int .i64 a), (Value.int .i64 u), (Value.int .i64 r)])) ?_
 rintro _ w7 h7
 refine dG h7 17 16 (fun W => (rBlk sv 73 ([(pt kb 0), (pt cb 0), (pt bk 0)])).Φ W /\ (rBlk kb 78 ([(Value.iface 28 (pt tb 0)), (pt bb 0)] ++ vb (kl Kk))).Φ W /\ (rBlk g6 54 ([(Value.int .i64 f)] ++ vb (kl Ky) ++ [(Value.string c1), (Value.int .i64 a), (Value.int .i64 u), (Value.int .i64 r)])).Φ W /\ True) (fun w11 h11 => ⟨h11.rd 0 rfl, h11.rd 1 rfl, h11.at_ 0 rfl, trivial⟩) ?_
 intro w11 h11
 refine dP 12 [0, 1, 2, 7, 9] ?_
 refine dL 3 (fun W hW => hW.1) ?_
 refine dP 9 [4, 5] ?_
 refine dL 6 (fun W hW => hW.2.1) ?_
 refine dL 8 (fun W hW => hW.2.2.1) ?_
 refine dO 10 14 ?_ ?_
 ·
  refine oT (x_au h11 [(Value.iface 28 (pt tb 0)), (Value.agg (vb (kl Ky)).toArray), (Value.int .i64 7), (Value.slice D au.length d)] (by kernel_rfl) (auth_any (h11.at_ 3 rfl) hs (h11.rd 3 rfl) hau)) ?_
  rintro _ w12 ⟨A12, c12, rfl, h12⟩
  refine ⟨⟨h12.rd 0 rfl, h12.rd 1 rfl, h12.at_ 1 rfl, trivial⟩, ?_⟩
  refine dP 3 [11, 12, 13] ?_
  refine dT 14 (xN h12 100 ([(Value.string ByteArray.empty), (Value.int .i64 0), (Value.int .i64 0)] ++ vb (List.replicate 16 0) ++ [(Value.slice none 0 0)])) ?_
  rintro _ w13 ⟨g13, rfl, h13⟩
  refine ⟨⟨h13.rd 0 rfl, h13.rd 1 rfl, h13.at_ 2 rfl, trivial⟩, ?_⟩
  refine dT 15 (xR h13 0 ([(Value.string c1), (Value.int .i64 t), (Value.int .i64 q)] ++ vb (kl K2) ++ [(Value.slice A12 b.length c12)])) ?_
  rintro _ w14 h14
  refine ⟨⟨h14.rd 0 rfl, h14.rd 1 rfl, h14.at_ 2 rfl, trivial⟩, ?_⟩
  refine dN 16 ?_
  refine dX ?_
  refine dG h14 21 21 (fun W => (rBlk g13 100 ([(Value.string c1), (Value.int .i64 t), (Value.int .i64 q)] ++ vb (kl K2) ++ [(Value.slice A12 b.length c12)])).Φ W /\ (rBlk g6 54 ([(Value.int .i64 f)] ++ vb (kl Ky) ++ [(Value.string c1), (Value.int .i64 a), (Value.int .i64 u), (Value.int .i64 r)])).Φ W /\ (rBlk sv 73 ([(pt kb 0), (pt cb 0), (pt bk 0)])).Φ W /\ (rBlk kb 78 ([(Value.iface 28 (pt tb 0)), (pt bb 0)] ++ vb (kl Kk))).Φ W /\ True) (fun w18 h18 => ⟨h18.at_ 0 rfl, h18.at_ 2 rfl, h18.rd 0 rfl, h18.rd 1 rfl, trivial⟩) ?_
  intro w18 h18
  refine dP 19 [0, 2] ?_
  refine dL 1 (fun W hW => hW.1) ?_
  refine dL 3 (fun W hW => hW.2.1) ?_
  refine dV 4 (v := (Value.bool false)) (fun W hW => eqI (Value.bool (!((c1).toList == (c1).toList))) (by simp)) ?_
  refine dP 10 [5, 6, 8, 9, 10, 15] ?_
  refine dL 7 (fun W hW => hW.1) ?_
  refine dL 11 (fun W hW => hW.2.2.1) ?_
  refine dP 6 [12, 13] ?_
  refine dL 14 (fun W hW => hW.2.2.2.1) ?_
  refine dT 16 (x_sum h18 5 rfl β [(Value.iface 28 (pt tb 0)), qv] _ (by kernel_rfl) (fun hT => hSum _ hT (h18.rd 4 rfl) (h18.rdis 4 5 _ _ rfl rfl))) ?_
  rintro _ w19 ⟨A19, c19, F19, s19, rfl, hs19, h19⟩
  refine ⟨⟨h19.at_ 2 rfl, h19.at_ 4 rfl, h19.rd 0 rfl, h19.rd 1 rfl, trivial⟩, ?_⟩
  refine dT 17 (x_equalT h19 true (by kernel_rfl) (h19.at_ 3 rfl) (h19.at_ 1 rfl) (decide_eq_true hb)) ?_
  rintro _ w20 ⟨rfl, h20⟩
  refine ⟨⟨h20.at_ 2 rfl, h20.at_ 4 rfl, h20.rd 0 rfl, h20.rd 1 rfl, trivial⟩, ?_⟩
  refine dP 0 [18, 19, 20] ?_
  refine dX ?_
  refine dG h20 15 14 (fun W => (rBlk g6 54 ([(Value.int .i64 f)] ++ vb (kl Ky) ++ [(Value.string c1), (Value.int .i64 a), (Value.int .i64 u), (Value.int .i64 r)])).Φ W /\ (rBlk sv 73 ([(pt kb 0), (pt cb 0), (pt bk 0)])).Φ W /\ (rBlk g13 100 ([(Value.string c1), (Value.int .i64 t), (Value.int .i64 q)] ++ vb (kl K2) ++ [(Value.slice A12 b.length c12)])).Φ W /\ True) (fun w22 h22 => ⟨h22.at_ 4 rfl, h22.rd 0 rfl, h22.at_ 2 rfl, trivial⟩) ?_
  intro w22 h22
  refine dP 8 [1, 2, 3, 5, 6, 8, 10] ?_
  refine dL 0 (fun W hW => hW.1) ?_
  refine dL 4 (fun W hW => hW.2.1) ?_
  refine dLs 3 [7, 9, 11] (fun W hW => hW.2.2.1) ?_
  refine dT 12 (x_show h22 7 rfl rr [(pt cb 0), (Value.int .i64 now), (Value.string c1), (Value.int .i64 t), (Value.int .i64 q)] (by kernel_rfl) (hSh _ (h22.at_ 7 rfl))) ?_
  rintro _ w23 ⟨G23, rfl, h23⟩
  refine ⟨⟨h23.at_ 5 rfl, h23.rd 0 rfl, h23.at_ 3 rfl, trivial⟩, ?_⟩
  refine dT 13 (xR h23 6 ([(Value.int .i64 f)] ++ vb (kl Ky) ++ [(Value.string c1), (Value.int .i64 a), (Value.int .i64 u), (Value.int .i64 r)])) ?_
  rintro _ w24 h24
  refine ⟨⟨h24.at_ 5 rfl, h24.rd 0 rfl, h24.at_ 3 rfl, trivial⟩, ?_⟩
  refine dN 14 ?_
  refine dX ?_
  refine mF (post_2 (r := .cell 10 54) (s := .tmp 11) (by kernel_rfl) rfl (rce (h24.at_ 6 rfl)) (rtm (Value.int .i64 ((rr.1 : Int)))) ?_)
  rw [hs19] at h24
  exact ⟨_, _, rfl, h24.sel [1, 0] [] rfl rfl rfl⟩
 ·
  refine oT (xN h11 100 ([(Value.string ByteArray.empty), (Value.int .i64 0), (Value.int .i64 0)] ++ vb (List.replicate 16 0) ++ [(Value.slice none 0 0)])) ?_
  rintro _ w25 ⟨g25, rfl, h25⟩
  refine ⟨⟨h25.rd 0 rfl, h25.rd 1 rfl, h25.at_ 1 rfl, trivial⟩, ?_⟩
  refine dT 10 (x_au h25 [(Value.iface 28 (pt tb 0)), (Value.agg (vb (kl Ky)).toArray), (Value.int .i64 7), (Value.slice D au.length d)] (by kernel_rfl) (auth_any (h25.at_ 4 rfl) hs (h25.rd 3 rfl) hau)) ?_
  rintro _ w26 ⟨A26, c26, rfl, h26⟩
  refine ⟨⟨h26.rd 0 rfl, h26.rd 1 rfl, h26.at_ 2 rfl, trivial⟩, ?_⟩
  refine dP 2 [11, 12, 13] ?_
  refine dT 15 (xR h26 1 ([(Value.string c1), (Value.int .i64 t), (Value.int .i64 q)] ++ vb (kl K2) ++ [(Value.slice A26 b.length c26)])) ?_
  rintro _ w27 h27
  refine ⟨⟨h27.rd 0 rfl, h27.rd 1 rfl, h27.at_ 2 rfl, trivial⟩, ?_⟩
  refine dN 16 ?_
  refine dX ?_
  refine dG h27 21 21 (fun W => (rBlk g25 100 ([(Value.string c1), (Value.int .i64 t), (Value.int .i64 q)] ++ vb (kl K2) ++ [(Value.slice A26 b.length c26)])).Φ W /\ (rBlk g6 54 ([(Value.int .i64 f)] ++ vb (kl Ky) ++ [(Value.string c1), (Value.int .i64 a), (Value.int .i64 u), (Value.int .i64 r)])).Φ W /\ (rBlk sv 73 ([(pt kb 0), (pt cb 0), (pt bk 0)])).Φ W /\ (rBlk kb 78 ([(Value.iface 28 (pt tb 0)), (pt bb 0)] ++ vb (kl Kk))).Φ W /\ True) (fun w31 h31 => ⟨h31.at_ 1 rfl, h31.at_ 2 rfl, h31.rd 0 rfl, h31.rd 1 rfl, trivial⟩) ?_
  intro w31 h31
  refine dP 19 [0, 2] ?_
  refine dL 1 (fun W hW => hW.1) ?_
  refine dL 3 (fun W hW => hW.2.1) ?_
  refine dV 4 (v := (Value.bool false)) (fun W hW => eqI (Value.bool (!((c1).toList == (c1).toList))) (by simp)) ?_
  refine dP 10 [5, 6, 8, 9, 10, 15] ?_
  refine dL 7 (fun W hW => hW.1) ?_
  refine dL 11 (fun W hW => hW.2.2.1) ?_
  refine dP 6 [12, 13] ?_
  refine dL 14 (fun W hW => hW.2.2.2.1) ?_
  refine dT 16 (x_sum h31 5 rfl β [(Value.iface 28 (pt tb 0)), qv] _ (by kernel_rfl) (fun hT => hSum _ hT (h31.rd 4 rfl) (h31.rdis 4 5 _ _ rfl rfl))) ?_
  rintro _ w32 ⟨A32, c32, F32, s32, rfl, hs32, h32⟩
  refine ⟨⟨h32.at_ 3 rfl, h32.at_ 4 rfl, h32.rd 0 rfl, h32.rd 1 rfl, trivial⟩, ?_⟩
  refine dT 17 (x_equalT h32 true (by kernel_rfl) (h32.at_ 2 rfl) (h32.at_ 1 rfl) (decide_eq_true hb)) ?_
  rintro _ w33 ⟨rfl, h33⟩
  refine ⟨⟨h33.at_ 3 rfl, h33.at_ 4 rfl, h33.rd 0 rfl, h33.rd 1 rfl, trivial⟩, ?_⟩
  refine dP 0 [18, 19, 20] ?_
  refine dX ?_
  refine dG h33 15 14 (fun W => (rBlk g6 54 ([(Value.int .i64 f)] ++ vb (kl Ky) ++ [(Value.string c1), (Value.int .i64 a), (Value.int .i64 u), (Value.int .i64 r)])).Φ W /\ (rBlk sv 73 ([(pt kb 0), (pt cb 0), (pt bk 0)])).Φ W /\ (rBlk g25 100 ([(Value.string c1), (Value.int .i64 t), (Value.int .i64 q)] ++ vb (kl K2) ++ [(Value.slice A26 b.length c26)])).Φ W /\ True) (fun w35 h35 => ⟨h35.at_ 4 rfl, h35.rd 0 rfl, h35.at_ 3 rfl, trivial⟩) ?_
  intro w35 h35
  refine dP 8 [1, 2, 3, 5, 6, 8, 10] ?_
  refine dL 0 (fun W hW => hW.1) ?_
  refine dL 4 (fun W hW => hW.2.1) ?_
  refine dLs 3 [7, 9, 11] (fun W hW => hW.2.2.1) ?_
  refine dT 12 (x_show h35 7 rfl rr [(pt cb 0), (Value.int .i64 now), (Value.string c1), (Value.int .i64 t), (Value.int .i64 q)] (by kernel_rfl) (hSh _ (h35.at_ 7 rfl))) ?_
  rintro _ w36 ⟨G36, rfl, h36⟩
  refine ⟨⟨h36.at_ 5 rfl, h36.rd 0 rfl, h36.at_ 4 rfl, trivial⟩, ?_⟩
  refine dT 13 (xR h36 6 ([(Value.int .i64 f)] ++ vb (kl Ky) ++ [(Value.string c1), (Value.int .i64 a), (Value.int .i64 u), (Value.int .i64 r)])) ?_
  rintro _ w37 h37
  refine ⟨⟨h37.at_ 5 rfl, h37.rd 0 rfl, h37.at_ 4 rfl, trivial⟩, ?_⟩
  refine dN 14 ?_
  refine dX ?_
  refine mF (post_2 (r := .cell 10 54) (s := .tmp 11) (by kernel_rfl) rfl (rce (h37.at_ 6 rfl)) (rtm (Value.int .i64 ((rr.1 : Int)))) ?_)
  rw [hs32] at h37
  exact ⟨_, _, rfl, h37.sel [1, 0] [] rfl rfl rfl⟩
end
section
open Go.Value renaming int -> iV, slice -> lV, string -> sV, bool -> bV, agg -> aV
open Go.RowKit Go.QT
theorem e_min3 {o : Oper} {a : Act} (x y z : Operand) (ts : Array TypeId) (ho : o.op = .call { callee := .builtin .min, args := #[x, y, z], argTypes := ts }) (k k' k'' : IntKind) (m n p : Int) (hx : a.eval x = .int k m) (hy : a.eval y = .int k' n) (hz : a.eval z = .int k'' p) (W : World) :
   (execOp a.eval o).run Tryz.prog W = .ok (.value (.int k (min (min m n) p))) W := by
 unfold execOp
 simp only [ho, resolve, invoke, builtin, Sem.run_bind, Sem.run_pure, Result.andThen_ok, List.map_toArray, List.map_cons, List.map_nil, hx, hy, hz, run_min_int3]
 have e1 : (if n < m then n else m) = min m n := by split <;> omega
 have e2 : (if p < min m n then p else min m n) = min (min m n) p := by split <;> omega
 rw [e1, e2]
theorem met_ok {F Gb : Nat -> Prop} {sv kb cb bk tb bb ln c dn d ce e : Nat} {Kk Ki K2 : Fin 16 -> UInt8} {s : STab} {us : List User} {us_ : User} {now till nn f a u r pf pa pu pr : Int} {qr qm : Bool} {qt srv c1 : ByteArray} {C D E B : Option Addr} {pb : Bytes} {w : World}
   (h0 : Hp (fun _ => False) w w [rBlk sv 73 (svC kb cb bk), rBlk kb 78 (kdcC tb bb Kk), rTab F tb s, rBs Gb bb us, rRV 2 E ce [[.string ⟨#[107, 100, 99]⟩, .slice B pb.length e]], rSB (.slice B pb.length e) pb] []) (hs : TabOk s) (h32 : us.length <= 1000000)
   (ho : openTh s (kl Kk) 2 pb = .inr (.inside pf K2 srv pa pu pr)) (hpu : now < pu) (hb2 : placeB us srv = true) (hu2 : us[placeI us srv]? = some us_) (hmesh : us_.mesh = true) (hne : srv.toList ≠ c1.toList) :
   Calls Tryz.prog 31 #[pt sv 0, .int .i64 now, (aV ([(iV .i64 f)] ++ vb (kl Ki) ++ [(sV c1), (iV .i64 a), (iV .i64 u), (iV .i64 r)]).toArray), (aV ([(sV srv), (iV .i64 nn), (iV .i64 till), (bV qr), (bV qm), (sV qt), (lV C ln c), (lV D dn d), (lV E 1 ce)]).toArray)] w (DPost w (.tuple #[(aV ([(iV .i64 2)] ++ vb (List.replicate 16 0) ++ [(sV c1), (iV .i64 a), (iV .i64 (min (min till u) pu)), (iV .i64 0)]).toArray), (aV (vb (kl K2)).toArray), .int .i64 0])) := by
 have h0 := h0
 refine mE 91 ?_
 refine mT (xN h0 54 ([(iV .i64 f)] ++ vb (kl Ki) ++ [(sV c1), (iV .i64 a), (iV .i64 u), (iV .i64 r)])) ?_
 rintro _ w2 ⟨g2, rfl, h2⟩
 refine mT (xN h2 40 ([(sV srv), (iV .i64 nn), (iV .i64 till), (bV qr), (bV qm), (sV qt), (lV C ln c), (lV D dn d), (lV E 1 ce)])) ?_
 rintro _ w3 ⟨g3, rfl, h3⟩
 refine mT (xN h3 54 ([(iV .i64 0)] ++ vb (List.replicate 16 0) ++ [(sV ByteArray.empty), (iV .i64 0), (iV .i64 0), (iV .i64 0)])) ?_
 rintro _ w4 ⟨g4, rfl, h4⟩
 refine mT (xN h4 31 (vb (List.replicate 16 0))) ?_
 rintro _ w5 ⟨g5, rfl, h5⟩
 refine ma h5 2 ?_
 refine ma h5 2 ?_
 refine mW 26 (eIx (RV.lenIs (n := 1) (h5.rd 4 rfl) rfl).2 0 1 (RV.lenIs (n := 1) (h5.rd 4 rfl) rfl).1 (by decide) 38 (.tmp 25) (.const (iV .i64 0)) .i64 35) ?_
 refine mW 27 (e_elemsN (RV.lenIs (n := 1) (h5.rd 4 rfl) rfl).2 0 0 ([(sV (⟨#[107, 100, 99]⟩)), (lV B pb.length e)]) rfl 35 (.tmp 26) (by kernel_rfl) ([(sV (⟨#[107, 100, 99]⟩)), (lV B pb.length e)]) (by kernel_rfl) (by kernel_rfl) (by kernel_rfl)) ?_
 refine mD h5 [(pt sv 0), (iV .i64 now), (aV ([(sV (⟨#[107, 100, 99]⟩)), (lV B pb.length e)]).toArray)] (opened_ok (h5.rd 0 rfl) (h5.rd 1 rfl) (h5.rd 2 rfl) hs (h5.rd 5 rfl) (by rw [ho]; rfl) hpu) (fun w9 h9 => ?_)
 refine mT (xN h9 54 ([(iV .i64 0)] ++ vb (List.replicate 16 0) ++ [(sV ByteArray.empty), (iV .i64 0), (iV .i64 0), (iV .i64 0)])) ?_
 rintro _ w10 ⟨g10, rfl, h10⟩
 refine mT (xR h10 0 ([(iV .i64 pf)] ++ vb (kl K2) ++ [(sV srv), (iV .i64 pa), (iV .i64 pu), (iV .i64 pr)])) ?_
 rintro _ w11 h11
 refine dG h11 16 15 (fun W => (rBlk sv 73 ([(pt kb 0), (pt cb 0), (pt bk 0)])).Φ W /\ (rBlk kb 78 ([(Value.iface 28 (pt tb 0)), (pt bb 0)] ++ vb (kl Kk))).Φ W /\ (rBlk g3 40 ([(sV srv), (iV .i64 nn), (iV .i64 till), (bV qr), (bV qm), (sV qt), (lV C ln c), (lV D dn d), (lV E 1 ce)])).Φ W /\ True) (fun w15 h15 => ⟨h15.rd 0 rfl, h15.rd 1 rfl, h15.at_ 3 rfl, trivial⟩) ?_
 intro w15 h15
 refine dP 12 [0, 1, 2, 7] ?_
 refine dL 3 (fun W hW => hW.1) ?_
 refine dP 9 [4, 5] ?_
 refine dL 6 (fun W hW => hW.2.1) ?_
 refine dL 8 (fun W hW => hW.2.2.1) ?_
 refine dO 9 13 ?_ ?_
 ·
  refine oD h15 [(pt bb 0), (sV srv)] (get_yes (h15.rd 3 rfl) h32 hb2 hu2) (fun w16 h16 => ⟨⟨h16.rd 0 rfl, h16.rd 1 rfl, h16.at_ 3 rfl, trivial⟩, ?_⟩)
  refine dP 3 [10, 11, 12] ?_
  refine dT 13 (xN h16 138 ([(sV ByteArray.empty)] ++ vb (List.replicate 16 0) ++ [(iV .i64 0), (iV .i64 0), (bV false)])) ?_
  rintro _ w17 ⟨g17, rfl, h17⟩
  refine ⟨⟨h17.rd 0 rfl, h17.rd 1 rfl, h17.at_ 4 rfl, trivial⟩, ?_⟩
  refine dT 14 (xR h17 0 ([(sV us_.name)] ++ vb (kl us_.key) ++ [(iV .i64 us_.life), (iV .i64 us_.renew), (bV us_.mesh)])) ?_
  rintro _ w18 h18
  refine ⟨⟨h18.rd 0 rfl, h18.rd 1 rfl, h18.at_ 4 rfl, trivial⟩, ?_⟩
  refine dN 15 ?_
  refine dX ?_
  refine ma h18 1 ?_
  refine ma h18 4 ?_
  refine mW 60 (v := (bV false)) (eqI (bV (!((srv).toList == (srv).toList))) (by simp)) ?_
  refine ma h18 4 ?_
  refine ma h18 5 ?_
  refine mW 66 (v := (.bool false)) (eqI (bV ((srv).toList == (c1).toList)) (by simpa using hne)) ?_
  refine ma h18 0 ?_
  refine mW 73 (v := (.bool false)) (eqI (bV (!us_.mesh)) (by rw [hmesh]; rfl)) ?_
  refine ma h18 5 ?_
  refine ma h18 5 ?_
  refine ma h18 4 ?_
  refine ma h18 5 ?_
  refine ma h18 1 ?_
  refine mW 86 (v := (iV .i64 (min (min till u) pu))) (e_min3 (.tmp 81) (.tmp 83) (.tmp 85) #[2, 2, 2] (by kernel_rfl) .i64 .i64 .i64 till u pu (by kernel_rfl) (by kernel_rfl) (by kernel_rfl) _) ?_
  refine mT (xN h18 54 ([(iV .i64 0)] ++ vb (List.replicate 16 0) ++ [(sV ByteArray.empty), (iV .i64 0), (iV .i64 0), (iV .i64 0)])) ?_
  rintro _ w24 ⟨g24, rfl, h24⟩
  refine mT (xR h24 0 ([(iV .i64 2)] ++ vb (List.replicate 16 0) ++ [(sV c1), (iV .i64 a), (iV .i64 (min (min till u) pu)), (iV .i64 0)])) ?_
  rintro _ w25 h25
  refine dG h25 6 4 (fun W => (rBlk g24 54 ([(iV .i64 2)] ++ vb (List.replicate 16 0) ++ [(sV c1), (iV .i64 a), (iV .i64 (min (min till u) pu)), (iV .i64 0)])).Φ W /\ (rBlk g10 54 ([(iV .i64 pf)] ++ vb (kl K2) ++ [(sV srv), (iV .i64 pa), (iV .i64 pu), (iV .i64 pr)])).Φ W /\ True) (fun w27 h27 => ⟨h27.at_ 0 rfl, h27.at_ 2 rfl, trivial⟩) ?_
  intro w27 h27
  refine dP 5 [1] ?_
  refine dL 0 (fun W hW => hW.1) ?_
  refine dL 2 (fun W hW => hW.2.1) ?_
  refine dT 3 (xR h27 4 ([(iV .i64 2)] ++ vb (List.replicate 16 0) ++ [(sV c1), (iV .i64 a), (iV .i64 (min (min till u) pu)), (iV .i64 0)])) ?_
  rintro _ w28 h28
  refine ⟨⟨h28.at_ 0 rfl, h28.at_ 2 rfl, trivial⟩, ?_⟩
  refine dE 4 (xR h28 3 (vb (kl K2))) ?_
  rintro _ w29 h29
  refine dN 5 ?_
  refine dX ?_
  refine mF (post_3 (r := .cell 8 54) (s := .cell 9 31) (t := .tmp 10) (by kernel_rfl) rfl (rce (h29.at_ 4 rfl)) (rce (h29.at_ 3 rfl)) (rtm (iV .i64 0)) ?_)
  exact ⟨rfl, h29.below0⟩
 ·
  refine oT (xN h15 138 ([(sV ByteArray.empty)] ++ vb (List.replicate 16 0) ++ [(iV .i64 0), (iV .i64 0), (bV false)])) ?_
  rintro _ w30 ⟨g30, rfl, h30⟩
  refine ⟨⟨h30.rd 0 rfl, h30.rd 1 rfl, h30.at_ 4 rfl, trivial⟩, ?_⟩
  refine dD 9 h30 [(pt bb 0), (sV srv)] (get_yes (h30.rd 3 rfl) h32 hb2 hu2) (fun w31 h31 => ⟨⟨h31.rd 0 rfl, h31.rd 1 rfl, h31.at_ 4 rfl, trivial⟩, ?_⟩)
  refine dP 2 [10, 11, 12] ?_
  refine dT 14 (xR h31 0 ([(sV us_.name)] ++ vb (kl us_.key) ++ [(iV .i64 us_.life), (iV .i64 us_.renew), (bV us_.mesh)])) ?_
  rintro _ w32 h32
  refine ⟨⟨h32.rd 0 rfl, h32.rd 1 rfl, h32.at_ 4 rfl, trivial⟩, ?_⟩
  refine dN 15 ?_
  refine dX ?_
  refine ma h32 1 ?_
  refine ma h32 4 ?_
  refine mW 60 (v := (bV false)) (eqI (bV (!((srv).toList == (srv).toList))) (by simp)) ?_
  refine ma h32 4 ?_
  refine ma h32 5 ?_
  refine mW 66 (v := (.bool false)) (eqI (bV ((srv).toList == (c1).toList)) (by simpa using hne)) ?_
  refine ma h32 0 ?_
  refine mW 73 (v := (.bool false)) (eqI (bV (!us_.mesh)) (by rw [hmesh]; rfl)) ?_
  refine ma h32 5 ?_
  refine ma h32 5 ?_
  refine ma h32 4 ?_
  refine ma h32 5 ?_
  refine ma h32 1 ?_
  refine mW 86 (v := (iV .i64 (min (min till u) pu))) (e_min3 (.tmp 81) (.tmp 83) (.tmp 85) #[2, 2, 2] (by kernel_rfl) .i64 .i64 .i64 till u pu (by kernel_rfl) (by kernel_rfl) (by kernel_rfl) _) ?_
  refine mT (xN h32 54 ([(iV .i64 0)] ++ vb (List.replicate 16 0) ++ [(sV ByteArray.empty), (iV .i64 0), (iV .i64 0), (iV .i64 0)])) ?_
  rintro _ w38 ⟨g38, rfl, h38⟩
  refine mT (xR h38 0 ([(iV .i64 2)] ++ vb (List.replicate 16 0) ++ [(sV c1), (iV .i64 a), (iV .i64 (min (min till u) pu)), (iV .i64 0)])) ?_
  rintro _ w39 h39
  refine dG h39 6 4 (fun W => (rBlk g38 54 ([(iV .i64 2)] ++ vb (List.replicate 16 0) ++ [(sV c1), (iV .i64 a), (iV .i64 (min (min till u) pu)), (iV .i64 0)])).Φ W /\ (rBlk g10 54 ([(iV .i64 pf)] ++ vb (kl K2) ++ [(sV srv), (iV .i64 pa), (iV .i64 pu), (iV .i64 pr)])).Φ W /\ True) (fun w41 h41 => ⟨h41.at_ 0 rfl, h41.at_ 2 rfl, trivial⟩) ?_
  intro w41 h41
  refine dP 5 [1] ?_
  refine dL 0 (fun W hW => hW.1) ?_
  refine dL 2 (fun W hW => hW.2.1) ?_
  refine dT 3 (xR h41 4 ([(iV .i64 2)] ++ vb (List.replicate 16 0) ++ [(sV c1), (iV .i64 a), (iV .i64 (min (min till u) pu)), (iV .i64 0)])) ?_
  rintro _ w42 h42
  refine ⟨⟨h42.at_ 0 rfl, h42.at_ 2 rfl, trivial⟩, ?_⟩
  refine dE 4 (xR h42 3 (vb (kl K2))) ?_
  rintro _ w43 h43
  refine dN 5 ?_
  refine dX ?_
  refine mF (post_3 (r := .cell 8 54) (s := .cell 9 31) (t := .tmp 10) (by kernel_rfl) rfl (rce (h43.at_ 4 rfl)) (rce (h43.at_ 3 rfl)) (rtm (iV .i64 0)) ?_)
  exact ⟨rfl, h43.below0⟩
end
section
open Go.Value renaming int -> iV, slice -> lV, string -> sV, bool -> bV, agg -> aV
open Go.RowKit Go.QT
/-- What Tgs leaves, where it gives. -/
def TgPost (F G : Nat -> Prop) (tb cb most nb : Nat) (c1 srv : ByteArray) (s3 : STab) (sl : List Sh) (w : World) (e : Ending) (w' : World) : Prop :=
 ∃ A c B d F' G', e = .returned (.tuple #[.agg #[.string c1, .string srv, .slice A 16 c, .slice B 16 d], .int .i64 0]) /\ Hp (fun q => F q ∨ G q) w w' [] [rTab F' tb s3, rCa G' cb most sl, rSB (.slice A 16 c) (mkB 98 (nb + 1)), rSB (.slice B 16 d) (mkB 98 (nb + 2))]
/-- .. where it does not. -/
def TgNo (F G : Nat -> Prop) (tb cb most ec : Nat) (s2 : STab) (sl : List Sh) (w : World) (e : Ending) (w' : World) : Prop :=
 ∃ F' G', e = .returned (.tuple #[.agg #[.string ByteArray.empty, .string ByteArray.empty, .slice none 0 0, .slice none 0 0], .int .i64 (ec : Int)]) /\ Hp (fun q => F q ∨ G q) w w' [] [rTab F' tb s2, rCa G' cb most sl]
section
variable {o : Oper} {a : Act} {F0 F G : Nat -> Prop} {w0 w : World} {ro rs : List Res} {tb cb most nb ec : Nat} {s s3 : STab} {sl sl2 : List Sh} {c1 srv : ByteArray}
theorem x_tgs (h : Hp F0 w0 w ro rs) (i j : Nat) (hi : rs[i]? = some (rTab F tb s)) (hj : rs[j]? = some (rCa G cb most sl)) (al : List Value) (hij : decide (i ≠ j) = true) (hp : pureVal Tryz.prog (execOp a.eval o) = some (.enter 12 al.toArray)) (hc : Calls Tryz.prog 12 al.toArray w (TgPost F G tb cb most nb c1 srv s3 sl2 w)) :
   OpTo Tryz.prog o a w (fun u w' => ∃ A c B d F' G' s', u = .tuple #[.agg #[.string c1, .string srv, .slice A 16 c, .slice B 16 d], .int .i64 0] /\ s' = s3 /\ Hp F0 w0 w' ro ([rTab F' tb s', rCa G' cb most sl2, rSB (.slice A 16 c) (mkB 98 (nb + 1)), rSB (.slice B 16 d) (mkB 98 (nb + 2))] ++ (rs.eraseIdx (max i j)).eraseIdx (min i j))) :=
 OpTo.enter 12 al hp hc fun e w' hq => by
   obtain ⟨A, c, B, d, F', G', he, h2⟩ := hq
   exact ⟨_, he, A, c, B, d, F', G', _, rfl, rfl, h.call2 i j hi hj (of_decide_eq_true hij) h2⟩
theorem x_tgsN (h : Hp F0 w0 w ro rs) (i j : Nat) (hi : rs[i]? = some (rTab F tb s)) (hj : rs[j]? = some (rCa G cb most sl)) (al : List Value) (hij : decide (i ≠ j) = true) (hp : pureVal Tryz.prog (execOp a.eval o) = some (.enter 12 al.toArray)) (hc : Calls Tryz.prog 12 al.toArray w (TgNo F G tb cb most ec s3 sl2 w)) :
   OpTo Tryz.prog o a w (fun u w' => ∃ F' G', u = .tuple #[.agg #[.string ByteArray.empty, .string ByteArray.empty, .slice none 0 0, .slice none 0 0], .int .i64 (ec : Int)] /\ Hp F0 w0 w' ro ((rs.set i (rTab F' tb s3)).set j (rCa G' cb most sl2))) :=
 OpTo.enter 12 al hp hc fun e w' hq => by
   obtain ⟨F', G', he, h2⟩ := hq
   exact ⟨_, he, F', G', rfl, h.upd2 i j hi hj (of_decide_eq_true hij) h2⟩
/-- Fresh, its key told. -/
theorem x_freshK {F : Nat -> Prop} (h : Hp F0 w0 w ro rs) (i : Nat) (hi : rs[i]? = some (rTab F tb s)) (K : Fin 16 -> UInt8) (hK : kl K = mkB 107 (s.keys.length + 1)) (hp : pureVal Tryz.prog (execOp a.eval o) = some (.enter 127 #[pt tb 0])) (hn : s.keys.length < 1000000) :
   OpTo Tryz.prog o a w (fun u w' => ∃ F', u = .agg (vb (kl K)).toArray /\ Hp F0 w0 w' ro (rs.set i (rTab F' tb (s.add SFrom.fresh)))) :=
 (x_fresh h i hi hp hn).mono fun u w' ⟨K', F', s', e, hK', es, h'⟩ => by
   obtain rfl : K = K' := kl_inj (hK.trans hK'.symm)
   subst es
   exact ⟨F', e, h'⟩
end
theorem tgs_err {F G Gb : Nat -> Prop} {sv kb cb bk tb bb most en ce : Nat} {Kk Ki : Fin 16 -> UInt8} {s s2 : STab} {sl sl2 : List Sh} {us : List User} {srv : ByteArray} {ec : Nat} {ts c1 : ByteArray} {now nn till f a u r : Int} {qr qm : Bool} {C D E : Option Addr} {c d : Nat} {l au : Bytes} {Rq : Res} {w : World}
   (h0 : Hp (fun q => F q ∨ G q) w w [rBlk sv 73 (svC kb cb bk), rBlk kb 78 (kdcC tb bb Kk), rSB (lV C l.length c) l, rSB (lV D au.length d) au, Rq, rBs Gb bb us] [rTab F tb s, rCa G cb most sl])
   (hWho : ∀ w', Hp (fun q => F q ∨ G q) w' w' [rBlk sv 73 (svC kb cb bk), rBlk kb 78 (kdcC tb bb Kk), rSB (lV C l.length c) l, rSB (lV D au.length d) au, Rq] [rTab F tb s, rCa G cb most sl] -> Calls Tryz.prog 29 #[pt sv 0, .int .i64 now, (aV ([(sV ts), (lV C l.length c)]).toArray), (lV D au.length d), (Value.iface 40 (aV ([(sV srv), (iV .i64 nn), (iV .i64 till), (bV qr), (bV qm), (sV ts), (lV C l.length c), (lV D au.length d), (lV E en ce)]).toArray))] w' (WhPost F G tb cb most (aV ([(iV .i64 f)] ++ vb (kl Ki) ++ [(sV c1), (iV .i64 a), (iV .i64 u), (iV .i64 r)]).toArray) s2 (ec, sl2) w'))
   (hec : ec ≠ 0) : Calls Tryz.prog 12 #[pt sv 0, .int .i64 now, (aV ([(sV srv), (iV .i64 nn), (iV .i64 till), (bV qr), (bV qm), (sV ts), (lV C l.length c), (lV D au.length d), (lV E en ce)]).toArray)] w (TgNo F G tb cb most ec s2 sl2 w) := by
 have h0 := h0
 refine mE 108 ?_
 refine mT (xN h0 40 ([(sV srv), (iV .i64 nn), (iV .i64 till), (bV qr), (bV qm), (sV ts), (lV C l.length c), (lV D au.length d), (lV E en ce)])) ?_
 rintro _ w2 ⟨g2, rfl, h2⟩
 refine mT (xN h2 43 ([(sV ByteArray.empty), (sV ByteArray.empty), (lV none 0 0), (lV none 0 0)])) ?_
 rintro _ w3 ⟨g3, rfl, h3⟩
 refine ma h3 1 ?_
 refine ma h3 1 ?_
 refine ma h3 1 ?_
 refine mT (x_who h3 2 3 rfl rfl [(pt sv 0), (iV .i64 now), (aV ([(sV ts), (lV C l.length c)]).toArray), (lV D au.length d), (Value.iface 40 (aV ([(sV srv), (iV .i64 nn), (iV .i64 till), (bV qr), (bV qm), (sV ts), (lV C l.length c), (lV D au.length d), (lV E en ce)]).toArray))] (by decide) (by kernel_rfl) (hWho _ (h3.carve2 2 3 rfl rfl [(false, 0), (false, 1), (false, 2), (false, 3), (false, 4)] rfl rfl))) ?_
 rintro _ w5 ⟨F5, G5, rfl, h5⟩
 refine mT (xN h5 54 ([(iV .i64 0)] ++ vb (List.replicate 16 0) ++ [(sV ByteArray.empty), (iV .i64 0), (iV .i64 0), (iV .i64 0)])) ?_
 rintro _ w6 ⟨g6, rfl, h6⟩
 refine mT (xR h6 0 ([(iV .i64 f)] ++ vb (kl Ki) ++ [(sV c1), (iV .i64 a), (iV .i64 u), (iV .i64 r)])) ?_
 rintro _ w7 h7
 refine mW 27 (v := (.bool true)) (eqI (bV (((ec : Int)) != 0)) (by simp; omega)) ?_
 refine mT (xR h7 1 ([(sV ByteArray.empty), (sV ByteArray.empty), (lV none 0 0), (lV none 0 0)])) ?_
 rintro _ w11 h11
 refine mF (post_2 (r := .cell 6 43) (s := .tmp 7) (by kernel_rfl) rfl (rce (h11.at_ 1 rfl)) (rtm (iV .i64 ((ec : Int)))) ?_)
 exact ⟨_, _, rfl, h11.sel [3, 4] [] rfl rfl rfl⟩
theorem tgs_met {F G Gb : Nat -> Prop} {sv kb cb bk tb bb most en ce : Nat} {Kk Ki : Fin 16 -> UInt8} {s s2 : STab} {sl sl2 : List Sh} {us : List User} {srv : ByteArray} {ts c1 : ByteArray} {now nn till f a u r : Int} {C D E : Option Addr} {c d : Nat} {l au : Bytes} {Rq : Res} {w : World}
   (h0 : Hp (fun q => F q ∨ G q) w w [rBlk sv 73 (svC kb cb bk), rBlk kb 78 (kdcC tb bb Kk), rSB (lV C l.length c) l, rSB (lV D au.length d) au, Rq, rBs Gb bb us] [rTab F tb s, rCa G cb most sl])
   (hWho : ∀ w', Hp (fun q => F q ∨ G q) w' w' [rBlk sv 73 (svC kb cb bk), rBlk kb 78 (kdcC tb bb Kk), rSB (lV C l.length c) l, rSB (lV D au.length d) au, Rq] [rTab F tb s, rCa G cb most sl] -> Calls Tryz.prog 29 #[pt sv 0, .int .i64 now, (aV ([(sV ts), (lV C l.length c)]).toArray), (lV D au.length d), (Value.iface 40 (aV ([(sV srv), (iV .i64 nn), (iV .i64 till), (bV false), (bV true), (sV ts), (lV C l.length c), (lV D au.length d), (lV E en ce)]).toArray))] w' (WhPost F G tb cb most (aV ([(iV .i64 f)] ++ vb (kl Ki) ++ [(sV c1), (iV .i64 a), (iV .i64 u), (iV .i64 r)]).toArray) s2 (0, sl2) w'))
   {Kx K : Fin 16 -> UInt8} {eo : Int} {b1 b2 : Bytes} (hrm : Room 8 s2) (hK : kl K = mkB 107 (s2.keys.length + 1)) (hlt : now < till) (hl1 : c1.size <= 1000) (hl2 : srv.size <= 1000) (hMet : ∀ F' w', Hp (fun _ => False) w' w' [rBlk sv 73 (svC kb cb bk), rBlk kb 78 (kdcC tb bb Kk), rTab F' tb s2, rBs Gb bb us, Rq] [] -> Calls Tryz.prog 31 #[pt sv 0, .int .i64 now, (aV ([(iV .i64 f)] ++ vb (kl Ki) ++ [(sV c1), (iV .i64 a), (iV .i64 u), (iV .i64 r)]).toArray), (aV ([(sV srv), (iV .i64 nn), (iV .i64 till), (bV false), (bV true), (sV ts), (lV C l.length c), (lV D au.length d), (lV E en ce)]).toArray)] w' (DPost w' (.tuple #[(aV ([(iV .i64 2)] ++ vb (List.replicate 16 0) ++ [(sV c1), (iV .i64 a), (iV .i64 eo), (iV .i64 0)]).toArray), (aV (vb (kl Kx)).toArray), .int .i64 0])))
   (hp1 : packB (.inside 2 K c1 a eo 0) = .inr b1) (hp2 : packB (.reply 2 K nn srv a eo 0) = .inr b2) : Calls Tryz.prog 12 #[pt sv 0, .int .i64 now, (aV ([(sV srv), (iV .i64 nn), (iV .i64 till), (bV false), (bV true), (sV ts), (lV C l.length c), (lV D au.length d), (lV E en ce)]).toArray)] w (TgPost F G tb cb most s2.boxes.length c1 srv (((s2.add SFrom.fresh).seal (kl Kx) 2 b1).seal (kl Ki) 8 b2) sl2 w) := by
 have h0 := h0
 refine mE 108 ?_
 refine mT (xN h0 40 ([(sV srv), (iV .i64 nn), (iV .i64 till), (bV false), (bV true), (sV ts), (lV C l.length c), (lV D au.length d), (lV E en ce)])) ?_
 rintro _ w2 ⟨g2, rfl, h2⟩
 refine mT (xN h2 43 ([(sV ByteArray.empty), (sV ByteArray.empty), (lV none 0 0), (lV none 0 0)])) ?_
 rintro _ w3 ⟨g3, rfl, h3⟩
 refine ma h3 1 ?_
 refine ma h3 1 ?_
 refine ma h3 1 ?_
 refine mT (x_who h3 2 3 rfl rfl [(pt sv 0), (iV .i64 now), (aV ([(sV ts), (lV C l.length c)]).toArray), (lV D au.length d), (Value.iface 40 (aV ([(sV srv), (iV .i64 nn), (iV .i64 till), (bV false), (bV true), (sV ts), (lV C l.length c), (lV D au.length d), (lV E en ce)]).toArray))] (by decide) (by kernel_rfl) (hWho _ (h3.carve2 2 3 rfl rfl [(false, 0), (false, 1), (false, 2), (false, 3), (false, 4)] rfl rfl))) ?_
 rintro _ w5 ⟨F5, G5, rfl, h5⟩
 refine mT (xN h5 54 ([(iV .i64 0)] ++ vb (List.replicate 16 0) ++ [(sV ByteArray.empty), (iV .i64 0), (iV .i64 0), (iV .i64 0)])) ?_
 rintro _ w6 ⟨g6, rfl, h6⟩
 refine mT (xR h6 0 ([(iV .i64 f)] ++ vb (kl Ki) ++ [(sV c1), (iV .i64 a), (iV .i64 u), (iV .i64 r)])) ?_
 rintro _ w7 h7
 refine mJ 2000004 (fun aJ wJ12 => ∃ (gJ11_0 : Nat) (gJ11_1 : Nat) (xJ12 : Nat -> Value), aJ = patch xJ12 108 [(0, (pt sv 0)), (1, (iV .i64 now)), (5, (pt g2 0)), (6, (pt g3 0)), (7, (iV .i64 0)), (8, (pt g6 0)), (9, (iV .i64 0)), (10, (pt gJ11_0 0)), (11, (pt gJ11_1 0))] /\ Hp (fun q => F q ∨ G q) w wJ12 [rBlk sv 73 ([(pt kb 0), (pt cb 0), (pt bk 0)]), rBlk kb 78 ([(Value.iface 28 (pt tb 0)), (pt bb 0)] ++ vb (kl Kk)), rSB ((lV C l.length c)) l, rSB ((lV D au.length d)) au, Rq, rBs Gb bb us] [rBlk gJ11_1 31 (vb (kl Kk)), rBlk gJ11_0 54 ([(iV .i64 f)] ++ vb (kl Ki) ++ [(sV c1), (iV .i64 a), (iV .i64 u), (iV .i64 r)]), rBlk g6 54 ([(iV .i64 f)] ++ vb (kl Ki) ++ [(sV c1), (iV .i64 a), (iV .i64 u), (iV .i64 r)]), rBlk g3 43 ([(sV ByteArray.empty), (sV ByteArray.empty), (lV none 0 0), (lV none 0 0)]), rBlk g2 40 ([(sV srv), (iV .i64 nn), (iV .i64 till), (bV false), (bV true), (sV ts), (lV C l.length c), (lV D au.length d), (lV E en ce)]), rTab F5 tb s2, rCa G5 cb most sl2]) ?_ (fun hJ12 hhJ12 => ?_)
 ·
  rintro _ wJ12 ⟨gJ11_0, gJ11_1, xJ12, rfl, hJh12⟩
  refine mAt ?_
  refine ma hJh12 4 ?_
  refine mW 51 (v := (.bool false)) (eqI (bV (decide (till <= now))) (by simp; omega)) ?_
  refine ma hJh12 4 ?_
  refine ma hJh12 4 ?_
  refine ma hJh12 4 ?_
  refine ma hJh12 2 ?_
  refine ma hJh12 4 ?_
  refine mD hJh12 [(pt sv 0), (iV .i64 now), (aV ([(iV .i64 f)] ++ vb (kl Ki) ++ [(sV c1), (iV .i64 a), (iV .i64 u), (iV .i64 r)]).toArray), (aV ([(sV srv), (iV .i64 nn), (iV .i64 till), (bV false), (bV true), (sV ts), (lV C l.length c), (lV D au.length d), (lV E en ce)]).toArray)] (hMet _ _ (hJh12.carve0 [(false, 0), (false, 1), (true, 5), (false, 5), (false, 4)] rfl)) (fun w17 h17 => ?_)
  refine mT (xR h17 1 ([(iV .i64 2)] ++ vb (List.replicate 16 0) ++ [(sV c1), (iV .i64 a), (iV .i64 eo), (iV .i64 0)])) ?_
  rintro _ w18 h18
  refine mT (xR h18 0 (vb (kl Kx))) ?_
  rintro _ w19 h19
  refine mr h19 0 ?_
  refine mr h19 1 ?_
  refine mT (x_freshK h19 5 rfl K hK (by kernel_rfl) hrm.keys) ?_
  rintro _ w23 ⟨F23, rfl, h23⟩
  refine mT (xR h23 1 ([(iV .i64 2)] ++ vb (kl K) ++ [(sV c1), (iV .i64 a), (iV .i64 eo), (iV .i64 0)])) ?_
  rintro _ w24 h24
  refine dG h24 21 20 (fun W => (rBlk sv 73 ([(pt kb 0), (pt cb 0), (pt bk 0)])).Φ W /\ (rBlk g2 40 ([(sV srv), (iV .i64 nn), (iV .i64 till), (bV false), (bV true), (sV ts), (lV C l.length c), (lV D au.length d), (lV E en ce)])).Φ W /\ (rBlk gJ11_1 31 (vb (kl Kx))).Φ W /\ (rBlk gJ11_0 54 ([(iV .i64 2)] ++ vb (kl K) ++ [(sV c1), (iV .i64 a), (iV .i64 eo), (iV .i64 0)])).Φ W /\ (rBlk g6 54 ([(iV .i64 f)] ++ vb (kl Ki) ++ [(sV c1), (iV .i64 a), (iV .i64 u), (iV .i64 r)])).Φ W /\ True) (fun w26 h26 => ⟨h26.rd 0 rfl, h26.at_ 4 rfl, h26.at_ 0 rfl, h26.at_ 1 rfl, h26.at_ 2 rfl, trivial⟩) ?_
  intro w26 h26
  refine dP 15 [0, 1, 2, 4, 8, 10] ?_
  refine dL 3 (fun W hW => hW.1) ?_
  refine dL 5 (fun W hW => hW.2.1) ?_
  refine dL 6 (fun W hW => hW.2.2.1) ?_
  refine dL 7 (fun W hW => hW.2.2.2.1) ?_
  refine dL 9 (fun W hW => hW.2.1) ?_
  refine dL 11 (fun W hW => hW.2.2.2.2.1) ?_
  refine dO 12 17 ?_ ?_
  ·
   refine oT (x_give (s' := (((s2.add SFrom.fresh).seal (kl Kx) 2 b1).seal (kl Ki) 8 b2)) h26 5 rfl [(pt kb 0), (sV srv), (aV (vb (kl Kx)).toArray), (aV ([(iV .i64 2)] ++ vb (kl K) ++ [(sV c1), (iV .i64 a), (iV .i64 eo), (iV .i64 0)]).toArray), (iV .i64 nn), (aV (vb (kl Ki)).toArray), (iV .i64 8)] (by kernel_rfl) (give_ok (h26.at_ 5 rfl) ((hrm.add _).less (by decide)) (h26.rd 1 rfl) (fun hq => h26.rdis 1 5 _ _ rfl rfl kb rfl hq) hl1 hl2 hp1 hp2)) ?_
   rintro _ w27 ⟨A27, c27, B27, d27, F27, rfl, h27⟩
   refine ⟨⟨h27.rd 0 rfl, h27.at_ 7 rfl, h27.at_ 3 rfl, h27.at_ 4 rfl, h27.at_ 5 rfl, trivial⟩, ?_⟩
   refine dP 4 [13, 14, 15, 16] ?_
   refine dT 17 (xN h27 35 ([(sV ByteArray.empty), (lV none 0 0)])) ?_
   rintro _ w28 ⟨g28, rfl, h28⟩
   refine ⟨⟨h28.rd 0 rfl, h28.at_ 8 rfl, h28.at_ 4 rfl, h28.at_ 5 rfl, h28.at_ 6 rfl, trivial⟩, ?_⟩
   refine dT 18 (xR h28 0 ([(sV srv), (lV A27 16 c27)])) ?_
   rintro _ w29 h29
   refine ⟨⟨h29.rd 0 rfl, h29.at_ 8 rfl, h29.at_ 4 rfl, h29.at_ 5 rfl, h29.at_ 6 rfl, trivial⟩, ?_⟩
   refine dP 1 [19] ?_
   refine dN 20 ?_
   refine dX ?_
   refine ma h29 6 ?_
   refine ma h29 0 ?_
   refine mT (xR h29 7 ([(sV c1), (sV srv), (lV A27 16 c27), (lV B27 16 d27)])) ?_
   rintro _ w33 h33
   refine mF (post_2 (r := .cell 6 43) (s := .tmp 7) (by kernel_rfl) rfl (rce (h33.at_ 7 rfl)) (rtm (iV .i64 0)) ?_)
   exact ⟨_, _, _, _, _, _, rfl, h33.sel [1, 9, 2, 3] [] rfl rfl rfl⟩
  ·
   refine oT (xN h26 35 ([(sV ByteArray.empty), (lV none 0 0)])) ?_
   rintro _ w34 ⟨g34, rfl, h34⟩
   refine ⟨⟨h34.rd 0 rfl, h34.at_ 5 rfl, h34.at_ 1 rfl, h34.at_ 2 rfl, h34.at_ 3 rfl, trivial⟩, ?_⟩
   refine dT 12 (x_give (s' := (((s2.add SFrom.fresh).seal (kl Kx) 2 b1).seal (kl Ki) 8 b2)) h34 6 rfl [(pt kb 0), (sV srv), (aV (vb (kl Kx)).toArray), (aV ([(iV .i64 2)] ++ vb (kl K) ++ [(sV c1), (iV .i64 a), (iV .i64 eo), (iV .i64 0)]).toArray), (iV .i64 nn), (aV (vb (kl Ki)).toArray), (iV .i64 8)] (by kernel_rfl) (give_ok (h34.at_ 6 rfl) ((hrm.add _).less (by decide)) (h34.rd 1 rfl) (fun hq => h34.rdis 1 6 _ _ rfl rfl kb rfl hq) hl1 hl2 hp1 hp2)) ?_
   rintro _ w35 ⟨A35, c35, B35, d35, F35, rfl, h35⟩
   refine ⟨⟨h35.rd 0 rfl, h35.at_ 8 rfl, h35.at_ 4 rfl, h35.at_ 5 rfl, h35.at_ 6 rfl, trivial⟩, ?_⟩
   refine dP 3 [13, 14, 15, 16] ?_
   refine dT 18 (xR h35 3 ([(sV srv), (lV A35 16 c35)])) ?_
   rintro _ w36 h36
   refine ⟨⟨h36.rd 0 rfl, h36.at_ 8 rfl, h36.at_ 4 rfl, h36.at_ 5 rfl, h36.at_ 6 rfl, trivial⟩, ?_⟩
   refine dP 1 [19] ?_
   refine dN 20 ?_
   refine dX ?_
   refine ma h36 6 ?_
   refine ma h36 3 ?_
   refine mT (xR h36 7 ([(sV c1), (sV srv), (lV A35 16 c35), (lV B35 16 d35)])) ?_
   rintro _ w40 h40
   refine mF (post_2 (r := .cell 6 43) (s := .tmp 7) (by kernel_rfl) rfl (rce (h40.at_ 7 rfl)) (rtm (iV .i64 0)) ?_)
   exact ⟨_, _, _, _, _, _, rfl, h40.sel [0, 9, 1, 2] [] rfl rfl rfl⟩
 ·
  refine dG h7 12 11 (fun W => (rBlk g6 54 ([(iV .i64 f)] ++ vb (kl Ki) ++ [(sV c1), (iV .i64 a), (iV .i64 u), (iV .i64 r)])).Φ W /\ (rBlk sv 73 ([(pt kb 0), (pt cb 0), (pt bk 0)])).Φ W /\ (rBlk kb 78 ([(Value.iface 28 (pt tb 0)), (pt bb 0)] ++ vb (kl Kk))).Φ W /\ True) (fun w41 h41 => ⟨h41.at_ 0 rfl, h41.rd 0 rfl, h41.rd 1 rfl, trivial⟩) ?_
  intro w41 h41
  refine dP 9 [1, 2, 3] ?_
  refine dL 0 (fun W hW => hW.1) ?_
  refine dL 4 (fun W hW => hW.2.1) ?_
  refine dP 5 [5, 6] ?_
  refine dL 7 (fun W hW => hW.2.2.1) ?_
  refine dO 8 9 ?_ ?_
  ·
   refine oT (xN h41 54 ([(iV .i64 0)] ++ vb (List.replicate 16 0) ++ [(sV ByteArray.empty), (iV .i64 0), (iV .i64 0), (iV .i64 0)])) ?_
   rintro _ w42 ⟨g42, rfl, h42⟩
   refine ⟨⟨h42.at_ 1 rfl, h42.rd 0 rfl, h42.rd 1 rfl, trivial⟩, ?_⟩
   refine dT 9 (xN h42 31 (vb (List.replicate 16 0))) ?_
   rintro _ w43 ⟨g43, rfl, h43⟩
   refine ⟨⟨h43.at_ 2 rfl, h43.rd 0 rfl, h43.rd 1 rfl, trivial⟩, ?_⟩
   refine dT 10 (xR h43 1 ([(iV .i64 f)] ++ vb (kl Ki) ++ [(sV c1), (iV .i64 a), (iV .i64 u), (iV .i64 r)])) ?_
   rintro _ w44 h44
   refine ⟨⟨h44.at_ 2 rfl, h44.rd 0 rfl, h44.rd 1 rfl, trivial⟩, ?_⟩
   refine dE 11 (xR h44 0 (vb (kl Kk))) ?_
   rintro _ w45 h45
   refine dX ?_
   exact mK hJ12 (hhJ12 _ _ ⟨g42, g43, _, pM, h45.sel [0, 1, 2, 3, 4, 5, 6] [0, 1, 2, 3, 4, 5] (by kernel_rfl) rfl rfl⟩)
  ·
   refine oT (xN h41 31 (vb (List.replicate 16 0))) ?_
   rintro _ w46 ⟨g46, rfl, h46⟩
   refine ⟨⟨h46.at_ 1 rfl, h46.rd 0 rfl, h46.rd 1 rfl, trivial⟩, ?_⟩
   refine dT 8 (xN h46 54 ([(iV .i64 0)] ++ vb (List.replicate 16 0) ++ [(sV ByteArray.empty), (iV .i64 0), (iV .i64 0), (iV .i64 0)])) ?_
   rintro _ w47 ⟨g47, rfl, h47⟩
   refine ⟨⟨h47.at_ 2 rfl, h47.rd 0 rfl, h47.rd 1 rfl, trivial⟩, ?_⟩
   refine dT 10 (xR h47 0 ([(iV .i64 f)] ++ vb (kl Ki) ++ [(sV c1), (iV .i64 a), (iV .i64 u), (iV .i64 r)])) ?_
   rintro _ w48 h48
   refine ⟨⟨h48.at_ 2 rfl, h48.rd 0 rfl, h48.rd 1 rfl, trivial⟩, ?_⟩
   refine dE 11 (xR h48 1 (vb (kl Kk))) ?_
   rintro _ w49 h49
   refine dX ?_
   exact mK hJ12 (hhJ12 _ _ ⟨g47, g46, _, pM, h49.sel [1, 0, 2, 3, 4, 5, 6] [0, 1, 2, 3, 4, 5] (by kernel_rfl) rfl rfl⟩)
end
section
section
variable {s s' : STab} {f g : SFrom} {n : Nat}
end
end
section
open Go.RowKit
theorem markOf_mkB {k : UInt8} {n : Nat} (hk : k = 107 ∨ k = 98 ∨ k = 100) (hn : n <= 1099511627776) : markOf (mkB k n) = some (k, n) := by
 have h2 : gb (mkB k n) 2 = k := rfl
 have h8 : getN ((mkB k n).drop 8) = n := getN_put8 n (by omega)
 unfold markOf
 rw [h2, h8, if_pos ⟨rfl, hk, hn, rfl⟩]
/-! ### Tables -/
section
variable {s s' : STab} {f g : SFrom} {n : Nat} {k l : Bytes} {u : Int} {b : Bytes}
theorem box_at {x : SSealed} (h : s.boxes[n]? = some x) (hn : n < 1000000) : s.box (mkB 98 (n + 1)) = some x := by
 unfold STab.box
 rw [markOf_mkB (by decide) (by omega)]
 simp [h]
end
end
section
open Go.RowKit Go.QT
section
variable {s s' : STab} {n m : Nat} {bx : List SSealed} {kn : List (SFrom × Nat)} {f : SFrom} {k : Bytes} {u : Int} {b : Bytes}
end
/-- What is right, and not long, is packed. -/
theorem pack_is {t : Thing} (hr : rightTh t = true) (hl : (wrV (valD t)).length <= 4096) : packB t = .inr (wrV (valD t)) := by
 unfold packB; rw [if_pos hr, if_pos hl]
theorem val_small {t : Thing} {n : Nat} (h : ∀ v ∈ valL t, (wrV v).length <= n) (hn : (valL t).length <= 7) : (wrV (valD t)).length <= 10 + 7 * n := by
 have h0 := wrV_leT (valD t)
 have e : bodyV (valD t) = wrL (valL t) := rfl
 rw [e] at h0
 have key : ∀ (l : List DVal), (∀ v ∈ l, (wrV v).length <= n) -> (wrL l).length <= l.length * n := by
   intro l
   induction l with
   | nil => intro _; rw [wrL]; simp
   | cons v l ih =>
     intro hh
     rw [wrL, List.length_append, List.length_cons, Nat.add_mul]
     have := hh v (by simp)
     have := ih (fun x hx => hh x (by simp [hx]))
     omega
 have := key _ h
 have : (valL t).length * n <= 7 * n := Nat.mul_le_mul_right _ hn
 omega
theorem pack_stamp {t q : Int} (h1 : inN t = true) (h2 : inN q = true) : ∃ b, packB (.stamp t q) = .inr b := by
 refine ⟨_, pack_is ?_ ?_⟩
 · show rightM _ _ = true
   unfold rightM
   rw [List.all_cons, List.all_cons, List.all_nil, h1, h2]
   decide
 · refine Nat.le_trans (val_small (n := 18) ?_ (by simp [valL])) (by decide)
   intro v hv
   simp only [valL, List.mem_cons, List.not_mem_nil, or_false] at hv
   rcases hv with rfl | rfl <;> exact wr_nD _
theorem pack_inside {f a u r : Int} {K : Fin 16 -> UInt8} {s : ByteArray} (hr : rightM s [f, a, u, r] = true) (hs : s.size <= 300) : ∃ b, packB (.inside f K s a u r) = .inr b := by
 refine ⟨_, pack_is hr ?_⟩
 refine Nat.le_trans (val_small (n := 310) ?_ (by simp [valL])) (by decide)
 intro v hv
 simp only [valL, List.mem_cons, List.not_mem_nil, or_false] at hv
 have h1 := wr_bD (kl K)
 have h2 := wr_bD s.data.toList
 rw [kl_len] at h1
 rw [size_toList] at h2
 rcases hv with rfl | rfl | rfl | rfl | rfl | rfl
 · have := wr_nD f; omega
 · omega
 · omega
 · have := wr_nD a; omega
 · have := wr_nD u; omega
 · have := wr_nD r; omega
theorem pack_reply {f n a u r : Int} {K : Fin 16 -> UInt8} {s : ByteArray} (hr : rightM s [f, n, a, u, r] = true) (hs : s.size <= 300) : ∃ b, packB (.reply f K n s a u r) = .inr b := by
 refine ⟨_, pack_is hr ?_⟩
 refine Nat.le_trans (val_small (n := 310) ?_ (by simp [valL])) (by decide)
 intro v hv
 simp only [valL, List.mem_cons, List.not_mem_nil, or_false] at hv
 have h1 := wr_bD (kl K)
 have h2 := wr_bD s.data.toList
 rw [kl_len] at h1
 rw [size_toList] at h2
 rcases hv with rfl | rfl | rfl | rfl | rfl | rfl | rfl
 · have := wr_nD f; omega
 · omega
 · have := wr_nD n; omega
 · omega
 · have := wr_nD a; omega
 · have := wr_nD u; omega
 · have := wr_nD r; omega
theorem rightM_is {s : ByteArray} {l : List Int} (h : rightN s = true) (hl : ∀ x ∈ l, inN x = true) : rightM s l = true := by
 unfold rightM; rw [h, List.all_eq_true.2 hl]; rfl
theorem inN_is {x : Int} (h1 : 0 <= x) (h2 : x <= 1099511627776) : inN x = true := inN_in (by omega) (by omega)
theorem ex_key (n : Nat) : ∃ K, kl K = mkB 107 n := by
 obtain ⟨K, hK⟩ := kl_of (mkB 107 n) (mkB_len _ _)
 exact ⟨K, hK.symm⟩
theorem pack_le6 {t : Thing} {b : Bytes} (h : packB t = .inr b) : b.length <= 1000000 := Nat.le_trans (pack_le h) (by decide)
end
section
open Go.RowKit Go.QT
section
variable {P : Program} {o : Oper} {a : Act}
end
end
section
open Go.RowKit Go.QT
end
section
open Go.RowKit Go.QT
section
variable {s : ByteArray} {f i n : Nat} (hinv : runesN s (s.size + 1) 0 0 = runesN s (f + 1) i n) (hi : i < s.size)
include hinv hi
end
end
section
open Go.RowKit Go.QT
section
variable {o : Oper} {a : Act} {F0 F : Nat -> Prop} {w0 w w' : World} {ro rs : List Res} {tb : Nat} {s : STab}
theorem x_knew (h : Hp F0 w0 w ro rs) (i : Nat) (hi : rs[i]? = some (rTab F tb s)) (hs : Room 5 s) (hp : pureVal Tryz.prog (execOp a.eval o) = some (.enter 40 #[.iface 28 (pt tb 0)])) :
   OpTo Tryz.prog o a w (fun u w' => ∃ kb G bb F' K s', u = pt kb 0 /\ kl K = mkB 107 (s.keys.length + 1) /\ s' = s.add SFrom.fresh /\ Hp F0 w0 w' ro (rBlk kb 78 (kdcC tb bb K) :: rBs G bb [] :: rTab F' tb s' :: rs.eraseIdx i)) :=
 OpTo.enter 40 [.iface 28 (pt tb 0)] hp (knew_any (h.at_ i hi) hs) fun _ _ ⟨kb, G, bb, F', K, he, hK, hh⟩ => ⟨_, he, kb, G, bb, F', K, _, rfl, hK, rfl, h.call1 i hi hh⟩
/-- Enrol. -/
theorem x_enrol {G : Nat -> Prop} {bb : Nat} {us us' : List User} {f : SFrom} {er : Int} (h : Hp F0 w0 w ro rs) (i j : Nat) (hi : rs[i]? = some (rTab F tb s)) (hj : rs[j]? = some (rBs G bb us)) (hij : decide (i ≠ j) = true) (al : List Value) (hp : pureVal Tryz.prog (execOp a.eval o) = some (.enter 26 al.toArray))
   (hc : Calls Tryz.prog 26 al.toArray w (fun e w' => e = .returned (.int .i64 er) /\ ∃ F' G', Hp (fun q => F q ∨ G q) w w' [] [rTab F' tb (s.made f), rBs G' bb us'])) :
   OpTo Tryz.prog o a w (fun u w' => ∃ F' G' s', u = .int .i64 er /\ s' = s.made f /\ Hp F0 w0 w' ro ((rs.set i (rTab F' tb s')).set j (rBs G' bb us'))) :=
 OpTo.enter 26 al hp hc fun _ _ ⟨he, F', G', hh⟩ => ⟨_, he, F', G', _, rfl, rfl, h.upd2 i j hi hj (of_decide_eq_true hij) hh⟩
/-- As, where it gives. -/
theorem x_asY {s2 : STab} {nm : ByteArray} {m1 m2 : Bytes} (h : Hp F0 w0 w ro rs) (i : Nat) (hi : rs[i]? = some (rTab F tb s)) (al : List Value) (hp : pureVal Tryz.prog (execOp a.eval o) = some (.enter 45 al.toArray))
   (hc : Calls Tryz.prog 45 al.toArray w (fun e w' => ∃ A1 c1 A2 c2 F', e = .returned (.tuple #[.agg #[.string nm, .string ⟨#[107, 100, 99]⟩, .slice A1 16 c1, .slice A2 16 c2], .int .i64 0]) /\ Hp F w w' [] [rTab F' tb s2, rSB (.slice A1 16 c1) m1, rSB (.slice A2 16 c2) m2])) :
   OpTo Tryz.prog o a w (fun u w' => ∃ A1 c1 A2 c2 F' s', u = .tuple #[.agg #[.string nm, .string ⟨#[107, 100, 99]⟩, .slice A1 16 c1, .slice A2 16 c2], .int .i64 0] /\ s' = s2 /\ Hp F0 w0 w' ro (rTab F' tb s' :: rSB (.slice A1 16 c1) m1 :: rSB (.slice A2 16 c2) m2 :: rs.eraseIdx i)) :=
 OpTo.enter 45 al hp hc fun _ _ ⟨A1, c1, A2, c2, F', he, hh⟩ => ⟨_, he, A1, c1, A2, c2, F', _, rfl, rfl, h.call1 i hi hh⟩
end
end
section
open Go.RowKit Go.QT
section
variable {o : Oper} {a : Act} {F0 F : Nat -> Prop} {w0 w : World} {ro rs : List Res}
theorem e_maxI (x y : Operand) (ts : Array TypeId) (ho : o.op = .call { callee := .builtin .max, args := #[x, y], argTypes := ts }) (k k' : IntKind) (m n : Int) (hx : a.eval x = .int k m) (hy : a.eval y = .int k' n) (r : Int) (hr : (if n > m then n else m) = r) (W : World) :
   (execOp a.eval o).run Tryz.prog W = .ok (.value (.int k r)) W := by
 subst hr
 unfold execOp
 simp only [ho, resolve, invoke, builtin, Sem.run_bind, Sem.run_pure, Result.andThen_ok, List.map_toArray, List.map_cons, List.map_nil, hx, hy, run_max_int2]
theorem x_makeBk (h : Hp F0 w0 w ro rs) (ho : o.op = .makeMap 162 none) :
   OpTo Tryz.prog o a w (fun v w' => ∃ mb, v = .map (some mb) /\ Hp F0 w0 w' ro rs) := by
 refine OpTo.run (.map (some w.heap.size)) (w' := w.alloc (.map #[] 0)) ?_ ⟨_, rfl, h.below ((Below.refl _ _).alloc (Nat.le_refl _) _)⟩
 have h1 : (Instr.makeMap 162 none).run Tryz.prog w = .ok (.map (some w.heap.size)) (w.alloc (.map #[] 0)) := rfl
 unfold execOp
 simp only [ho, Option.map_none, Sem.run_bind, h1, Result.andThen_ok, Sem.run_pure]
theorem x_cnew (h : Hp F0 w0 w ro rs) (hp : pureVal Tryz.prog (execOp a.eval o) = some (.enter 41 #[.int .i64 64])) (hc : Calls Tryz.prog 41 #[.int .i64 64] w (fun e w' => ∃ G cb, e = .returned (pt cb 0) /\ Hp (fun _ => False) w w' [] [rCa G cb 64 []])) :
   OpTo Tryz.prog o a w (fun u w' => ∃ G cb, u = pt cb 0 /\ Hp F0 w0 w' ro (rCa G cb 64 [] :: rs)) :=
 OpTo.enter 41 [.int .i64 64] hp hc fun e w' hq => by
   obtain ⟨G, cb, he, h2⟩ := hq
   exact ⟨_, he, G, cb, rfl, h.call0 h2⟩
theorem x_bknew (h : Hp F0 w0 w ro rs) (hp : pureVal Tryz.prog (execOp a.eval o) = some (.enter 42 #[])) (hc : Calls Tryz.prog 42 #[] w (fun e w' => ∃ bk mv, e = .returned (pt bk 0) /\ Hp (fun _ => False) w w' [] [rBlk bk 164 [mv]])) :
   OpTo Tryz.prog o a w (fun u w' => ∃ bk mv, u = pt bk 0 /\ Hp F0 w0 w' ro (rBlk bk 164 [mv] :: rs)) :=
 OpTo.enter 42 [] hp hc fun e w' hq => by
   obtain ⟨bk, mv, he, h2⟩ := hq
   exact ⟨_, he, bk, mv, rfl, h.call0 h2⟩
end
theorem cnew_any (w : World) : Calls Tryz.prog 41 #[.int .i64 64] w (fun e w' => ∃ G cb, e = .returned (pt cb 0) /\ Hp (fun _ => False) w w' [] [rCa G cb 64 []]) := by
 have h0 := Hp.nil (fun _ => False) w
 refine mE 8 ?_
 refine mW 4 (v := (Value.int .i64 64)) (e_min (.tmp 3) (.const (Value.int .i64 64)) #[3, 3] (by kernel_rfl) .i64 .i64 64 64 (by kernel_rfl) (by kernel_rfl) 64 rfl _) ?_
 refine mW 5 (v := (Value.int .i64 64)) (e_maxI (.const (Value.int .i64 1)) (.tmp 4) #[3, 3] (by kernel_rfl) .i64 .i64 1 64 (by kernel_rfl) (by kernel_rfl) 64 rfl _) ?_
 refine mT (xN h0 171 ([(Value.slice none 0 0), (Value.int .i64 64)])) ?_
 rintro _ w3 ⟨g3, rfl, h3⟩
 refine mP (pt g3 0) ?_
 have h4 := h3.owNil 187 3 none
 exact ⟨_, _, rfl, (show Hp _ _ _ _ (lCa g3 none 0 64 [] ++ []) from h4.sel [1, 0] [] rfl rfl rfl).closeC⟩
theorem bknew_any (w : World) : Calls Tryz.prog 42 #[] w (fun e w' => ∃ bk mv, e = .returned (pt bk 0) /\ Hp (fun _ => False) w w' [] [rBlk bk 164 [mv]]) := by
 have h0 := Hp.nil (fun _ => False) w
 refine mE 4 ?_
 refine mT (x_makeBk h0 (by kernel_rfl)) ?_
 rintro _ w3 ⟨m3, rfl, h3⟩
 refine mT (xN h3 164 ([(Value.map (some m3))])) ?_
 rintro _ w4 ⟨g4, rfl, h4⟩
 refine mP (pt g4 0) ?_
 exact ⟨_, _, rfl, h4⟩
/-- What New leaves. -/
def NwPost (F : Nat -> Prop) (tb : Nat) (s : STab) (w : World) (e : Ending) (w' : World) : Prop :=
 ∃ sv kb cb bk G bb Gc K F' mv, e = .returned (pt sv 0) /\ kl K = mkB 107 (s.keys.length + 1) /\ Hp F w w' [] [rBlk sv 73 (svC kb cb bk), rBlk kb 78 (kdcC tb bb K), rBs G bb [], rCa Gc cb 64 [], rBlk bk 164 [mv], rTab F' tb (s.add SFrom.fresh)]
theorem kgnew_any {F : Nat -> Prop} {tb : Nat} {s : STab} {w : World} (hT : (rTab F tb s).Φ w) (hs : Room 5 s) : Calls Tryz.prog 25 #[(Value.iface 28 (pt tb 0))] w (NwPost F tb s w) := by
 have h0 := Hp.one (rTab F tb s) hT
 refine mE 9 ?_
 refine mT (x_knew h0 0 rfl hs (by kernel_rfl)) ?_
 rintro _ w3 ⟨kb3, G3, bb3, F3, K3, s3, rfl, hK3, hs3, h3⟩
 refine mT (x_cnew h3 (by kernel_rfl) (cnew_any _)) ?_
 rintro _ w4 ⟨G4, g4, rfl, h4⟩
 refine mT (x_bknew h4 (by kernel_rfl) (bknew_any _)) ?_
 rintro _ w5 ⟨g5, m5, rfl, h5⟩
 refine mT (xN h5 73 ([(pt kb3 0), (pt g4 0), (pt g5 0)])) ?_
 rintro _ w6 ⟨g6, rfl, h6⟩
 refine mP (pt g6 0) ?_
 rw [hs3] at h6
 exact ⟨_, _, _, _, _, _, _, _, _, _, rfl, hK3, h6.sel [0, 3, 4, 2, 1, 5] [] rfl rfl rfl⟩
end
section
open Go.RowKit Go.QT
section
variable {s : STab} {k k' : Bytes} {u u' : Int} {b b' l β γ : Bytes} {x : SSealed} {t : Thing} {f : SFrom} {i n : Nat}
theorem bx_new (hl : s.boxes.length < 1000000) : (s.seal k u b).box (mkB 98 (s.boxes.length + 1)) = some ⟨k, u, b⟩ :=
 box_at (s := s.seal k u b) (n := s.boxes.length) (by show (s.boxes ++ [_])[s.boxes.length]? = _; simp) hl
theorem bx_seal (h : s.box l = some x) : (s.seal k u b).box l = some x := by
 unfold STab.box at h ⊢
 cases hm : markOf l with
 | none => rw [hm] at h; cases h
 | some p =>
   obtain ⟨kd, m⟩ := p
   rw [hm] at h
   simp only at h ⊢
   split at h
   · rename_i hc
     rw [if_pos hc]
     show (s.boxes ++ [_])[m - 1]? = _
     rw [List.getElem?_append_left (List.getElem?_eq_some_iff.1 h).1]; exact h
   · cases h
theorem seal_len : (s.seal k u b).boxes.length = s.boxes.length + 1 := by show (s.boxes ++ [_]).length = _; simp
theorem bx_dig : (s.digest β).box l = s.box l := by unfold STab.digest; split <;> rfl
theorem dig_boxes : (s.digest β).boxes = s.boxes := by unfold STab.digest; split <;> rfl
theorem dig_keys : (s.digest β).keys = s.keys := by unfold STab.digest; split <;> rfl
theorem op_bx (h : s.box l = some ⟨k, u, b⟩) (hp : packB t = .inr b) : openTh s k u l = .inr t := by
 unfold openTh STab.open_
 rw [h]
 simp only [Option.bind_some, and_self, if_true]
 exact unp_pack hp
/-- Where a sum stands. -/
def SK (s : STab) (β : Bytes) (n : Nat) : Prop := s.sumAt β = n /\ n < s.sums.length
theorem sk_new : SK (s.digest β) β (s.sumAt β) := by
 unfold SK STab.digest
 split
 · rename_i h; exact ⟨rfl, h⟩
 · rename_i h
   have h0 : s.sumAt β = s.sums.length := by
     have : s.sumAt β <= s.sums.length := List.findIdx_le_length
     omega
   refine ⟨?_, by show s.sumAt β < (s.sums ++ [β]).length; rw [h0]; simp⟩
   show (s.sums ++ [β]).findIdx (· = β) = s.sumAt β
   rw [List.findIdx_append]
   have e : s.sums.findIdx (· = β) = s.sums.length := h0
   rw [if_neg (by omega)]
   simp [STab.sumAt, e]
theorem sk_dig (h : SK s β n) : SK (s.digest γ) β n := by
 obtain ⟨h1, h2⟩ := h
 unfold STab.digest
 split
 · exact ⟨h1, h2⟩
 · refine ⟨?_, by show n < (s.sums ++ [γ]).length; rw [List.length_append]; omega⟩
   show (s.sums ++ [γ]).findIdx (· = β) = n
   have e : s.sums.findIdx (· = β) = n := h1
   rw [List.findIdx_append, if_pos (by omega), e]
theorem dig_old (h : SK s β n) : s.digest β = s := by
 unfold STab.digest
 rw [if_pos (by rw [h.1]; exact h.2)]
theorem dig_len (h : s.sums.length <= n) : (s.digest β).sums.length <= n + 1 := by
 unfold STab.digest
 split
 · omega
 · show (s.sums ++ [β]).length <= _; rw [List.length_append]; simp; omega
theorem Room.digest {m : Nat} (h : Room m s) : Room m (s.digest β) := ⟨by rw [dig_boxes]; exact h.body, by rw [dig_boxes]; exact h.box, by rw [dig_keys]; exact h.key⟩
end
section
variable {o : Oper} {a : Act} {F0 F : Nat -> Prop} {w0 w : World} {ro rs : List Res} {tb : Nat} {s : STab}
/-- A sum, its table told. -/
theorem x_sumX (h : Hp F0 w0 w ro rs) (i : Nat) (hi : rs[i]? = some (rTab F tb s)) (b : Bytes) (al : List Value) (fn : FuncId) (hp : pureVal Tryz.prog (execOp a.eval o) = some (.enter fn al.toArray)) (hc : (rTab F tb s).Φ w -> Calls Tryz.prog fn al.toArray w (SumPost F tb s b w)) :
   OpTo Tryz.prog o a w (fun u w' => ∃ A c F', u = .slice A 16 c /\ Hp F0 w0 w' ro (rTab F' tb (s.digest b) :: rSB (.slice A 16 c) (mkB 100 (s.sumAt b + 1)) :: rs.eraseIdx i)) :=
 (x_sum h i hi b al fn hp hc).mono fun u w' ⟨A, c, F', s', e, es, h'⟩ => by
   subst es
   exact ⟨A, c, F', e, h'⟩
/-- Text, of what is known. -/
theorem x_textK (h : Hp F0 w0 w ro rs) (i : Nat) (hi : rs[i]? = some (rTab F tb s)) (p q : ByteArray) (K : Fin 16 -> UInt8) (hK : kl K = mkB 107 (s.num (textF p q))) (hm : s.made (textF p q) = s) (hp : pureVal Tryz.prog (execOp a.eval o) = some (.enter 44 #[pt tb 0, .string p, .string q])) (h1 : p.size <= 1000000) (h2 : q.size <= 1000000) (hn : s.keys.length < 1000000) :
   OpTo Tryz.prog o a w (fun u w' => ∃ F', u = .agg (vb (kl K)).toArray /\ Hp F0 w0 w' ro (rs.set i (rTab F' tb s))) :=
 (x_text h i hi p q hp h1 h2 hn).mono fun u w' hq => by
   obtain ⟨K', F', s', e, hK', es, h'⟩ := hq
   obtain rfl : K = K' := kl_inj (hK.trans hK'.symm)
   rw [hm] at es
   subst es
   exact ⟨F', e, h'⟩
/-- tick.Seal, its table told. -/
theorem x_tsX {G : Nat -> Prop} (h : Hp F0 w0 w ro rs) (i : Nat) (hi : rs[i]? = some (rTab F tb s)) (K : Fin 16 -> UInt8) (us : Int) {x : Value} {t : Thing} {b : Bytes} (hpk : packB t = .inr b) (hp : pureVal Tryz.prog (execOp a.eval o) = some (.enter 28 #[.iface 28 (pt tb 0), .agg (vb (kl K)).toArray, .int .i64 us, x])) (hs : TabOk s) (hu : (rTh G x t).Φ w) (hd : ∀ q, G q -> ¬ F q) (hl : limTh t) :
   OpTo Tryz.prog o a w (fun u w' => ∃ A c F', u = .tuple #[.slice A 16 c, .int .i64 0] /\ Hp F0 w0 w' ro (rTab F' tb (s.seal (kl K) us b) :: rSB (.slice A 16 c) (mkB 98 (s.boxes.length + 1)) :: rs.eraseIdx i)) :=
 (x_tseal h i hi K us hpk hp hs hu hd hl).mono fun u w' hq => by
   obtain ⟨A, c, F', s', e, es, h'⟩ := hq
   subst es
   exact ⟨A, c, F', e, h'⟩
/-- As, its table told. -/
theorem x_asX {s2 : STab} {nm : ByteArray} {m1 m2 : Bytes} (h : Hp F0 w0 w ro rs) (i : Nat) (hi : rs[i]? = some (rTab F tb s)) (al : List Value) (hp : pureVal Tryz.prog (execOp a.eval o) = some (.enter 45 al.toArray))
   (hc : Calls Tryz.prog 45 al.toArray w (fun e w' => ∃ A1 c1 A2 c2 F', e = .returned (.tuple #[.agg #[.string nm, .string ⟨#[107, 100, 99]⟩, .slice A1 16 c1, .slice A2 16 c2], .int .i64 0]) /\ Hp F w w' [] [rTab F' tb s2, rSB (.slice A1 16 c1) m1, rSB (.slice A2 16 c2) m2])) :
   OpTo Tryz.prog o a w (fun u w' => ∃ A1 c1 A2 c2 F', u = .tuple #[.agg #[.string nm, .string ⟨#[107, 100, 99]⟩, .slice A1 16 c1, .slice A2 16 c2], .int .i64 0] /\ Hp F0 w0 w' ro (rTab F' tb s2 :: rSB (.slice A1 16 c1) m1 :: rSB (.slice A2 16 c2) m2 :: rs.eraseIdx i)) :=
 (x_asY h i hi al hp hc).mono fun u w' ⟨A1, c1, A2, c2, F', s', e, es, h'⟩ => by
   subst es
   exact ⟨A1, c1, A2, c2, F', e, h'⟩
end
abbrev bANN : ByteArray := ⟨#[97, 110, 110]⟩
abbrev bBOB : ByteArray := ⟨#[98, 111, 98]⟩
abbrev bKDC : ByteArray := ⟨#[107, 100, 99]⟩
/-- A reply's cells. -/
def rpC (fl : Int) (K : Fin 16 -> UInt8) (n : Int) (s : ByteArray) (a e r : Int) : List Value := [Value.int .i64 fl] ++ vb (kl K) ++ [.int .i64 n, .string s, .int .i64 a, .int .i64 e, .int .i64 r]
def dkC (tb sv : Nat) (ra rb : List Value) (x y : Value) : List Value := [pt tb 0, pt sv 0] ++ ra ++ rb ++ [.string bKDC, x, .string bKDC, y]
def zK : Fin 16 -> UInt8 := fun _ => 0
theorem rTh_authent {w : World} {A : Option Addr} {c : Nat} {b : Bytes} (s1 : ByteArray) (t q : Int) (K : Fin 16 -> UInt8) (h : SB w (.slice A b.length c) b) : (rTh (rSB (.slice A b.length c) b).F (.iface 100 (.agg (auC s1 t q K (.slice A b.length c)).toArray)) (.authent s1 t q K b)).Φ w := ⟨(rSB _ _).lt h, A, c, rfl, rsg_of h⟩
theorem right_ann : rightN ⟨#[97, 110, 110]⟩ = true := by decide +kernel
theorem right_bob : rightN ⟨#[98, 111, 98]⟩ = true := by decide +kernel
theorem right_kdc : rightN ⟨#[107, 100, 99]⟩ = true := by decide +kernel
theorem pack_authent {s : ByteArray} {t q : Int} {K : Fin 16 -> UInt8} {c : Bytes} (hr : rightM s [t, q] = true) (hs : s.size <= 300) (hc : c.length <= 300) : ∃ b, packB (.authent s t q K c) = .inr b := by
 refine ⟨_, pack_is hr ?_⟩
 refine Nat.le_trans (val_small (n := 310) ?_ (by simp [valL])) (by decide)
 intro v hv
 simp only [valL, List.mem_cons, List.not_mem_nil, or_false] at hv
 have h1 := wr_bD (kl K)
 have h2 := wr_bD s.data.toList
 have h3 := wr_bD c
 rw [kl_len] at h1
 rw [size_toList] at h2
 rcases hv with rfl | rfl | rfl | rfl | rfl
 · omega
 · have := wr_nD t; omega
 · have := wr_nD q; omega
 · omega
 · omega
end
section
open Go.RowKit Go.QT
/-- What auth leaves. -/
def AuthPost (F : Nat -> Prop) (tb : Nat) (s2 : STab) (nb : Nat) (w : World) (e : Ending) (w' : World) : Prop :=
 ∃ A c F', e = .returned (.slice A 16 c) /\ Hp F w w' [] [rTab F' tb s2, rSB (.slice A 16 c) (mkB 98 (nb + 1))]
theorem x_auth {o : Oper} {a : Act} {F0 F : Nat -> Prop} {w0 w : World} {ro rs : List Res} {tb nb : Nat} {s s2 : STab} (h : Hp F0 w0 w ro rs) (i : Nat) (hi : rs[i]? = some (rTab F tb s)) (al : List Value) (hp : pureVal Tryz.prog (execOp a.eval o) = some (.enter 11 al.toArray)) (hc : Calls Tryz.prog 11 al.toArray w (AuthPost F tb s2 nb w)) :
   OpTo Tryz.prog o a w (fun u w' => ∃ A c F', u = .slice A 16 c /\ Hp F0 w0 w' ro (rTab F' tb s2 :: rSB (.slice A 16 c) (mkB 98 (nb + 1)) :: rs.eraseIdx i)) :=
 OpTo.enter 11 al hp hc fun e w' hq => by
   obtain ⟨A, c, F', he, h2⟩ := hq
   exact ⟨_, he, A, c, F', rfl, h.call1 i hi h2⟩
theorem auth15_any {F : Nat -> Prop} {d tb sv : Nat} {s : STab} {df t q n1 a1 e1 r1 f2 n2 a2 e2 r2 : Int} {Ka K2 : Fin 16 -> UInt8} {s1 s2 : ByteArray} {vx vy : Value} {Rq : Res} {qv : Value} {β b : Bytes} {w : World} (h0 : Hp F w w [rBlk d 37 (dkC tb sv (rpC df Ka n1 s1 a1 e1 r1) (rpC f2 K2 n2 s2 a2 e2 r2) vx vy), Rq] [rTab F tb s]) (hs : Room 2 s)
   (hSum : ∀ w', (rTab F tb s).Φ w' -> Rq.Φ w' -> Rq.dj (rTab F tb s) -> Calls Tryz.prog 23 #[(Value.iface 28 (pt tb 0)), qv] w' (SumPost F tb s β w')) (hp : packB (.authent ⟨#[97, 110, 110]⟩ t q zK (mkB 100 (s.sumAt β + 1))) = .inr b) :
   Calls Tryz.prog 11 #[pt d 0, qv, .int .i64 t, .int .i64 q] w (AuthPost F tb ((s.digest β).seal (kl Ka) 7 b) s.boxes.length w) := by
 have h0 := h0
 refine mE 37 ?_
 refine dG h0 27 26 (fun W => (rBlk d 37 (dkC tb sv (rpC df Ka n1 s1 a1 e1 r1) (rpC f2 K2 n2 s2 a2 e2 r2) vx vy)).Φ W /\ True) (fun w3 h3 => ⟨h3.rd 0 rfl, trivial⟩) ?_
 intro w3 h3
 refine dP 14 [0, 1, 2, 5, 6, 7, 8, 10, 11, 12, 13, 14, 17] ?_
 refine dL 3 (fun W hW => hW.1) ?_
 refine dP 12 [4] ?_
 refine dLs 10 [9, 15] (fun W hW => hW.1) ?_
 refine dP 9 [16] ?_
 refine dT 18 (x_sumX h3 0 rfl β [(Value.iface 28 (pt tb 0)), qv] _ (by kernel_rfl) (fun hT => hSum _ hT (h3.rd 1 rfl) (h3.rdis 1 0 _ _ rfl rfl))) ?_
 rintro _ w4 ⟨A4, c4, F4, rfl, h4⟩
 refine ⟨⟨h4.rd 0 rfl, trivial⟩, ?_⟩
 refine dP 6 [19, 20] ?_
 refine dT 21 (x_tsX h4 0 rfl Ka 7 hp (by kernel_rfl) hs.digest.ok (rTh_authent (A := A4) (c := c4) (b := mkB 100 (s.sumAt β + 1)) ⟨#[97, 110, 110]⟩ t q zK (h4.at_ 1 rfl)) (fun q hq => h4.dis 1 0 _ _ rfl rfl (by decide) q hq) ⟨by decide, by rw [mkB_len]; decide⟩) ?_
 rintro _ w5 ⟨A5, c5, F5, rfl, h5⟩
 refine ⟨⟨h5.rd 0 rfl, trivial⟩, ?_⟩
 refine dP 1 [22, 23, 24, 25] ?_
 refine dN 26 ?_
 refine dX ?_
 refine mP (Value.slice A5 16 c5) ?_
 rw [dig_boxes] at h5
 exact ⟨_, _, _, rfl, h5.sel [0, 1] [] rfl rfl rfl⟩
/-- What login leaves. -/
def LgPost (F : Nat -> Prop) (tb : Nat) (s3 : STab) (nb : Nat) (rc : List Value) (w : World) (e : Ending) (w' : World) : Prop :=
 ∃ A c F', e = .returned (.tuple #[.agg rc.toArray, .agg #[.string ⟨#[107, 100, 99]⟩, .slice A 16 c], .bool true]) /\ Hp F w w' [] [rTab F' tb s3, rSB (.slice A 16 c) (mkB 98 (nb + 2))]
theorem x_login {o : Oper} {a : Act} {F0 F : Nat -> Prop} {w0 w : World} {ro rs : List Res} {tb nb : Nat} {s s3 : STab} {rc : List Value} (h : Hp F0 w0 w ro rs) (i : Nat) (hi : rs[i]? = some (rTab F tb s)) (al : List Value) (hp : pureVal Tryz.prog (execOp a.eval o) = some (.enter 27 al.toArray)) (hc : Calls Tryz.prog 27 al.toArray w (LgPost F tb s3 nb rc w)) :
   OpTo Tryz.prog o a w (fun u w' => ∃ A c F', u = .tuple #[.agg rc.toArray, .agg #[.string ⟨#[107, 100, 99]⟩, .slice A 16 c], .bool true] /\ Hp F0 w0 w' ro (rTab F' tb s3 :: rSB (.slice A 16 c) (mkB 98 (nb + 2)) :: rs.eraseIdx i)) :=
 OpTo.enter 27 al hp hc fun e w' hq => by
   obtain ⟨A, c, F', he, h2⟩ := hq
   exact ⟨_, he, A, c, F', rfl, h.call1 i hi h2⟩
theorem login15_any {F Gb : Nat -> Prop} {d tb sv kb cb bk bb : Nat} {s : STab} {us : List User} {u : User} {pw : ByteArray} {at_ fl R : Int} {Kk K : Fin 16 -> UInt8} {rest : List Value} {b0 b1 b2 : Bytes} {w : World} (h0 : Hp F w w [rBlk d 37 ([(pt tb 0), (pt sv 0)] ++ rest), rBlk sv 73 (svC kb cb bk), rBlk kb 78 (kdcC tb bb Kk), rBs Gb bb us] [rTab F tb s]) (hs : Room 12 s) (h32 : us.length <= 1000000)
   (hb2 : placeB us u.name = true) (hu : us[placeI us u.name]? = some u) (hK : kl u.key = mkB 107 (s.num (textF pw u.name))) (hm : s.made (textF pw u.name) = s) (hpw : pw.size <= 1000) (hnm : u.name.size <= 1000) (hat : 0 <= at_ /\ at_ <= 1000000) (hlife : 0 <= u.life /\ u.life <= 600)
   (hKK : kl K = mkB 107 (s.keys.length + 1)) (hfr : (0 < u.renew /\ u.renew <= 6000 /\ fl = 5 /\ R = at_ + u.renew) ∨ (u.renew <= 0 /\ fl = 4 /\ R = 0)) (hp0 : packB (.stamp at_ 0) = .inr b0) (hp1 : packB (.inside fl K u.name at_ (min (at_ + 600) (at_ + u.life)) R) = .inr b1) (hp2 : packB (.reply fl K 1 ⟨#[107, 100, 99]⟩ at_ (min (at_ + 600) (at_ + u.life)) R) = .inr b2) :
   Calls Tryz.prog 27 #[pt d 0, .string u.name, .string pw, .int .i64 at_] w (LgPost F tb ((((s.seal (kl u.key) 1 b0).add SFrom.fresh).seal (kl Kk) 2 b1).seal (kl u.key) 3 b2) s.boxes.length ([(Value.int .i64 fl)] ++ vb (kl K) ++ [(Value.int .i64 1), (Value.string (⟨#[107, 100, 99]⟩)), (Value.int .i64 at_), (Value.int .i64 ((min (at_ + 600) (at_ + u.life)))), (Value.int .i64 R)]) w) := by
 have h0 := h0
 refine mE 76 ?_
 refine mT (xN h0 33 ([(Value.int .i64 0)] ++ vb (List.replicate 16 0) ++ [(Value.int .i64 0), (Value.string ByteArray.empty), (Value.int .i64 0), (Value.int .i64 0), (Value.int .i64 0)])) ?_
 rintro _ w2 ⟨g2, rfl, h2⟩
 refine mT (xN h2 35 ([(Value.string ByteArray.empty), (Value.slice none 0 0)])) ?_
 rintro _ w3 ⟨g3, rfl, h3⟩
 refine mr h3 0 ?_
 refine mT (x_textK h3 2 rfl pw u.name u.key hK hm (by kernel_rfl) (by omega) (by omega) hs.keys) ?_
 rintro _ w5 ⟨F5, rfl, h5⟩
 refine mT (xN h5 31 (vb (List.replicate 16 0))) ?_
 rintro _ w6 ⟨g6, rfl, h6⟩
 refine mT (xR h6 0 (vb (kl u.key))) ?_
 rintro _ w7 h7
 refine dG h7 15 14 (fun W => (rBlk d 37 ([(pt tb 0), (pt sv 0)] ++ rest)).Φ W /\ (rBlk g6 31 (vb (kl u.key))).Φ W /\ True) (fun w9 h9 => ⟨h9.rd 0 rfl, h9.at_ 0 rfl, trivial⟩) ?_
 intro w9 h9
 refine dP 9 [0, 1, 2, 6, 7, 8] ?_
 refine dL 3 (fun W hW => hW.1) ?_
 refine dP 7 [4] ?_
 refine dL 5 (fun W hW => hW.2.1) ?_
 refine dT 9 (x_tsX h9 3 rfl u.key 1 hp0 (by kernel_rfl) hs.ok (rTh_stamp _ at_ 0) (fun _ hf => hf.elim) True.intro) ?_
 rintro _ w10 ⟨A10, c10, F10, rfl, h10⟩
 refine ⟨⟨h10.rd 0 rfl, h10.at_ 2 rfl, trivial⟩, ?_⟩
 refine dP 1 [10, 11, 12, 13] ?_
 refine dN 14 ?_
 refine dX ?_
 refine mr h10 0 ?_
 refine mr h10 1 ?_
 refine mW 49 (exec_add _ _ _ _ bO at_ 600 (by kernel_rfl) (by kernel_rfl) (at_ + 600) rfl (by omega) (by omega) _) ?_
 refine mT (x_asX (s2 := ((((s.seal (kl u.key) 1 b0).add SFrom.fresh).seal (kl Kk) 2 b1).seal (kl u.key) 3 b2)) (nm := u.name) (m1 := mkB 98 ((s.seal (kl u.key) 1 b0).boxes.length + 1)) (m2 := mkB 98 ((s.seal (kl u.key) 1 b0).boxes.length + 2)) h10 0 rfl [(pt kb 0), (Value.int .i64 at_), (Value.agg ([(Value.string u.name), (Value.int .i64 1), (Value.int .i64 (at_ + 600)), (Value.slice A10 16 c10)]).toArray)] (by kernel_rfl) (as_main (pre := mkB 98 (s.boxes.length + 1)) (h10.at_ 0 rfl) (h10.rd 3 rfl) (fun q h1 h2 => h10.rdis 3 0 _ _ rfl rfl q h2 h1) (hs.seal _ _ (pack_le6 hp0) |>.less (by decide)) (h10.rd 2 rfl) (fun hq => h10.rdis 2 0 _ _ rfl rfl kb rfl hq) (h10.at_ 1 rfl) (h10.dis 1 0 _ _ rfl rfl (by decide)) h32 hb2 hu (t := at_) (q := 0) (op_bx (bx_new (by have := hs.box; omega)) hp0) (decide_eq_true ⟨by omega, by omega, by omega, by omega, by omega, by omega⟩) (by omega) (by omega) hlife hnm K hKK hfr hp1 hp2)) ?_
 rintro _ w12 ⟨A12, c12, B12, d12, F12, rfl, h12⟩
 rw [seal_len] at h12
 refine mT (xN h12 141 ([(Value.string ByteArray.empty), (Value.string ByteArray.empty), (Value.slice none 0 0), (Value.slice none 0 0)])) ?_
 rintro _ w13 ⟨g13, rfl, h13⟩
 refine mT (xR h13 0 ([(Value.string u.name), (Value.string (⟨#[107, 100, 99]⟩)), (Value.slice A12 16 c12), (Value.slice B12 16 d12)])) ?_
 rintro _ w14 h14
 have hok : TabOk ((((s.seal (kl u.key) 1 b0).add SFrom.fresh).seal (kl Kk) 2 b1).seal (kl u.key) 3 b2) := ((((hs.seal _ _ (pack_le6 hp0)).add SFrom.fresh).seal _ _ (pack_le6 hp1)).seal _ _ (pack_le6 hp2)).ok
 have e2 : mkB 98 (s.boxes.length + 1 + 2) = mkB 98 ((((s.seal (kl u.key) 1 b0).add SFrom.fresh).seal (kl Kk) 2 b1).boxes.length + 1) := by rw [seal_len]; show _ = mkB 98 ((s.seal (kl u.key) 1 b0).boxes.length + 1 + 1); rw [seal_len]
 have h16 := h14
 rw [e2] at h16
 refine dG h16 15 14 (fun W => (rBlk d 37 ([(pt tb 0), (pt sv 0)] ++ rest)).Φ W /\ (rBlk g6 31 (vb (kl u.key))).Φ W /\ (rBlk g13 141 ([(Value.string u.name), (Value.string (⟨#[107, 100, 99]⟩)), (Value.slice A12 16 c12), (Value.slice B12 16 d12)])).Φ W /\ True) (fun w17 h17 => ⟨h17.rd 0 rfl, h17.at_ 5 rfl, h17.at_ 0 rfl, trivial⟩) ?_
 intro w17 h17
 refine dP 11 [0, 1, 2, 6] ?_
 refine dL 3 (fun W hW => hW.1) ?_
 refine dP 9 [4] ?_
 refine dL 5 (fun W hW => hW.2.1) ?_
 refine dL 7 (fun W hW => hW.2.2.1) ?_
 refine dO 8 12 ?_ ?_
 ·
  refine oT (x_oReply h17 1 rfl u.key 3 (by kernel_rfl) hok (h17.at_ 3 rfl) (r := .inr (.reply fl K 1 ⟨#[107, 100, 99]⟩ at_ (min (at_ + 600) (at_ + u.life)) R)) (op_bx (bx_new (s := ((s.seal (kl u.key) 1 b0).add SFrom.fresh).seal (kl Kk) 2 b1) (by have := hs.box; rw [seal_len]; show (s.seal (kl u.key) 1 b0).boxes.length + 1 < 1000000; rw [seal_len]; omega)) hp2)) ?_
  rintro _ w18 ⟨rfl, h18⟩
  refine ⟨⟨h18.rd 0 rfl, h18.at_ 5 rfl, h18.at_ 0 rfl, trivial⟩, ?_⟩
  refine dP 3 [9, 10, 11] ?_
  refine dT 12 (xN h18 33 ([(Value.int .i64 0)] ++ vb (List.replicate 16 0) ++ [(Value.int .i64 0), (Value.string ByteArray.empty), (Value.int .i64 0), (Value.int .i64 0), (Value.int .i64 0)])) ?_
  rintro _ w19 ⟨g19, rfl, h19⟩
  refine ⟨⟨h19.rd 0 rfl, h19.at_ 6 rfl, h19.at_ 1 rfl, trivial⟩, ?_⟩
  refine dT 13 (xR h19 0 ([(Value.int .i64 fl)] ++ vb (kl K) ++ [(Value.int .i64 1), (Value.string (⟨#[107, 100, 99]⟩)), (Value.int .i64 at_), (Value.int .i64 ((min (at_ + 600) (at_ + u.life)))), (Value.int .i64 R)])) ?_
  rintro _ w20 h20
  refine ⟨⟨h20.rd 0 rfl, h20.at_ 6 rfl, h20.at_ 1 rfl, trivial⟩, ?_⟩
  refine dN 14 ?_
  refine dX ?_
  refine dG h20 12 11 (fun W => (rBlk g19 33 ([(Value.int .i64 fl)] ++ vb (kl K) ++ [(Value.int .i64 1), (Value.string (⟨#[107, 100, 99]⟩)), (Value.int .i64 at_), (Value.int .i64 ((min (at_ + 600) (at_ + u.life)))), (Value.int .i64 R)])).Φ W /\ (rBlk g13 141 ([(Value.string u.name), (Value.string (⟨#[107, 100, 99]⟩)), (Value.slice A12 16 c12), (Value.slice B12 16 d12)])).Φ W /\ True) (fun w22 h22 => ⟨h22.at_ 0 rfl, h22.at_ 1 rfl, trivial⟩) ?_
  intro w22 h22
  refine dP 5 [1, 3, 4, 5, 6, 7, 8] ?_
  refine dL 0 (fun W hW => hW.1) ?_
  refine dL 2 (fun W hW => hW.2.1) ?_
  refine dT 9 (xR h22 8 ([(Value.int .i64 fl)] ++ vb (kl K) ++ [(Value.int .i64 1), (Value.string (⟨#[107, 100, 99]⟩)), (Value.int .i64 at_), (Value.int .i64 ((min (at_ + 600) (at_ + u.life)))), (Value.int .i64 R)])) ?_
  rintro _ w23 h23
  refine ⟨⟨h23.at_ 0 rfl, h23.at_ 1 rfl, trivial⟩, ?_⟩
  refine dT 10 (xR h23 7 ([(Value.string (⟨#[107, 100, 99]⟩)), (Value.slice A12 16 c12)])) ?_
  rintro _ w24 h24
  refine ⟨⟨h24.at_ 0 rfl, h24.at_ 1 rfl, trivial⟩, ?_⟩
  refine dN 11 ?_
  refine dX ?_
  refine mF (post_3 (r := .cell 8 33) (s := .cell 9 35) (t := .tmp 10) (by kernel_rfl) rfl (rce (h24.at_ 8 rfl)) (rce (h24.at_ 7 rfl)) (rtm (Value.bool true)) ?_)
  exact ⟨_, _, _, rfl, h24.sel [2, 3] [] rfl rfl rfl⟩
 ·
  refine oT (xN h17 33 ([(Value.int .i64 0)] ++ vb (List.replicate 16 0) ++ [(Value.int .i64 0), (Value.string ByteArray.empty), (Value.int .i64 0), (Value.int .i64 0), (Value.int .i64 0)])) ?_
  rintro _ w25 ⟨g25, rfl, h25⟩
  refine ⟨⟨h25.rd 0 rfl, h25.at_ 6 rfl, h25.at_ 1 rfl, trivial⟩, ?_⟩
  refine dT 8 (x_oReply h25 2 rfl u.key 3 (by kernel_rfl) hok (h25.at_ 4 rfl) (r := .inr (.reply fl K 1 ⟨#[107, 100, 99]⟩ at_ (min (at_ + 600) (at_ + u.life)) R)) (op_bx (bx_new (s := ((s.seal (kl u.key) 1 b0).add SFrom.fresh).seal (kl Kk) 2 b1) (by have := hs.box; rw [seal_len]; show (s.seal (kl u.key) 1 b0).boxes.length + 1 < 1000000; rw [seal_len]; omega)) hp2)) ?_
  rintro _ w26 ⟨rfl, h26⟩
  refine ⟨⟨h26.rd 0 rfl, h26.at_ 6 rfl, h26.at_ 1 rfl, trivial⟩, ?_⟩
  refine dP 2 [9, 10, 11] ?_
  refine dT 13 (xR h26 0 ([(Value.int .i64 fl)] ++ vb (kl K) ++ [(Value.int .i64 1), (Value.string (⟨#[107, 100, 99]⟩)), (Value.int .i64 at_), (Value.int .i64 ((min (at_ + 600) (at_ + u.life)))), (Value.int .i64 R)])) ?_
  rintro _ w27 h27
  refine ⟨⟨h27.rd 0 rfl, h27.at_ 6 rfl, h27.at_ 1 rfl, trivial⟩, ?_⟩
  refine dN 14 ?_
  refine dX ?_
  refine dG h27 12 11 (fun W => (rBlk g25 33 ([(Value.int .i64 fl)] ++ vb (kl K) ++ [(Value.int .i64 1), (Value.string (⟨#[107, 100, 99]⟩)), (Value.int .i64 at_), (Value.int .i64 ((min (at_ + 600) (at_ + u.life)))), (Value.int .i64 R)])).Φ W /\ (rBlk g13 141 ([(Value.string u.name), (Value.string (⟨#[107, 100, 99]⟩)), (Value.slice A12 16 c12), (Value.slice B12 16 d12)])).Φ W /\ True) (fun w29 h29 => ⟨h29.at_ 0 rfl, h29.at_ 1 rfl, trivial⟩) ?_
  intro w29 h29
  refine dP 5 [1, 3, 4, 5, 6, 7, 8] ?_
  refine dL 0 (fun W hW => hW.1) ?_
  refine dL 2 (fun W hW => hW.2.1) ?_
  refine dT 9 (xR h29 8 ([(Value.int .i64 fl)] ++ vb (kl K) ++ [(Value.int .i64 1), (Value.string (⟨#[107, 100, 99]⟩)), (Value.int .i64 at_), (Value.int .i64 ((min (at_ + 600) (at_ + u.life)))), (Value.int .i64 R)])) ?_
  rintro _ w30 h30
  refine ⟨⟨h30.at_ 0 rfl, h30.at_ 1 rfl, trivial⟩, ?_⟩
  refine dT 10 (xR h30 7 ([(Value.string (⟨#[107, 100, 99]⟩)), (Value.slice A12 16 c12)])) ?_
  rintro _ w31 h31
  refine ⟨⟨h31.at_ 0 rfl, h31.at_ 1 rfl, trivial⟩, ?_⟩
  refine dN 11 ?_
  refine dX ?_
  refine mF (post_3 (r := .cell 8 33) (s := .cell 9 35) (t := .tmp 10) (by kernel_rfl) rfl (rce (h31.at_ 8 rfl)) (rce (h31.at_ 7 rfl)) (rtm (Value.bool true)) ?_)
  exact ⟨_, _, _, rfl, h31.sel [2, 3] [] rfl rfl rfl⟩
end
section
open Go.RowKit Go.QT
end
section
open Go.RowKit Go.QT
abbrev fAnn : SFrom := textF ⟨#[112, 97]⟩ bANN
abbrev fBob : SFrom := textF ⟨#[112, 98]⟩ bBOB
theorem place_ann {k k' : Fin 16 -> UInt8} {l r l' r' : Int} {m m' : Bool} : placeB [User.mk bANN k l r m, User.mk bBOB k' l' r' m'] bANN = true /\ [User.mk bANN k l r m, User.mk bBOB k' l' r' m'][placeI [User.mk bANN k l r m, User.mk bBOB k' l' r' m'] bANN]? = some (User.mk bANN k l r m) := ⟨by kernel_rfl, by kernel_rfl⟩
theorem place_bob {k k' : Fin 16 -> UInt8} {l r l' r' : Int} {m m' : Bool} : placeB [User.mk bANN k l r m, User.mk bBOB k' l' r' m'] bBOB = true /\ [User.mk bANN k l r m, User.mk bBOB k' l' r' m'][placeI [User.mk bANN k l r m, User.mk bBOB k' l' r' m'] bBOB]? = some (User.mk bBOB k' l' r' m') := ⟨by kernel_rfl, by kernel_rfl⟩
theorem place_new {k : Fin 16 -> UInt8} {l r : Int} {m : Bool} : placeB [User.mk bANN k l r m] bBOB = false /\ placeI [User.mk bANN k l r m] bBOB = 1 := ⟨by kernel_rfl, by kernel_rfl⟩
/-- The table of a desk. -/
def sO (kk ka kb : Fin 16 -> UInt8) (b0 b1 b2 b3 b4 b5 : Bytes) : STab :=
 ⟨[SFrom.fresh, fAnn, fBob, SFrom.fresh, SFrom.fresh], [⟨kl ka, 1, b0⟩, ⟨kl kk, 2, b1⟩, ⟨kl ka, 3, b2⟩, ⟨kl kb, 1, b3⟩, ⟨kl kk, 2, b4⟩, ⟨kl kb, 3, b5⟩], [], [(fAnn, 2), (fBob, 3)]⟩
def s0_ : STab := ⟨[SFrom.fresh, fAnn, fBob], [], [], [(fAnn, 2), (fBob, 3)]⟩
def s1_ (kk ka : Fin 16 -> UInt8) (b0 b1 b2 : Bytes) : STab := ⟨[SFrom.fresh, fAnn, fBob, SFrom.fresh], [⟨kl ka, 1, b0⟩, ⟨kl kk, 2, b1⟩, ⟨kl ka, 3, b2⟩], [], [(fAnn, 2), (fBob, 3)]⟩
theorem room_is {s : STab} {n : Nat} (r : Nat) (hb : ∀ b ∈ s.boxes, b.body.length <= 4096) (hx : s.boxes.length <= n) (hk : s.keys.length <= n) (hn : decide (n + r < 1000000) = true) : Room r s :=
 ⟨fun b h => Nat.le_trans (hb b h) (by decide), by have := of_decide_eq_true hn; omega, by have := of_decide_eq_true hn; omega⟩
/-- When somebody asks for how long, and what they are given. -/
structure Tim (at_ L Rn Ot : Int) (fl R : Int) : Prop where
 at0 : 0 <= at_ /\ at_ <= 1023
 l : 1 <= L /\ L <= 512
 o : 1 <= Ot /\ Ot <= 512
 r : 0 <= Rn /\ Rn <= 4095
 fr : (0 < Rn /\ Rn <= 6000 /\ fl = 5 /\ R = at_ + Rn) ∨ (Rn <= 0 /\ fl = 4 /\ R = 0)
/-- What open leaves. -/
def OpnPost (at_ L Rn Ot : Int) (mesh : Bool) (w : World) (e : Ending) (w' : World) : Prop :=
 ∃ (d sv kb cb bk tb bb : Nat) (G Gc F : Nat -> Prop) (kk ka kb_ K1 K2 : Fin 16 -> UInt8) (b0 b1 b2 b3 b4 b5 : Bytes) (fl R : Int) (A B : Option Addr) (c c' : Nat) (mv : Value),
   e = .returned (pt d 0) /\ Tim at_ L Rn Ot fl R /\ (kl kk = mkB 107 1 /\ kl ka = mkB 107 2 /\ kl kb_ = mkB 107 3 /\ kl K1 = mkB 107 4 /\ kl K2 = mkB 107 5) /\
   (packB (.stamp at_ 0) = .inr b0 /\ packB (.inside fl K1 bANN at_ (min (at_ + 600) (at_ + L)) R) = .inr b1 /\ packB (.reply fl K1 1 bKDC at_ (min (at_ + 600) (at_ + L)) R) = .inr b2 /\ packB (.stamp at_ 0) = .inr b3 /\ packB (.inside 4 K2 bBOB at_ (min (at_ + 600) (at_ + Ot)) 0) = .inr b4 /\ packB (.reply 4 K2 1 bKDC at_ (min (at_ + 600) (at_ + Ot)) 0) = .inr b5) /\
   Hp (fun _ => False) w w' [] [rBlk d 37 (dkC tb sv (rpC fl K1 1 bKDC at_ (min (at_ + 600) (at_ + L)) R) (rpC 4 K2 1 bKDC at_ (min (at_ + 600) (at_ + Ot)) 0) (.slice A 16 c) (.slice B 16 c')), rBlk sv 73 (svC kb cb bk), rBlk kb 78 (kdcC tb bb kk), rBs G bb [User.mk bANN ka L Rn false, User.mk bBOB kb_ Ot 0 mesh], rCa Gc cb 64 [], rBlk bk 164 [mv], rTab F tb (sO kk ka kb_ b0 b1 b2 b3 b4 b5), rSB (.slice A 16 c) (mkB 98 2), rSB (.slice B 16 c') (mkB 98 5)]
theorem x_kgnew {o : Oper} {a : Act} {F0 F : Nat -> Prop} {w0 w : World} {ro rs : List Res} {tb : Nat} {s : STab} (h : Hp F0 w0 w ro rs) (i : Nat) (hi : rs[i]? = some (rTab F tb s)) (hs : Room 5 s) (hp : pureVal Tryz.prog (execOp a.eval o) = some (.enter 25 #[.iface 28 (pt tb 0)])) :
   OpTo Tryz.prog o a w (fun u w' => ∃ sv kb cb bk G bb Gc K F' mv, u = pt sv 0 /\ kl K = mkB 107 (s.keys.length + 1) /\ Hp F0 w0 w' ro ([rBlk sv 73 (svC kb cb bk), rBlk kb 78 (kdcC tb bb K), rBs G bb [], rCa Gc cb 64 [], rBlk bk 164 [mv], rTab F' tb (s.add SFrom.fresh)] ++ rs.eraseIdx i)) :=
 OpTo.enter 25 [.iface 28 (pt tb 0)] hp (kgnew_any (h.own i _ hi) hs) fun e w' hq => by
   obtain ⟨sv, kb, cb, bk, G, bb, Gc, K, F', mv, he, hK, h2⟩ := hq
   exact ⟨_, he, sv, kb, cb, bk, G, bb, Gc, K, F', mv, rfl, hK, h.call1 i hi h2⟩
theorem open15_any (La Rn_ Ot_ At_ Lt : Int) (mesh : Bool) (w : World) : Calls Tryz.prog 10 #[.agg #[.int .i64 La, .int .i64 Rn_, .int .i64 Ot_, .bool mesh, .int .i64 At_, .int .i64 Lt]] w (OpnPost (bits .and .i64 At_ 1023) (1 + bits .and .i64 La 511) (bits .and .i64 Rn_ 4095) (1 + bits .and .i64 Ot_ 511) mesh w) := by
 obtain ⟨At, hAt, hAt1⟩ := and_mask At_ 1023 (by decide)
 obtain ⟨L0, hL, hL1⟩ := and_mask La 511 (by decide)
 obtain ⟨Rn, hRn, hRn1⟩ := and_mask Rn_ 4095 (by decide)
 obtain ⟨O0, hO, hO1⟩ := and_mask Ot_ 511 (by decide)
 simp only [show ((1023 : Nat) : Int) = 1023 from rfl, show ((511 : Nat) : Int) = 511 from rfl, show ((4095 : Nat) : Int) = 4095 from rfl] at hAt hL hRn hO
 rw [hAt, hL, hRn, hO]
 obtain ⟨fl, R, hT⟩ : ∃ fl R, Tim (At : Int) (1 + L0) Rn (1 + O0) fl R := by
   by_cases h : 0 < Rn
   · exact ⟨5, At + Rn, ⟨by omega, by omega, by omega, by omega, .inl ⟨by omega, by omega, rfl, rfl⟩⟩⟩
   · exact ⟨4, 0, ⟨by omega, by omega, by omega, by omega, .inr ⟨by omega, rfl, rfl⟩⟩⟩
 obtain ⟨ka, hka⟩ := ex_key 2
 obtain ⟨kb_, hkb⟩ := ex_key 3
 obtain ⟨K1, hK1⟩ := ex_key 4
 obtain ⟨K2, hK2⟩ := ex_key 5
 have hR : 0 <= R /\ R <= 10000 /\ 0 <= fl /\ fl <= 5 := by have := hT.fr; omega
 obtain ⟨b0, hp0⟩ := pack_stamp (t := (At : Int)) (q := 0) (inN_is (by omega) (by omega)) rfl
 have hin : ∀ f u r : Int, (0 <= f /\ f <= 10000) -> (0 <= u /\ u <= 10000) -> (0 <= r /\ r <= 10000) -> ∀ x ∈ [f, (At : Int), u, r], inN x = true := by
   intro f u r h1 h2 h3 x hx
   simp only [List.mem_cons, List.not_mem_nil, or_false] at hx
   rcases hx with rfl | rfl | rfl | rfl <;> exact inN_is (by omega) (by omega)
 have hin2 : ∀ f u r : Int, (0 <= f /\ f <= 10000) -> (0 <= u /\ u <= 10000) -> (0 <= r /\ r <= 10000) -> ∀ x ∈ [f, 1, (At : Int), u, r], inN x = true := by
   intro f u r h1 h2 h3 x hx
   simp only [List.mem_cons, List.not_mem_nil, or_false] at hx
   rcases hx with rfl | rfl | rfl | rfl | rfl <;> exact inN_is (by omega) (by omega)
 obtain ⟨b1, hp1⟩ := pack_inside (K := K1) (s := bANN) (rightM_is right_ann (hin fl (min (At + 600) (At + (1 + L0))) R (by omega) (by omega) (by omega))) (by decide)
 obtain ⟨b2, hp2⟩ := pack_reply (K := K1) (s := bKDC) (rightM_is right_kdc (hin2 fl (min (At + 600) (At + (1 + L0))) R (by omega) (by omega) (by omega))) (by decide)
 obtain ⟨b4, hp4⟩ := pack_inside (K := K2) (s := bBOB) (rightM_is right_bob (hin 4 (min (At + 600) (At + (1 + O0))) 0 (by omega) (by omega) (by omega))) (by decide)
 obtain ⟨b5, hp5⟩ := pack_reply (K := K2) (s := bKDC) (rightM_is right_kdc (hin2 4 (min (At + 600) (At + (1 + O0))) 0 (by omega) (by omega) (by omega))) (by decide)
 have h0 := Hp.nil (fun _ => False) w
 refine mE 102 ?_
 refine mT (xN h0 23 ([(Value.int .i64 La), (Value.int .i64 Rn_), (Value.int .i64 Ot_), (Value.bool mesh), (Value.int .i64 At_), (Value.int .i64 Lt)])) ?_
 rintro _ w2 ⟨g2, rfl, h2⟩
 refine mT (x_snew h2 (by kernel_rfl)) ?_
 rintro _ w4 ⟨tb4, F4, rfl, h4⟩
 refine mT (x_kgnew h4 0 rfl (room_is (n := 0) 5 (fun b hb => by cases hb) (by decide) (by decide) (by decide)) (by kernel_rfl)) ?_
 rintro _ w6 ⟨sv, kb, cb, bk, G6, bb, Gc, kk, F6, mv, rfl, hkk, h6⟩
 refine mT (xN h6 37 ([(pt tb4 0), (pt sv 0), (Value.int .i64 0)] ++ vb (List.replicate 16 0) ++ [(Value.int .i64 0), (Value.string ByteArray.empty), (Value.int .i64 0), (Value.int .i64 0), (Value.int .i64 0), (Value.int .i64 0)] ++ vb (List.replicate 16 0) ++ [(Value.int .i64 0), (Value.string ByteArray.empty), (Value.int .i64 0), (Value.int .i64 0), (Value.int .i64 0), (Value.string ByteArray.empty), (Value.slice none 0 0), (Value.string ByteArray.empty), (Value.slice none 0 0)])) ?_
 rintro _ w7 ⟨g7, rfl, h7⟩
 refine ma h7 0 ?_
 refine ma h7 0 ?_
 refine ma h7 1 ?_
 refine ma h7 7 ?_
 refine mW 34 (v := (Value.int .i64 ((At : Int)))) (eqI (Value.int .i64 (bits .and .i64 At_ 1023)) (congrArg (Value.int .i64) hAt)) ?_
 refine dG h7 14 13 (fun W => (rBlk g2 23 ([(Value.int .i64 La), (Value.int .i64 Rn_), (Value.int .i64 Ot_), (Value.bool mesh), (Value.int .i64 At_), (Value.int .i64 Lt)])).Φ W /\ True) (fun w12 h12 => ⟨h12.at_ 7 rfl, trivial⟩) ?_
 intro w12 h12
 refine dP 11 [0, 4, 7] ?_
 refine dL 1 (fun W hW => hW.1) ?_
 refine dV 2 (v := (Value.int .i64 ((L0 : Int)))) (fun W hW => eqI (Value.int .i64 (bits .and .i64 La 511)) (congrArg (Value.int .i64) hL)) ?_
 refine dV 3 (fun W hW => exec_add _ _ _ _ bO 1 (L0 : Int) (by kernel_rfl) (by kernel_rfl) (1 + (L0 : Int)) rfl (by omega) (by omega) _) ?_
 refine dP 7 [11] ?_
 refine dL 5 (fun W hW => hW.1) ?_
 refine dV 6 (v := (Value.int .i64 ((Rn : Int)))) (fun W hW => eqI (Value.int .i64 (bits .and .i64 Rn_ 4095)) (congrArg (Value.int .i64) hRn)) ?_
 refine dP 4 [12] ?_
 refine dL 8 (fun W hW => hW.1) ?_
 refine dV 9 (v := (Value.int .i64 ((O0 : Int)))) (fun W hW => eqI (Value.int .i64 (bits .and .i64 Ot_ 511)) (congrArg (Value.int .i64) hO)) ?_
 refine dV 10 (fun W hW => exec_add _ _ _ _ bO 1 (O0 : Int) (by kernel_rfl) (by kernel_rfl) (1 + (O0 : Int)) rfl (by omega) (by omega) _) ?_
 refine dN 13 ?_
 refine dX ?_
 refine dG h12 25 25 (fun W => (rBlk g7 37 ([(pt tb4 0), (pt sv 0), (Value.int .i64 0)] ++ vb (List.replicate 16 0) ++ [(Value.int .i64 0), (Value.string ByteArray.empty), (Value.int .i64 0), (Value.int .i64 0), (Value.int .i64 0), (Value.int .i64 0)] ++ vb (List.replicate 16 0) ++ [(Value.int .i64 0), (Value.string ByteArray.empty), (Value.int .i64 0), (Value.int .i64 0), (Value.int .i64 0), (Value.string ByteArray.empty), (Value.slice none 0 0), (Value.string ByteArray.empty), (Value.slice none 0 0)])).Φ W /\ (rBlk sv 73 ([(pt kb 0), (pt cb 0), (pt bk 0)])).Φ W /\ (rBlk g2 23 ([(Value.int .i64 La), (Value.int .i64 Rn_), (Value.int .i64 Ot_), (Value.bool mesh), (Value.int .i64 At_), (Value.int .i64 Lt)])).Φ W /\ True) (fun w15 h15 => ⟨h15.at_ 0 rfl, h15.at_ 1 rfl, h15.at_ 7 rfl, trivial⟩) ?_
 intro w15 h15
 refine dP 20 [0, 1, 2, 7, 8] ?_
 refine dL 3 (fun W hW => hW.1) ?_
 refine dP 17 [4, 5] ?_
 refine dL 6 (fun W hW => hW.2.1) ?_
 refine dT 9 (x_enrol (us' := [User.mk bANN ka (1 + (L0 : Int)) Rn false]) (f := fAnn) (er := 0) h15 6 3 rfl rfl rfl [(pt kb 0), (Value.string (⟨#[97, 110, 110]⟩)), (Value.string (⟨#[112, 97]⟩)), (Value.int .i64 (1 + (L0 : Int))), (Value.int .i64 ((Rn : Int))), (Value.bool false)] (by kernel_rfl) (enrol_ok (name := bANN) (pw := ⟨#[112, 97]⟩) (h15.at_ 6 rfl) (h15.at_ 3 rfl) (h15.dis 6 3 _ _ rfl rfl (by decide)) (room_is (n := 9) 5 (fun b hb => by cases hb) (by decide) (by decide) (by decide)) (h15.at_ 2 rfl) (fun hq => h15.dis 6 2 _ _ rfl rfl (by decide) _ hq rfl) (fun hq => h15.dis 3 2 _ _ rfl rfl (by decide) _ hq rfl) (by decide) (by decide) ka (hka.trans (congrArg (mkB 107) (by kernel_rfl))) (by simp) right_ann (by omega) rfl (by simp) rfl)) ?_
 rintro _ w16 ⟨F16, G16, s16, rfl, hs16, h16⟩
 rw [hs16, show STab.made ((STab.empty.add SFrom.fresh)) fAnn = (⟨[SFrom.fresh, fAnn], [], [], [(fAnn, 2)]⟩ : STab) from by kernel_rfl] at h16
 refine ⟨⟨h16.at_ 0 rfl, h16.at_ 1 rfl, h16.at_ 7 rfl, trivial⟩, ?_⟩
 refine dP 8 [10, 11, 12, 13, 14, 19, 20] ?_
 refine dL 15 (fun W hW => hW.1) ?_
 refine dP 5 [16, 17] ?_
 refine dL 18 (fun W hW => hW.2.1) ?_
 refine dL 21 (fun W hW => hW.2.2.1) ?_
 refine dT 22 (x_enrol (us' := [User.mk bANN ka (1 + (L0 : Int)) Rn false, User.mk bBOB kb_ (1 + (O0 : Int)) 0 mesh]) (f := fBob) (er := 0) h16 6 3 rfl rfl rfl [(pt kb 0), (Value.string (⟨#[98, 111, 98]⟩)), (Value.string (⟨#[112, 98]⟩)), (Value.int .i64 (1 + (O0 : Int))), (Value.int .i64 0), (Value.bool mesh)] (by kernel_rfl) (enrol_ok (name := bBOB) (pw := ⟨#[112, 98]⟩) (h16.at_ 6 rfl) (h16.at_ 3 rfl) (h16.dis 6 3 _ _ rfl rfl (by decide)) (room_is (n := 9) 5 (fun b hb => by cases hb) (by decide) (by decide) (by decide)) (h16.at_ 2 rfl) (fun hq => h16.dis 6 2 _ _ rfl rfl (by decide) _ hq rfl) (fun hq => h16.dis 3 2 _ _ rfl rfl (by decide) _ hq rfl) (by decide) (by decide) kb_ (hkb.trans (congrArg (mkB 107) (by kernel_rfl))) (by simp) right_bob (by omega) place_new.1 (by simp) place_new.2)) ?_
 rintro _ w17 ⟨F17, G17, s17, rfl, hs17, h17⟩
 rw [hs17, show STab.made ((⟨[SFrom.fresh, fAnn], [], [], [(fAnn, 2)]⟩ : STab)) fBob = s0_ from by kernel_rfl] at h17
 refine ⟨⟨h17.at_ 0 rfl, h17.at_ 1 rfl, h17.at_ 7 rfl, trivial⟩, ?_⟩
 refine dP 0 [23, 24] ?_
 refine dX ?_
 refine mT (x_login (nb := 0) (s3 := ((((s0_.seal (kl ka) 1 b0).add SFrom.fresh).seal (kl kk) 2 b1).seal (kl ka) 3 b2)) (rc := (rpC fl K1 1 bKDC At (min (At + 600) (At + (1 + L0))) R)) h17 6 rfl [(pt g7 0), (Value.string (⟨#[97, 110, 110]⟩)), (Value.string (⟨#[112, 97]⟩)), (Value.int .i64 ((At : Int)))] (by kernel_rfl) (login15_any (u := (User.mk bANN ka (1 + (L0 : Int)) Rn false)) (pw := ⟨#[112, 97]⟩) (h17.carve1 6 rfl [(true, 0), (true, 1), (true, 2), (true, 3)] rfl rfl) (room_is (n := 9) 12 (fun b hb => by cases hb) (by decide) (by decide) (by decide)) (by simp) place_ann.1 place_ann.2 (hka.trans (congrArg (mkB 107) (by kernel_rfl))) (by kernel_rfl) (by decide) (show (3 : Nat) <= 1000 by decide) (by omega) (by show 0 <= 1 + (L0 : Int) /\ 1 + (L0 : Int) <= 600; omega) (hK1.trans (congrArg (mkB 107) (by kernel_rfl))) hT.fr hp0 hp1 hp2)) ?_
 rintro _ w21 ⟨A21, c21, F21, rfl, h21⟩
 refine mT (xR h21 2 ([(pt tb4 0), (pt sv 0), (Value.int .i64 fl)] ++ vb (kl K1) ++ [(Value.int .i64 1), (Value.string bKDC), (Value.int .i64 ((At : Int))), (Value.int .i64 ((min ((At : Int) + 600) ((At : Int) + (1 + (L0 : Int)))))), (Value.int .i64 R), (Value.int .i64 0)] ++ vb (List.replicate 16 0) ++ [(Value.int .i64 0), (Value.string ByteArray.empty), (Value.int .i64 0), (Value.int .i64 0), (Value.int .i64 0), (Value.string ByteArray.empty), (Value.slice none 0 0), (Value.string ByteArray.empty), (Value.slice none 0 0)])) ?_
 rintro _ w22 h22
 refine mT (xR h22 2 ([(pt tb4 0), (pt sv 0), (Value.int .i64 fl)] ++ vb (kl K1) ++ [(Value.int .i64 1), (Value.string bKDC), (Value.int .i64 ((At : Int))), (Value.int .i64 ((min ((At : Int) + 600) ((At : Int) + (1 + (L0 : Int)))))), (Value.int .i64 R), (Value.int .i64 0)] ++ vb (List.replicate 16 0) ++ [(Value.int .i64 0), (Value.string ByteArray.empty), (Value.int .i64 0), (Value.int .i64 0), (Value.int .i64 0), (Value.string bKDC), (Value.slice A21 16 c21), (Value.string ByteArray.empty), (Value.slice none 0 0)])) ?_
 rintro _ w23 h23
 have h27 := h23
 rw [show ((((s0_.seal (kl ka) 1 b0).add SFrom.fresh).seal (kl kk) 2 b1).seal (kl ka) 3 b2) = s1_ kk ka b0 b1 b2 from rfl] at h27
 have hrm1 : Room 12 (s1_ kk ka b0 b1 b2) := by
   refine room_is (n := 9) 12 ?_ (by show 3 <= 9; decide) (by show 4 <= 9; decide) (by decide)
   intro b hb
   simp only [s1_, List.mem_cons, List.not_mem_nil, or_false] at hb
   rcases hb with rfl | rfl | rfl
   · exact pack_le hp0
   · exact pack_le hp1
   · exact pack_le hp2
 refine mT (x_login (nb := 3) (s3 := (((((s1_ kk ka b0 b1 b2).seal (kl kb_) 1 b0).add SFrom.fresh).seal (kl kk) 2 b4).seal (kl kb_) 3 b5)) (rc := (rpC 4 K2 1 bKDC At (min (At + 600) (At + (1 + O0))) 0)) h27 0 rfl [(pt g7 0), (Value.string (⟨#[98, 111, 98]⟩)), (Value.string (⟨#[112, 98]⟩)), (Value.int .i64 ((At : Int)))] (by kernel_rfl) (login15_any (u := (User.mk bBOB kb_ (1 + (O0 : Int)) 0 mesh)) (pw := ⟨#[112, 98]⟩) (h27.carve1 0 rfl [(true, 2), (true, 3), (true, 4), (true, 5)] rfl rfl) hrm1 (by simp) place_bob.1 place_bob.2 (hkb.trans (congrArg (mkB 107) (by kernel_rfl))) (by kernel_rfl) (by decide) (show (3 : Nat) <= 1000 by decide) (by omega) (by show 0 <= 1 + (O0 : Int) /\ 1 + (O0 : Int) <= 600; omega) (hK2.trans (congrArg (mkB 107) (by kernel_rfl))) (.inr ⟨show (0 : Int) <= 0 from by decide, rfl, rfl⟩) hp0 hp4 hp5)) ?_
 rintro _ w28 ⟨A28, c28, F28, rfl, h28⟩
 refine mT (xR h28 3 ([(pt tb4 0), (pt sv 0), (Value.int .i64 fl)] ++ vb (kl K1) ++ [(Value.int .i64 1), (Value.string bKDC), (Value.int .i64 ((At : Int))), (Value.int .i64 ((min ((At : Int) + 600) ((At : Int) + (1 + (L0 : Int)))))), (Value.int .i64 R), (Value.int .i64 4)] ++ vb (kl K2) ++ [(Value.int .i64 1), (Value.string bKDC), (Value.int .i64 ((At : Int))), (Value.int .i64 ((min ((At : Int) + 600) ((At : Int) + (1 + (O0 : Int)))))), (Value.int .i64 0), (Value.string bKDC), (Value.slice A21 16 c21), (Value.string ByteArray.empty), (Value.slice none 0 0)])) ?_
 rintro _ w29 h29
 refine mT (xR h29 3 ([(pt tb4 0), (pt sv 0), (Value.int .i64 fl)] ++ vb (kl K1) ++ [(Value.int .i64 1), (Value.string bKDC), (Value.int .i64 ((At : Int))), (Value.int .i64 ((min ((At : Int) + 600) ((At : Int) + (1 + (L0 : Int)))))), (Value.int .i64 R), (Value.int .i64 4)] ++ vb (kl K2) ++ [(Value.int .i64 1), (Value.string bKDC), (Value.int .i64 ((At : Int))), (Value.int .i64 ((min ((At : Int) + 600) ((At : Int) + (1 + (O0 : Int)))))), (Value.int .i64 0), (Value.string bKDC), (Value.slice A21 16 c21), (Value.string bKDC), (Value.slice A28 16 c28)])) ?_
 rintro _ w30 h30
 refine mP (pt g7 0) ?_
 exact ⟨_, _, _, _, _, _, _, _, _, _, kk, ka, kb_, K1, K2, b0, b1, b2, b0, b4, b5, fl, R, _, _, _, _, _, rfl, hT, ⟨hkk, hka, hkb, hK1, hK2⟩, ⟨hp0, hp1, hp2, hp0, hp4, hp5⟩, (show Hp _ _ _ _ [_, _, _, _, _, _, rTab _ _ (sO kk ka kb_ b0 b1 b2 b0 b4 b5), _, _] from h30.sel [3, 4, 5, 6, 7, 8, 0, 2, 1] [] rfl rfl rfl)⟩
end
end Go.Proofs.YtdefpmmdpfpipaaGreat
