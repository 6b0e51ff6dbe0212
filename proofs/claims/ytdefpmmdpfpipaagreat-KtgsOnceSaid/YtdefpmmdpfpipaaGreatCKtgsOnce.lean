/- The row of KtgsOnce: for every input the law returns true and what came in reads as it did. -/
import Derived.ChangeMaps5
import Derived.Test.YtdefpmmdpfpipaaGreatCA14
set_option maxRecDepth 100000
set_option maxHeartbeats 4000000
namespace Go.Proofs.YtdefpmmdpfpipaaGreat
section
open Go.RowKit Go.QT
end
section
open Go.RowKit Go.QT
end
section
open Go.RowKit Go.QT
/-- A request's cells. -/
def tqC (srv : ByteArray) (nn till : Int) (r m : Bool) (ts : ByteArray) (x au ex : Value) : List Value := [Value.string srv, .int .i64 nn, .int .i64 till, .bool r, .bool m, .string ts, x, au, ex]
section
variable {F G Gb : Nat -> Prop} {sv kb cb bk tb bb most ce : Nat} {Kk Ki Kx K K2 : Fin 16 -> UInt8} {s : STab} {sl : List Sh} {us : List User} {us_ : User} {srv : ByteArray} {now nn till f fo a u r pf pa pu pr t q : Int} {C D E B : Option Addr} {c d e n : Nat} {l au pb b1 b2 : Bytes} {w : World} {qr qm : Bool} {xs : List Xt}
/-- Who shows a ticket, and that they have its key. -/
theorem whoQ (hs : TabOk s) (hsm : s.sums.length <= 1000) (hx : openTh s (kl Kk) 2 l = .inr (.inside f Ki bANN a u r)) (hu : now < u) (hk : SK s (qB srv nn till qr qm l xs) n) (hau : openTh s (kl Ki) 7 au = .inr (.authent bANN t q K2 (mkB 100 (n + 1)))) (hok : okXt xs)
   (hsr : rightN srv = true) (hss : srv.size <= 300) (hn : inN nn = true) (ht : inN till = true) (hll : l.length <= 300) (hlen : (qB srv nn till qr qm l xs).length <= 4096) {rr : Nat × List Sh}
   (hsh : ∀ w', (rCa G cb most sl).Φ w' -> Calls Tryz.prog 50 #[pt cb 0, .int .i64 now, .string bANN, .int .i64 t, .int .i64 q] w' (ShPost G cb most w' rr)) (w' : World)
   (h : Hp (fun q => F q ∨ G q) w' w' [rBlk sv 73 (svC kb cb bk), rBlk kb 78 (kdcC tb bb Kk), rSB (.slice C l.length c) l, rSB (.slice D au.length d) au, rQx C c l E ce xs] [rTab F tb s, rCa G cb most sl]) :
   Calls Tryz.prog 29 #[pt sv 0, .int .i64 now, .agg #[.string bKDC, .slice C l.length c], .slice D au.length d, .iface 40 (.agg (tqC srv nn till qr qm bKDC (.slice C l.length c) (.slice D au.length d) (.slice E xs.length ce)).toArray)] w' (WhPost F G tb cb most (.agg ([Value.int .i64 f] ++ vb (kl Ki) ++ [Value.string bANN, .int .i64 a, .int .i64 u, .int .i64 r]).toArray) s rr w') := by
 have hw := who_any (β := qB srv nn till qr qm l xs) (rr := rr) h hs (by omega) hx hu hau (by rw [hk.1])
   (sumQ_any (xs := xs) (D := D) (an := au.length) (ca := d) hsm hok hsr hss hn ht hll hlen) hsh
 rwa [dig_old hk] at hw
end
end
section
open Go.RowKit Go.QT
section
variable {kk ka kb_ : Fin 16 -> UInt8} {at_ Ri : Int} {s : STab} {sl : List Sh} {ks : List Bytes} {Kc K : Fin 16 -> UInt8} {fl e R : Int} {m i : Nat} {now k : Int} {ba b1 b2 : Bytes}
theorem pack_authent' {t q : Int} {n : Nat} (h1 : 0 <= t /\ t <= 1099511627776) (h2 : 0 <= q /\ q <= 1099511627776) : ∃ b, packB (.authent bANN t q zK (mkB 100 n)) = .inr b :=
 pack_authent (rightM_is right_ann (by intro x hx; simp only [List.mem_cons, List.not_mem_nil, or_false] at hx; rcases hx with rfl | rfl <;> exact inN_is (by omega) (by omega))) (by decide) (by rw [mkB_len]; decide)
end
section
variable {F G Gb : Nat -> Prop} {sv kb cb bk tb bb ce : Nat} {kk ka kb_ Kc K : Fin 16 -> UInt8} {at_ Ri Oi : Int} {mesh : Bool} {s : STab} {sl : List Sh} {ks : List Bytes} {fl e R : Int} {m i : Nat} {now k : Int} {ba b1 b2 : Bytes} {C D : Option Addr} {c d n1 n2 : Nat} {w : World}
-- It is refused from then on.
-- .. and till then it is renewed.
end
section
variable {F0 : Nat -> Prop} {w0 w : World} {ro rs : List Res}
end
end
section
open Go.RowKit Go.QT
section
variable {F0 : Nat -> Prop} {w0 w : World} {ro rs : List Res}
/-- Many things that are only read, as one. -/
def rAll (l : List Res) : Res where
 F := fun q => ∃ r ∈ l, r.F q
 Φ := fun w => ∀ r ∈ l, r.Φ w
 lt := fun h q ⟨r, hr, hq⟩ => r.lt (h r hr) q hq
 keep := fun h hs hk r hr => r.keep (h r hr) hs fun q hq => hk q ⟨r, hr, hq⟩
theorem Hp.allNil (h : Hp F0 w0 w ro rs) : Hp F0 w0 w (rAll [] :: ro) rs := h.addR _ (fun _ hr => absurd hr List.not_mem_nil) (fun _ _ _ _ ⟨_, hr, _⟩ => absurd hr List.not_mem_nil)
theorem Hp.allAdd (h : Hp F0 w0 w ro rs) (i : Nat) {l : List Res} (hi : ro[i]? = some (rAll l)) (js : List Nat) {m : List Res} (hj : js.map (ro[·]?) = m.map some) : Hp F0 w0 w (rAll (l ++ m) :: ro) rs := by
 have hm : ∀ r ∈ m, ∃ j : Nat, ro[j]? = some r := fun r hr => by
   have : some r ∈ js.map (ro[·]?) := hj ▸ List.mem_map.2 ⟨r, hr, rfl⟩
   obtain ⟨j, -, e⟩ := List.mem_map.1 this
   exact ⟨j, e⟩
 refine h.addR _ (fun r hr => ?_) fun n t ht q hq h2 => ?_
 · rcases List.mem_append.1 hr with hr | hr
   · exact h.rd i hi r hr
   · obtain ⟨j, e⟩ := hm r hr; exact h.rd j e
 · obtain ⟨r, hr, hq⟩ := hq
   rcases List.mem_append.1 hr with hr | hr
   · exact h.rdis i n _ t hi ht q ⟨r, hr, hq⟩ h2
   · obtain ⟨j, e⟩ := hm r hr; exact h.rdis j n _ t e ht q hq h2
theorem Hp.allGet (h : Hp F0 w0 w ro rs) (i : Nat) {l : List Res} (hi : ro[i]? = some (rAll l)) (r : Res) (hr : r ∈ l) : Hp F0 w0 w (r :: ro) rs :=
 h.addR r (h.rd i hi r hr) fun n t ht q hq h2 => h.rdis i n _ t hi ht q ⟨r, hr, hq⟩ h2
end
/-- What was asked for. -/
structure Rq where
 nn : Int
 t : Int
 q : Int
 n : Nat
 nb : Nat
 D : Option Addr
 d : Nat
 g : Nat
def rqC (A : Option Addr) (c : Nat) (x : Rq) : List Value := [.string bBOB, .int .i64 x.nn, .int .i64 (x.t + 10), .bool false, .bool true, .string bKDC, .slice A 16 c, .slice x.D 16 x.d, .slice (some ⟨x.g, 0, none⟩) 1 1]
def rqR (A : Option Addr) (c : Nat) (xs : List Xt) (x : Rq) : List Res := [rSB (.slice x.D 16 x.d) (mkB 98 x.nb), rQx A c (mkB 98 2) (some ⟨x.g, 0, none⟩) 1 xs]
theorem rq_mem {A : Option Addr} {c : Nat} {xs : List Xt} {L : List Rq} {i : Nat} {x : Rq} (h : L[i]? = some x) : rSB (.slice x.D 16 x.d) (mkB 98 x.nb) ∈ L.flatMap (rqR A c xs) /\ rQx A c (mkB 98 2) (some ⟨x.g, 0, none⟩) 1 xs ∈ L.flatMap (rqR A c xs) :=
 ⟨List.mem_flatMap.2 ⟨x, List.mem_of_getElem? h, List.mem_cons_self⟩, List.mem_flatMap.2 ⟨x, List.mem_of_getElem? h, List.mem_cons_of_mem _ List.mem_cons_self⟩⟩
/-- Behind i rounds. -/
structure OnS (kk K1 K2 : Fin 16 -> UInt8) (at_ fl R : Int) (xs : List Xt) (s : STab) (sl : List Sh) (L : List Rq) (i : Nat) (now : Int) : Prop where
 nk : s.keys.length <= 5 + i
 nb : s.boxes.length <= 6 + 3 * i
 ns : s.sums.length <= i
 bd : ∀ b ∈ s.boxes, b.body.length <= 4096
 b2 : ∃ b, s.box (mkB 98 2) = some ⟨kl kk, 2, b⟩ /\ packB (.inside fl K1 bANN at_ (at_ + 501) R) = .inr b
 b5 : ∃ b, s.box (mkB 98 5) = some ⟨kl kk, 2, b⟩ /\ packB (.inside 4 K2 bBOB at_ (at_ + 501) 0) = .inr b
 sh : ∀ y ∈ sl, 0 <= y.t /\ y.t <= 1099511627776
 nl : sl.length <= i
 at0 : 0 <= at_ /\ at_ <= 1023
 tm : at_ <= now /\ now <= at_ + 7 * (i : Int)
 rq : ∀ x ∈ L, 0 <= x.nn /\ x.nn <= 7 /\ at_ <= x.t /\ x.t <= now /\ SK s (qB bBOB x.nn (x.t + 10) false true (mkB 98 2) xs) x.n /\ (∃ b, s.box (mkB 98 x.nb) = some ⟨kl K1, 7, b⟩ /\ packB (.authent bANN x.t x.q zK (mkB 100 (x.n + 1))) = .inr b) /\ (now - x.t <= 30 -> (⟨bANN, x.t, x.q⟩ : Sh) ∈ sl)
/-- What Tgs leaves, whatever it says. -/
def TgAny (F G : Nat -> Prop) (tb cb most : Nat) (s3 : STab) (sl : List Sh) (w : World) (e : Ending) (w' : World) : Prop :=
 ∃ v F' G', e = .returned v /\ Hp (fun q => F q ∨ G q) w w' [] [rTab F' tb s3, rCa G' cb most sl]
section
variable {F0 F G : Nat -> Prop} {w0 w : World} {ro rs : List Res} {tb cb most : Nat} {s s3 : STab} {sl sl2 : List Sh}
theorem x_tgsAny {o : Oper} {a : Act} (h : Hp F0 w0 w ro rs) (i j : Nat) (hi : rs[i]? = some (rTab F tb s)) (hj : rs[j]? = some (rCa G cb most sl)) (al : List Value) (hij : decide (i ≠ j) = true) (hp : pureVal Tryz.prog (execOp a.eval o) = some (.enter 12 al.toArray)) (hc : Calls Tryz.prog 12 al.toArray w (TgAny F G tb cb most s3 sl2 w)) :
   OpTo Tryz.prog o a w (fun u w' => ∃ v F' G', u = v /\ Hp F0 w0 w' ro ((rs.set i (rTab F' tb s3)).set j (rCa G' cb most sl2))) :=
 OpTo.enter 12 al hp hc fun e w' hq => by
   obtain ⟨v, F', G', he, h2⟩ := hq
   exact ⟨_, he, v, F', G', rfl, h.upd2 i j hi hj (of_decide_eq_true hij) h2⟩
theorem TgPost.any {nb : Nat} {c1 srv : ByteArray} {e : Ending} {w' : World} (h : TgPost F G tb cb most nb c1 srv s3 sl w e w') : TgAny F G tb cb most s3 sl w e w' := by
 obtain ⟨A, c, B, d, F', G', he, h2⟩ := h
 exact ⟨_, _, _, he, h2.sel [0, 1] [] rfl rfl rfl⟩
theorem TgNo.any {ec : Nat} {e : Ending} {w' : World} (h : TgNo F G tb cb most ec s3 sl w e w') : TgAny F G tb cb most s3 sl w e w' := by
 obtain ⟨F', G', he, h2⟩ := h
 exact ⟨_, _, _, he, h2⟩
end
section
variable {F G Gb : Nat -> Prop} {sv kb cb bk tb bb most ce : Nat} {Kk Ki K2 : Fin 16 -> UInt8} {s : STab} {sl : List Sh} {us : List User} {srv : ByteArray} {now nn till f a u r t q : Int} {C D E : Option Addr} {c d n : Nat} {l au : Bytes} {w : World} {qr qm : Bool} {xs : List Xt}
/-- .. what shows who asks is not of this time. -/
theorem tgsSkew_any (h0 : Hp (fun q => F q ∨ G q) w w [rBlk sv 73 (svC kb cb bk), rBlk kb 78 (kdcC tb bb Kk), rSB (.slice C l.length c) l, rSB (.slice D au.length d) au, rQx C c l E ce xs, rBs Gb bb us] [rTab F tb s, rCa G cb most sl])
   (hs : TabOk s) (hsm : s.sums.length <= 1000) (hx : openTh s (kl Kk) 2 l = .inr (.inside f Ki bANN a u r)) (hu : now < u) (hk : SK s (qB srv nn till qr qm l xs) n) (hau : openTh s (kl Ki) 7 au = .inr (.authent bANN t q K2 (mkB 100 (n + 1)))) (hok : okXt xs) (hnear : nearF now t = false)
   (hsr : rightN srv = true) (hss : srv.size <= 300) (hn : inN nn = true) (ht : inN till = true) (hll : l.length <= 300) (hlen : (qB srv nn till qr qm l xs).length <= 4096) :
   Calls Tryz.prog 12 #[pt sv 0, .int .i64 now, .agg (tqC srv nn till qr qm bKDC (.slice C l.length c) (.slice D au.length d) (.slice E xs.length ce)).toArray] w (TgNo F G tb cb most 11 s sl w) :=
 tgs_err h0 (whoQ (rr := (11, sl)) hs hsm hx hu hk hau hok hsr hss hn ht hll hlen fun w' hC => show_skew (x := ⟨bANN, t, q⟩) hC hnear) (by decide)
end
theorem sk_seal {s : STab} {k b β : Bytes} {u : Int} {n : Nat} (h : SK s β n) : SK (s.seal k u b) β n := h
section
variable {kk ka kb_ K1 K2 : Fin 16 -> UInt8} {at_ fl R : Int} {s : STab} {sl : List Sh} {L : List Rq} {i : Nat} {now k nn q : Int} {ba : Bytes} {B A C D : Option Addr} {c' d c n1 n2 : Nat} {xs : List Xt}
theorem OnS.ok (h : OnS kk K1 K2 at_ fl R xs s sl L i now) (hi : i <= 20) (r : Nat) (hr : r <= 1000) : Room r s :=
 ⟨fun b hb => Nat.le_trans (h.bd b hb) (by decide), by have := h.nb; omega, by have := h.nk; omega⟩
/-- The table as auth leaves it. -/
theorem OnS.auth (h : OnS kk K1 K2 at_ fl R xs s sl L i now) {β : Bytes} (hpa : ba.length <= 4096) : ((s.digest β).seal (kl K1) 7 ba).keys.length <= 5 + i /\ ((s.digest β).seal (kl K1) 7 ba).boxes.length <= 7 + 3 * i /\ ((s.digest β).seal (kl K1) 7 ba).sums.length <= i + 1 /\ ∀ b ∈ ((s.digest β).seal (kl K1) 7 ba).boxes, b.body.length <= 4096 := by
 refine ⟨?_, ?_, au_sums h.ns, fun b hb => ?_⟩
 · show (s.digest β).keys.length <= _; rw [dig_keys]; exact h.nk
 · rw [seal_len, dig_boxes]; have := h.nb; omega
 · have hb : b ∈ (s.digest β).boxes ++ [⟨kl K1, 7, ba⟩] := hb
   rw [dig_boxes] at hb
   simp only [List.mem_append, List.mem_singleton] at hb
   rcases hb with hb | rfl
   · exact h.bd b hb
   · exact hpa
abbrev OnH (F G Gb : Nat -> Prop) (sv kb cb bk tb bb : Nat) (kk ka kb_ : Fin 16 -> UInt8) (s : STab) (sl : List Sh) (xs : List Xt) (nb g : Nat) (C D : Option Addr) (n1 c n2 d : Nat) (w : World) : Prop :=
 Hp (fun q => F q ∨ G q) w w [rBlk sv 73 (svC kb cb bk), rBlk kb 78 (kdcC tb bb kk), rSB (.slice C n1 c) (mkB 98 2), rSB (.slice D n2 d) (mkB 98 nb), rQx C c (mkB 98 2) (some ⟨g, 0, none⟩) 1 xs, rBs Gb bb [User.mk bANN ka 501 4000 false, User.mk bBOB kb_ 501 0 true]] [rTab F tb s, rCa G cb 64 sl]
theorem okx1 : okXt [⟨bKDC, mkB 98 5, B, c'⟩] := ⟨Nat.le_refl _, fun x hx => by rw [List.mem_singleton.1 hx]; exact ⟨right_kdc, show (3 : Nat) <= 100000 by decide, by show (mkB 98 5).length <= 100000; rw [mkB_len]; decide⟩⟩
theorem qB1_len {till : Int} {r mm : Bool} : (qB bBOB nn till r mm (mkB 98 2) [⟨bKDC, mkB 98 5, B, c'⟩]).length <= 4096 := qB_len (by decide) (by rw [mkB_len]; decide) (fun x hx => by rw [List.mem_singleton.1 hx]; exact ⟨show (3 : Nat) <= 300 by decide, by show (mkB 98 5).length <= 300; rw [mkB_len]; decide⟩) (by simp)
theorem add_rq {β : Bytes} (h : OnS kk K1 K2 at_ fl R xs s sl L i now) (hk : 0 <= k /\ k <= 7) {s3 : STab} {sl3 : List Sh} (hS : ∀ {β' n}, SK s β' n -> SK s3 β' n) (hB : ∀ {l x}, s.box l = some x -> s3.box l = some x) (hL : ∀ y, now + k - y.t <= 30 -> y ∈ sl -> y ∈ sl3) {x : Rq}
   (hx : 0 <= x.nn /\ x.nn <= 7 /\ x.t = now + k /\ β = qB bBOB x.nn (x.t + 10) false true (mkB 98 2) xs /\ SK s3 β x.n /\ (∃ b, s3.box (mkB 98 x.nb) = some ⟨kl K1, 7, b⟩ /\ packB (.authent bANN x.t x.q zK (mkB 100 (x.n + 1))) = .inr b) /\ (⟨bANN, x.t, x.q⟩ : Sh) ∈ sl3) :
   ∀ y ∈ L ++ [x], 0 <= y.nn /\ y.nn <= 7 /\ at_ <= y.t /\ y.t <= now + k /\ SK s3 (qB bBOB y.nn (y.t + 10) false true (mkB 98 2) xs) y.n /\ (∃ b, s3.box (mkB 98 y.nb) = some ⟨kl K1, 7, b⟩ /\ packB (.authent bANN y.t y.q zK (mkB 100 (y.n + 1))) = .inr b) /\ (now + k - y.t <= 30 -> (⟨bANN, y.t, y.q⟩ : Sh) ∈ sl3) := by
 have tm := h.tm
 intro y hy
 rcases List.mem_append.1 hy with hy | hy
 · obtain ⟨r1, r2, r3, r4, r5, ⟨b, r6, r7⟩, r8⟩ := h.rq y hy
   exact ⟨r1, r2, r3, by omega, hS r5, ⟨b, hB r6, r7⟩, fun hh => hL _ hh (r8 (by omega))⟩
 · rw [List.mem_singleton.1 hy]
   obtain ⟨r1, r2, r3, r4, r5, r6, r7⟩ := hx
   exact ⟨r1, r2, by omega, by omega, r4 ▸ r5, r6, fun _ => r7⟩
/-- It is asked for: what is true then. -/
theorem OnS.ask (h : OnS kk K1 K2 at_ fl R [⟨bKDC, mkB 98 5, B, c'⟩] s sl L i now) (hi : i < 20) (hk : 0 <= k /\ k <= 7) (hnn : 0 <= nn /\ nn <= 7) (hpa : packB (.authent bANN (now + k) q zK (mkB 100 (s.sumAt (qB bBOB nn (now + k + 10) false true (mkB 98 2) [⟨bKDC, mkB 98 5, B, c'⟩]) + 1))) = .inr ba) (D : Option Addr) (d g : Nat) :
   ∃ (s3 : STab) (sl3 : List Sh), OnS kk K1 K2 at_ fl R [⟨bKDC, mkB 98 5, B, c'⟩] s3 sl3 (L ++ [⟨nn, now + k, q, s.sumAt (qB bBOB nn (now + k + 10) false true (mkB 98 2) [⟨bKDC, mkB 98 5, B, c'⟩]), s.boxes.length + 1, D, d, g⟩]) (i + 1) (now + k) /\
     ∀ {F G Gb : Nat -> Prop} {sv kb cb bk tb bb : Nat} {C : Option Addr} {c n1 n2 : Nat} {w : World} (_hn1 : n1 = (mkB 98 2).length) (_hn2 : n2 = (mkB 98 (s.boxes.length + 1)).length), OnH F G Gb sv kb cb bk tb bb kk ka kb_ ((s.digest (qB bBOB nn (now + k + 10) false true (mkB 98 2) [⟨bKDC, mkB 98 5, B, c'⟩])).seal (kl K1) 7 ba) sl [⟨bKDC, mkB 98 5, B, c'⟩] (s.boxes.length + 1) g C D n1 c n2 d w ->
     Calls Tryz.prog 12 #[pt sv 0, .int .i64 (now + k), .agg (tqC bBOB nn (now + k + 10) false true bKDC (.slice C n1 c) (.slice D n2 d) (.slice (some ⟨g, 0, none⟩) 1 1)).toArray] w (TgAny F G tb cb 64 s3 sl3 w) := by
 have tm := h.tm
 have a0 := h.at0
 have nb := h.nb
 have nl := h.nl
 obtain ⟨u1, u2, u3, u4⟩ := h.auth (β := qB bBOB nn (now + k + 10) false true (mkB 98 2) [⟨bKDC, mkB 98 5, B, c'⟩]) (pack_le hpa)
 have hsk : SK ((s.digest (qB bBOB nn (now + k + 10) false true (mkB 98 2) [⟨bKDC, mkB 98 5, B, c'⟩])).seal (kl K1) 7 ba) (qB bBOB nn (now + k + 10) false true (mkB 98 2) [⟨bKDC, mkB 98 5, B, c'⟩]) (s.sumAt (qB bBOB nn (now + k + 10) false true (mkB 98 2) [⟨bKDC, mkB 98 5, B, c'⟩])) := au_sk
 have hbx : ((s.digest (qB bBOB nn (now + k + 10) false true (mkB 98 2) [⟨bKDC, mkB 98 5, B, c'⟩])).seal (kl K1) 7 ba).box (mkB 98 (s.boxes.length + 1)) = some ⟨kl K1, 7, ba⟩ := au_box rfl (by omega)
 obtain ⟨p2, hb2, hp2⟩ := h.b2
 obtain ⟨p5, hb5, hp5⟩ := h.b5
 have hnear : nearF (now + k) (now + k) = true := by unfold nearF; exact decide_eq_true ⟨by omega, by omega, by omega, by omega, by omega, by omega⟩
 have hb2' := au_old (β := qB bBOB nn (now + k + 10) false true (mkB 98 2) [⟨bKDC, mkB 98 5, B, c'⟩]) (k := kl K1) (u := 7) (b := ba) hb2
 have hb5' := au_old (β := qB bBOB nn (now + k + 10) false true (mkB 98 2) [⟨bKDC, mkB 98 5, B, c'⟩]) (k := kl K1) (u := 7) (b := ba) hb5
 have hold : ∀ {l x}, s.box l = some x -> ((s.digest (qB bBOB nn (now + k + 10) false true (mkB 98 2) [⟨bKDC, mkB 98 5, B, c'⟩])).seal (kl K1) 7 ba).box l = some x := fun hh => au_old hh
 have hsks : ∀ {β' n}, SK s β' n -> SK ((s.digest (qB bBOB nn (now + k + 10) false true (mkB 98 2) [⟨bKDC, mkB 98 5, B, c'⟩])).seal (kl K1) 7 ba) β' n := fun hh => sk_seal (sk_dig hh)
 have hrm : Room 800 ((s.digest (qB bBOB nn (now + k + 10) false true (mkB 98 2) [⟨bKDC, mkB 98 5, B, c'⟩])).seal (kl K1) 7 ba) := ⟨fun b hb => Nat.le_trans (u4 b hb) (by decide), by omega, by omega⟩
 generalize hs2 : (s.digest (qB bBOB nn (now + k + 10) false true (mkB 98 2) [⟨bKDC, mkB 98 5, B, c'⟩])).seal (kl K1) 7 ba = s2 at *
 by_cases hin : (⟨bANN, now + k, q⟩ : Sh) ∈ sl
 · refine ⟨s2, sl, ⟨by omega, by omega, u3, u4, ⟨p2, hb2', hp2⟩, ⟨p5, hb5', hp5⟩, h.sh, by omega, a0, ⟨by omega, by omega⟩, ?_⟩, ?_⟩
   · exact add_rq h hk hsks hold (fun _ _ hh => hh) ⟨hnn.1, hnn.2, rfl, rfl, hsk, ⟨ba, hbx, hpa⟩, hin⟩
   · intro F G Gb sv kb cb bk tb bb C c n1 n2 w hn1 hn2 h0
     subst hn1 hn2
     exact (tgsTwice_any (xs := [⟨bKDC, mkB 98 5, B, c'⟩]) (q := q) h0 (hrm.less (by decide)) (by omega) (op_bx hb2' hp2) (by omega) hsk (op_bx hbx hpa) hnear h.sh hin (by omega) okx1 right_bob (by decide) (inN_is (by omega) (by omega)) (inN_is (by omega) (by omega)) (by rw [mkB_len]; decide) qB1_len).mono fun _ _ hh => hh.any
 · obtain ⟨Kf, hKf⟩ := ex_key (s2.keys.length + 1)
   have hE : ∀ x ∈ [(2 : Int), at_, min (min (now + k + 10) (at_ + 501)) (at_ + 501), 0], inN x = true := by
     intro x hx; simp only [List.mem_cons, List.not_mem_nil, or_false] at hx; rcases hx with rfl | rfl | rfl | rfl <;> exact inN_is (by omega) (by omega)
   have hE2 : ∀ x ∈ [(2 : Int), nn, at_, min (min (now + k + 10) (at_ + 501)) (at_ + 501), 0], inN x = true := by
     intro x hx; simp only [List.mem_cons, List.not_mem_nil, or_false] at hx; rcases hx with rfl | rfl | rfl | rfl | rfl <;> exact inN_is (by omega) (by omega)
   obtain ⟨c1, hc1⟩ := pack_inside (f := 2) (K := Kf) (s := bANN) (a := at_) (u := min (min (now + k + 10) (at_ + 501)) (at_ + 501)) (r := 0) (rightM_is right_ann hE) (by decide)
   obtain ⟨c2, hc2⟩ := pack_reply (f := 2) (K := Kf) (n := nn) (s := bBOB) (a := at_) (u := min (min (now + k + 10) (at_ + 501)) (at_ + 501)) (r := 0) (rightM_is right_bob hE2) (by decide)
   have hsk3 : SK (((s2.add SFrom.fresh).seal (kl K2) 2 c1).seal (kl K1) 8 c2) (qB bBOB nn (now + k + 10) false true (mkB 98 2) [⟨bKDC, mkB 98 5, B, c'⟩]) (s.sumAt (qB bBOB nn (now + k + 10) false true (mkB 98 2) [⟨bKDC, mkB 98 5, B, c'⟩])) := hsk
   have hsks3 : ∀ {β' n}, SK s β' n -> SK (((s2.add SFrom.fresh).seal (kl K2) 2 c1).seal (kl K1) 8 c2) β' n := fun hh => hsks hh
   refine ⟨((s2.add SFrom.fresh).seal (kl K2) 2 c1).seal (kl K1) 8 c2, keptF (now + k) sl ++ [⟨bANN, now + k, q⟩], ⟨?_, ?_, u3, fun b hb => ?_, ⟨p2, bx_seal (bx_seal hb2'), hp2⟩, ⟨p5, bx_seal (bx_seal hb5'), hp5⟩, fun y hy => ?_, ?_, a0, ⟨by omega, by omega⟩, ?_⟩, ?_⟩
   · show (s2.keys ++ [_]).length <= _; rw [List.length_append]; simp; omega
   · rw [seal_len, seal_len]; show s2.boxes.length + 1 + 1 <= _; omega
   · have hb : b ∈ (s2.boxes ++ [⟨kl K2, 2, c1⟩]) ++ [⟨kl K1, 8, c2⟩] := hb
     simp only [List.mem_append, List.mem_singleton] at hb
     rcases hb with (hb | rfl) | rfl
     · exact u4 b hb
     · exact pack_le hc1
     · exact pack_le hc2
   · rcases List.mem_append.1 hy with hy | hy
     · exact h.sh y (List.mem_filter.1 hy).1
     · rw [List.mem_singleton.1 hy]; exact ⟨by show 0 <= now + k; omega, by show now + k <= _; omega⟩
   · rw [List.length_append]; have := kept_len (now + k) sl; simp; omega
   · exact add_rq (x := ⟨nn, now + k, q, s.sumAt (qB bBOB nn (now + k + 10) false true (mkB 98 2) [⟨bKDC, mkB 98 5, B, c'⟩]), s.boxes.length + 1, D, d, g⟩) (s3 := ((s2.add SFrom.fresh).seal (kl K2) 2 c1).seal (kl K1) 8 c2) (sl3 := keptF (now + k) sl ++ [⟨bANN, now + k, q⟩]) h hk hsks3 (fun hh => bx_seal (bx_seal (hold hh))) (fun y hy hm => List.mem_append_left _ (List.mem_filter.2 ⟨hm, decide_eq_true hy⟩)) ⟨hnn.1, hnn.2, rfl, rfl, hsk3, ⟨ba, bx_seal (bx_seal hbx), hpa⟩, List.mem_append_right _ List.mem_cons_self⟩
   · intro F G Gb sv kb cb bk tb bb C c n1 n2 w hn1 hn2 h0
     subst hn1 hn2
     exact (tgsMet_any (us_ := User.mk bBOB kb_ 501 0 true) (q := q) h0 (hrm.less (by decide)) (by omega) (op_bx hb2' hp2) (by omega) hsk (op_bx hbx hpa) hnear h.sh hin (by omega) (by decide) (op_bx hb5' hp5) (by omega) (show (2 : Nat) <= 1000 by decide) place_bob.1 place_bob.2 rfl bob_ne right_bob (by decide) (inN_is (by omega) (by omega)) (inN_is (by omega) (by omega)) (by rw [mkB_len]; decide) (by rw [mkB_len]; decide) qB1_len (by omega) hKf hc1 hc2).mono fun _ _ hh => hh.any
/-- It is asked for again. -/
theorem OnS.again (h : OnS kk K1 K2 at_ fl R [⟨bKDC, mkB 98 5, B, c'⟩] s sl L i now) (hi : i <= 20) {x : Rq} (hx : x ∈ L) :
   ∃ ec : Nat, ec ≠ 0 /\ ∀ {F G Gb : Nat -> Prop} {sv kb cb bk tb bb : Nat} {C : Option Addr} {c n1 n2 : Nat} {w : World} (_hn1 : n1 = (mkB 98 2).length) (_hn2 : n2 = (mkB 98 x.nb).length), OnH F G Gb sv kb cb bk tb bb kk ka kb_ s sl [⟨bKDC, mkB 98 5, B, c'⟩] x.nb x.g C x.D n1 c n2 x.d w ->
     Calls Tryz.prog 12 #[pt sv 0, .int .i64 now, .agg (tqC bBOB x.nn (x.t + 10) false true bKDC (.slice C n1 c) (.slice x.D n2 x.d) (.slice (some ⟨x.g, 0, none⟩) 1 1)).toArray] w (TgNo F G tb cb 64 ec s sl w) := by
 have tm := h.tm
 have a0 := h.at0
 have nb := h.nb
 have nl := h.nl
 have ns := h.ns
 obtain ⟨r1, r2, r3, r4, r5, ⟨b, r6, r7⟩, r8⟩ := h.rq x hx
 obtain ⟨p2, hb2, hp2⟩ := h.b2
 by_cases hh : now - x.t <= 30
 · refine ⟨14, by decide, ?_⟩
   intro F G Gb sv kb cb bk tb bb C c n1 n2 w hn1 hn2 h0
   subst hn1 hn2
   exact tgsTwice_any (xs := [⟨bKDC, mkB 98 5, B, c'⟩]) h0 (h.ok hi 8 (by decide)) (by omega) (op_bx hb2 hp2) (by omega) r5 (op_bx r6 r7) (by unfold nearF; exact decide_eq_true ⟨by omega, by omega, by omega, by omega, by omega, by omega⟩) h.sh (r8 hh) (by omega) okx1 right_bob (by decide) (inN_is (by omega) (by omega)) (inN_is (by omega) (by omega)) (by rw [mkB_len]; decide) qB1_len
 · refine ⟨11, by decide, ?_⟩
   intro F G Gb sv kb cb bk tb bb C c n1 n2 w hn1 hn2 h0
   subst hn1 hn2
   exact tgsSkew_any (xs := [⟨bKDC, mkB 98 5, B, c'⟩]) h0 (h.ok hi 8 (by decide)).ok (by omega) (op_bx hb2 hp2) (by omega) r5 (op_bx r6 r7) okx1 (by unfold nearF; exact decide_eq_false fun hq => by omega) right_bob (by decide) (inN_is (by omega) (by omega)) (inN_is (by omega) (by omega)) (by rw [mkB_len]; decide) qB1_len
end
end
section
open Go.Value renaming int -> iV, slice -> lV, string -> sV, bool -> bV, agg -> aV
open Go.RowKit Go.QT
theorem getA {L : List Ask} {i : Nat} {x : Ask} (h : L[i]? = some x) : (L.map askC)[i]? = some [.string x.srv, .int .i64 x.nn, .int .i64 x.till, .bool x.r, .bool x.m, .int .i64 x.ex, .int .i64 x.la, .int .i64 x.tm, .int .i64 x.sq, .int .i64 x.tn] := by rw [List.getElem?_map, h]; rfl
theorem getQ {A : Option Addr} {c : Nat} {L : List Rq} {i : Nat} {x : Rq} (h : L[i]? = some x) : (L.map (rqC A c))[i]? = some [.string bBOB, .int .i64 x.nn, .int .i64 (x.t + 10), .bool false, .bool true, .string bKDC, .slice A 16 c, .slice x.D 16 x.d, .slice (some ⟨x.g, 0, none⟩) 1 1] := by rw [List.getElem?_map, h]; rfl
theorem OnS.init {kk ka kb_ K1 K2 : Fin 16 -> UInt8} {at_ fl R : Int} {xs : List Xt} {b0 b1 b2 b3 b4 b5 : Bytes} {t0 t1 t2 t3 : Thing} (hT : Tim at_ 501 4000 501 fl R) (h0 : packB t0 = .inr b0) (h1 : packB (.inside fl K1 bANN at_ (min (at_ + 600) (at_ + 501)) R) = .inr b1) (h2 : packB t1 = .inr b2) (h3 : packB t2 = .inr b3) (h4 : packB (.inside 4 K2 bBOB at_ (min (at_ + 600) (at_ + 501)) 0) = .inr b4) (h5 : packB t3 = .inr b5) :
   OnS kk K1 K2 at_ fl R xs (sO kk ka kb_ b0 b1 b2 b3 b4 b5) [] [] 0 at_ := by
 have e : min (at_ + 600) (at_ + 501) = at_ + 501 := by omega
 rw [e] at h1 h4
 refine ⟨by show 5 <= 5; decide, by show 6 <= 6; decide, Nat.le_refl _, fun b hb => ?_, ⟨b1, bxOx, h1⟩, ⟨b4, bxOy, h4⟩, fun y hy => absurd hy List.not_mem_nil, Nat.le_refl _, hT.at0, ⟨Int.le_refl _, by omega⟩, fun x hx => absurd hx List.not_mem_nil⟩
 simp only [sO, List.mem_cons, List.not_mem_nil, or_false] at hb
 rcases hb with rfl | rfl | rfl | rfl | rfl | rfl
 · exact pack_le h0
 · exact pack_le h1
 · exact pack_le h2
 · exact pack_le h3
 · exact pack_le h4
 · exact pack_le h5
theorem ktgsOnce_any {w : World} {P : Option Addr} {pc : Nat} {L : List Ask} (hv : RV w 10 P pc (L.map askC)) (La Rn_ Ot_ At_ Lt : Int) (mesh : Bool) : Calls Tryz.prog 5 #[.agg #[.int .i64 La, .int .i64 Rn_, .int .i64 Ot_, .bool mesh, .int .i64 At_, .int .i64 Lt], .slice P L.length pc] w (DPost w (.bool true)) := by
 obtain ⟨at_, hat⟩ : ∃ x, x = bits .and .i64 At_ 1023 := ⟨_, rfl⟩
 have hopn : ∀ w, Calls Tryz.prog 10 #[.agg #[.int .i64 500, .int .i64 4000, .int .i64 500, .bool true, .int .i64 At_, .int .i64 Lt]] w (OpnPost at_ 501 4000 501 true w) := by
   intro w
   have h := open15_any 500 4000 500 At_ Lt true w
   rwa [← hat, show (1 : Int) + bits .and .i64 500 511 = 501 from by kernel_rfl, show bits .and .i64 4000 4095 = 4000 from by kernel_rfl] at h
 have h0 := Hp.ro1 (rRV 10 P pc (L.map askC)) hv
 refine mE 98 ?_
 refine mT (xN h0 23 ([(iV .i64 La), (iV .i64 Rn_), (iV .i64 Ot_), (bV mesh), (iV .i64 At_), (iV .i64 Lt)])) ?_
 rintro _ w2 ⟨g2, rfl, h2⟩
 refine mD h2 [] (alive15_any _) (fun w5 h5 => ?_)
 rcases (by omega : 20 < L.length ∨ L.length <= 20) with hq | hq
 ·
  refine mW 19 (v := (.bool true)) (eqI (bV (decide ((L.length : Int) > 20))) (by simp; omega)) ?_
  exact mQ h5
 ·
  refine mW 19 (v := (.bool false)) (eqI (bV (decide ((L.length : Int) > 20))) (by simp; omega)) ?_
  refine mT (xS h5 0 ([(iV .i64 500), (iV .i64 Rn_), (iV .i64 Ot_), (bV mesh), (iV .i64 At_), (iV .i64 Lt)])) ?_
  rintro _ w11 h11
  refine mT (xS h11 0 ([(iV .i64 500), (iV .i64 4000), (iV .i64 Ot_), (bV mesh), (iV .i64 At_), (iV .i64 Lt)])) ?_
  rintro _ w12 h12
  refine mT (xS h12 0 ([(iV .i64 500), (iV .i64 4000), (iV .i64 500), (bV mesh), (iV .i64 At_), (iV .i64 Lt)])) ?_
  rintro _ w13 h13
  refine mT (xS h13 0 ([(iV .i64 500), (iV .i64 4000), (iV .i64 500), (bV true), (iV .i64 At_), (iV .i64 Lt)])) ?_
  rintro _ w14 h14
  refine ma h14 0 ?_
  refine mT (x_open15 (at_ := at_) (L := 501) (Rn := 4000) (Ot := 501) (mesh := true) h14 [(aV ([(iV .i64 500), (iV .i64 4000), (iV .i64 500), (bV true), (iV .i64 At_), (iV .i64 Lt)]).toArray)] (by kernel_rfl) (hopn _)) ?_
  rintro _ w16 ⟨d, sv, kb, cb, bk, tb, bb, G, Gc, F, kk, ka, kb_, K1, K2, b0, b1, b2, b3, b4, b5, fl, R, A, B, c, c', mv, rfl, hT, ⟨hkk, hka, hkb, hK1, hK2⟩, ⟨hp0, hp1, hp2, hp3, hp4, hp5⟩, h16⟩
  have h17 := h16.share 7 rfl
  have h18 := h17.share 7 rfl
  have z1 := hT.at0
  refine ma h18 7 ?_
  refine mW 30 (v := (iV .i64 at_)) (eqI (iV .i64 (bits .and .i64 At_ 1023)) (congrArg (iV .i64) hat.symm)) ?_
  refine mT (x_bs0 h18 40 9 (by kernel_rfl)) ?_
  rintro _ w23 ⟨A23, rfl, h23⟩
  have h26 := (h23.owNil 40 9 A23)
  have h27 := h26.allNil
  refine mL (fun mM xX aA wL => ∃ (i : Nat) (now : Int) (F : Nat -> Prop) (Gl : Nat -> Prop) (s : STab) (sl_ : List Sh) (aq : List Rq) (Q : Option Addr) (qc : Nat), (i <= L.length) /\ (OnS kk K1 K2 at_ fl R [⟨bKDC, mkB 98 5, B, c'⟩] s sl_ aq i now) /\ (aq.length = i) /\ mM = L.length - i /\ aA = patch xX 98 [(4, (bV false)), (5, (pt d 0)), (6, (iV .i64 now)), (7, (lV Q aq.length qc)), (32, (lV P L.length pc)), (33, (iV .i64 ((L.length : Int)))), (34, (iV .i64 ((i : Int))))] /\ Hp (fun _ => False) w wL [rAll (aq.flatMap (rqR A c [⟨bKDC, mkB 98 5, B, c'⟩])), rSB ((lV B 16 c')) (mkB 98 5), rSB ((lV A 16 c)) (mkB 98 2), rRV 10 P pc ((L.map askC))] [rOW 40 9 ((lV Q aq.length qc)) (aq.map (rqC A c)), rTab F tb s, rCa Gl cb 64 sl_, rBlk d 37 (dkC tb sv (rpC fl K1 1 bKDC at_ (min (at_ + 600) (at_ + 501)) R) (rpC 4 K2 1 bKDC at_ (min (at_ + 600) (at_ + 501)) 0) (lV A 16 c) (lV B 16 c')), rBlk sv 73 ([(pt kb 0), (pt cb 0), (pt bk 0)]), rBlk kb 78 ([(Value.iface 28 (pt tb 0)), (pt bb 0)] ++ vb (kl kk)), rBs G bb [User.mk bANN ka 501 4000 false, User.mk bBOB kb_ 501 0 true]]) ⟨_, _, 0, at_, F, Gc, ((sO kk ka kb_ b0 b1 b2 b3 b4 b5)), ([]), ([]), A23, 0, (Nat.zero_le _), (OnS.init hT hp0 hp1 hp2 hp3 hp4 hp5), rfl, rfl, pM, h27.sel [0, 8, 6, 2, 3, 4, 5] [0, 1, 2, 3] (by kernel_rfl) rfl rfl⟩ ?_
  rintro _ x28 _ w28 ⟨i, now, F, Gl, s, sl_, aq, Q, qc, hi, hS, hasl, rfl, rfl, h28⟩ KL28 hKL28
  refine mAt ?_
  have htm := hS.tm
  have hat0 := hS.at0
  have hns := hS.ns
  have hnb := hS.nb
  by_cases b30 : i < L.length
  ·
   refine mW 35 (v := (.bool true)) (eqI (bV (decide ((i : Int) < (L.length : Int)))) (by simp; omega)) ?_
   obtain ⟨x, hx⟩ : ∃ x, L[i]? = some x := ⟨_, List.getElem?_eq_getElem (by omega)⟩
   refine mW 36 (eIx (RV.lenIs (n := L.length) (h28.rd 3 rfl) (List.length_map _)).2 i L.length (RV.lenIs (n := L.length) (h28.rd 3 rfl) (List.length_map _)).1 (by omega) 60 (.tmp 32) (.tmp 34) .i64 63) ?_
   refine mW 37 (e_elemsN (RV.lenIs (n := L.length) (h28.rd 3 rfl) (List.length_map _)).2 i 0 ([(sV x.srv), (iV .i64 x.nn), (iV .i64 x.till), (bV x.r), (bV x.m), (iV .i64 x.ex), (iV .i64 x.la), (iV .i64 x.tm), (iV .i64 x.sq), (iV .i64 x.tn)]) (getA hx) 63 (.tmp 36) (by kernel_rfl) ([(sV x.srv), (iV .i64 x.nn), (iV .i64 x.till), (bV x.r), (bV x.m), (iV .i64 x.ex), (iV .i64 x.la), (iV .i64 x.tm), (iV .i64 x.sq), (iV .i64 x.tn)]) (by kernel_rfl) (by kernel_rfl) (by kernel_rfl)) ?_
   refine mT (xN h28 63 ([(sV ByteArray.empty), (iV .i64 0), (iV .i64 0), (bV false), (bV false), (iV .i64 0), (iV .i64 0), (iV .i64 0), (iV .i64 0), (iV .i64 0)])) ?_
   rintro _ w34 ⟨g34, rfl, h34⟩
   refine mT (xR h34 0 ([(sV x.srv), (iV .i64 x.nn), (iV .i64 x.till), (bV x.r), (bV x.m), (iV .i64 x.ex), (iV .i64 x.la), (iV .i64 x.tm), (iV .i64 x.sq), (iV .i64 x.tn)])) ?_
   rintro _ w35 h35
   refine ma h35 0 ?_
   obtain ⟨M37, hM37, hb37⟩ := and_mask x.la 7 (by decide)
   refine mW 41 (v := (iV .i64 ((M37 : Int)))) (eqI (iV .i64 (bits .and .i64 x.la 7)) (congrArg (iV .i64) hM37)) ?_
   refine mW 42 (exec_add _ _ _ _ bO now ((M37 : Int)) (by kernel_rfl) (by kernel_rfl) (now + (M37 : Int)) rfl (by omega) (by omega) _) ?_
   obtain ⟨M39, hM39, hb39⟩ := and_mask x.nn 7 (by decide)
   obtain ⟨M40, hM40, hb40⟩ := and_mask x.sq 3 (by decide)
   refine mJ 2000015 (fun aJ wJ42 => ∃ (gJ41_0 : Nat) (gJ41_1 : Nat) (xJ42 : Nat -> Value), aJ = patch xJ42 98 [(4, (bV false)), (5, (pt d 0)), (6, (iV .i64 (now + (M37 : Int)))), (7, (lV Q aq.length qc)), (9, (pt g34 0)), (10, (pt gJ41_0 0)), (32, (lV P L.length pc)), (33, (iV .i64 ((L.length : Int)))), (34, (iV .i64 ((i : Int)))), (35, (bV true))] /\ Hp (fun _ => False) w wJ42 [rAll (aq.flatMap (rqR A c [⟨bKDC, mkB 98 5, B, c'⟩])), rSB ((lV B 16 c')) (mkB 98 5), rSB ((lV A 16 c)) (mkB 98 2), rRV 10 P pc ((L.map askC))] [rBlk gJ41_0 40 ([(sV (⟨#[98, 111, 98]⟩)), (iV .i64 ((M39 : Int))), (iV .i64 (now + (M37 : Int) + 10)), (bV false), (bV true), (sV (⟨#[107, 100, 99]⟩)), (lV A 16 c), (lV none 0 0), (lV (some ⟨gJ41_1, 0, none⟩) 1 1)]), rBlk gJ41_1 35 ([(sV (⟨#[107, 100, 99]⟩)), (lV B 16 c')]), rBlk g34 63 ([(sV x.srv), (iV .i64 x.nn), (iV .i64 x.till), (bV x.r), (bV x.m), (iV .i64 x.ex), (iV .i64 x.la), (iV .i64 x.tm), (iV .i64 x.sq), (iV .i64 x.tn)]), rOW 40 9 ((lV Q aq.length qc)) (aq.map (rqC A c)), rTab F tb s, rCa Gl cb 64 sl_, rBlk d 37 (dkC tb sv (rpC fl K1 1 bKDC at_ (min (at_ + 600) (at_ + 501)) R) (rpC 4 K2 1 bKDC at_ (min (at_ + 600) (at_ + 501)) 0) (lV A 16 c) (lV B 16 c')), rBlk sv 73 ([(pt kb 0), (pt cb 0), (pt bk 0)]), rBlk kb 78 ([(Value.iface 28 (pt tb 0)), (pt bb 0)] ++ vb (kl kk)), rBs G bb [User.mk bANN ka 501 4000 false, User.mk bBOB kb_ 501 0 true]]) ?_ (fun hJ42 hhJ42 => ?_)
   ·
    rintro _ wJ42 ⟨gJ41_0, gJ41_1, xJ42, rfl, hJh42⟩
    refine mAt ?_
    have h44 := hJh42.share 1 rfl
    have h45 := h44.addQ1 3 2 0 (l := mkB 98 2) (m := mkB 98 5) (s := bKDC) rfl rfl rfl
    obtain ⟨ba, hpa⟩ := pack_authent' (t := now + (M37 : Int)) (q := (M40 : Int)) (n := s.sumAt (qB bBOB (M39 : Int) (now + (M37 : Int) + 10) false true (mkB 98 2) [⟨bKDC, mkB 98 5, B, c'⟩]) + 1) (by omega) (by omega)
    refine ma h45 0 ?_
    refine ma h45 1 ?_
    refine mW 64 (v := (iV .i64 ((M40 : Int)))) (eqI (iV .i64 (bits .and .i64 x.sq 3)) (congrArg (iV .i64) hM40)) ?_
    refine mT (x_auth (nb := s.boxes.length) (s2 := ((s.digest (qB bBOB (M39 : Int) (now + (M37 : Int) + 10) false true (mkB 98 2) [⟨bKDC, mkB 98 5, B, c'⟩])).seal (kl K1) 7 ba)) h45 3 rfl [(pt d 0), (Value.iface 40 (aV ([(sV (⟨#[98, 111, 98]⟩)), (iV .i64 ((M39 : Int))), (iV .i64 (now + (M37 : Int) + 10)), (bV false), (bV true), (sV (⟨#[107, 100, 99]⟩)), (lV A 16 c), (lV none 0 0), (lV (some ⟨gJ41_1, 0, none⟩) 1 1)]).toArray)), (iV .i64 (now + (M37 : Int))), (iV .i64 ((M40 : Int)))] (by kernel_rfl) (auth15_any (s := s) (h45.carve1 3 rfl [(true, 5), (false, 0)] rfl rfl) (hS.ok (by omega) 2 (by omega)) (sumQ_any (xs := [⟨bKDC, mkB 98 5, B, c'⟩]) (D := none) (an := 0) (ca := 0) (by omega) okx1 right_bob (by decide) (inN_is (by omega) (by omega)) (inN_is (by omega) (by omega)) (by rw [mkB_len]; decide) qB1_len) hpa)) ?_
    rintro _ w46 ⟨A46, c46, F46, rfl, h46⟩
    refine mT (xS h46 2 ([(sV (⟨#[98, 111, 98]⟩)), (iV .i64 ((M39 : Int))), (iV .i64 (now + (M37 : Int) + 10)), (bV false), (bV true), (sV (⟨#[107, 100, 99]⟩)), (lV A 16 c), (lV A46 16 c46), (lV (some ⟨gJ41_1, 0, none⟩) 1 1)])) ?_
    rintro _ w47 h47
    obtain ⟨s3, sl3, hS3, hcl⟩ := hS.ask (kb_ := kb_) (ka := ka) (q := (M40 : Int)) (nn := (M39 : Int)) (k := (M37 : Int)) (by omega) (by omega) (by omega) hpa A46 c46 gJ41_1
    refine mJ 2000017 (fun aJ wJ50 => ∃ (FJ49_0 : Nat -> Prop) (GJ49_1 : Nat -> Prop) (xJ50 : Nat -> Value), aJ = patch xJ50 98 [(4, (bV false)), (5, (pt d 0)), (6, (iV .i64 (now + (M37 : Int)))), (7, (lV Q aq.length qc)), (9, (pt g34 0)), (10, (pt gJ41_0 0)), (32, (lV P L.length pc)), (33, (iV .i64 ((L.length : Int)))), (34, (iV .i64 ((i : Int)))), (35, (bV true))] /\ Hp (fun _ => False) w wJ50 [rQx A c (mkB 98 2) (some ⟨gJ41_1, 0, none⟩) 1 [⟨bKDC, mkB 98 5, B, c'⟩], rBlk gJ41_1 35 ([(sV (⟨#[107, 100, 99]⟩)), (lV B 16 c')]), rAll (aq.flatMap (rqR A c [⟨bKDC, mkB 98 5, B, c'⟩])), rSB ((lV B 16 c')) (mkB 98 5), rSB ((lV A 16 c)) (mkB 98 2), rRV 10 P pc ((L.map askC))] [rTab FJ49_0 tb s3, rSB ((lV A46 16 c46)) (mkB 98 (s.boxes.length + 1)), rBlk gJ41_0 40 ([(sV (⟨#[98, 111, 98]⟩)), (iV .i64 ((M39 : Int))), (iV .i64 (now + (M37 : Int) + 10)), (bV false), (bV true), (sV (⟨#[107, 100, 99]⟩)), (lV A 16 c), (lV A46 16 c46), (lV (some ⟨gJ41_1, 0, none⟩) 1 1)]), rBlk g34 63 ([(sV x.srv), (iV .i64 x.nn), (iV .i64 x.till), (bV x.r), (bV x.m), (iV .i64 x.ex), (iV .i64 x.la), (iV .i64 x.tm), (iV .i64 x.sq), (iV .i64 x.tn)]), rOW 40 9 ((lV Q aq.length qc)) (aq.map (rqC A c)), rCa GJ49_1 cb 64 sl3, rBlk d 37 (dkC tb sv (rpC fl K1 1 bKDC at_ (min (at_ + 600) (at_ + 501)) R) (rpC 4 K2 1 bKDC at_ (min (at_ + 600) (at_ + 501)) 0) (lV A 16 c) (lV B 16 c')), rBlk sv 73 ([(pt kb 0), (pt cb 0), (pt bk 0)]), rBlk kb 78 ([(Value.iface 28 (pt tb 0)), (pt bb 0)] ++ vb (kl kk)), rBs G bb [User.mk bANN ka 501 4000 false, User.mk bBOB kb_ 501 0 true]]) ?_ (fun hJ50 hhJ50 => ?_)
    ·
     rintro _ wJ50 ⟨FJ49_0, GJ49_1, xJ50, rfl, hJh50⟩
     refine mAt ?_
     refine ma hJh50 2 ?_
     refine mT (x_bs hJh50 40 ([(sV (⟨#[98, 111, 98]⟩)), (iV .i64 ((M39 : Int))), (iV .i64 (now + (M37 : Int) + 10)), (bV false), (bV true), (sV (⟨#[107, 100, 99]⟩)), (lV A 16 c), (lV A46 16 c46), (lV (some ⟨gJ41_1, 0, none⟩) 1 1)]) 1 (by kernel_rfl)) ?_
     rintro _ w51 ⟨g51, rfl, h51⟩
     refine mT (x_pushW h51 5 0 rfl rfl (.tmp 74) (.tmp 76) 61 (by kernel_rfl) 128 (aV ([(sV ByteArray.empty), (iV .i64 0), (iV .i64 0), (bV false), (bV false), (sV ByteArray.empty), (lV none 0 0), (lV none 0 0), (lV none 0 0)]).toArray) (by kernel_rfl) (by kernel_rfl) (by kernel_rfl) (by kernel_rfl) (by kernel_rfl) (by kernel_rfl) (by kernel_rfl) (by kernel_rfl) (by rw [List.length_map]; omega) (by rw [List.length_map]; unfold maxLen; omega) ((aq ++ [Rq.mk (M39 : Int) (now + (M37 : Int)) (M40 : Int) (s.sumAt (qB bBOB (M39 : Int) (now + (M37 : Int) + 10) false true (mkB 98 2) [⟨bKDC, mkB 98 5, B, c'⟩])) (s.boxes.length + 1) A46 c46 gJ41_1]).map (rqC A c)) ((aq ++ [Rq.mk (M39 : Int) (now + (M37 : Int)) (M40 : Int) (s.sumAt (qB bBOB (M39 : Int) (now + (M37 : Int) + 10) false true (mkB 98 2) [⟨bKDC, mkB 98 5, B, c'⟩])) (s.boxes.length + 1) A46 c46 gJ41_1]).length) (by rw [List.map_append]; rfl) (List.length_map _)) ?_
     rintro _ w52 ⟨A52, c52, rfl, h52⟩
     have h53 := h52.share 2 rfl
     have h54 := h53.allAdd 3 rfl [0, 1] (m := rqR A c [⟨bKDC, mkB 98 5, B, c'⟩] (Rq.mk (M39 : Int) (now + (M37 : Int)) (M40 : Int) (s.sumAt (qB bBOB (M39 : Int) (now + (M37 : Int) + 10) false true (mkB 98 2) [⟨bKDC, mkB 98 5, B, c'⟩])) (s.boxes.length + 1) A46 c46 gJ41_1)) rfl
     rw [show aq.flatMap (rqR A c [⟨bKDC, mkB 98 5, B, c'⟩]) ++ rqR A c [⟨bKDC, mkB 98 5, B, c'⟩] (Rq.mk (M39 : Int) (now + (M37 : Int)) (M40 : Int) (s.sumAt (qB bBOB (M39 : Int) (now + (M37 : Int) + 10) false true (mkB 98 2) [⟨bKDC, mkB 98 5, B, c'⟩])) (s.boxes.length + 1) A46 c46 gJ41_1) = (aq ++ [Rq.mk (M39 : Int) (now + (M37 : Int)) (M40 : Int) (s.sumAt (qB bBOB (M39 : Int) (now + (M37 : Int) + 10) false true (mkB 98 2) [⟨bKDC, mkB 98 5, B, c'⟩])) (s.boxes.length + 1) A46 c46 gJ41_1]).flatMap (rqR A c [⟨bKDC, mkB 98 5, B, c'⟩]) from by rw [List.flatMap_append]; simp] at h54
     refine mW 78 (exec_add _ _ _ _ bO ((i : Int)) 1 (by kernel_rfl) (by kernel_rfl) ((i : Int) + 1) rfl (by omega) (by omega) _) ?_
     exact mK KL28 (hKL28 _ _ ⟨L.length - (i + 1), _, (by omega), (i + 1), (now + (M37 : Int)), FJ49_0, GJ49_1, s3, sl3, ((aq ++ [Rq.mk (M39 : Int) (now + (M37 : Int)) (M40 : Int) (s.sumAt (qB bBOB (M39 : Int) (now + (M37 : Int) + 10) false true (mkB 98 2) [⟨bKDC, mkB 98 5, B, c'⟩])) (s.boxes.length + 1) A46 c46 gJ41_1])), A52, c52, (by omega), hS3, (by rw [List.length_append, hasl]; rfl), rfl, pM, h54.sel [4, 1, 5, 6, 7, 8, 9] [0, 5, 6, 7] (by kernel_rfl) rfl rfl⟩)
    ·
     refine dG h47 7 7 (fun W => (rBlk d 37 (dkC tb sv (rpC fl K1 1 bKDC at_ (min (at_ + 600) (at_ + 501)) R) (rpC 4 K2 1 bKDC at_ (min (at_ + 600) (at_ + 501)) 0) (lV A 16 c) (lV B 16 c'))).Φ W /\ (rBlk gJ41_0 40 ([(sV (⟨#[98, 111, 98]⟩)), (iV .i64 ((M39 : Int))), (iV .i64 (now + (M37 : Int) + 10)), (bV false), (bV true), (sV (⟨#[107, 100, 99]⟩)), (lV A 16 c), (lV A46 16 c46), (lV (some ⟨gJ41_1, 0, none⟩) 1 1)])).Φ W /\ True) (fun w55 h55 => ⟨h55.at_ 6 rfl, h55.at_ 2 rfl, trivial⟩) ?_
     intro w55 h55
     refine dP 3 [0, 1, 2, 4] ?_
     refine dL 3 (fun W hW => hW.1) ?_
     refine dL 5 (fun W hW => hW.2.1) ?_
     refine dT 6 (x_tgsAny h55 0 5 rfl rfl [(pt sv 0), (iV .i64 (now + (M37 : Int))), (aV ([(sV (⟨#[98, 111, 98]⟩)), (iV .i64 ((M39 : Int))), (iV .i64 (now + (M37 : Int) + 10)), (bV false), (bV true), (sV (⟨#[107, 100, 99]⟩)), (lV A 16 c), (lV A46 16 c46), (lV (some ⟨gJ41_1, 0, none⟩) 1 1)]).toArray)] rfl (by kernel_rfl) (hcl rfl (mkB_len _ _).symm (h55.carve2 0 5 rfl rfl [(true, 7), (true, 8), (false, 4), (true, 1), (false, 0), (true, 9)] rfl rfl))) ?_
     rintro _ w56 ⟨v56, F56, G56, rfl, h56⟩
     refine ⟨⟨h56.at_ 6 rfl, h56.at_ 2 rfl, trivial⟩, ?_⟩
     refine dX ?_
     exact mK hJ50 (hhJ50 _ _ ⟨F56, G56, _, pM, h56.sel [0, 1, 2, 3, 4, 5, 6, 7, 8, 9] [0, 1, 2, 3, 4, 5] (by kernel_rfl) rfl rfl⟩)
   ·
    refine dG h35 17 16 (fun W => (rBlk g34 63 ([(sV x.srv), (iV .i64 x.nn), (iV .i64 x.till), (bV x.r), (bV x.m), (iV .i64 x.ex), (iV .i64 x.la), (iV .i64 x.tm), (iV .i64 x.sq), (iV .i64 x.tn)])).Φ W /\ (rBlk d 37 (dkC tb sv (rpC fl K1 1 bKDC at_ (min (at_ + 600) (at_ + 501)) R) (rpC 4 K2 1 bKDC at_ (min (at_ + 600) (at_ + 501)) 0) (lV A 16 c) (lV B 16 c'))).Φ W /\ True) (fun w57 h57 => ⟨h57.at_ 0 rfl, h57.at_ 4 rfl, trivial⟩) ?_
    intro w57 h57
    refine dP 9 [0, 3, 5, 6, 7, 9, 10, 11] ?_
    refine dV 4 (fun W hW => exec_add _ _ _ _ bO (now + (M37 : Int)) 10 (by kernel_rfl) (by kernel_rfl) (now + (M37 : Int) + 10) rfl (by omega) (by omega) _) ?_
    refine dL 1 (fun W hW => hW.1) ?_
    refine dV 2 (v := (iV .i64 ((M39 : Int)))) (fun W hW => eqI (iV .i64 (bits .and .i64 x.nn 7)) (congrArg (iV .i64) hM39)) ?_
    refine dLs 4 [8, 12] (fun W hW => hW.2.1) ?_
    refine dO 13 15 ?_ ?_
    ·
     refine oT (x_bs h57 35 ([(sV (⟨#[107, 100, 99]⟩)), (lV B 16 c')]) 1 (by kernel_rfl)) ?_
     rintro _ w58 ⟨g58, rfl, h58⟩
     refine ⟨⟨h58.at_ 1 rfl, h58.at_ 5 rfl, trivial⟩, ?_⟩
     refine dP 2 [14] ?_
     refine dT 15 (xN h58 40 ([(sV ByteArray.empty), (iV .i64 0), (iV .i64 0), (bV false), (bV false), (sV ByteArray.empty), (lV none 0 0), (lV none 0 0), (lV none 0 0)])) ?_
     rintro _ w59 ⟨g59, rfl, h59⟩
     refine ⟨⟨h59.at_ 2 rfl, h59.at_ 6 rfl, trivial⟩, ?_⟩
     refine dE 16 (xR h59 0 ([(sV (⟨#[98, 111, 98]⟩)), (iV .i64 ((M39 : Int))), (iV .i64 (now + (M37 : Int) + 10)), (bV false), (bV true), (sV (⟨#[107, 100, 99]⟩)), (lV A 16 c), (lV none 0 0), (lV (some ⟨g58, 0, none⟩) 1 1)])) ?_
     rintro _ w60 h60
     refine dX ?_
     exact mK hJ42 (hhJ42 _ _ ⟨g59, g58, _, pM, h60.sel [0, 1, 2, 3, 4, 5, 6, 7, 8, 9] [0, 1, 2, 3] (by kernel_rfl) rfl rfl⟩)
    ·
     refine oT (xN h57 40 ([(sV ByteArray.empty), (iV .i64 0), (iV .i64 0), (bV false), (bV false), (sV ByteArray.empty), (lV none 0 0), (lV none 0 0), (lV none 0 0)])) ?_
     rintro _ w61 ⟨g61, rfl, h61⟩
     refine ⟨⟨h61.at_ 1 rfl, h61.at_ 5 rfl, trivial⟩, ?_⟩
     refine dT 13 (x_bs h61 35 ([(sV (⟨#[107, 100, 99]⟩)), (lV B 16 c')]) 1 (by kernel_rfl)) ?_
     rintro _ w62 ⟨g62, rfl, h62⟩
     refine ⟨⟨h62.at_ 2 rfl, h62.at_ 6 rfl, trivial⟩, ?_⟩
     refine dP 1 [14] ?_
     refine dE 16 (xR h62 1 ([(sV (⟨#[98, 111, 98]⟩)), (iV .i64 ((M39 : Int))), (iV .i64 (now + (M37 : Int) + 10)), (bV false), (bV true), (sV (⟨#[107, 100, 99]⟩)), (lV A 16 c), (lV none 0 0), (lV (some ⟨g62, 0, none⟩) 1 1)])) ?_
     rintro _ w63 h63
     refine dX ?_
     exact mK hJ42 (hhJ42 _ _ ⟨g61, g62, _, pM, h63.sel [1, 0, 2, 3, 4, 5, 6, 7, 8, 9] [0, 1, 2, 3] (by kernel_rfl) rfl rfl⟩)
  ·
   refine mW 35 (v := (.bool false)) (eqI (bV (decide ((i : Int) < (L.length : Int)))) (by simp; omega)) ?_
   refine mL (fun mM xX aA wL => ∃ (j : Nat) (F2 : Nat -> Prop) (G2 : Nat -> Prop), (j <= aq.length) /\ mM = aq.length - j /\ aA = patch xX 98 [(5, (pt d 0)), (6, (iV .i64 now)), (79, (lV Q aq.length qc)), (80, (iV .i64 ((aq.length : Int)))), (81, (iV .i64 ((j : Int))))] /\ Hp (fun _ => False) w wL [rAll (aq.flatMap (rqR A c [⟨bKDC, mkB 98 5, B, c'⟩])), rSB ((lV B 16 c')) (mkB 98 5), rSB ((lV A 16 c)) (mkB 98 2), rRV 10 P pc ((L.map askC))] [rTab F2 tb s, rCa G2 cb 64 sl_, rBlk d 37 (dkC tb sv (rpC fl K1 1 bKDC at_ (min (at_ + 600) (at_ + 501)) R) (rpC 4 K2 1 bKDC at_ (min (at_ + 600) (at_ + 501)) 0) (lV A 16 c) (lV B 16 c')), rBlk sv 73 ([(pt kb 0), (pt cb 0), (pt bk 0)]), rBlk kb 78 ([(Value.iface 28 (pt tb 0)), (pt bb 0)] ++ vb (kl kk)), rBs G bb [User.mk bANN ka 501 4000 false, User.mk bBOB kb_ 501 0 true], rOW 40 9 ((lV Q aq.length qc)) (aq.map (rqC A c))]) ⟨_, _, 0, F, Gl, (Nat.zero_le _), rfl, pM, h28.sel [1, 2, 3, 4, 5, 6, 0] [0, 1, 2, 3] (by kernel_rfl) rfl rfl⟩ ?_
   rintro _ x67 _ w67 ⟨j, F2, G2, hj, rfl, rfl, h67⟩ KL67 hKL67
   refine mAt ?_
   by_cases b69 : j < aq.length
   ·
    refine mW 82 (v := (.bool true)) (eqI (bV (decide ((j : Int) < (aq.length : Int)))) (by simp; omega)) ?_
    obtain ⟨y, hy⟩ : ∃ y, aq[j]? = some y := ⟨_, List.getElem?_eq_getElem (by omega)⟩
    obtain ⟨ec, hec, hcl⟩ := hS.again (ka := ka) (kb_ := kb_) (by omega) (List.mem_of_getElem? hy)
    have h73 := h67.allGet 0 rfl _ (rq_mem hy).1
    have h74 := h73.allGet 1 rfl _ (rq_mem hy).2
    refine mW 83 (eIx (OW.rvn (h74.at_ 6 rfl)).2 j aq.length (OW.rvn (h74.at_ 6 rfl)).1 (by omega) 61 (.tmp 79) (.tmp 81) .i64 40) ?_
    refine mW 84 (e_elemsN (OW.rvn (h74.at_ 6 rfl)).2 j 0 ([(sV (⟨#[98, 111, 98]⟩)), (iV .i64 y.nn), (iV .i64 (y.t + 10)), (bV false), (bV true), (sV (⟨#[107, 100, 99]⟩)), (lV A 16 c), (lV y.D 16 y.d), (lV (some ⟨y.g, 0, none⟩) 1 1)]) (getQ hy) 40 (.tmp 83) (by kernel_rfl) ([(sV (⟨#[98, 111, 98]⟩)), (iV .i64 y.nn), (iV .i64 (y.t + 10)), (bV false), (bV true), (sV (⟨#[107, 100, 99]⟩)), (lV A 16 c), (lV y.D 16 y.d), (lV (some ⟨y.g, 0, none⟩) 1 1)]) (by kernel_rfl) (by kernel_rfl) (by kernel_rfl)) ?_
    refine mT (xN h74 40 ([(sV ByteArray.empty), (iV .i64 0), (iV .i64 0), (bV false), (bV false), (sV ByteArray.empty), (lV none 0 0), (lV none 0 0), (lV none 0 0)])) ?_
    rintro _ w75 ⟨g75, rfl, h75⟩
    refine mT (xR h75 0 ([(sV (⟨#[98, 111, 98]⟩)), (iV .i64 y.nn), (iV .i64 (y.t + 10)), (bV false), (bV true), (sV (⟨#[107, 100, 99]⟩)), (lV A 16 c), (lV y.D 16 y.d), (lV (some ⟨y.g, 0, none⟩) 1 1)])) ?_
    rintro _ w76 h76
    refine mJ 2000023 (fun aJ wJ79 => ∃ (gJ78_0 : Nat) (FJ78_1 : Nat -> Prop) (GJ78_2 : Nat -> Prop) (xJ79 : Nat -> Value), aJ = patch xJ79 98 [(5, (pt d 0)), (6, (iV .i64 now)), (12, (pt g75 0)), (14, (iV .i64 ((ec : Int)))), (79, (lV Q aq.length qc)), (80, (iV .i64 ((aq.length : Int)))), (81, (iV .i64 ((j : Int)))), (82, (bV true))] /\ Hp (fun _ => False) w wJ79 [rQx A c (mkB 98 2) (some ⟨y.g, 0, none⟩) 1 [⟨bKDC, mkB 98 5, B, c'⟩], rSB ((lV y.D 16 y.d)) (mkB 98 y.nb), rAll (aq.flatMap (rqR A c [⟨bKDC, mkB 98 5, B, c'⟩])), rSB ((lV B 16 c')) (mkB 98 5), rSB ((lV A 16 c)) (mkB 98 2), rRV 10 P pc ((L.map askC))] [rBlk gJ78_0 43 ([(sV ByteArray.empty), (sV ByteArray.empty), (lV none 0 0), (lV none 0 0)]), rBlk g75 40 ([(sV (⟨#[98, 111, 98]⟩)), (iV .i64 y.nn), (iV .i64 (y.t + 10)), (bV false), (bV true), (sV (⟨#[107, 100, 99]⟩)), (lV A 16 c), (lV y.D 16 y.d), (lV (some ⟨y.g, 0, none⟩) 1 1)]), rTab FJ78_1 tb s, rCa GJ78_2 cb 64 sl_, rBlk d 37 (dkC tb sv (rpC fl K1 1 bKDC at_ (min (at_ + 600) (at_ + 501)) R) (rpC 4 K2 1 bKDC at_ (min (at_ + 600) (at_ + 501)) 0) (lV A 16 c) (lV B 16 c')), rBlk sv 73 ([(pt kb 0), (pt cb 0), (pt bk 0)]), rBlk kb 78 ([(Value.iface 28 (pt tb 0)), (pt bb 0)] ++ vb (kl kk)), rBs G bb [User.mk bANN ka 501 4000 false, User.mk bBOB kb_ 501 0 true], rOW 40 9 ((lV Q aq.length qc)) (aq.map (rqC A c))]) ?_ (fun hJ79 hhJ79 => ?_)
    ·
     rintro _ wJ79 ⟨gJ78_0, FJ78_1, GJ78_2, xJ79, rfl, hJh79⟩
     refine mAt ?_
     refine mW 96 (v := (.bool false)) (eqI (bV (((ec : Int)) == 0)) (by simp; omega)) ?_
     refine mW 97 (exec_add _ _ _ _ bO ((j : Int)) 1 (by kernel_rfl) (by kernel_rfl) ((j : Int) + 1) rfl (by omega) (by omega) _) ?_
     exact mK KL67 (hKL67 _ _ ⟨aq.length - (j + 1), _, (by omega), (j + 1), FJ78_1, GJ78_2, (by omega), rfl, pM, hJh79.sel [2, 3, 4, 5, 6, 7, 8] [2, 3, 4, 5] (by kernel_rfl) rfl rfl⟩)
    ·
     refine dG h76 13 12 (fun W => (rBlk d 37 (dkC tb sv (rpC fl K1 1 bKDC at_ (min (at_ + 600) (at_ + 501)) R) (rpC 4 K2 1 bKDC at_ (min (at_ + 600) (at_ + 501)) 0) (lV A 16 c) (lV B 16 c'))).Φ W /\ (rBlk g75 40 ([(sV (⟨#[98, 111, 98]⟩)), (iV .i64 y.nn), (iV .i64 (y.t + 10)), (bV false), (bV true), (sV (⟨#[107, 100, 99]⟩)), (lV A 16 c), (lV y.D 16 y.d), (lV (some ⟨y.g, 0, none⟩) 1 1)])).Φ W /\ True) (fun w81 h81 => ⟨h81.at_ 3 rfl, h81.at_ 0 rfl, trivial⟩) ?_
     intro w81 h81
     refine dP 9 [0, 1, 2, 4] ?_
     refine dL 3 (fun W hW => hW.1) ?_
     refine dL 5 (fun W hW => hW.2.1) ?_
     refine dO 6 10 ?_ ?_
     ·
      refine oT (x_tgsN h81 1 2 rfl rfl [(pt sv 0), (iV .i64 now), (aV ([(sV (⟨#[98, 111, 98]⟩)), (iV .i64 y.nn), (iV .i64 (y.t + 10)), (bV false), (bV true), (sV (⟨#[107, 100, 99]⟩)), (lV A 16 c), (lV y.D 16 y.d), (lV (some ⟨y.g, 0, none⟩) 1 1)]).toArray)] rfl (by kernel_rfl) (hcl rfl (mkB_len _ _).symm (h81.carve2 1 2 rfl rfl [(true, 4), (true, 5), (false, 4), (false, 1), (false, 0), (true, 6)] rfl rfl))) ?_
      rintro _ w82 ⟨F82, G82, rfl, h82⟩
      refine ⟨⟨h82.at_ 3 rfl, h82.at_ 0 rfl, trivial⟩, ?_⟩
      refine dP 3 [7, 8, 9] ?_
      refine dT 10 (xN h82 43 ([(sV ByteArray.empty), (sV ByteArray.empty), (lV none 0 0), (lV none 0 0)])) ?_
      rintro _ w83 ⟨g83, rfl, h83⟩
      refine ⟨⟨h83.at_ 4 rfl, h83.at_ 1 rfl, trivial⟩, ?_⟩
      refine dT 11 (xR h83 0 ([(sV ByteArray.empty), (sV ByteArray.empty), (lV none 0 0), (lV none 0 0)])) ?_
      rintro _ w84 h84
      refine ⟨⟨h84.at_ 4 rfl, h84.at_ 1 rfl, trivial⟩, ?_⟩
      refine dN 12 ?_
      refine dX ?_
      exact mK hJ79 (hhJ79 _ _ ⟨g83, F82, G82, _, pM, h84.sel [0, 1, 2, 3, 4, 5, 6, 7, 8] [0, 1, 2, 3, 4, 5] (by kernel_rfl) rfl rfl⟩)
     ·
      refine oT (xN h81 43 ([(sV ByteArray.empty), (sV ByteArray.empty), (lV none 0 0), (lV none 0 0)])) ?_
      rintro _ w85 ⟨g85, rfl, h85⟩
      refine ⟨⟨h85.at_ 4 rfl, h85.at_ 1 rfl, trivial⟩, ?_⟩
      refine dT 6 (x_tgsN h85 2 3 rfl rfl [(pt sv 0), (iV .i64 now), (aV ([(sV (⟨#[98, 111, 98]⟩)), (iV .i64 y.nn), (iV .i64 (y.t + 10)), (bV false), (bV true), (sV (⟨#[107, 100, 99]⟩)), (lV A 16 c), (lV y.D 16 y.d), (lV (some ⟨y.g, 0, none⟩) 1 1)]).toArray)] rfl (by kernel_rfl) (hcl rfl (mkB_len _ _).symm (h85.carve2 2 3 rfl rfl [(true, 5), (true, 6), (false, 4), (false, 1), (false, 0), (true, 7)] rfl rfl))) ?_
      rintro _ w86 ⟨F86, G86, rfl, h86⟩
      refine ⟨⟨h86.at_ 4 rfl, h86.at_ 1 rfl, trivial⟩, ?_⟩
      refine dP 2 [7, 8, 9] ?_
      refine dT 11 (xR h86 0 ([(sV ByteArray.empty), (sV ByteArray.empty), (lV none 0 0), (lV none 0 0)])) ?_
      rintro _ w87 h87
      refine ⟨⟨h87.at_ 4 rfl, h87.at_ 1 rfl, trivial⟩, ?_⟩
      refine dN 12 ?_
      refine dX ?_
      exact mK hJ79 (hhJ79 _ _ ⟨g85, F86, G86, _, pM, h87.sel [0, 1, 2, 3, 4, 5, 6, 7, 8] [0, 1, 2, 3, 4, 5] (by kernel_rfl) rfl rfl⟩)
   ·
    refine mW 82 (v := (.bool false)) (eqI (bV (decide ((j : Int) < (aq.length : Int)))) (by simp; omega)) ?_
    exact mQ h67
end
section
open Go.ChangeShapes Go.WideShapes Go.ChangeAt Go.RowKit
theorem ktgsOnce_lifted (os : Os) (started : os.Started) (H : Type) (enc : TypeId × Value -> H) :
   ReturnsInHanded {} Tryz.checked os 5 .any (Rows.ktgsOnceSpec.pre6 enc Tryz.prog Tryz.f5 Rows.ktgsOnceRow.domain false) (Rows.ktgsOnceSpec.post enc Tryz.prog Tryz.f5 false true false false) := by
 refine returnsInHanded_of_change (C := Tryz.checked) Tryz.own started (by kernel_rfl) Tryz.func5
   (ChangeSpec.witness6 (enc := enc) (C := Tryz.checked) false ⟨#[], #[.agg #[.int .i64 0, .int .i64 0, .int .i64 0, .bool false, .int .i64 0, .int .i64 0], .slice none 0 0], []⟩ 8 (by kernel_rfl) (by kernel_rfl) (by kernel_rfl) (by kernel_rfl)) ?_
 intro W base args ds gs before hval0 hW hcnd _
 have hval : ∀ (j : Nat) t v, Tryz.f5.params[j]? = some t -> args[j]? = some v -> Value.okWide Tryz.prog W .any base t v := hval0
 have hpost : ∀ W', Below W.heap.size W W' -> Rows.ktgsOnceSpec.post enc Tryz.prog Tryz.f5 false true false false W args (.bool true) W' := fun W' hb =>
   law_post Tryz.laidOut (by kernel_rfl) Tryz.underlying4 rfl rfl (fun ds hds => by
     have hn : ds.length = 2 := hds
     match ds, hn with
     | [_, _], _ => rfl) hW hb
 obtain ⟨p, q, hA0, hV, rfl, hfz, hnd⟩ := hW
 have hA : DataW.TrodAll enc Tryz.prog W 0 (fun _ => true) true Tryz.f5.params.toList args.toList ds p := hA0
 rw [Tryz.params5] at hA hval
 clear hA0 hval0
 obtain ⟨v0, v1, d0, d1, p0, p1, rfl, rfl, rfl, h0, h1⟩ := trodAll_two hA
 obtain ⟨n00, n01, n02, m03, n04, n05, rfl⟩ := open_rules (hval 0 23 v0 rfl rfl) h0
 obtain ⟨A1, c1, L1, rfl, hr1⟩ := open_asks (hval 1 60 v1 rfl rfl) h1
 refine (ktgsOnce_any hr1 n00 n01 n02 n04 n05 m03).mono fun e W' ⟨he, hw⟩ => ?_
 subst he
 exact ⟨_, rfl, hpost W' hw⟩
theorem ktgsOnce_holds : Rows.KtgsOnceSaid :=
 OpenClaim.holds_of_wide 5 Tryz.f5 rfl rfl rfl rfl rfl rfl rfl ⟨rfl, rfl, rfl, rfl, rfl⟩ rfl rfl rfl rfl rfl (by kernel_rfl) Tryz.func5 (by kernel_rfl)
   (of_decide_eq_true (by kernel_rfl)) (by unfold Func.isWrapper; first | (rw [if_pos (by decide +kernel)]; kernel_rfl) | (rw [if_neg (by decide +kernel)]; exact ⟨rfl, rfl⟩))
   (fun os started H enc _ => ktgsOnce_lifted os started H enc)
end
end Go.Proofs.YtdefpmmdpfpipaaGreat
