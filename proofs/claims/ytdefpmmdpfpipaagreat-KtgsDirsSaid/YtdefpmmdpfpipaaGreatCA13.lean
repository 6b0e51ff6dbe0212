/- The walks of compeerref09: Letter,Rune. -/
import Derived.Laws.Cover1
import Derived.Test.YtdefpmmdpfpipaaGreatCA12
set_option maxRecDepth 100000
set_option maxHeartbeats 4000000
namespace Go.Proofs.YtdefpmmdpfpipaaGreat
section
open Go.RowKit Go.QT
/-- Two things, as one that is only read. -/
def rBoth(r s:Res):Res where
 F:=fun q=>r.F q∨s.F q
 Φ:=fun w=>r.Φ w/\s.Φ w
 lt:=fun h q hq=>hq.elim (r.lt h.1 q) (s.lt h.2 q)
 keep:=fun h hs hk=>⟨r.keep h.1 hs fun q hq=>hk q (.inl hq),s.keep h.2 hs fun q hq=>hk q (.inr hq)⟩
section
variable{F0:Nat->Prop}{w0 w w':World}{ro rs:List Res}
def pickR(ro rs:List Res)(k:Bool × Nat):Option Res:=bif k.1 then rs[k.2]? else ro[k.2]?
theorem Hp.carve1(h:Hp F0 w0 w ro rs)(i:Nat){r:Res}(hi:rs[i]?=some r)(ks:List (Bool × Nat)){ro':List Res}(hk:ks.map (pickR ro rs)=ro'.map some)(hn:ks.all (fun k=>!(k.1 && Nat.beq k.2 i))=true):Hp r.F w w ro' [r]:=by
 have key:∀ (j:Nat) (t:Res),ro'[j]?=some t->t.Φ w/\t.dj r:=by
   intro j t ht
   have h1:(ks.map (pickR ro rs))[j]?=some (some t):=by rw [hk,List.getElem?_map,ht];rfl
   rw [List.getElem?_map] at h1
   cases hj:ks[j]? with
   | none=>rw [hj] at h1;cases h1
   | some k =>
     rw [hj] at h1
     have h1:pickR ro rs k=some t:=Option.some.inj h1
     have h2:=List.all_eq_true.1 hn k (List.mem_of_getElem? hj)
     obtain ⟨b,k⟩:=k
     cases b with
     | true =>
       have h1:rs[k]?=some t:=h1
       have h3:k≠i:=fun e=>by subst e;simp at h2
       exact ⟨h.own k t h1,h.dis k i t r h1 hi h3⟩
     | false =>
       have h1:ro[k]?=some t:=h1
       exact ⟨h.red k t h1,h.rdis k i t r h1 hi⟩
 refine ⟨Fr.refl _ _,?_,?_,?_,fun j t ht=>(key j t ht).1,?_⟩
 · intro j t ht
   cases j with
   | zero=>injection ht with ht;subst ht;exact h.own i _ hi
   | succ j=>simp at ht
 · intro j t ht q hq
   cases j with
   | zero=>injection ht with ht;subst ht;exact .inl hq
   | succ j=>simp at ht
 · intro j k t u ht hu hne
   cases j <;> cases k <;> simp at ht hu hne
 intro j k t u ht hu
 cases k with
 | zero=>injection hu with hu;subst hu;exact (key j t ht).2
 | succ k=>simp at hu
theorem Hp.carve2(h:Hp F0 w0 w ro rs)(i j:Nat){r s:Res}(hi:rs[i]?=some r)(hj:rs[j]?=some s)(ks:List (Bool × Nat)){ro':List Res}(hk:ks.map (pickR ro rs)=ro'.map some)(hn:(!Nat.beq i j && ks.all (fun k=>!(k.1 && (Nat.beq k.2 i || Nat.beq k.2 j))))=true):Hp (fun q=>r.F q∨s.F q) w w ro' [r,s]:=by
 rw [Bool.and_eq_true] at hn
 have hij:i≠j:=fun e=>by subst e;simp at hn
 have h1:=h.carve1 i hi ks hk (List.all_eq_true.2 fun k hm=>by have:=List.all_eq_true.1 hn.2 k hm;obtain ⟨b,k⟩:=k;cases b <;> simp at this ⊢;exact this.1)
 have h2:=h.carve1 j hj ks hk (List.all_eq_true.2 fun k hm=>by have:=List.all_eq_true.1 hn.2 k hm;obtain ⟨b,k⟩:=k;cases b <;> simp at this ⊢;exact this.2)
 refine ⟨Fr.refl _ _,?_,?_,?_,h1.red,?_⟩
 · intro k t ht
   match k,ht with
   | 0,ht=>injection ht with ht;subst ht;exact h.own i _ hi
   | 1,ht=>injection ht with ht;subst ht;exact h.own j _ hj
 · intro k t ht q hq
   match k,ht with
   | 0,ht=>injection ht with ht;subst ht;exact .inl (.inl hq)
   | 1,ht=>injection ht with ht;subst ht;exact .inl (.inr hq)
 · intro k m t u ht hu hne
   match k,m,ht,hu with
   | 0,0,_,_=>exact absurd rfl hne
   | 1,1,_,_=>exact absurd rfl hne
   | 0,1,ht,hu=>injection ht with ht;injection hu with hu;subst ht;subst hu;exact h.dis i j _ _ hi hj hij
   | 1,0,ht,hu=>injection ht with ht;injection hu with hu;subst ht;subst hu;exact h.dis j i _ _ hj hi (Ne.symm hij)
 intro k m t u ht hu
 match m,hu with
 | 0,hu=>injection hu with hu;subst hu;exact h1.rdis k 0 t _ ht rfl
 | 1,hu=>injection hu with hu;subst hu;exact h2.rdis k 0 t _ ht rfl
/-- What is only read. -/
theorem Hp.carve0(h:Hp F0 w0 w ro rs)(ks:List (Bool × Nat)){ro':List Res}(hk:ks.map (pickR ro rs)=ro'.map some):Hp (fun _=>False) w w ro' []:=by
 refine ⟨Fr.refl _ _,by simp,by simp,by simp,?_,by simp⟩
 intro j t ht
 have h1:(ks.map (pickR ro rs))[j]?=some (some t):=by rw [hk,List.getElem?_map,ht];rfl
 rw [List.getElem?_map] at h1
 cases hj:ks[j]? with
 | none=>rw [hj] at h1;cases h1
 | some k =>
   rw [hj] at h1
   have h1:pickR ro rs k=some t:=Option.some.inj h1
   obtain ⟨b,k⟩:=k
   cases b with
   | true=>exact h.own k t h1
   | false=>exact h.red k t h1
/-- A call that is handed two, and leaves more. -/
theorem Hp.call2{rs':List Res}(h:Hp F0 w0 w ro rs)(i j:Nat){r s:Res}(hi:rs[i]?=some r)(hj:rs[j]?=some s)(hij:i≠j)(hc:Hp (fun q=>r.F q∨s.F q) w w' [] rs'):Hp F0 w0 w' ro (rs'++(rs.eraseIdx (max i j)).eraseIdx (min i j)):=by
 have go:∀ (i j:Nat) (r s:Res),rs[i]?=some r->rs[j]?=some s->i<j->Hp (fun q=>r.F q∨s.F q) w w' [] rs'->Hp F0 w0 w' ro (rs'++(rs.eraseIdx j).eraseIdx i):=by
   intro i j r s hi hj hij hc
   have h1:=h.join i j hi hj hij (rBoth r s) ⟨h.own i r hi,h.own j s hj⟩ (fun q hq=>hq)
   exact h1.call1 0 rfl hc
 rcases Nat.lt_or_ge i j with hlt|hge
 · rw [Nat.max_eq_right (by omega),Nat.min_eq_left (by omega)]
   exact go i j r s hi hj hlt hc
 rw [Nat.max_eq_left (by omega),Nat.min_eq_right (by omega)]
 exact go j i s r hj hi (by omega) (hc.weaken fun q hq=>hq.symm)
end
end
section
open Go.RowKit Go.QT
section
variable{o:Oper}{a:Act}{F0:Nat->Prop}{w0 w:World}{ro rs:List Res}
theorem x_equalT(h:Hp F0 w0 w ro rs){l m:Bytes}{u v:Value}(b:Bool)(hp:pureVal Tryz.prog (execOp a.eval o)=some (.enter 49 #[u,v]))(hu:SB w u l)(hv:SB w v m)(hb:decide (l=m)=b):OpTo Tryz.prog o a w (fun x w'=>x=.bool b/\Hp F0 w0 w' ro rs):=by
 subst hb
 exact OpTo.enter 49 [u,v] hp (equal_any u v l m w hu hv) fun e w' hq=>⟨_,hq.1,rfl,hq.2 ▸ h⟩
/-- Show, at a caller. -/
theorem x_show(h:Hp F0 w0 w ro rs)(i:Nat){G:Nat->Prop}{cb most:Nat}{l:List Sh}(hi:rs[i]?=some (rCa G cb most l))(rr:Nat × List Sh)(al:List Value)(hp:pureVal Tryz.prog (execOp a.eval o)=some (.enter 50 al.toArray))(hc:Calls Tryz.prog 50 al.toArray w (ShPost G cb most w rr)) :
   OpTo Tryz.prog o a w (fun u w'=>∃ G',u=.int .i64 (rr.1:Int)/\Hp F0 w0 w' ro (rCa G' cb most rr.2::rs.eraseIdx i)):=
 OpTo.enter 50 al hp hc fun e w' hq=>by
   obtain ⟨he,G',h2⟩:=hq
   exact ⟨_,he,G',rfl,h.call1 i hi h2⟩
end
/-- What who leaves. -/
def WhPost(F G:Nat->Prop)(tb cb most:Nat)(v:Value)(s2:STab)(rr:Nat × List Sh)(w:World)(e:Ending)(w':World):Prop:=
 ∃ F' G',e=.returned (.tuple #[v,.int .i64 (rr.1:Int)])/\Hp (fun q=>F q∨G q) w w' [] [rTab F' tb s2,rCa G' cb most rr.2]
theorem x_who{o:Oper}{a:Act}{F0 F G:Nat->Prop}{w0 w:World}{ro rs:List Res}{tb cb most:Nat}{s s2:STab}{l:List Sh}{v:Value}{rr:Nat × List Sh}(h:Hp F0 w0 w ro rs)(i j:Nat)(hi:rs[i]?=some (rTab F tb s))(hj:rs[j]?=some (rCa G cb most l))(al:List Value)(hij:decide (i≠j)=true)(hp:pureVal Tryz.prog (execOp a.eval o)=some (.enter 29 al.toArray))(hc:Calls Tryz.prog 29 al.toArray w (WhPost F G tb cb most v s2 rr w)) :
   OpTo Tryz.prog o a w (fun u w'=>∃ F' G',u=.tuple #[v,.int .i64 (rr.1:Int)]/\Hp F0 w0 w' ro ((rs.set i (rTab F' tb s2)).set j (rCa G' cb most rr.2))):=
 OpTo.enter 29 al hp hc fun e w' hq=>by
   obtain ⟨F',G',he,h2⟩:=hq
   exact ⟨_,he,F',G',rfl,h.upd2 i j hi hj (of_decide_eq_true hij) h2⟩
/-- What a server's memory is. -/
def svC(kb cb bk:Nat):List Value:=[pt kb 0,pt cb 0,pt bk 0]
theorem who_any{F G:Nat->Prop}{sv kb cb bk tb bb most:Nat}{Kk Ky K2:Fin 16->UInt8}{s:STab}{sl:List Sh}{now:Int}{C D:Option Addr}{c d:Nat}{l au b β:Bytes}{Rq:Res}{qv:Value}{rr:Nat × List Sh}{f a u r t q:Int}{c1:ByteArray}{w:World}
   (h0:Hp (fun q=>F q∨G q) w w [rBlk sv 73 (svC kb cb bk),rBlk kb 78 (kdcC tb bb Kk),rSB (Value.slice C l.length c) l,rSB (Value.slice D au.length d) au,Rq] [rTab F tb s,rCa G cb most sl]) (hs:TabOk s) (_hm:s.sums.length<1000000)
   (ho:openTh s (kl Kk) 2 l=.inr (.inside f Ky c1 a u r)) (hu:now<u) (hau:openTh s (kl Ky) 7 au=.inr (.authent c1 t q K2 b)) (hb:b=mkB 100 (s.sumAt β+1))
   (hSum:∀ w',(rTab F tb s).Φ w'->Rq.Φ w'->Rq.dj (rTab F tb s)->Calls Tryz.prog 23 #[(Value.iface 28 (pt tb 0)),qv] w' (SumPost F tb s β w'))
   (hSh:∀ w',(rCa G cb most sl).Φ w'->Calls Tryz.prog 50 #[pt cb 0,.int .i64 now,.string c1,.int .i64 t,.int .i64 q] w' (ShPost G cb most w' rr)) :
   Calls Tryz.prog 29 #[pt sv 0,.int .i64 now,(Value.agg ([(Value.string (⟨#[107,100,99]⟩)),(Value.slice C l.length c)]).toArray),(Value.slice D au.length d),qv] w (WhPost F G tb cb most ((Value.agg ([(Value.int .i64 f)]++vb (kl Ky)++[(Value.string c1),(Value.int .i64 a),(Value.int .i64 u),(Value.int .i64 r)]).toArray)) (s.digest β) rr w):=by
 have h0:=h0
 refine mE 79 ?_
 refine mN h0 35 ([(Value.string (⟨#[107,100,99]⟩)),(Value.slice C l.length c)]) fun g2 w2 h2=>?_
 refine mN h2 54 ([(Value.int .i64 0)]++vb (List.replicate 16 0)++[(Value.string ByteArray.empty),(Value.int .i64 0),(Value.int .i64 0),(Value.int .i64 0)]) fun g3 w3 h3=>?_
 refine ma h3 1 ?_
 refine mD h3 [(pt sv 0),(Value.int .i64 now),(Value.agg ([(Value.string (⟨#[107,100,99]⟩)),(Value.slice C l.length c)]).toArray)] (opened_ok (h3.rd 0 rfl) (h3.rd 1 rfl) (h3.at_ 2 rfl) hs (h3.rd 2 rfl) (by rw [ho];rfl) hu) (fun w5 h5=>?_)
 refine mN h5 54 ([(Value.int .i64 0)]++vb (List.replicate 16 0)++[(Value.string ByteArray.empty),(Value.int .i64 0),(Value.int .i64 0),(Value.int .i64 0)]) fun g6 w6 h6=>?_
 refine mT (xR h6 0 ([(Value.int .i64 f)]++vb (kl Ky)++[(Value.string c1),(Value.int .i64 a),(Value.int .i64 u),(Value.int .i64 r)])) fun _ w7 h7=>?_
 refine dG h7 17 16 (fun W=>(rBlk sv 73 ([(pt kb 0),(pt cb 0),(pt bk 0)])).Φ W/\(rBlk kb 78 ([(Value.iface 28 (pt tb 0)),(pt bb 0)]++vb (kl Kk))).Φ W/\(rBlk g6 54 ([(Value.int .i64 f)]++vb (kl Ky)++[(Value.string c1),(Value.int .i64 a),(Value.int .i64 u),(Value.int .i64 r)])).Φ W/\True) (fun w11 h11=>⟨h11.rd 0 rfl,h11.rd 1 rfl,h11.at_ 0 rfl,trivial⟩) ?_
 intro w11 h11
 refine dP 12 [0,1,2,7,9] ?_
 refine dL 3 (fun W hW=>hW.1) ?_
 refine dP 9 [4,5] ?_
 refine dL 6 (fun W hW=>hW.2.1) ?_
 refine dL 8 (fun W hW=>hW.2.2.1) ?_
 refine dO 10 14 ?_ ?_
 ·
  refine oT (x_au h11 [(Value.iface 28 (pt tb 0)),(Value.agg (vb (kl Ky)).toArray),(Value.int .i64 7),(Value.slice D au.length d)] (by kernel_rfl) (auth_any (h11.at_ 3 rfl) hs (h11.rd 3 rfl) hau)) ?_
  rintro _ w12 ⟨A12,c12,rfl,h12⟩
  refine ⟨⟨h12.rd 0 rfl,h12.rd 1 rfl,h12.at_ 1 rfl,trivial⟩,?_⟩
  refine dP 3 [11,12,13] ?_
  refine dT 14 (xN h12 100 ([(Value.string ByteArray.empty),(Value.int .i64 0),(Value.int .i64 0)]++vb (List.replicate 16 0)++[(Value.slice none 0 0)])) ?_
  rintro _ w13 ⟨g13,rfl,h13⟩
  refine ⟨⟨h13.rd 0 rfl,h13.rd 1 rfl,h13.at_ 2 rfl,trivial⟩,?_⟩
  refine dT 15 (xR h13 0 ([(Value.string c1),(Value.int .i64 t),(Value.int .i64 q)]++vb (kl K2)++[(Value.slice A12 b.length c12)])) ?_
  rintro _ w14 h14
  refine ⟨⟨h14.rd 0 rfl,h14.rd 1 rfl,h14.at_ 2 rfl,trivial⟩,?_⟩
  refine dN 16 ?_
  refine dX ?_
  refine dG h14 21 21 (fun W=>(rBlk g13 100 ([(Value.string c1),(Value.int .i64 t),(Value.int .i64 q)]++vb (kl K2)++[(Value.slice A12 b.length c12)])).Φ W/\(rBlk g6 54 ([(Value.int .i64 f)]++vb (kl Ky)++[(Value.string c1),(Value.int .i64 a),(Value.int .i64 u),(Value.int .i64 r)])).Φ W/\(rBlk sv 73 ([(pt kb 0),(pt cb 0),(pt bk 0)])).Φ W/\(rBlk kb 78 ([(Value.iface 28 (pt tb 0)),(pt bb 0)]++vb (kl Kk))).Φ W/\True) (fun w18 h18=>⟨h18.at_ 0 rfl,h18.at_ 2 rfl,h18.rd 0 rfl,h18.rd 1 rfl,trivial⟩) ?_
  intro w18 h18
  refine dP 19 [0,2] ?_
  refine dL 1 (fun W hW=>hW.1) ?_
  refine dL 3 (fun W hW=>hW.2.1) ?_
  refine dV 4 (v:=(Value.bool false)) (fun W hW=>eqI (Value.bool (!((c1).toList == (c1).toList))) (by simp)) ?_
  refine dP 10 [5,6,8,9,10,15] ?_
  refine dL 7 (fun W hW=>hW.1) ?_
  refine dL 11 (fun W hW=>hW.2.2.1) ?_
  refine dP 6 [12,13] ?_
  refine dL 14 (fun W hW=>hW.2.2.2.1) ?_
  refine dT 16 (x_sum h18 5 rfl β [(Value.iface 28 (pt tb 0)),qv] _ (by kernel_rfl) (fun hT=>hSum _ hT (h18.rd 4 rfl) (h18.rdis 4 5 _ _ rfl rfl))) ?_
  rintro _ w19 ⟨A19,c19,F19,s19,rfl,hs19,h19⟩
  refine ⟨⟨h19.at_ 2 rfl,h19.at_ 4 rfl,h19.rd 0 rfl,h19.rd 1 rfl,trivial⟩,?_⟩
  refine dT 17 (x_equalT h19 true (by kernel_rfl) (h19.at_ 3 rfl) (h19.at_ 1 rfl) (decide_eq_true hb)) ?_
  rintro _ w20 ⟨rfl,h20⟩
  refine ⟨⟨h20.at_ 2 rfl,h20.at_ 4 rfl,h20.rd 0 rfl,h20.rd 1 rfl,trivial⟩,?_⟩
  refine dP 0 [18,19,20] ?_
  refine dX ?_
  refine dG h20 15 14 (fun W=>(rBlk g6 54 ([(Value.int .i64 f)]++vb (kl Ky)++[(Value.string c1),(Value.int .i64 a),(Value.int .i64 u),(Value.int .i64 r)])).Φ W/\(rBlk sv 73 ([(pt kb 0),(pt cb 0),(pt bk 0)])).Φ W/\(rBlk g13 100 ([(Value.string c1),(Value.int .i64 t),(Value.int .i64 q)]++vb (kl K2)++[(Value.slice A12 b.length c12)])).Φ W/\True) (fun w22 h22=>⟨h22.at_ 4 rfl,h22.rd 0 rfl,h22.at_ 2 rfl,trivial⟩) ?_
  intro w22 h22
  refine dP 8 [1,2,3,5,6,8,10] ?_
  refine dL 0 (fun W hW=>hW.1) ?_
  refine dL 4 (fun W hW=>hW.2.1) ?_
  refine dLs 3 [7,9,11] (fun W hW=>hW.2.2.1) ?_
  refine dT 12 (x_show h22 7 rfl rr [(pt cb 0),(Value.int .i64 now),(Value.string c1),(Value.int .i64 t),(Value.int .i64 q)] (by kernel_rfl) (hSh _ (h22.at_ 7 rfl))) ?_
  rintro _ w23 ⟨G23,rfl,h23⟩
  refine ⟨⟨h23.at_ 5 rfl,h23.rd 0 rfl,h23.at_ 3 rfl,trivial⟩,?_⟩
  refine dT 13 (xR h23 6 ([(Value.int .i64 f)]++vb (kl Ky)++[(Value.string c1),(Value.int .i64 a),(Value.int .i64 u),(Value.int .i64 r)])) ?_
  rintro _ w24 h24
  refine ⟨⟨h24.at_ 5 rfl,h24.rd 0 rfl,h24.at_ 3 rfl,trivial⟩,?_⟩
  refine dN 14 ?_
  refine dX ?_
  refine mF (post_2 (r:=.cell 10 54) (s:=.tmp 11) (by kernel_rfl) rfl (rce (h24.at_ 6 rfl)) (rtm (Value.int .i64 ((rr.1:Int)))) ?_)
  rw [hs19] at h24
  exact ⟨_,_,rfl,h24.sel [1,0] [] rfl rfl rfl⟩
 refine oT (xN h11 100 ([(Value.string ByteArray.empty),(Value.int .i64 0),(Value.int .i64 0)]++vb (List.replicate 16 0)++[(Value.slice none 0 0)])) ?_
 rintro _ w25 ⟨g25,rfl,h25⟩
 refine ⟨⟨h25.rd 0 rfl,h25.rd 1 rfl,h25.at_ 1 rfl,trivial⟩,?_⟩
 refine dT 10 (x_au h25 [(Value.iface 28 (pt tb 0)),(Value.agg (vb (kl Ky)).toArray),(Value.int .i64 7),(Value.slice D au.length d)] (by kernel_rfl) (auth_any (h25.at_ 4 rfl) hs (h25.rd 3 rfl) hau)) ?_
 rintro _ w26 ⟨A26,c26,rfl,h26⟩
 refine ⟨⟨h26.rd 0 rfl,h26.rd 1 rfl,h26.at_ 2 rfl,trivial⟩,?_⟩
 refine dP 2 [11,12,13] ?_
 refine dT 15 (xR h26 1 ([(Value.string c1),(Value.int .i64 t),(Value.int .i64 q)]++vb (kl K2)++[(Value.slice A26 b.length c26)])) ?_
 rintro _ w27 h27
 refine ⟨⟨h27.rd 0 rfl,h27.rd 1 rfl,h27.at_ 2 rfl,trivial⟩,?_⟩
 refine dN 16 ?_
 refine dX ?_
 refine dG h27 21 21 (fun W=>(rBlk g25 100 ([(Value.string c1),(Value.int .i64 t),(Value.int .i64 q)]++vb (kl K2)++[(Value.slice A26 b.length c26)])).Φ W/\(rBlk g6 54 ([(Value.int .i64 f)]++vb (kl Ky)++[(Value.string c1),(Value.int .i64 a),(Value.int .i64 u),(Value.int .i64 r)])).Φ W/\(rBlk sv 73 ([(pt kb 0),(pt cb 0),(pt bk 0)])).Φ W/\(rBlk kb 78 ([(Value.iface 28 (pt tb 0)),(pt bb 0)]++vb (kl Kk))).Φ W/\True) (fun w31 h31=>⟨h31.at_ 1 rfl,h31.at_ 2 rfl,h31.rd 0 rfl,h31.rd 1 rfl,trivial⟩) ?_
 intro w31 h31
 refine dP 19 [0,2] ?_
 refine dL 1 (fun W hW=>hW.1) ?_
 refine dL 3 (fun W hW=>hW.2.1) ?_
 refine dV 4 (v:=(Value.bool false)) (fun W hW=>eqI (Value.bool (!((c1).toList == (c1).toList))) (by simp)) ?_
 refine dP 10 [5,6,8,9,10,15] ?_
 refine dL 7 (fun W hW=>hW.1) ?_
 refine dL 11 (fun W hW=>hW.2.2.1) ?_
 refine dP 6 [12,13] ?_
 refine dL 14 (fun W hW=>hW.2.2.2.1) ?_
 refine dT 16 (x_sum h31 5 rfl β [(Value.iface 28 (pt tb 0)),qv] _ (by kernel_rfl) (fun hT=>hSum _ hT (h31.rd 4 rfl) (h31.rdis 4 5 _ _ rfl rfl))) ?_
 rintro _ w32 ⟨A32,c32,F32,s32,rfl,hs32,h32⟩
 refine ⟨⟨h32.at_ 3 rfl,h32.at_ 4 rfl,h32.rd 0 rfl,h32.rd 1 rfl,trivial⟩,?_⟩
 refine dT 17 (x_equalT h32 true (by kernel_rfl) (h32.at_ 2 rfl) (h32.at_ 1 rfl) (decide_eq_true hb)) ?_
 rintro _ w33 ⟨rfl,h33⟩
 refine ⟨⟨h33.at_ 3 rfl,h33.at_ 4 rfl,h33.rd 0 rfl,h33.rd 1 rfl,trivial⟩,?_⟩
 refine dP 0 [18,19,20] ?_
 refine dX ?_
 refine dG h33 15 14 (fun W=>(rBlk g6 54 ([(Value.int .i64 f)]++vb (kl Ky)++[(Value.string c1),(Value.int .i64 a),(Value.int .i64 u),(Value.int .i64 r)])).Φ W/\(rBlk sv 73 ([(pt kb 0),(pt cb 0),(pt bk 0)])).Φ W/\(rBlk g25 100 ([(Value.string c1),(Value.int .i64 t),(Value.int .i64 q)]++vb (kl K2)++[(Value.slice A26 b.length c26)])).Φ W/\True) (fun w35 h35=>⟨h35.at_ 4 rfl,h35.rd 0 rfl,h35.at_ 3 rfl,trivial⟩) ?_
 intro w35 h35
 refine dP 8 [1,2,3,5,6,8,10] ?_
 refine dL 0 (fun W hW=>hW.1) ?_
 refine dL 4 (fun W hW=>hW.2.1) ?_
 refine dLs 3 [7,9,11] (fun W hW=>hW.2.2.1) ?_
 refine dT 12 (x_show h35 7 rfl rr [(pt cb 0),(Value.int .i64 now),(Value.string c1),(Value.int .i64 t),(Value.int .i64 q)] (by kernel_rfl) (hSh _ (h35.at_ 7 rfl))) ?_
 rintro _ w36 ⟨G36,rfl,h36⟩
 refine ⟨⟨h36.at_ 5 rfl,h36.rd 0 rfl,h36.at_ 4 rfl,trivial⟩,?_⟩
 refine dT 13 (xR h36 6 ([(Value.int .i64 f)]++vb (kl Ky)++[(Value.string c1),(Value.int .i64 a),(Value.int .i64 u),(Value.int .i64 r)])) ?_
 rintro _ w37 h37
 refine ⟨⟨h37.at_ 5 rfl,h37.rd 0 rfl,h37.at_ 4 rfl,trivial⟩,?_⟩
 refine dN 14 ?_
 refine dX ?_
 refine mF (post_2 (r:=.cell 10 54) (s:=.tmp 11) (by kernel_rfl) rfl (rce (h37.at_ 6 rfl)) (rtm (Value.int .i64 ((rr.1:Int)))) ?_)
 rw [hs32] at h37
 exact ⟨_,_,rfl,h37.sel [1,0] [] rfl rfl rfl⟩
end
section
open Go.Value renaming int->iV,slice->lV,string->sV,bool->bV,agg->aV
open Go.RowKit Go.QT
theorem e_min3{o:Oper}{a:Act}(x y z:Operand)(ts:Array TypeId)(ho:o.op=.call { callee:=.builtin .min,args:=#[x,y,z],argTypes:=ts })(k k' k'':IntKind)(m n p:Int)(hx:a.eval x=.int k m)(hy:a.eval y=.int k' n)(hz:a.eval z=.int k'' p)(W:World) :
   (execOp a.eval o).run Tryz.prog W=.ok (.value (.int k (min (min m n) p))) W:=by
 unfold execOp
 simp only [ho,resolve,invoke,builtin,Sem.run_bind,Sem.run_pure,Result.andThen_ok,List.map_toArray,List.map_cons,List.map_nil,hx,hy,hz,run_min_int3]
 have e1:(if n<m then n else m)=min m n:=by split <;> omega
 have e2:(if p<min m n then p else min m n)=min (min m n) p:=by split <;> omega
 rw [e1,e2]
theorem met_ok{F Gb:Nat->Prop}{sv kb cb bk tb bb ln c dn d ce e:Nat}{Kk Ki K2:Fin 16->UInt8}{s:STab}{us:List User}{us_:User}{now till nn f a u r pf pa pu pr:Int}{qr qm:Bool}{qt srv c1:ByteArray}{C D E B:Option Addr}{pb:Bytes}{w:World}
   (h0:Hp (fun _=>False) w w [rBlk sv 73 (svC kb cb bk),rBlk kb 78 (kdcC tb bb Kk),rTab F tb s,rBs Gb bb us,rRV 2 E ce [[.string ⟨#[107,100,99]⟩,.slice B pb.length e]],rSB (.slice B pb.length e) pb] []) (hs:TabOk s) (h32:us.length<=1000000)
   (ho:openTh s (kl Kk) 2 pb=.inr (.inside pf K2 srv pa pu pr)) (hpu:now<pu) (hb2:placeB us srv=true) (hu2:us[placeI us srv]?=some us_) (hmesh:us_.mesh=true) (hne:srv.toList≠c1.toList) :
   Calls Tryz.prog 31 #[pt sv 0,.int .i64 now,(aV ([(iV .i64 f)]++vb (kl Ki)++[(sV c1),(iV .i64 a),(iV .i64 u),(iV .i64 r)]).toArray),(aV ([(sV srv),(iV .i64 nn),(iV .i64 till),(bV qr),(bV qm),(sV qt),(lV C ln c),(lV D dn d),(lV E 1 ce)]).toArray)] w (DPost w (.tuple #[(aV ([(iV .i64 2)]++vb (List.replicate 16 0)++[(sV c1),(iV .i64 a),(iV .i64 (min (min till u) pu)),(iV .i64 0)]).toArray),(aV (vb (kl K2)).toArray),.int .i64 0])):=by
 have h0:=h0
 refine mE 91 ?_
 refine mN h0 54 ([(zD f)]++vb (kl Ki)++[(sV c1),(zD a),(zD u),(zD r)]) fun g2 w2 h2=>?_
 refine mN h2 40 ([(sV srv),(zD nn),(zD till),(bV qr),(bV qm),(sV qt),(lV C ln c),(lV D dn d),(lV E 1 ce)]) fun g3 w3 h3=>?_
 refine mN h3 54 ([zO]++vb (List.replicate 16 0)++[zE,zO,zO,zO]) fun g4 w4 h4=>?_
 refine mN h4 31 (vb (List.replicate 16 0)) fun g5 w5 h5=>?_
 refine ma h5 2 ?_
 refine ma h5 2 ?_
 refine mW 26 (eIx (RV.lenIs (n:=1) (h5.rd 4 rfl) rfl).2 0 1 (RV.lenIs (n:=1) (h5.rd 4 rfl) rfl).1 (by decide) 38 (.tmp 25) (.const zO) .i64 35) ?_
 refine mW 27 (e_elemsN (RV.lenIs (n:=1) (h5.rd 4 rfl) rfl).2 0 0 ([(sV (⟨#[107,100,99]⟩)),(lV B pb.length e)]) rfl 35 (.tmp 26) (by kernel_rfl) ([(sV (⟨#[107,100,99]⟩)),(lV B pb.length e)]) (by kernel_rfl) (by kernel_rfl) (by kernel_rfl)) ?_
 refine mD h5 [(pt sv 0),(zD now),(aV ([(sV (⟨#[107,100,99]⟩)),(lV B pb.length e)]).toArray)] (opened_ok (h5.rd 0 rfl) (h5.rd 1 rfl) (h5.rd 2 rfl) hs (h5.rd 5 rfl) (by rw [ho];rfl) hpu) (fun w9 h9=>?_)
 refine mN h9 54 ([zO]++vb (List.replicate 16 0)++[zE,zO,zO,zO]) fun g10 w10 h10=>?_
 refine mT (xR h10 0 ([(zD pf)]++vb (kl K2)++[(sV srv),(zD pa),(zD pu),(zD pr)])) fun _ w11 h11=>?_
 refine dG h11 16 15 (fun W=>(rBlk sv 73 ([(pt kb 0),(pt cb 0),(pt bk 0)])).Φ W/\(rBlk kb 78 ([(Value.iface 28 (pt tb 0)),(pt bb 0)]++vb (kl Kk))).Φ W/\(rBlk g3 40 ([(sV srv),(zD nn),(zD till),(bV qr),(bV qm),(sV qt),(lV C ln c),(lV D dn d),(lV E 1 ce)])).Φ W/\True) (fun w15 h15=>⟨h15.rd 0 rfl,h15.rd 1 rfl,h15.at_ 3 rfl,trivial⟩) ?_
 intro w15 h15
 refine dP 12 [0,1,2,7] ?_
 refine dL 3 (fun W hW=>hW.1) ?_
 refine dP 9 [4,5] ?_
 refine dL 6 (fun W hW=>hW.2.1) ?_
 refine dL 8 (fun W hW=>hW.2.2.1) ?_
 refine dO 9 13 ?_ ?_
 ·
  refine oD h15 [(pt bb 0),(sV srv)] (get_yes (h15.rd 3 rfl) h32 hb2 hu2) (fun w16 h16=>⟨⟨h16.rd 0 rfl,h16.rd 1 rfl,h16.at_ 3 rfl,trivial⟩,?_⟩)
  refine dP 3 [10,11,12] ?_
  refine dT 13 (xN h16 138 ([zE]++vb (List.replicate 16 0)++[zO,zO,zV])) ?_
  rintro _ w17 ⟨g17,rfl,h17⟩
  refine ⟨⟨h17.rd 0 rfl,h17.rd 1 rfl,h17.at_ 4 rfl,trivial⟩,?_⟩
  refine dT 14 (xR h17 0 ([(sV us_.name)]++vb (kl us_.key)++[(zD us_.life),(zD us_.renew),(bV us_.mesh)])) ?_
  rintro _ w18 h18
  refine ⟨⟨h18.rd 0 rfl,h18.rd 1 rfl,h18.at_ 4 rfl,trivial⟩,?_⟩
  refine dN 15 ?_
  refine dX ?_
  refine ma h18 1 ?_
  refine ma h18 4 ?_
  refine mX 60 zV (bV (!((srv).toList == (srv).toList))) (by simp) ?_
  refine ma h18 4 ?_
  refine ma h18 5 ?_
  refine mX 66 (.bool false) (bV ((srv).toList == (c1).toList)) (by simpa using hne) ?_
  refine ma h18 0 ?_
  refine mX 73 (.bool false) (bV (!us_.mesh)) (by rw [hmesh];rfl) ?_
  refine ma h18 5 ?_
  refine ma h18 5 ?_
  refine ma h18 4 ?_
  refine ma h18 5 ?_
  refine ma h18 1 ?_
  refine mW 86 (v:=(zD (min (min till u) pu))) (e_min3 (.tmp 81) (.tmp 83) (.tmp 85) #[2,2,2] (by kernel_rfl) .i64 .i64 .i64 till u pu (by kernel_rfl) (by kernel_rfl) (by kernel_rfl) _) ?_
  refine mN h18 54 ([zO]++vb (List.replicate 16 0)++[zE,zO,zO,zO]) fun g24 w24 h24=>?_
  refine mT (xR h24 0 ([(zD 2)]++vb (List.replicate 16 0)++[(sV c1),(zD a),(zD (min (min till u) pu)),zO])) fun _ w25 h25=>?_
  refine dG h25 6 4 (fun W=>(rBlk g24 54 ([(zD 2)]++vb (List.replicate 16 0)++[(sV c1),(zD a),(zD (min (min till u) pu)),zO])).Φ W/\(rBlk g10 54 ([(zD pf)]++vb (kl K2)++[(sV srv),(zD pa),(zD pu),(zD pr)])).Φ W/\True) (fun w27 h27=>⟨h27.at_ 0 rfl,h27.at_ 2 rfl,trivial⟩) ?_
  intro w27 h27
  refine dP 5 [1] ?_
  refine dL 0 (fun W hW=>hW.1) ?_
  refine dL 2 (fun W hW=>hW.2.1) ?_
  refine dT 3 (xR h27 4 ([(zD 2)]++vb (List.replicate 16 0)++[(sV c1),(zD a),(zD (min (min till u) pu)),zO])) ?_
  rintro _ w28 h28
  refine ⟨⟨h28.at_ 0 rfl,h28.at_ 2 rfl,trivial⟩,?_⟩
  refine dE 4 (xR h28 3 (vb (kl K2))) ?_
  rintro _ w29 h29
  refine dN 5 ?_
  refine dX ?_
  refine mF (post_3 (r:=.cell 8 54) (s:=.cell 9 31) (t:=.tmp 10) (by kernel_rfl) rfl (rce (h29.at_ 4 rfl)) (rce (h29.at_ 3 rfl)) (rtm zO) ?_)
  exact ⟨rfl,h29.below0⟩
 refine oT (xN h15 138 ([zE]++vb (List.replicate 16 0)++[zO,zO,zV])) ?_
 rintro _ w30 ⟨g30,rfl,h30⟩
 refine ⟨⟨h30.rd 0 rfl,h30.rd 1 rfl,h30.at_ 4 rfl,trivial⟩,?_⟩
 refine dD 9 h30 [(pt bb 0),(sV srv)] (get_yes (h30.rd 3 rfl) h32 hb2 hu2) (fun w31 h31=>⟨⟨h31.rd 0 rfl,h31.rd 1 rfl,h31.at_ 4 rfl,trivial⟩,?_⟩)
 refine dP 2 [10,11,12] ?_
 refine dT 14 (xR h31 0 ([(sV us_.name)]++vb (kl us_.key)++[(zD us_.life),(zD us_.renew),(bV us_.mesh)])) ?_
 rintro _ w32 h32
 refine ⟨⟨h32.rd 0 rfl,h32.rd 1 rfl,h32.at_ 4 rfl,trivial⟩,?_⟩
 refine dN 15 ?_
 refine dX ?_
 refine ma h32 1 ?_
 refine ma h32 4 ?_
 refine mX 60 zV (bV (!((srv).toList == (srv).toList))) (by simp) ?_
 refine ma h32 4 ?_
 refine ma h32 5 ?_
 refine mX 66 (.bool false) (bV ((srv).toList == (c1).toList)) (by simpa using hne) ?_
 refine ma h32 0 ?_
 refine mX 73 (.bool false) (bV (!us_.mesh)) (by rw [hmesh];rfl) ?_
 refine ma h32 5 ?_
 refine ma h32 5 ?_
 refine ma h32 4 ?_
 refine ma h32 5 ?_
 refine ma h32 1 ?_
 refine mW 86 (v:=(zD (min (min till u) pu))) (e_min3 (.tmp 81) (.tmp 83) (.tmp 85) #[2,2,2] (by kernel_rfl) .i64 .i64 .i64 till u pu (by kernel_rfl) (by kernel_rfl) (by kernel_rfl) _) ?_
 refine mN h32 54 ([zO]++vb (List.replicate 16 0)++[zE,zO,zO,zO]) fun g38 w38 h38=>?_
 refine mT (xR h38 0 ([(zD 2)]++vb (List.replicate 16 0)++[(sV c1),(zD a),(zD (min (min till u) pu)),zO])) fun _ w39 h39=>?_
 refine dG h39 6 4 (fun W=>(rBlk g38 54 ([(zD 2)]++vb (List.replicate 16 0)++[(sV c1),(zD a),(zD (min (min till u) pu)),zO])).Φ W/\(rBlk g10 54 ([(zD pf)]++vb (kl K2)++[(sV srv),(zD pa),(zD pu),(zD pr)])).Φ W/\True) (fun w41 h41=>⟨h41.at_ 0 rfl,h41.at_ 2 rfl,trivial⟩) ?_
 intro w41 h41
 refine dP 5 [1] ?_
 refine dL 0 (fun W hW=>hW.1) ?_
 refine dL 2 (fun W hW=>hW.2.1) ?_
 refine dT 3 (xR h41 4 ([(zD 2)]++vb (List.replicate 16 0)++[(sV c1),(zD a),(zD (min (min till u) pu)),zO])) ?_
 rintro _ w42 h42
 refine ⟨⟨h42.at_ 0 rfl,h42.at_ 2 rfl,trivial⟩,?_⟩
 refine dE 4 (xR h42 3 (vb (kl K2))) ?_
 rintro _ w43 h43
 refine dN 5 ?_
 refine dX ?_
 refine mF (post_3 (r:=.cell 8 54) (s:=.cell 9 31) (t:=.tmp 10) (by kernel_rfl) rfl (rce (h43.at_ 4 rfl)) (rce (h43.at_ 3 rfl)) (rtm zO) ?_)
 exact ⟨rfl,h43.below0⟩
end
section
open Go.Value renaming int->iV,slice->lV,string->sV,bool->bV,agg->aV
open Go.RowKit Go.QT
/-- What Tgs leaves, where it gives. -/
def TgPost(F G:Nat->Prop)(tb cb most nb:Nat)(c1 srv:ByteArray)(s3:STab)(sl:List Sh)(w:World)(e:Ending)(w':World):Prop:=
 ∃ A c B d F' G',e=.returned (.tuple #[.agg #[.string c1,.string srv,.slice A 16 c,.slice B 16 d],.int .i64 0])/\Hp (fun q=>F q∨G q) w w' [] [rTab F' tb s3,rCa G' cb most sl,rSB (.slice A 16 c) (mkB 98 (nb+1)),rSB (.slice B 16 d) (mkB 98 (nb+2))]
/-- .. where it does not. -/
def TgNo(F G:Nat->Prop)(tb cb most ec:Nat)(s2:STab)(sl:List Sh)(w:World)(e:Ending)(w':World):Prop:=
 ∃ F' G',e=.returned (.tuple #[.agg #[.string ByteArray.empty,.string ByteArray.empty,.slice none 0 0,.slice none 0 0],.int .i64 (ec:Int)])/\Hp (fun q=>F q∨G q) w w' [] [rTab F' tb s2,rCa G' cb most sl]
section
variable{o:Oper}{a:Act}{F0 F G:Nat->Prop}{w0 w:World}{ro rs:List Res}{tb cb most nb ec:Nat}{s s3:STab}{sl sl2:List Sh}{c1 srv:ByteArray}
theorem x_tgs(h:Hp F0 w0 w ro rs)(i j:Nat)(hi:rs[i]?=some (rTab F tb s))(hj:rs[j]?=some (rCa G cb most sl))(al:List Value)(hij:decide (i≠j)=true)(hp:pureVal Tryz.prog (execOp a.eval o)=some (.enter 12 al.toArray))(hc:Calls Tryz.prog 12 al.toArray w (TgPost F G tb cb most nb c1 srv s3 sl2 w)) :
   OpTo Tryz.prog o a w (fun u w'=>∃ A c B d F' G' s',u=.tuple #[.agg #[.string c1,.string srv,.slice A 16 c,.slice B 16 d],.int .i64 0]/\s'=s3/\Hp F0 w0 w' ro ([rTab F' tb s',rCa G' cb most sl2,rSB (.slice A 16 c) (mkB 98 (nb+1)),rSB (.slice B 16 d) (mkB 98 (nb+2))]++(rs.eraseIdx (max i j)).eraseIdx (min i j))):=
 OpTo.enter 12 al hp hc fun e w' hq=>by
   obtain ⟨A,c,B,d,F',G',he,h2⟩:=hq
   exact ⟨_,he,A,c,B,d,F',G',_,rfl,rfl,h.call2 i j hi hj (of_decide_eq_true hij) h2⟩
theorem x_tgsN(h:Hp F0 w0 w ro rs)(i j:Nat)(hi:rs[i]?=some (rTab F tb s))(hj:rs[j]?=some (rCa G cb most sl))(al:List Value)(hij:decide (i≠j)=true)(hp:pureVal Tryz.prog (execOp a.eval o)=some (.enter 12 al.toArray))(hc:Calls Tryz.prog 12 al.toArray w (TgNo F G tb cb most ec s3 sl2 w)) :
   OpTo Tryz.prog o a w (fun u w'=>∃ F' G',u=.tuple #[.agg #[.string ByteArray.empty,.string ByteArray.empty,.slice none 0 0,.slice none 0 0],.int .i64 (ec:Int)]/\Hp F0 w0 w' ro ((rs.set i (rTab F' tb s3)).set j (rCa G' cb most sl2))):=
 OpTo.enter 12 al hp hc fun e w' hq=>by
   obtain ⟨F',G',he,h2⟩:=hq
   exact ⟨_,he,F',G',rfl,h.upd2 i j hi hj (of_decide_eq_true hij) h2⟩
/-- Fresh, its key told. -/
theorem x_freshK{F:Nat->Prop}(h:Hp F0 w0 w ro rs)(i:Nat)(hi:rs[i]?=some (rTab F tb s))(K:Fin 16->UInt8)(hK:kl K=mkB 107 (s.keys.length+1))(hp:pureVal Tryz.prog (execOp a.eval o)=some (.enter 127 #[pt tb 0]))(hn:s.keys.length<1000000) :
   OpTo Tryz.prog o a w (fun u w'=>∃ F',u=.agg (vb (kl K)).toArray/\Hp F0 w0 w' ro (rs.set i (rTab F' tb (s.add SFrom.fresh)))):=
 (x_fresh h i hi hp hn).mono fun u w' ⟨K',F',s',e,hK',es,h'⟩=>by
   obtain rfl:K=K':=kl_inj (hK.trans hK'.symm)
   subst es
   exact ⟨F',e,h'⟩
end
theorem tgs_err{F G Gb:Nat->Prop}{sv kb cb bk tb bb most en ce:Nat}{Kk Ki:Fin 16->UInt8}{s s2:STab}{sl sl2:List Sh}{us:List User}{srv:ByteArray}{ec:Nat}{ts c1:ByteArray}{now nn till f a u r:Int}{qr qm:Bool}{C D E:Option Addr}{c d:Nat}{l au:Bytes}{Rq:Res}{w:World}
   (h0:Hp (fun q=>F q∨G q) w w [rBlk sv 73 (svC kb cb bk),rBlk kb 78 (kdcC tb bb Kk),rSB (lV C l.length c) l,rSB (lV D au.length d) au,Rq,rBs Gb bb us] [rTab F tb s,rCa G cb most sl])
   (hWho:∀ w',Hp (fun q=>F q∨G q) w' w' [rBlk sv 73 (svC kb cb bk),rBlk kb 78 (kdcC tb bb Kk),rSB (lV C l.length c) l,rSB (lV D au.length d) au,Rq] [rTab F tb s,rCa G cb most sl]->Calls Tryz.prog 29 #[pt sv 0,.int .i64 now,(aV ([(sV ts),(lV C l.length c)]).toArray),(lV D au.length d),(Value.iface 40 (aV ([(sV srv),(iV .i64 nn),(iV .i64 till),(bV qr),(bV qm),(sV ts),(lV C l.length c),(lV D au.length d),(lV E en ce)]).toArray))] w' (WhPost F G tb cb most (aV ([(iV .i64 f)]++vb (kl Ki)++[(sV c1),(iV .i64 a),(iV .i64 u),(iV .i64 r)]).toArray) s2 (ec,sl2) w'))
   (hec:ec≠0):Calls Tryz.prog 12 #[pt sv 0,.int .i64 now,(aV ([(sV srv),(iV .i64 nn),(iV .i64 till),(bV qr),(bV qm),(sV ts),(lV C l.length c),(lV D au.length d),(lV E en ce)]).toArray)] w (TgNo F G tb cb most ec s2 sl2 w):=by
 have h0:=h0
 refine mE 108 ?_
 refine mN h0 40 ([(sV srv),(zD nn),(zD till),(bV qr),(bV qm),(sV ts),(lV C l.length c),(lV D au.length d),(lV E en ce)]) fun g2 w2 h2=>?_
 refine mN h2 43 ([zE,zE,zN,zN]) fun g3 w3 h3=>?_
 refine ma h3 1 ?_
 refine ma h3 1 ?_
 refine ma h3 1 ?_
 refine mT (x_who h3 2 3 rfl rfl [(pt sv 0),(zD now),(aV ([(sV ts),(lV C l.length c)]).toArray),(lV D au.length d),(Value.iface 40 (aV ([(sV srv),(zD nn),(zD till),(bV qr),(bV qm),(sV ts),(lV C l.length c),(lV D au.length d),(lV E en ce)]).toArray))] (by decide) (by kernel_rfl) (hWho _ (h3.carve2 2 3 rfl rfl [(false,0),(false,1),(false,2),(false,3),(false,4)] rfl rfl))) ?_
 rintro _ w5 ⟨F5,G5,rfl,h5⟩
 refine mN h5 54 ([zO]++vb (List.replicate 16 0)++[zE,zO,zO,zO]) fun g6 w6 h6=>?_
 refine mT (xR h6 0 ([(zD f)]++vb (kl Ki)++[(sV c1),(zD a),(zD u),(zD r)])) fun _ w7 h7=>?_
 refine mX 27 (.bool true) (bV (((ec:Int)) != 0)) (by simp;omega) ?_
 refine mT (xR h7 1 ([zE,zE,zN,zN])) fun _ w11 h11=>?_
 refine mF (post_2 (r:=.cell 6 43) (s:=.tmp 7) (by kernel_rfl) rfl (rce (h11.at_ 1 rfl)) (rtm (zD ((ec:Int)))) ?_)
 exact ⟨_,_,rfl,h11.sel [3,4] [] rfl rfl rfl⟩
theorem tgs_met{F G Gb:Nat->Prop}{sv kb cb bk tb bb most en ce:Nat}{Kk Ki:Fin 16->UInt8}{s s2:STab}{sl sl2:List Sh}{us:List User}{srv:ByteArray}{ts c1:ByteArray}{now nn till f a u r:Int}{C D E:Option Addr}{c d:Nat}{l au:Bytes}{Rq:Res}{w:World}
   (h0:Hp (fun q=>F q∨G q) w w [rBlk sv 73 (svC kb cb bk),rBlk kb 78 (kdcC tb bb Kk),rSB (lV C l.length c) l,rSB (lV D au.length d) au,Rq,rBs Gb bb us] [rTab F tb s,rCa G cb most sl])
   (hWho:∀ w',Hp (fun q=>F q∨G q) w' w' [rBlk sv 73 (svC kb cb bk),rBlk kb 78 (kdcC tb bb Kk),rSB (lV C l.length c) l,rSB (lV D au.length d) au,Rq] [rTab F tb s,rCa G cb most sl]->Calls Tryz.prog 29 #[pt sv 0,.int .i64 now,(aV ([(sV ts),(lV C l.length c)]).toArray),(lV D au.length d),(Value.iface 40 (aV ([(sV srv),(iV .i64 nn),(iV .i64 till),(bV false),(bV true),(sV ts),(lV C l.length c),(lV D au.length d),(lV E en ce)]).toArray))] w' (WhPost F G tb cb most (aV ([(iV .i64 f)]++vb (kl Ki)++[(sV c1),(iV .i64 a),(iV .i64 u),(iV .i64 r)]).toArray) s2 (0,sl2) w'))
   {Kx K:Fin 16->UInt8} {eo:Int} {b1 b2:Bytes} (hrm:Room 8 s2) (hK:kl K=mkB 107 (s2.keys.length+1)) (hlt:now<till) (hl1:c1.size<=1000) (hl2:srv.size<=1000) (hMet:∀ F' w',Hp (fun _=>False) w' w' [rBlk sv 73 (svC kb cb bk),rBlk kb 78 (kdcC tb bb Kk),rTab F' tb s2,rBs Gb bb us,Rq] []->Calls Tryz.prog 31 #[pt sv 0,.int .i64 now,(aV ([(iV .i64 f)]++vb (kl Ki)++[(sV c1),(iV .i64 a),(iV .i64 u),(iV .i64 r)]).toArray),(aV ([(sV srv),(iV .i64 nn),(iV .i64 till),(bV false),(bV true),(sV ts),(lV C l.length c),(lV D au.length d),(lV E en ce)]).toArray)] w' (DPost w' (.tuple #[(aV ([(iV .i64 2)]++vb (List.replicate 16 0)++[(sV c1),(iV .i64 a),(iV .i64 eo),(iV .i64 0)]).toArray),(aV (vb (kl Kx)).toArray),.int .i64 0])))
   (hp1:packB (.inside 2 K c1 a eo 0)=.inr b1) (hp2:packB (.reply 2 K nn srv a eo 0)=.inr b2):Calls Tryz.prog 12 #[pt sv 0,.int .i64 now,(aV ([(sV srv),(iV .i64 nn),(iV .i64 till),(bV false),(bV true),(sV ts),(lV C l.length c),(lV D au.length d),(lV E en ce)]).toArray)] w (TgPost F G tb cb most s2.boxes.length c1 srv (((s2.add SFrom.fresh).seal (kl Kx) 2 b1).seal (kl Ki) 8 b2) sl2 w):=by
 have h0:=h0
 refine mE 108 ?_
 refine mN h0 40 ([(sV srv),(zD nn),(zD till),zV,zI,(sV ts),(lV C l.length c),(lV D au.length d),(lV E en ce)]) fun g2 w2 h2=>?_
 refine mN h2 43 ([zE,zE,zN,zN]) fun g3 w3 h3=>?_
 refine ma h3 1 ?_
 refine ma h3 1 ?_
 refine ma h3 1 ?_
 refine mT (x_who h3 2 3 rfl rfl [(pt sv 0),(zD now),(aV ([(sV ts),(lV C l.length c)]).toArray),(lV D au.length d),(Value.iface 40 (aV ([(sV srv),(zD nn),(zD till),zV,zI,(sV ts),(lV C l.length c),(lV D au.length d),(lV E en ce)]).toArray))] (by decide) (by kernel_rfl) (hWho _ (h3.carve2 2 3 rfl rfl [(false,0),(false,1),(false,2),(false,3),(false,4)] rfl rfl))) ?_
 rintro _ w5 ⟨F5,G5,rfl,h5⟩
 refine mN h5 54 ([zO]++vb (List.replicate 16 0)++[zE,zO,zO,zO]) fun g6 w6 h6=>?_
 refine mT (xR h6 0 ([(zD f)]++vb (kl Ki)++[(sV c1),(zD a),(zD u),(zD r)])) fun _ w7 h7=>?_
 refine mJ 2000004 (fun aJ wJ12=>∃ (gJ11_0:Nat) (gJ11_1:Nat) (xJ12:Nat->Value),aJ=patch xJ12 108 [(0,(pt sv 0)),(1,(zD now)),(5,(pt g2 0)),(6,(pt g3 0)),(7,zO),(8,(pt g6 0)),(9,zO),(10,(pt gJ11_0 0)),(11,(pt gJ11_1 0))]/\Hp (fun q=>F q∨G q) w wJ12 [rBlk sv 73 ([(pt kb 0),(pt cb 0),(pt bk 0)]),rBlk kb 78 ([(Value.iface 28 (pt tb 0)),(pt bb 0)]++vb (kl Kk)),rSB ((lV C l.length c)) l,rSB ((lV D au.length d)) au,Rq,rBs Gb bb us] [rBlk gJ11_1 31 (vb (kl Kk)),rBlk gJ11_0 54 ([(zD f)]++vb (kl Ki)++[(sV c1),(zD a),(zD u),(zD r)]),rBlk g6 54 ([(zD f)]++vb (kl Ki)++[(sV c1),(zD a),(zD u),(zD r)]),rBlk g3 43 ([zE,zE,zN,zN]),rBlk g2 40 ([(sV srv),(zD nn),(zD till),zV,zI,(sV ts),(lV C l.length c),(lV D au.length d),(lV E en ce)]),rTab F5 tb s2,rCa G5 cb most sl2]) ?_ (fun hJ12 hhJ12=>?_)
 ·
  rintro _ wJ12 ⟨gJ11_0,gJ11_1,xJ12,rfl,hJh12⟩
  refine mAt ?_
  refine ma hJh12 4 ?_
  refine mX 51 (.bool false) (bV (decide (till<=now))) (by simp;omega) ?_
  refine ma hJh12 4 ?_
  refine ma hJh12 4 ?_
  refine ma hJh12 4 ?_
  refine ma hJh12 2 ?_
  refine ma hJh12 4 ?_
  refine mD hJh12 [(pt sv 0),(zD now),(aV ([(zD f)]++vb (kl Ki)++[(sV c1),(zD a),(zD u),(zD r)]).toArray),(aV ([(sV srv),(zD nn),(zD till),zV,zI,(sV ts),(lV C l.length c),(lV D au.length d),(lV E en ce)]).toArray)] (hMet _ _ (hJh12.carve0 [(false,0),(false,1),(true,5),(false,5),(false,4)] rfl)) (fun w17 h17=>?_)
  refine mT (xR h17 1 ([(zD 2)]++vb (List.replicate 16 0)++[(sV c1),(zD a),(zD eo),zO])) fun _ w18 h18=>?_
  refine mT (xR h18 0 (vb (kl Kx))) fun _ w19 h19=>?_
  refine mr h19 0 ?_
  refine mr h19 1 ?_
  refine mT (x_freshK h19 5 rfl K hK (by kernel_rfl) hrm.keys) ?_
  rintro _ w23 ⟨F23,rfl,h23⟩
  refine mT (xR h23 1 ([(zD 2)]++vb (kl K)++[(sV c1),(zD a),(zD eo),zO])) fun _ w24 h24=>?_
  refine dG h24 21 20 (fun W=>(rBlk sv 73 ([(pt kb 0),(pt cb 0),(pt bk 0)])).Φ W/\(rBlk g2 40 ([(sV srv),(zD nn),(zD till),zV,zI,(sV ts),(lV C l.length c),(lV D au.length d),(lV E en ce)])).Φ W/\(rBlk gJ11_1 31 (vb (kl Kx))).Φ W/\(rBlk gJ11_0 54 ([(zD 2)]++vb (kl K)++[(sV c1),(zD a),(zD eo),zO])).Φ W/\(rBlk g6 54 ([(zD f)]++vb (kl Ki)++[(sV c1),(zD a),(zD u),(zD r)])).Φ W/\True) (fun w26 h26=>⟨h26.rd 0 rfl,h26.at_ 4 rfl,h26.at_ 0 rfl,h26.at_ 1 rfl,h26.at_ 2 rfl,trivial⟩) ?_
  intro w26 h26
  refine dP 15 [0,1,2,4,8,10] ?_
  refine dL 3 (fun W hW=>hW.1) ?_
  refine dL 5 (fun W hW=>hW.2.1) ?_
  refine dL 6 (fun W hW=>hW.2.2.1) ?_
  refine dL 7 (fun W hW=>hW.2.2.2.1) ?_
  refine dL 9 (fun W hW=>hW.2.1) ?_
  refine dL 11 (fun W hW=>hW.2.2.2.2.1) ?_
  refine dO 12 17 ?_ ?_
  ·
   refine oT (x_give (s':=(((s2.add SFrom.fresh).seal (kl Kx) 2 b1).seal (kl Ki) 8 b2)) h26 5 rfl [(pt kb 0),(sV srv),(aV (vb (kl Kx)).toArray),(aV ([(zD 2)]++vb (kl K)++[(sV c1),(zD a),(zD eo),zO]).toArray),(zD nn),(aV (vb (kl Ki)).toArray),(zD 8)] (by kernel_rfl) (give_ok (h26.at_ 5 rfl) ((hrm.add _).less (by decide)) (h26.rd 1 rfl) (fun hq=>h26.rdis 1 5 _ _ rfl rfl kb rfl hq) hl1 hl2 hp1 hp2)) ?_
   rintro _ w27 ⟨A27,c27,B27,d27,F27,rfl,h27⟩
   refine ⟨⟨h27.rd 0 rfl,h27.at_ 7 rfl,h27.at_ 3 rfl,h27.at_ 4 rfl,h27.at_ 5 rfl,trivial⟩,?_⟩
   refine dP 4 [13,14,15,16] ?_
   refine dT 17 (xN h27 35 ([zE,zN])) ?_
   rintro _ w28 ⟨g28,rfl,h28⟩
   refine ⟨⟨h28.rd 0 rfl,h28.at_ 8 rfl,h28.at_ 4 rfl,h28.at_ 5 rfl,h28.at_ 6 rfl,trivial⟩,?_⟩
   refine dT 18 (xR h28 0 ([(sV srv),(lV A27 16 c27)])) ?_
   rintro _ w29 h29
   refine ⟨⟨h29.rd 0 rfl,h29.at_ 8 rfl,h29.at_ 4 rfl,h29.at_ 5 rfl,h29.at_ 6 rfl,trivial⟩,?_⟩
   refine dP 1 [19] ?_
   refine dN 20 ?_
   refine dX ?_
   refine ma h29 6 ?_
   refine ma h29 0 ?_
   refine mT (xR h29 7 ([(sV c1),(sV srv),(lV A27 16 c27),(lV B27 16 d27)])) fun _ w33 h33=>?_
   refine mF (post_2 (r:=.cell 6 43) (s:=.tmp 7) (by kernel_rfl) rfl (rce (h33.at_ 7 rfl)) (rtm zO) ?_)
   exact ⟨_,_,_,_,_,_,rfl,h33.sel [1,9,2,3] [] rfl rfl rfl⟩
  refine oT (xN h26 35 ([zE,zN])) ?_
  rintro _ w34 ⟨g34,rfl,h34⟩
  refine ⟨⟨h34.rd 0 rfl,h34.at_ 5 rfl,h34.at_ 1 rfl,h34.at_ 2 rfl,h34.at_ 3 rfl,trivial⟩,?_⟩
  refine dT 12 (x_give (s':=(((s2.add SFrom.fresh).seal (kl Kx) 2 b1).seal (kl Ki) 8 b2)) h34 6 rfl [(pt kb 0),(sV srv),(aV (vb (kl Kx)).toArray),(aV ([(zD 2)]++vb (kl K)++[(sV c1),(zD a),(zD eo),zO]).toArray),(zD nn),(aV (vb (kl Ki)).toArray),(zD 8)] (by kernel_rfl) (give_ok (h34.at_ 6 rfl) ((hrm.add _).less (by decide)) (h34.rd 1 rfl) (fun hq=>h34.rdis 1 6 _ _ rfl rfl kb rfl hq) hl1 hl2 hp1 hp2)) ?_
  rintro _ w35 ⟨A35,c35,B35,d35,F35,rfl,h35⟩
  refine ⟨⟨h35.rd 0 rfl,h35.at_ 8 rfl,h35.at_ 4 rfl,h35.at_ 5 rfl,h35.at_ 6 rfl,trivial⟩,?_⟩
  refine dP 3 [13,14,15,16] ?_
  refine dT 18 (xR h35 3 ([(sV srv),(lV A35 16 c35)])) ?_
  rintro _ w36 h36
  refine ⟨⟨h36.rd 0 rfl,h36.at_ 8 rfl,h36.at_ 4 rfl,h36.at_ 5 rfl,h36.at_ 6 rfl,trivial⟩,?_⟩
  refine dP 1 [19] ?_
  refine dN 20 ?_
  refine dX ?_
  refine ma h36 6 ?_
  refine ma h36 3 ?_
  refine mT (xR h36 7 ([(sV c1),(sV srv),(lV A35 16 c35),(lV B35 16 d35)])) fun _ w40 h40=>?_
  refine mF (post_2 (r:=.cell 6 43) (s:=.tmp 7) (by kernel_rfl) rfl (rce (h40.at_ 7 rfl)) (rtm zO) ?_)
  exact ⟨_,_,_,_,_,_,rfl,h40.sel [0,9,1,2] [] rfl rfl rfl⟩
 refine dG h7 12 11 (fun W=>(rBlk g6 54 ([(zD f)]++vb (kl Ki)++[(sV c1),(zD a),(zD u),(zD r)])).Φ W/\(rBlk sv 73 ([(pt kb 0),(pt cb 0),(pt bk 0)])).Φ W/\(rBlk kb 78 ([(Value.iface 28 (pt tb 0)),(pt bb 0)]++vb (kl Kk))).Φ W/\True) (fun w41 h41=>⟨h41.at_ 0 rfl,h41.rd 0 rfl,h41.rd 1 rfl,trivial⟩) ?_
 intro w41 h41
 refine dP 9 [1,2,3] ?_
 refine dL 0 (fun W hW=>hW.1) ?_
 refine dL 4 (fun W hW=>hW.2.1) ?_
 refine dP 5 [5,6] ?_
 refine dL 7 (fun W hW=>hW.2.2.1) ?_
 refine dO 8 9 ?_ ?_
 ·
  refine oT (xN h41 54 ([zO]++vb (List.replicate 16 0)++[zE,zO,zO,zO])) ?_
  rintro _ w42 ⟨g42,rfl,h42⟩
  refine ⟨⟨h42.at_ 1 rfl,h42.rd 0 rfl,h42.rd 1 rfl,trivial⟩,?_⟩
  refine dT 9 (xN h42 31 (vb (List.replicate 16 0))) ?_
  rintro _ w43 ⟨g43,rfl,h43⟩
  refine ⟨⟨h43.at_ 2 rfl,h43.rd 0 rfl,h43.rd 1 rfl,trivial⟩,?_⟩
  refine dT 10 (xR h43 1 ([(zD f)]++vb (kl Ki)++[(sV c1),(zD a),(zD u),(zD r)])) ?_
  rintro _ w44 h44
  refine ⟨⟨h44.at_ 2 rfl,h44.rd 0 rfl,h44.rd 1 rfl,trivial⟩,?_⟩
  refine dE 11 (xR h44 0 (vb (kl Kk))) ?_
  rintro _ w45 h45
  refine dX ?_
  exact mK hJ12 (hhJ12 _ _ ⟨g42,g43,_,pM,h45.sel [0,1,2,3,4,5,6] [0,1,2,3,4,5] (by kernel_rfl) rfl rfl⟩)
 refine oT (xN h41 31 (vb (List.replicate 16 0))) ?_
 rintro _ w46 ⟨g46,rfl,h46⟩
 refine ⟨⟨h46.at_ 1 rfl,h46.rd 0 rfl,h46.rd 1 rfl,trivial⟩,?_⟩
 refine dT 8 (xN h46 54 ([zO]++vb (List.replicate 16 0)++[zE,zO,zO,zO])) ?_
 rintro _ w47 ⟨g47,rfl,h47⟩
 refine ⟨⟨h47.at_ 2 rfl,h47.rd 0 rfl,h47.rd 1 rfl,trivial⟩,?_⟩
 refine dT 10 (xR h47 0 ([(zD f)]++vb (kl Ki)++[(sV c1),(zD a),(zD u),(zD r)])) ?_
 rintro _ w48 h48
 refine ⟨⟨h48.at_ 2 rfl,h48.rd 0 rfl,h48.rd 1 rfl,trivial⟩,?_⟩
 refine dE 11 (xR h48 1 (vb (kl Kk))) ?_
 rintro _ w49 h49
 refine dX ?_
 exact mK hJ12 (hhJ12 _ _ ⟨g47,g46,_,pM,h49.sel [1,0,2,3,4,5,6] [0,1,2,3,4,5] (by kernel_rfl) rfl rfl⟩)
end
section
section
variable{s s':STab}{f g:SFrom}{n:Nat}
end
end
section
open Go.RowKit
theorem markOf_mkB{k:UInt8}{n:Nat}(hk:k=107∨k=98∨k=100)(hn:n<=1099511627776):markOf (mkB k n)=some (k,n):=by
 have h2:gb (mkB k n) 2=k:=rfl
 have h8:getN ((mkB k n).drop 8)=n:=getN_put8 n (by omega)
 unfold markOf
 rw [h2,h8,if_pos ⟨rfl,hk,hn,rfl⟩]
/-! ### Tables -/
section
variable{s s':STab}{f g:SFrom}{n:Nat}{k l:Bytes}{u:Int}{b:Bytes}
theorem box_at{x:SSealed}(h:s.boxes[n]?=some x)(hn:n<1000000):s.box (mkB 98 (n+1))=some x:=by
 unfold STab.box
 rw [markOf_mkB (by decide) (by omega)]
 simp [h]
end
end
section
open Go.RowKit Go.QT
section
variable{s s':STab}{n m:Nat}{bx:List SSealed}{kn:List (SFrom × Nat)}{f:SFrom}{k:Bytes}{u:Int}{b:Bytes}
end
/-- What is right, and not long, is packed. -/
theorem pack_is{t:Thing}(hr:rightTh t=true)(hl:(wrV (valD t)).length<=4096):packB t=.inr (wrV (valD t)):=by
 unfold packB;rw [if_pos hr,if_pos hl]
theorem val_small{t:Thing}{n:Nat}(h:∀ v ∈ valL t,(wrV v).length<=n)(hn:(valL t).length<=7):(wrV (valD t)).length<=10+7*n:=by
 have h0:=wrV_leT (valD t)
 have e:bodyV (valD t)=wrL (valL t):=rfl
 rw [e] at h0
 have key:∀ (l:List DVal),(∀ v ∈ l,(wrV v).length<=n)->(wrL l).length<=l.length*n:=by
   intro l
   induction l with
   | nil=>intro _;rw [wrL];simp
   | cons v l ih =>
     intro hh
     rw [wrL,List.length_append,List.length_cons,Nat.add_mul]
     have:=hh v (by simp)
     have:=ih (fun x hx=>hh x (by simp [hx]))
     omega
 have:=key _ h
 have:(valL t).length*n<=7*n:=Nat.mul_le_mul_right _ hn
 omega
theorem pack_stamp{t q:Int}(h1:inN t=true)(h2:inN q=true):∃ b,packB (.stamp t q)=.inr b:=by
 refine ⟨_,pack_is ?_ ?_⟩
 · show rightM _ _=true
   unfold rightM
   rw [List.all_cons,List.all_cons,List.all_nil,h1,h2]
   decide
 refine Nat.le_trans (val_small (n:=18) ?_ (by simp [valL])) (by decide)
 intro v hv
 simp only [valL,List.mem_cons,List.not_mem_nil,or_false] at hv
 rcases hv with rfl|rfl <;> exact wr_nD _
theorem pack_inside{f a u r:Int}{K:Fin 16->UInt8}{s:ByteArray}(hr:rightM s [f,a,u,r]=true)(hs:s.size<=300):∃ b,packB (.inside f K s a u r)=.inr b:=by
 refine ⟨_,pack_is hr ?_⟩
 refine Nat.le_trans (val_small (n:=310) ?_ (by simp [valL])) (by decide)
 intro v hv
 simp only [valL,List.mem_cons,List.not_mem_nil,or_false] at hv
 have h1:=wr_bD (kl K)
 have h2:=wr_bD s.data.toList
 rw [kl_len] at h1
 rw [size_toList] at h2
 rcases hv with rfl|rfl|rfl|rfl|rfl|rfl
 · have:=wr_nD f;omega
 · omega
 · omega
 · have:=wr_nD a;omega
 · have:=wr_nD u;omega
 have:=wr_nD r;omega
theorem pack_reply{f n a u r:Int}{K:Fin 16->UInt8}{s:ByteArray}(hr:rightM s [f,n,a,u,r]=true)(hs:s.size<=300):∃ b,packB (.reply f K n s a u r)=.inr b:=by
 refine ⟨_,pack_is hr ?_⟩
 refine Nat.le_trans (val_small (n:=310) ?_ (by simp [valL])) (by decide)
 intro v hv
 simp only [valL,List.mem_cons,List.not_mem_nil,or_false] at hv
 have h1:=wr_bD (kl K)
 have h2:=wr_bD s.data.toList
 rw [kl_len] at h1
 rw [size_toList] at h2
 rcases hv with rfl|rfl|rfl|rfl|rfl|rfl|rfl
 · have:=wr_nD f;omega
 · omega
 · have:=wr_nD n;omega
 · omega
 · have:=wr_nD a;omega
 · have:=wr_nD u;omega
 have:=wr_nD r;omega
theorem rightM_is{s:ByteArray}{l:List Int}(h:rightN s=true)(hl:∀ x ∈ l,inN x=true):rightM s l=true:=by
 unfold rightM;rw [h,List.all_eq_true.2 hl];rfl
theorem inN_is{x:Int}(h1:0<=x)(h2:x<=1099511627776):inN x=true:=inN_in (by omega) (by omega)
theorem ex_key(n:Nat):∃ K,kl K=mkB 107 n:=by
 obtain ⟨K,hK⟩:=kl_of (mkB 107 n) (mkB_len _ _)
 exact ⟨K,hK.symm⟩
theorem pack_le6{t:Thing}{b:Bytes}(h:packB t=.inr b):b.length<=1000000:=Nat.le_trans (pack_le h) (by decide)
end
section
open Go.RowKit Go.QT
section
variable{P:Program}{o:Oper}{a:Act}
theorem gb_str(s:ByteArray)(i:Nat)(h:i<s.size):(s[i]'h)=gb s.data.toList i:=by
 have h2:i<s.data.toList.length:=by simpa using h
 unfold gb
 rw [List.getD_eq_getElem?_getD,List.getElem?_eq_getElem h2]
 simp
 rfl
theorem e_sidx(t:TypeId)(x y:Operand)(ho:o.op=.index t x y)(s:ByteArray)(k:IntKind)(i:Nat)(hx:a.eval x=.string s)(hy:a.eval y=.int k (i:Int))(ht:P.underlying t=some .string)(hi:i<s.size)(W:World) :
   (execOp a.eval o).run P W=.ok (.value (.int .u8 (ub (gb s.data.toList i)))) W:=by
 have h1:(Instr.index t (.string s) (.int k (i:Int))).run P W=.ok (.int .u8 (ub (gb s.data.toList i))) W:=by
   rw [run_index_string W t s k i ht,dif_pos ⟨by omega,by omega⟩]
   have:=gb_str s i hi
   unfold ub
   rw [← this]
   rfl
 unfold execOp
 simp only [ho,hx,hy,Sem.run_bind,h1,Result.andThen_ok,Sem.run_pure]
/-- A string from a byte on. -/
def tlS(s:ByteArray)(i:Nat):ByteArray:=s.extract i s.size
theorem tlS_list(s:ByteArray)(i:Nat):(tlS s i).data.toList=s.data.toList.drop i:=by
 unfold tlS
 rw [ByteArray.data_extract]
 simp
 apply List.take_of_length_le
 simp
theorem tlS_size(s:ByteArray)(i:Nat):(tlS s i).size=s.size-i:=by
 have:=congrArg List.length (tlS_list s i)
 simpa using this
theorem tlS_gb(s:ByteArray)(i j:Nat):gb (tlS s i).data.toList j=gb s.data.toList (i+j):=by
 rw [tlS_list]
 unfold gb
 rw [List.getD_eq_getElem?_getD,List.getD_eq_getElem?_getD,List.getElem?_drop]
theorem e_scut(t:TypeId)(x lo:Operand)(ho:o.op=.slice t x (some lo) none none)(s:ByteArray)(k:IntKind)(i:Nat)(hx:a.eval x=.string s)(hlo:a.eval lo=.int k (i:Int))(ht:P.underlying t=some .string)(hi:i<=s.size)(W:World) :
   (execOp a.eval o).run P W=.ok (.value (.string (tlS s i))) W:=by
 have hr:(Instr.sliceAt t (.string s) (some (.int k (i:Int))) none none).run P W=.ok (.string (tlS s i)) W:=by
   rw [run_sliceAt_string W t _ _ _ _ ht,run_slice_string_l W t s ht k i (by omega) (by omega)]
   rfl
 unfold execOp
 simp only [ho,hx,hlo,Option.map_some,Option.map_none,Sem.run_bind,hr,Result.andThen_ok,Sem.run_pure]
end
/-- The rune at the beginning, where it is one of one or of two bytes. -/
def runeL(l:Bytes):Option (Nat × Nat):=
 if nb (gb l 0)<128 then some (nb (gb l 0),1)
 else if 194<=nb (gb l 0)/\nb (gb l 0)<=223/\2<=l.length/\128<=nb (gb l 1)/\nb (gb l 1)<=191 then some ((nb (gb l 0)-192)*64+(nb (gb l 1)-128),2) else none
/-- What Rune answers. -/
def RnP(l:Bytes)(r k:Int):Prop:=
 match runeL l with
 | some (c,m)=>r=c/\k=m
 | none=>(r = -1∨2048<=r)/\r<=5000000/\1<=k/\k<=4
def RnPost(w:World)(l:Bytes)(e:Ending)(w':World):Prop:=∃ r k,e=.returned (.tuple #[.int .i64 r,.int .i64 k])/\RnP l r k/\Below w.heap.size w w'
theorem get_bang(s:ByteArray)(i:Nat):s.get! i=s[i]!:=by
 obtain ⟨bs⟩:=s
 show bs[i]! = _
 by_cases h:i<bs.size
 · rw [getElem!_pos (ByteArray.mk bs) i h,getElem!_pos bs i h];rfl
 rw [getElem!_neg (ByteArray.mk bs) i h,getElem!_neg bs i h]
theorem get_nb(s:ByteArray)(i:Nat):(s.get! i).toNat=nb (gb s.data.toList i):=by
 unfold nb
 rw [get_bang]
 congr 1
 by_cases h:i<s.size
 · rw [← gb_str s i h]
   exact getElem!_pos s i h
 have h2:gb s.data.toList i=0:=by
   unfold gb
   rw [List.getD_eq_getElem?_getD,List.getElem?_eq_none (by simp;exact Nat.le_of_not_lt h)];rfl
 rw [h2]
 exact getElem!_neg s i h
/-- The model's decoding, by it. -/
theorem decode_is(s:ByteArray)(i:Nat)(hi:i<s.size):match runeL (s.data.toList.drop i) with
   | some p=>Utf8.decode s i=p
   | none=>2048<=(Utf8.decode s i).1:=by
 have h0:nb (gb (s.data.toList.drop i) 0)=nb (gb s.data.toList i):=by rw [← tlS_list,tlS_gb];rfl
 have h1:nb (gb (s.data.toList.drop i) 1)=nb (gb s.data.toList (i+1)):=by rw [← tlS_list,tlS_gb]
 have hl:(s.data.toList.drop i).length=s.size-i:=by simp
 have hb0:=nb_lt (gb s.data.toList i)
 have hb1:=nb_lt (gb s.data.toList (i+1))
 unfold runeL Utf8.decode
 simp only [get_nb,h0,h1,hl,Nat.add_zero]
 generalize nb (gb s.data.toList i)=x at *
 generalize nb (gb s.data.toList (i+1))=y at *
 generalize nb (gb s.data.toList (i+2))=z at *
 generalize nb (gb s.data.toList (i+3))=u at *
 by_cases hx:x<128
 · simp [hx]
 simp only [hx,if_false]
 by_cases h2:194<=x/\x<=223/\2<=s.size-i/\128<=y/\y<=191
 · rw [if_pos h2]
   have e1:(x / 32 == 6 && (decide (i+1<s.size) && y / 64 == 2))=true:=by simp;omega
   simp only [e1,if_true]
   rw [if_pos (by omega)]
   have:x % 32*64+y % 64=(x-192)*64+(y-128):=by omega
   rw [this]
 rw [if_neg h2]
 show 2048<=_
 repeat' split
 all_goals first|(show 2048<=Utf8.runeError;decide)|skip
 all_goals simp_all
 all_goals omega
end
section
open Go.Value renaming int->iV,slice->lV,string->sV,bool->bV,agg->aV
open Go.RowKit Go.QT
theorem i64_ubN(x:UInt8):iV .i64 (IntKind.i64.wrap (ub x))=iV .i64 (nb x:Int):=by
 have:=nb_lt x
 unfold ub nb at *
 congr 1
 rw [IntKind.wrap_i64]
 omega
theorem exec_mulM{P:Program}{o:Oper}{a:Act}(t t':TypeId)(x y:Operand)(ho:o.op=.binOp .mul t x y t')(m n:Nat)(hx:a.eval x=.int .i64 (m:Int))(hy:a.eval y=.int .i64 (n:Int))(p:Nat)(hp:m*n=p)(h2:p<9223372036854775808)(w:World) :
   (execOp a.eval o).run P w=.ok (.value (.int .i64 ((p:Nat):Int))) w:=by
 have e:IntKind.i64.wrap ((m:Int)*(n:Int))=(p:Int):=by rw [← Int.natCast_mul,hp,IntKind.wrap_i64];omega
 have h3:(eqGuard .mul t x y (.int .i64 (m:Int)) (.int .i64 (n:Int))).run P w=.ok () w:=by simp [eqGuard]
 have h4:(binOp .mul t (.int .i64 (m:Int)) (.int .i64 (n:Int))).run P w=.ok (.int .i64 (p:Int)) w:=by simp [binOp,Op.intArith,e]
 unfold execOp
 simp only [ho,hx,hy,Sem.run_bind,h3,h4,Result.andThen_ok,Sem.run_pure]
theorem rl_none{l:Bytes}(h:128<=nb (gb l 0))(h2:¬ (194<=nb (gb l 0)/\nb (gb l 0)<=223/\2<=l.length/\128<=nb (gb l 1)/\nb (gb l 1)<=191)):runeL l=none:=by
 unfold runeL;rw [if_neg (by omega),if_neg h2]
theorem rnp_no{l:Bytes}{r k:Int}(h:128<=nb (gb l 0))(h2:¬ (194<=nb (gb l 0)/\nb (gb l 0)<=223/\2<=l.length/\128<=nb (gb l 1)/\nb (gb l 1)<=191))(hr:(r = -1∨2048<=r)/\r<=5000000/\1<=k/\k<=4):RnP l r k:=by
 unfold RnP;rw [rl_none h h2];exact hr
theorem rnp_1{l:Bytes}(h:nb (gb l 0)<128):RnP l (nb (gb l 0):Int) 1:=by
 unfold RnP runeL;rw [if_pos h];exact ⟨rfl,rfl⟩
theorem rnp_2{l:Bytes}{r:Int}(h:194<=nb (gb l 0)/\nb (gb l 0)<=223/\2<=l.length/\128<=nb (gb l 1)/\nb (gb l 1)<=191)(hr:r=(((nb (gb l 0)-192)*64+(nb (gb l 1)-128):Nat):Int)):RnP l r 2:=by
 unfold RnP runeL;rw [if_neg (by omega),if_pos h];exact ⟨hr,rfl⟩
theorem rletter_any(c:Int)(h1:-1000000000<=c)(h2:c<=1000000000)(w:World):Calls Tryz.prog 36 #[.int .i64 c,.int .i64 0] w (DPost w (.bool (letterN c))):=by
 have h0:=Hp.nil (fun _=>False) w
 refine mE 54 ?_
 refine mW 7 (exec_add _ _ _ _ bO c 0 (by kernel_rfl) (by kernel_rfl) (c) (by omega) (by omega) (by omega) _) ?_
 rcases (by omega:c<97∨(97<=c/\c<=122)∨(122<c/\c<224)∨(224<=c/\c<=246)∨(246<c/\c<248)∨(248<=c/\c<=254)∨(254<c/\c<945)∨(945<=c/\c<=961)∨(961<c/\c<963)∨(963<=c/\c<=969)∨(969<c/\c<1072)∨(1072<=c/\c<=1103)∨1103<c) with hq|hq|hq|hq|hq|hq|hq|hq|hq|hq|hq|hq|hq
 ·
  refine mX 9 (.bool false) (bV (decide (c ≥ 97))) (by simp;omega) ?_
  refine mX 16 (.bool false) (bV (decide (c ≥ 224))) (by simp;omega) ?_
  refine mX 24 (.bool false) (bV (decide (c ≥ 248))) (by simp;omega) ?_
  refine mX 32 (.bool false) (bV (decide (c ≥ 945))) (by simp;omega) ?_
  refine mX 40 (.bool false) (bV (decide (c ≥ 963))) (by simp;omega) ?_
  refine mX 48 (.bool false) (bV (decide (c ≥ 1072))) (by simp;omega) ?_
  exact mQe zV h0 (by rw [show letterN c=false from by unfold letterN inR ltrL;simp;omega])
 ·
  refine mX 9 (.bool true) (bV (decide (c ≥ 97))) (by simp;omega) ?_
  refine mX 12 (.bool true) (bV (decide (c<=122))) (by simp;omega) ?_
  exact mQe zI h0 (by rw [show letterN c=true from by unfold letterN inR ltrL;simp;omega])
 ·
  refine mX 9 (.bool true) (bV (decide (c ≥ 97))) (by simp;omega) ?_
  refine mX 12 (.bool false) (bV (decide (c<=122))) (by simp;omega) ?_
  refine mX 16 (.bool false) (bV (decide (c ≥ 224))) (by simp;omega) ?_
  refine mX 24 (.bool false) (bV (decide (c ≥ 248))) (by simp;omega) ?_
  refine mX 32 (.bool false) (bV (decide (c ≥ 945))) (by simp;omega) ?_
  refine mX 40 (.bool false) (bV (decide (c ≥ 963))) (by simp;omega) ?_
  refine mX 48 (.bool false) (bV (decide (c ≥ 1072))) (by simp;omega) ?_
  exact mQe zV h0 (by rw [show letterN c=false from by unfold letterN inR ltrL;simp;omega])
 ·
  refine mX 9 (.bool true) (bV (decide (c ≥ 97))) (by simp;omega) ?_
  refine mX 12 (.bool false) (bV (decide (c<=122))) (by simp;omega) ?_
  refine mX 16 (.bool true) (bV (decide (c ≥ 224))) (by simp;omega) ?_
  refine mX 19 (.bool true) (bV (decide (c<=246))) (by simp;omega) ?_
  exact mQe zI h0 (by rw [show letterN c=true from by unfold letterN inR ltrL;simp;omega])
 ·
  refine mX 9 (.bool true) (bV (decide (c ≥ 97))) (by simp;omega) ?_
  refine mX 12 (.bool false) (bV (decide (c<=122))) (by simp;omega) ?_
  refine mX 16 (.bool true) (bV (decide (c ≥ 224))) (by simp;omega) ?_
  refine mX 19 (.bool false) (bV (decide (c<=246))) (by simp;omega) ?_
  refine mX 24 (.bool false) (bV (decide (c ≥ 248))) (by simp;omega) ?_
  refine mX 32 (.bool false) (bV (decide (c ≥ 945))) (by simp;omega) ?_
  refine mX 40 (.bool false) (bV (decide (c ≥ 963))) (by simp;omega) ?_
  refine mX 48 (.bool false) (bV (decide (c ≥ 1072))) (by simp;omega) ?_
  exact mQe zV h0 (by rw [show letterN c=false from by unfold letterN inR ltrL;simp;omega])
 ·
  refine mX 9 (.bool true) (bV (decide (c ≥ 97))) (by simp;omega) ?_
  refine mX 12 (.bool false) (bV (decide (c<=122))) (by simp;omega) ?_
  refine mX 16 (.bool true) (bV (decide (c ≥ 224))) (by simp;omega) ?_
  refine mX 19 (.bool false) (bV (decide (c<=246))) (by simp;omega) ?_
  refine mX 24 (.bool true) (bV (decide (c ≥ 248))) (by simp;omega) ?_
  refine mX 27 (.bool true) (bV (decide (c<=254))) (by simp;omega) ?_
  exact mQe zI h0 (by rw [show letterN c=true from by unfold letterN inR ltrL;simp;omega])
 ·
  refine mX 9 (.bool true) (bV (decide (c ≥ 97))) (by simp;omega) ?_
  refine mX 12 (.bool false) (bV (decide (c<=122))) (by simp;omega) ?_
  refine mX 16 (.bool true) (bV (decide (c ≥ 224))) (by simp;omega) ?_
  refine mX 19 (.bool false) (bV (decide (c<=246))) (by simp;omega) ?_
  refine mX 24 (.bool true) (bV (decide (c ≥ 248))) (by simp;omega) ?_
  refine mX 27 (.bool false) (bV (decide (c<=254))) (by simp;omega) ?_
  refine mX 32 (.bool false) (bV (decide (c ≥ 945))) (by simp;omega) ?_
  refine mX 40 (.bool false) (bV (decide (c ≥ 963))) (by simp;omega) ?_
  refine mX 48 (.bool false) (bV (decide (c ≥ 1072))) (by simp;omega) ?_
  exact mQe zV h0 (by rw [show letterN c=false from by unfold letterN inR ltrL;simp;omega])
 ·
  refine mX 9 (.bool true) (bV (decide (c ≥ 97))) (by simp;omega) ?_
  refine mX 12 (.bool false) (bV (decide (c<=122))) (by simp;omega) ?_
  refine mX 16 (.bool true) (bV (decide (c ≥ 224))) (by simp;omega) ?_
  refine mX 19 (.bool false) (bV (decide (c<=246))) (by simp;omega) ?_
  refine mX 24 (.bool true) (bV (decide (c ≥ 248))) (by simp;omega) ?_
  refine mX 27 (.bool false) (bV (decide (c<=254))) (by simp;omega) ?_
  refine mX 32 (.bool true) (bV (decide (c ≥ 945))) (by simp;omega) ?_
  refine mX 35 (.bool true) (bV (decide (c<=961))) (by simp;omega) ?_
  exact mQe zI h0 (by rw [show letterN c=true from by unfold letterN inR ltrL;simp;omega])
 ·
  refine mX 9 (.bool true) (bV (decide (c ≥ 97))) (by simp;omega) ?_
  refine mX 12 (.bool false) (bV (decide (c<=122))) (by simp;omega) ?_
  refine mX 16 (.bool true) (bV (decide (c ≥ 224))) (by simp;omega) ?_
  refine mX 19 (.bool false) (bV (decide (c<=246))) (by simp;omega) ?_
  refine mX 24 (.bool true) (bV (decide (c ≥ 248))) (by simp;omega) ?_
  refine mX 27 (.bool false) (bV (decide (c<=254))) (by simp;omega) ?_
  refine mX 32 (.bool true) (bV (decide (c ≥ 945))) (by simp;omega) ?_
  refine mX 35 (.bool false) (bV (decide (c<=961))) (by simp;omega) ?_
  refine mX 40 (.bool false) (bV (decide (c ≥ 963))) (by simp;omega) ?_
  refine mX 48 (.bool false) (bV (decide (c ≥ 1072))) (by simp;omega) ?_
  exact mQe zV h0 (by rw [show letterN c=false from by unfold letterN inR ltrL;simp;omega])
 ·
  refine mX 9 (.bool true) (bV (decide (c ≥ 97))) (by simp;omega) ?_
  refine mX 12 (.bool false) (bV (decide (c<=122))) (by simp;omega) ?_
  refine mX 16 (.bool true) (bV (decide (c ≥ 224))) (by simp;omega) ?_
  refine mX 19 (.bool false) (bV (decide (c<=246))) (by simp;omega) ?_
  refine mX 24 (.bool true) (bV (decide (c ≥ 248))) (by simp;omega) ?_
  refine mX 27 (.bool false) (bV (decide (c<=254))) (by simp;omega) ?_
  refine mX 32 (.bool true) (bV (decide (c ≥ 945))) (by simp;omega) ?_
  refine mX 35 (.bool false) (bV (decide (c<=961))) (by simp;omega) ?_
  refine mX 40 (.bool true) (bV (decide (c ≥ 963))) (by simp;omega) ?_
  refine mX 43 (.bool true) (bV (decide (c<=969))) (by simp;omega) ?_
  exact mQe zI h0 (by rw [show letterN c=true from by unfold letterN inR ltrL;simp;omega])
 ·
  refine mX 9 (.bool true) (bV (decide (c ≥ 97))) (by simp;omega) ?_
  refine mX 12 (.bool false) (bV (decide (c<=122))) (by simp;omega) ?_
  refine mX 16 (.bool true) (bV (decide (c ≥ 224))) (by simp;omega) ?_
  refine mX 19 (.bool false) (bV (decide (c<=246))) (by simp;omega) ?_
  refine mX 24 (.bool true) (bV (decide (c ≥ 248))) (by simp;omega) ?_
  refine mX 27 (.bool false) (bV (decide (c<=254))) (by simp;omega) ?_
  refine mX 32 (.bool true) (bV (decide (c ≥ 945))) (by simp;omega) ?_
  refine mX 35 (.bool false) (bV (decide (c<=961))) (by simp;omega) ?_
  refine mX 40 (.bool true) (bV (decide (c ≥ 963))) (by simp;omega) ?_
  refine mX 43 (.bool false) (bV (decide (c<=969))) (by simp;omega) ?_
  refine mX 48 (.bool false) (bV (decide (c ≥ 1072))) (by simp;omega) ?_
  exact mQe zV h0 (by rw [show letterN c=false from by unfold letterN inR ltrL;simp;omega])
 ·
  refine mX 9 (.bool true) (bV (decide (c ≥ 97))) (by simp;omega) ?_
  refine mX 12 (.bool false) (bV (decide (c<=122))) (by simp;omega) ?_
  refine mX 16 (.bool true) (bV (decide (c ≥ 224))) (by simp;omega) ?_
  refine mX 19 (.bool false) (bV (decide (c<=246))) (by simp;omega) ?_
  refine mX 24 (.bool true) (bV (decide (c ≥ 248))) (by simp;omega) ?_
  refine mX 27 (.bool false) (bV (decide (c<=254))) (by simp;omega) ?_
  refine mX 32 (.bool true) (bV (decide (c ≥ 945))) (by simp;omega) ?_
  refine mX 35 (.bool false) (bV (decide (c<=961))) (by simp;omega) ?_
  refine mX 40 (.bool true) (bV (decide (c ≥ 963))) (by simp;omega) ?_
  refine mX 43 (.bool false) (bV (decide (c<=969))) (by simp;omega) ?_
  refine mX 48 (.bool true) (bV (decide (c ≥ 1072))) (by simp;omega) ?_
  refine mX 51 (.bool true) (bV (decide (c<=1103))) (by simp;omega) ?_
  exact mQe zI h0 (by rw [show letterN c=true from by unfold letterN inR ltrL;simp;omega])
 refine mX 9 (.bool true) (bV (decide (c ≥ 97))) (by simp;omega) ?_
 refine mX 12 (.bool false) (bV (decide (c<=122))) (by simp;omega) ?_
 refine mX 16 (.bool true) (bV (decide (c ≥ 224))) (by simp;omega) ?_
 refine mX 19 (.bool false) (bV (decide (c<=246))) (by simp;omega) ?_
 refine mX 24 (.bool true) (bV (decide (c ≥ 248))) (by simp;omega) ?_
 refine mX 27 (.bool false) (bV (decide (c<=254))) (by simp;omega) ?_
 refine mX 32 (.bool true) (bV (decide (c ≥ 945))) (by simp;omega) ?_
 refine mX 35 (.bool false) (bV (decide (c<=961))) (by simp;omega) ?_
 refine mX 40 (.bool true) (bV (decide (c ≥ 963))) (by simp;omega) ?_
 refine mX 43 (.bool false) (bV (decide (c<=969))) (by simp;omega) ?_
 refine mX 48 (.bool true) (bV (decide (c ≥ 1072))) (by simp;omega) ?_
 refine mX 51 (.bool false) (bV (decide (c<=1103))) (by simp;omega) ?_
 exact mQe zV h0 (by rw [show letterN c=false from by unfold letterN inR ltrL;simp;omega])
theorem rune_1(s:ByteArray)(hs0:0<s.size)(hx:nb (gb s.data.toList 0)<128)(w:World):Calls Tryz.prog 35 #[.string s] w (RnPost w s.data.toList):=by
 have hb0:=nb_lt (gb s.data.toList 0)
 have hsl:s.data.toList.length=s.size:=by simp
 have h0:=Hp.nil (fun _=>False) w
 refine mE 83 ?_
 refine mW 10 (v:=(iV .u8 (ub (gb s.data.toList 0)))) (e_sidx 9 (.tmp 9) (.const zO) (by kernel_rfl) s .i64 0 (by kernel_rfl) (by kernel_rfl) (by kernel_rfl) (by omega) _) ?_
 refine mX 11 (zD ((nb (gb s.data.toList 0):Int))) (zD (IntKind.i64.wrap (ub (gb s.data.toList 0)))) (i64_ubN _) ?_
 refine mX 13 (.bool true) (bV (decide ((nb (gb s.data.toList 0):Int)<128))) (by simp;omega) ?_
 refine mP (Value.tuple #[(zD ((nb (gb s.data.toList 0):Int))),(zD 1)]) ?_
 exact ⟨_,_,rfl,rnp_1 hx,h0.below0⟩
theorem rune_2(s:ByteArray)(hs0:0<s.size)(hs:s.size<=1000000000)(hx:194<=nb (gb s.data.toList 0)/\nb (gb s.data.toList 0)<=223)(w:World):Calls Tryz.prog 35 #[.string s] w (RnPost w s.data.toList):=by
 have hb0:=nb_lt (gb s.data.toList 0)
 have hsl:s.data.toList.length=s.size:=by simp
 have h0:=Hp.nil (fun _=>False) w
 refine mE 83 ?_
 refine mW 10 (v:=(iV .u8 (ub (gb s.data.toList 0)))) (e_sidx 9 (.tmp 9) (.const zO) (by kernel_rfl) s .i64 0 (by kernel_rfl) (by kernel_rfl) (by kernel_rfl) (by omega) _) ?_
 refine mX 11 (zD ((nb (gb s.data.toList 0):Int))) (zD (IntKind.i64.wrap (ub (gb s.data.toList 0)))) (i64_ubN _) ?_
 refine mX 13 (.bool false) (bV (decide ((nb (gb s.data.toList 0):Int)<128))) (by simp;omega) ?_
 refine mX 17 (.bool true) (bV (decide ((nb (gb s.data.toList 0):Int) ≥ 194))) (by simp;omega) ?_
 refine mX 20 (.bool true) (bV (decide ((nb (gb s.data.toList 0):Int)<=223))) (by simp;omega) ?_
 refine mW 23 (exec_sub _ _ _ _ bO ((nb (gb s.data.toList 0):Int)) 192 (by kernel_rfl) (by kernel_rfl) (((nb (gb s.data.toList 0)-192:Nat):Int)) (by omega) (by omega) (by omega) _) ?_
 refine m_if 45 (((s).size:Int)<2) (by kernel_rfl) (fun b11=>?_) (fun b11=>?_)
 ·
  refine mP (Value.tuple #[(zD (-1)),(zD 1)]) ?_
  exact ⟨_,_,rfl,rnp_no (by omega) (by omega) (by omega),h0.below0⟩
 refine mL (fun mM xX aA wL=>∃ (k:Nat) (a:Nat),(1<=k/\k<=2)/\(k=1->a=nb (gb s.data.toList 0)-192)/\(k=2->a=(nb (gb s.data.toList 0)-192)*64+(nb (gb s.data.toList 1)-128)/\128<=nb (gb s.data.toList 1)/\nb (gb s.data.toList 1)<=191)/\mM=2-k/\aA=patch xX 83 [(0,(sV s)),(4,(zD ((a:Int)))),(5,(zD 2)),(6,(zD 128)),(7,(zD ((k:Int))))]/\Hp (fun _=>False) w wL [] []) ⟨_,_,1,((nb (gb s.data.toList 0)-192)),(by omega),(fun _=>rfl),(fun h=>absurd h (by decide)),rfl,pM,h0.sel [] [] (by kernel_rfl) rfl rfl⟩ ?_
 rintro _ x15 _ w15 ⟨k,a,hk,ha,ha2,rfl,rfl,h15⟩ KL15 hKL15
 refine mAt ?_
 refine m_if 48 ((k:Int)<2) (by kernel_rfl) (fun b18=>?_) (fun b18=>?_)
 ·
  have hkn:k<2:=by omega
  have hku:k<s.size:=by omega
  have hu:=nb_lt (gb s.data.toList k)
  refine mW 53 (v:=(iV .u8 (ub (gb s.data.toList k)))) (e_sidx 9 (.tmp 51) (.tmp 52) (by kernel_rfl) s .i64 k (by kernel_rfl) (by kernel_rfl) (by kernel_rfl) (by omega) _) ?_
  refine mX 54 (zD ((nb (gb s.data.toList k):Int))) (zD (IntKind.i64.wrap (ub (gb s.data.toList k)))) (i64_ubN _) ?_
  rcases (by omega:nb (gb s.data.toList k)<128∨(128<=nb (gb s.data.toList k)/\191<nb (gb s.data.toList k))∨(128<=nb (gb s.data.toList k)/\nb (gb s.data.toList k)<=191)) with hq|hq|hq
  ·
   refine mX 56 (.bool true) (bV (decide ((nb (gb s.data.toList k):Int)<128))) (by simp;omega) ?_
   refine mP (Value.tuple #[(zD (-1)),(zD 1)]) ?_
   obtain rfl:k=1:=by omega
   exact ⟨_,_,rfl,rnp_no (by omega) (by omega) (by omega),h15.below0⟩
  ·
   refine mX 56 (.bool false) (bV (decide ((nb (gb s.data.toList k):Int)<128))) (by simp;omega) ?_
   refine mX 59 (.bool true) (bV (decide ((nb (gb s.data.toList k):Int)>191))) (by simp;omega) ?_
   refine mP (Value.tuple #[(zD (-1)),(zD 1)]) ?_
   obtain rfl:k=1:=by omega
   exact ⟨_,_,rfl,rnp_no (by omega) (by omega) (by omega),h15.below0⟩
  refine mX 56 (.bool false) (bV (decide ((nb (gb s.data.toList k):Int)<128))) (by simp;omega) ?_
  refine mX 59 (.bool false) (bV (decide ((nb (gb s.data.toList k):Int)>191))) (by simp;omega) ?_
  have hsmall:a<=65535:=by omega
  obtain ⟨u,hu2⟩:∃ u,u=nb (gb s.data.toList k):=⟨_,rfl⟩
  refine mW 62 (v:=(zD (((a*64:Nat):Int)))) (exec_mulM _ _ _ _ bO a 64 (by kernel_rfl) (by kernel_rfl) (a*64) rfl (by omega) _) ?_
  refine mW 64 (exec_add _ _ _ _ bO (((a*64:Nat):Int)) ((nb (gb s.data.toList k):Int)) (by kernel_rfl) (by kernel_rfl) (((a*64+u:Nat):Int)) (by omega) (by omega) (by omega) _) ?_
  refine mW 65 (exec_sub _ _ _ _ bO (((a*64+u:Nat):Int)) 128 (by kernel_rfl) (by kernel_rfl) (((a*64+u-128:Nat):Int)) (by omega) (by omega) (by omega) _) ?_
  refine mW 50 (exec_add _ _ _ _ bO ((k:Int)) 1 (by kernel_rfl) (by kernel_rfl) (((k+1:Nat):Int)) (by omega) (by omega) (by omega) _) ?_
  exact mK KL15 (hKL15 _ _ ⟨2-(k+1),_,(by omega),((k+1)),((a*64+u-128)),(by omega),(by omega),(by intro _;have e:k=1:=(by omega);subst e;have:=ha rfl;omega),rfl,pM,h15.sel [] [] (by kernel_rfl) rfl rfl⟩)
 rcases (by omega:a<128∨(128<=a/\1114111<a)∨(128<=a/\a<=1114111/\a<55296)∨(128<=a/\a<=1114111/\55296<=a/\a<=57343)∨(128<=a/\a<=1114111/\57343<a)) with hz|hz|hz|hz|hz
 ·
  refine mX 68 (.bool true) (bV (decide ((a:Int)<128))) (by simp;omega) ?_
  refine mP (Value.tuple #[(zD (-1)),(zD 1)]) ?_
  obtain rfl:k=2:=by omega
  obtain ⟨h5,h6,h7⟩:=ha2 rfl
  exfalso
  omega
 ·
  refine mX 68 (.bool false) (bV (decide ((a:Int)<128))) (by simp;omega) ?_
  refine mX 71 (.bool true) (bV (decide ((a:Int)>1114111))) (by simp;omega) ?_
  refine mP (Value.tuple #[(zD (-1)),(zD 1)]) ?_
  obtain rfl:k=2:=by omega
  obtain ⟨h5,h6,h7⟩:=ha2 rfl
  exfalso
  omega
 ·
  refine mX 68 (.bool false) (bV (decide ((a:Int)<128))) (by simp;omega) ?_
  refine mX 71 (.bool false) (bV (decide ((a:Int)>1114111))) (by simp;omega) ?_
  refine mX 75 (.bool false) (bV (decide ((a:Int) ≥ 55296))) (by simp;omega) ?_
  refine mP (Value.tuple #[(zD ((a:Int))),(zD 2)]) ?_
  obtain rfl:k=2:=by omega
  obtain ⟨h5,h6,h7⟩:=ha2 rfl
  exact ⟨_,_,rfl,rnp_2 ⟨by omega,by omega,by omega,h6,h7⟩ (by omega),h15.below0⟩
 ·
  refine mX 68 (.bool false) (bV (decide ((a:Int)<128))) (by simp;omega) ?_
  refine mX 71 (.bool false) (bV (decide ((a:Int)>1114111))) (by simp;omega) ?_
  refine mX 75 (.bool true) (bV (decide ((a:Int) ≥ 55296))) (by simp;omega) ?_
  refine mX 78 (.bool true) (bV (decide ((a:Int)<=57343))) (by simp;omega) ?_
  refine mP (Value.tuple #[(zD (-1)),(zD 1)]) ?_
  obtain rfl:k=2:=by omega
  obtain ⟨h5,h6,h7⟩:=ha2 rfl
  exfalso
  omega
 refine mX 68 (.bool false) (bV (decide ((a:Int)<128))) (by simp;omega) ?_
 refine mX 71 (.bool false) (bV (decide ((a:Int)>1114111))) (by simp;omega) ?_
 refine mX 75 (.bool true) (bV (decide ((a:Int) ≥ 55296))) (by simp;omega) ?_
 refine mX 78 (.bool false) (bV (decide ((a:Int)<=57343))) (by simp;omega) ?_
 refine mP (Value.tuple #[(zD ((a:Int))),(zD 2)]) ?_
 obtain rfl:k=2:=by omega
 obtain ⟨h5,h6,h7⟩:=ha2 rfl
 exact ⟨_,_,rfl,rnp_2 ⟨by omega,by omega,by omega,h6,h7⟩ (by omega),h15.below0⟩
theorem rune_3(s:ByteArray)(hs0:0<s.size)(hs:s.size<=1000000000)(hx:224<=nb (gb s.data.toList 0)/\nb (gb s.data.toList 0)<=239)(w:World):Calls Tryz.prog 35 #[.string s] w (RnPost w s.data.toList):=by
 have hb0:=nb_lt (gb s.data.toList 0)
 have hsl:s.data.toList.length=s.size:=by simp
 have h0:=Hp.nil (fun _=>False) w
 refine mE 83 ?_
 refine mW 10 (v:=(iV .u8 (ub (gb s.data.toList 0)))) (e_sidx 9 (.tmp 9) (.const zO) (by kernel_rfl) s .i64 0 (by kernel_rfl) (by kernel_rfl) (by kernel_rfl) (by omega) _) ?_
 refine mX 11 (zD ((nb (gb s.data.toList 0):Int))) (zD (IntKind.i64.wrap (ub (gb s.data.toList 0)))) (i64_ubN _) ?_
 refine mX 13 (.bool false) (bV (decide ((nb (gb s.data.toList 0):Int)<128))) (by simp;omega) ?_
 refine mX 17 (.bool true) (bV (decide ((nb (gb s.data.toList 0):Int) ≥ 194))) (by simp;omega) ?_
 refine mX 20 (.bool false) (bV (decide ((nb (gb s.data.toList 0):Int)<=223))) (by simp;omega) ?_
 refine mX 26 (.bool true) (bV (decide ((nb (gb s.data.toList 0):Int) ≥ 224))) (by simp;omega) ?_
 refine mX 29 (.bool true) (bV (decide ((nb (gb s.data.toList 0):Int)<=239))) (by simp;omega) ?_
 refine mW 32 (exec_sub _ _ _ _ bO ((nb (gb s.data.toList 0):Int)) 224 (by kernel_rfl) (by kernel_rfl) (((nb (gb s.data.toList 0)-224:Nat):Int)) (by omega) (by omega) (by omega) _) ?_
 refine m_if 45 (((s).size:Int)<3) (by kernel_rfl) (fun b12=>?_) (fun b12=>?_)
 ·
  refine mP (Value.tuple #[(zD (-1)),(zD 1)]) ?_
  exact ⟨_,_,rfl,rnp_no (by omega) (by omega) (by omega),h0.below0⟩
 refine mL (fun mM xX aA wL=>∃ (k:Nat) (a:Nat),(1<=k/\k<=3)/\((k=1->a<=15)/\(k=2->a<=1023)/\(k=3->a<=65535)/\a<=4194303)/\mM=3-k/\aA=patch xX 83 [(0,(sV s)),(4,(zD ((a:Int)))),(5,(zD 3)),(6,(zD 2048)),(7,(zD ((k:Int))))]/\Hp (fun _=>False) w wL [] []) ⟨_,_,1,((nb (gb s.data.toList 0)-224)),(by omega),(by omega),rfl,pM,h0.sel [] [] (by kernel_rfl) rfl rfl⟩ ?_
 rintro _ x16 _ w16 ⟨k,a,hk,ha,rfl,rfl,h16⟩ KL16 hKL16
 refine mAt ?_
 refine m_if 48 ((k:Int)<3) (by kernel_rfl) (fun b19=>?_) (fun b19=>?_)
 ·
  have hkn:k<3:=by omega
  have hku:k<s.size:=by omega
  have hu:=nb_lt (gb s.data.toList k)
  refine mW 53 (v:=(iV .u8 (ub (gb s.data.toList k)))) (e_sidx 9 (.tmp 51) (.tmp 52) (by kernel_rfl) s .i64 k (by kernel_rfl) (by kernel_rfl) (by kernel_rfl) (by omega) _) ?_
  refine mX 54 (zD ((nb (gb s.data.toList k):Int))) (zD (IntKind.i64.wrap (ub (gb s.data.toList k)))) (i64_ubN _) ?_
  rcases (by omega:nb (gb s.data.toList k)<128∨(128<=nb (gb s.data.toList k)/\191<nb (gb s.data.toList k))∨(128<=nb (gb s.data.toList k)/\nb (gb s.data.toList k)<=191)) with hq|hq|hq
  ·
   refine mX 56 (.bool true) (bV (decide ((nb (gb s.data.toList k):Int)<128))) (by simp;omega) ?_
   refine mP (Value.tuple #[(zD (-1)),(zD 1)]) ?_
   exact ⟨_,_,rfl,rnp_no (by omega) (by omega) (by omega),h16.below0⟩
  ·
   refine mX 56 (.bool false) (bV (decide ((nb (gb s.data.toList k):Int)<128))) (by simp;omega) ?_
   refine mX 59 (.bool true) (bV (decide ((nb (gb s.data.toList k):Int)>191))) (by simp;omega) ?_
   refine mP (Value.tuple #[(zD (-1)),(zD 1)]) ?_
   exact ⟨_,_,rfl,rnp_no (by omega) (by omega) (by omega),h16.below0⟩
  refine mX 56 (.bool false) (bV (decide ((nb (gb s.data.toList k):Int)<128))) (by simp;omega) ?_
  refine mX 59 (.bool false) (bV (decide ((nb (gb s.data.toList k):Int)>191))) (by simp;omega) ?_
  have hsmall:a<=65535:=by omega
  obtain ⟨u,hu2⟩:∃ u,u=nb (gb s.data.toList k):=⟨_,rfl⟩
  refine mW 62 (v:=(zD (((a*64:Nat):Int)))) (exec_mulM _ _ _ _ bO a 64 (by kernel_rfl) (by kernel_rfl) (a*64) rfl (by omega) _) ?_
  refine mW 64 (exec_add _ _ _ _ bO (((a*64:Nat):Int)) ((nb (gb s.data.toList k):Int)) (by kernel_rfl) (by kernel_rfl) (((a*64+u:Nat):Int)) (by omega) (by omega) (by omega) _) ?_
  refine mW 65 (exec_sub _ _ _ _ bO (((a*64+u:Nat):Int)) 128 (by kernel_rfl) (by kernel_rfl) (((a*64+u-128:Nat):Int)) (by omega) (by omega) (by omega) _) ?_
  refine mW 50 (exec_add _ _ _ _ bO ((k:Int)) 1 (by kernel_rfl) (by kernel_rfl) (((k+1:Nat):Int)) (by omega) (by omega) (by omega) _) ?_
  exact mK KL16 (hKL16 _ _ ⟨3-(k+1),_,(by omega),((k+1)),((a*64+u-128)),(by omega),(by omega),rfl,pM,h16.sel [] [] (by kernel_rfl) rfl rfl⟩)
 rcases (by omega:a<2048∨(2048<=a/\1114111<a)∨(2048<=a/\a<=1114111/\a<55296)∨(2048<=a/\a<=1114111/\55296<=a/\a<=57343)∨(2048<=a/\a<=1114111/\57343<a)) with hz|hz|hz|hz|hz
 ·
  refine mX 68 (.bool true) (bV (decide ((a:Int)<2048))) (by simp;omega) ?_
  refine mP (Value.tuple #[(zD (-1)),(zD 1)]) ?_
  exact ⟨_,_,rfl,rnp_no (by omega) (by omega) (by omega),h16.below0⟩
 ·
  refine mX 68 (.bool false) (bV (decide ((a:Int)<2048))) (by simp;omega) ?_
  refine mX 71 (.bool true) (bV (decide ((a:Int)>1114111))) (by simp;omega) ?_
  refine mP (Value.tuple #[(zD (-1)),(zD 1)]) ?_
  exact ⟨_,_,rfl,rnp_no (by omega) (by omega) (by omega),h16.below0⟩
 ·
  refine mX 68 (.bool false) (bV (decide ((a:Int)<2048))) (by simp;omega) ?_
  refine mX 71 (.bool false) (bV (decide ((a:Int)>1114111))) (by simp;omega) ?_
  refine mX 75 (.bool false) (bV (decide ((a:Int) ≥ 55296))) (by simp;omega) ?_
  refine mP (Value.tuple #[(zD ((a:Int))),(zD 3)]) ?_
  exact ⟨_,_,rfl,rnp_no (by omega) (by omega) (by omega),h16.below0⟩
 ·
  refine mX 68 (.bool false) (bV (decide ((a:Int)<2048))) (by simp;omega) ?_
  refine mX 71 (.bool false) (bV (decide ((a:Int)>1114111))) (by simp;omega) ?_
  refine mX 75 (.bool true) (bV (decide ((a:Int) ≥ 55296))) (by simp;omega) ?_
  refine mX 78 (.bool true) (bV (decide ((a:Int)<=57343))) (by simp;omega) ?_
  refine mP (Value.tuple #[(zD (-1)),(zD 1)]) ?_
  exact ⟨_,_,rfl,rnp_no (by omega) (by omega) (by omega),h16.below0⟩
 refine mX 68 (.bool false) (bV (decide ((a:Int)<2048))) (by simp;omega) ?_
 refine mX 71 (.bool false) (bV (decide ((a:Int)>1114111))) (by simp;omega) ?_
 refine mX 75 (.bool true) (bV (decide ((a:Int) ≥ 55296))) (by simp;omega) ?_
 refine mX 78 (.bool false) (bV (decide ((a:Int)<=57343))) (by simp;omega) ?_
 refine mP (Value.tuple #[(zD ((a:Int))),(zD 3)]) ?_
 exact ⟨_,_,rfl,rnp_no (by omega) (by omega) (by omega),h16.below0⟩
theorem rune_4(s:ByteArray)(hs0:0<s.size)(hs:s.size<=1000000000)(hx:240<=nb (gb s.data.toList 0)/\nb (gb s.data.toList 0)<=244)(w:World):Calls Tryz.prog 35 #[.string s] w (RnPost w s.data.toList):=by
 have hb0:=nb_lt (gb s.data.toList 0)
 have hsl:s.data.toList.length=s.size:=by simp
 have h0:=Hp.nil (fun _=>False) w
 refine mE 83 ?_
 refine mW 10 (v:=(iV .u8 (ub (gb s.data.toList 0)))) (e_sidx 9 (.tmp 9) (.const zO) (by kernel_rfl) s .i64 0 (by kernel_rfl) (by kernel_rfl) (by kernel_rfl) (by omega) _) ?_
 refine mX 11 (zD ((nb (gb s.data.toList 0):Int))) (zD (IntKind.i64.wrap (ub (gb s.data.toList 0)))) (i64_ubN _) ?_
 refine mX 13 (.bool false) (bV (decide ((nb (gb s.data.toList 0):Int)<128))) (by simp;omega) ?_
 refine mX 17 (.bool true) (bV (decide ((nb (gb s.data.toList 0):Int) ≥ 194))) (by simp;omega) ?_
 refine mX 20 (.bool false) (bV (decide ((nb (gb s.data.toList 0):Int)<=223))) (by simp;omega) ?_
 refine mX 26 (.bool true) (bV (decide ((nb (gb s.data.toList 0):Int) ≥ 224))) (by simp;omega) ?_
 refine mX 29 (.bool false) (bV (decide ((nb (gb s.data.toList 0):Int)<=239))) (by simp;omega) ?_
 refine mX 35 (.bool true) (bV (decide ((nb (gb s.data.toList 0):Int) ≥ 240))) (by simp;omega) ?_
 refine mX 38 (.bool true) (bV (decide ((nb (gb s.data.toList 0):Int)<=244))) (by simp;omega) ?_
 refine mW 41 (exec_sub _ _ _ _ bO ((nb (gb s.data.toList 0):Int)) 240 (by kernel_rfl) (by kernel_rfl) (((nb (gb s.data.toList 0)-240:Nat):Int)) (by omega) (by omega) (by omega) _) ?_
 refine m_if 45 (((s).size:Int)<4) (by kernel_rfl) (fun b13=>?_) (fun b13=>?_)
 ·
  refine mP (Value.tuple #[(zD (-1)),(zD 1)]) ?_
  exact ⟨_,_,rfl,rnp_no (by omega) (by omega) (by omega),h0.below0⟩
 refine mL (fun mM xX aA wL=>∃ (k:Nat) (a:Nat),(1<=k/\k<=4)/\((k=1->a<=15)/\(k=2->a<=1023)/\(k=3->a<=65535)/\a<=4194303)/\mM=4-k/\aA=patch xX 83 [(0,(sV s)),(4,(zD ((a:Int)))),(5,(zD 4)),(6,(zD 65536)),(7,(zD ((k:Int))))]/\Hp (fun _=>False) w wL [] []) ⟨_,_,1,((nb (gb s.data.toList 0)-240)),(by omega),(by omega),rfl,pM,h0.sel [] [] (by kernel_rfl) rfl rfl⟩ ?_
 rintro _ x17 _ w17 ⟨k,a,hk,ha,rfl,rfl,h17⟩ KL17 hKL17
 refine mAt ?_
 refine m_if 48 ((k:Int)<4) (by kernel_rfl) (fun b20=>?_) (fun b20=>?_)
 ·
  have hkn:k<4:=by omega
  have hku:k<s.size:=by omega
  have hu:=nb_lt (gb s.data.toList k)
  refine mW 53 (v:=(iV .u8 (ub (gb s.data.toList k)))) (e_sidx 9 (.tmp 51) (.tmp 52) (by kernel_rfl) s .i64 k (by kernel_rfl) (by kernel_rfl) (by kernel_rfl) (by omega) _) ?_
  refine mX 54 (zD ((nb (gb s.data.toList k):Int))) (zD (IntKind.i64.wrap (ub (gb s.data.toList k)))) (i64_ubN _) ?_
  rcases (by omega:nb (gb s.data.toList k)<128∨(128<=nb (gb s.data.toList k)/\191<nb (gb s.data.toList k))∨(128<=nb (gb s.data.toList k)/\nb (gb s.data.toList k)<=191)) with hq|hq|hq
  ·
   refine mX 56 (.bool true) (bV (decide ((nb (gb s.data.toList k):Int)<128))) (by simp;omega) ?_
   refine mP (Value.tuple #[(zD (-1)),(zD 1)]) ?_
   exact ⟨_,_,rfl,rnp_no (by omega) (by omega) (by omega),h17.below0⟩
  ·
   refine mX 56 (.bool false) (bV (decide ((nb (gb s.data.toList k):Int)<128))) (by simp;omega) ?_
   refine mX 59 (.bool true) (bV (decide ((nb (gb s.data.toList k):Int)>191))) (by simp;omega) ?_
   refine mP (Value.tuple #[(zD (-1)),(zD 1)]) ?_
   exact ⟨_,_,rfl,rnp_no (by omega) (by omega) (by omega),h17.below0⟩
  refine mX 56 (.bool false) (bV (decide ((nb (gb s.data.toList k):Int)<128))) (by simp;omega) ?_
  refine mX 59 (.bool false) (bV (decide ((nb (gb s.data.toList k):Int)>191))) (by simp;omega) ?_
  have hsmall:a<=65535:=by omega
  obtain ⟨u,hu2⟩:∃ u,u=nb (gb s.data.toList k):=⟨_,rfl⟩
  refine mW 62 (v:=(zD (((a*64:Nat):Int)))) (exec_mulM _ _ _ _ bO a 64 (by kernel_rfl) (by kernel_rfl) (a*64) rfl (by omega) _) ?_
  refine mW 64 (exec_add _ _ _ _ bO (((a*64:Nat):Int)) ((nb (gb s.data.toList k):Int)) (by kernel_rfl) (by kernel_rfl) (((a*64+u:Nat):Int)) (by omega) (by omega) (by omega) _) ?_
  refine mW 65 (exec_sub _ _ _ _ bO (((a*64+u:Nat):Int)) 128 (by kernel_rfl) (by kernel_rfl) (((a*64+u-128:Nat):Int)) (by omega) (by omega) (by omega) _) ?_
  refine mW 50 (exec_add _ _ _ _ bO ((k:Int)) 1 (by kernel_rfl) (by kernel_rfl) (((k+1:Nat):Int)) (by omega) (by omega) (by omega) _) ?_
  exact mK KL17 (hKL17 _ _ ⟨4-(k+1),_,(by omega),((k+1)),((a*64+u-128)),(by omega),(by omega),rfl,pM,h17.sel [] [] (by kernel_rfl) rfl rfl⟩)
 rcases (by omega:a<65536∨(65536<=a/\1114111<a)∨(65536<=a/\a<=1114111/\a<55296)∨(65536<=a/\a<=1114111/\55296<=a/\a<=57343)∨(65536<=a/\a<=1114111/\57343<a)) with hz|hz|hz|hz|hz
 ·
  refine mX 68 (.bool true) (bV (decide ((a:Int)<65536))) (by simp;omega) ?_
  refine mP (Value.tuple #[(zD (-1)),(zD 1)]) ?_
  exact ⟨_,_,rfl,rnp_no (by omega) (by omega) (by omega),h17.below0⟩
 ·
  refine mX 68 (.bool false) (bV (decide ((a:Int)<65536))) (by simp;omega) ?_
  refine mX 71 (.bool true) (bV (decide ((a:Int)>1114111))) (by simp;omega) ?_
  refine mP (Value.tuple #[(zD (-1)),(zD 1)]) ?_
  exact ⟨_,_,rfl,rnp_no (by omega) (by omega) (by omega),h17.below0⟩
 ·
  refine mX 68 (.bool false) (bV (decide ((a:Int)<65536))) (by simp;omega) ?_
  refine mX 71 (.bool false) (bV (decide ((a:Int)>1114111))) (by simp;omega) ?_
  refine mX 75 (.bool false) (bV (decide ((a:Int) ≥ 55296))) (by simp;omega) ?_
  refine mP (Value.tuple #[(zD ((a:Int))),(zD 4)]) ?_
  exact ⟨_,_,rfl,rnp_no (by omega) (by omega) (by omega),h17.below0⟩
 ·
  refine mX 68 (.bool false) (bV (decide ((a:Int)<65536))) (by simp;omega) ?_
  refine mX 71 (.bool false) (bV (decide ((a:Int)>1114111))) (by simp;omega) ?_
  refine mX 75 (.bool true) (bV (decide ((a:Int) ≥ 55296))) (by simp;omega) ?_
  refine mX 78 (.bool true) (bV (decide ((a:Int)<=57343))) (by simp;omega) ?_
  refine mP (Value.tuple #[(zD (-1)),(zD 1)]) ?_
  exact ⟨_,_,rfl,rnp_no (by omega) (by omega) (by omega),h17.below0⟩
 refine mX 68 (.bool false) (bV (decide ((a:Int)<65536))) (by simp;omega) ?_
 refine mX 71 (.bool false) (bV (decide ((a:Int)>1114111))) (by simp;omega) ?_
 refine mX 75 (.bool true) (bV (decide ((a:Int) ≥ 55296))) (by simp;omega) ?_
 refine mX 78 (.bool false) (bV (decide ((a:Int)<=57343))) (by simp;omega) ?_
 refine mP (Value.tuple #[(zD ((a:Int))),(zD 4)]) ?_
 exact ⟨_,_,rfl,rnp_no (by omega) (by omega) (by omega),h17.below0⟩
theorem rune_0(s:ByteArray)(hs0:0<s.size)(hx0:(128<=nb (gb s.data.toList 0)/\nb (gb s.data.toList 0)<=193)∨245<=nb (gb s.data.toList 0))(w:World):Calls Tryz.prog 35 #[.string s] w (RnPost w s.data.toList):=by
 have hb0:=nb_lt (gb s.data.toList 0)
 have hsl:s.data.toList.length=s.size:=by simp
 have h0:=Hp.nil (fun _=>False) w
 refine mE 83 ?_
 refine mW 10 (v:=(iV .u8 (ub (gb s.data.toList 0)))) (e_sidx 9 (.tmp 9) (.const zO) (by kernel_rfl) s .i64 0 (by kernel_rfl) (by kernel_rfl) (by kernel_rfl) (by omega) _) ?_
 refine mX 11 (zD ((nb (gb s.data.toList 0):Int))) (zD (IntKind.i64.wrap (ub (gb s.data.toList 0)))) (i64_ubN _) ?_
 refine mX 13 (.bool false) (bV (decide ((nb (gb s.data.toList 0):Int)<128))) (by simp;omega) ?_
 rcases hx0 with hx1|hx1
 ·
  refine mX 17 (.bool false) (bV (decide ((nb (gb s.data.toList 0):Int) ≥ 194))) (by simp;omega) ?_
  refine mX 26 (.bool false) (bV (decide ((nb (gb s.data.toList 0):Int) ≥ 224))) (by simp;omega) ?_
  refine mX 35 (.bool false) (bV (decide ((nb (gb s.data.toList 0):Int) ≥ 240))) (by simp;omega) ?_
  refine mP (Value.tuple #[(zD (-1)),(zD 1)]) ?_
  exact ⟨_,_,rfl,rnp_no (by omega) (by omega) (by omega),h0.below0⟩
 refine mX 17 (.bool true) (bV (decide ((nb (gb s.data.toList 0):Int) ≥ 194))) (by simp;omega) ?_
 refine mX 20 (.bool false) (bV (decide ((nb (gb s.data.toList 0):Int)<=223))) (by simp;omega) ?_
 refine mX 26 (.bool true) (bV (decide ((nb (gb s.data.toList 0):Int) ≥ 224))) (by simp;omega) ?_
 refine mX 29 (.bool false) (bV (decide ((nb (gb s.data.toList 0):Int)<=239))) (by simp;omega) ?_
 refine mX 35 (.bool true) (bV (decide ((nb (gb s.data.toList 0):Int) ≥ 240))) (by simp;omega) ?_
 refine mX 38 (.bool false) (bV (decide ((nb (gb s.data.toList 0):Int)<=244))) (by simp;omega) ?_
 refine mP (Value.tuple #[(zD (-1)),(zD 1)]) ?_
 exact ⟨_,_,rfl,rnp_no (by omega) (by omega) (by omega),h0.below0⟩
theorem rune_any(s:ByteArray)(hs0:0<s.size)(hs:s.size<=1000000000)(w:World):Calls Tryz.prog 35 #[.string s] w (RnPost w s.data.toList):=by
 have hb0:=nb_lt (gb s.data.toList 0)
 rcases (by omega:nb (gb s.data.toList 0)<128∨(194<=nb (gb s.data.toList 0)/\nb (gb s.data.toList 0)<=223)∨(224<=nb (gb s.data.toList 0)/\nb (gb s.data.toList 0)<=239)∨(240<=nb (gb s.data.toList 0)/\nb (gb s.data.toList 0)<=244)∨((128<=nb (gb s.data.toList 0)/\nb (gb s.data.toList 0)<=193)∨245<=nb (gb s.data.toList 0))) with h|h|h|h|h
 · exact rune_1 s hs0 h w
 · exact rune_2 s hs0 hs h w
 · exact rune_3 s hs0 hs h w
 · exact rune_4 s hs0 hs h w
 exact rune_0 s hs0 h w
end
end Go.Proofs.YtdefpmmdpfpipaaGreat
