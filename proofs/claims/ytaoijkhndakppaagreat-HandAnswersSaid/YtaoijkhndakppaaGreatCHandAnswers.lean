/- The row of HandAnswers: for every input the law returns true and what came in reads as it did. -/
import Derived.ChangeMaps5
import Derived.Test.YtaoijkhndakppaaGreatCA15
set_option maxRecDepth 100000
set_option maxHeartbeats 4000000
namespace Go.Proofs.YtaoijkhndakppaaGreat
section
open Go.RowKit Go.QT
theorem eqInt{a b:Int}(h:a=b):Value.bool (a == b)=.bool true:=by rw [h,beq_self_eq_true]
/-- A law that holds nothing. -/
theorem law_s{f:FuncId}{al:List AV}{args:Array Value}(h:Spec Tryz.prog ⟨f,0,al,[],[],aB true,[]⟩)(W:World)(ha:∀ κ,(AV.denL κ al).toArray=args):Calls Tryz.prog f args W (DPost W (.bool true)):=by
 have κ:Kp:=fun _=>⟨0,none,rSB (.slice none 0 0) []⟩
 have h0:=h.calls κ W ⟨by rw [foot_nil];exact (Hp.nil _ W).ha,fun e he=>absurd he List.not_mem_nil,fun e he=>absurd he List.not_mem_nil⟩
 rw [ha κ] at h0
 refine h0.mono fun e w' ⟨κ',_,e1,h1⟩=>⟨e1,?_⟩
 have h2:=h1.ha.hp
 rw [foot_nil] at h2
 exact h2.below0
section
variable{pw:ByteArray}{now x y:Int}
set_option maxRecDepth 100000
set_option maxHeartbeats 4000000
end
end
section
open Go.RowKit Go.QT
/-- What came in, as the law reads it. -/
structure AG8(sd at_ la tu:Int)(sid k j n:Nat):Prop where
 hs:Value.int .i64 (bits .and .i64 sd ((65535:Nat):Int))=.int .i64 (sid:Int)
 s1:sid<=65535
 ha:Value.int .i64 (bits .and .i64 at_ ((511:Nat):Int))=.int .i64 (k:Int)
 k1:k<=511
 hl:Value.int .i64 (bits .and .i64 la ((63:Nat):Int))=.int .i64 (j:Int)
 j1:j<=63
 ht:Value.int .i64 (bits .and .i64 tu ((15:Nat):Int))=.int .i64 (n:Int)
 n1:n<=15
abbrev AnS(sd at_ la tu:Int):Prop:=Spec Tryz.prog ⟨8,0,[aI sd,aI at_,aI la,aI tu],[],[],aB true,[]⟩
section
variable{Kk ka kb K1 K2 K3 K4:Fin 16->UInt8}{t t1:STab}{sd at_ la tu:Int}{sid k j n:Nat}{bx:List SSealed}{b b1 c1 e1:Bytes}
theorem crGetK2_s(now:Int)(c d:Ck)(hk:¬ c.en<=now):Spec Tryz.prog ⟨15,3,[.p 0 0,aI now,aS bKDC],[eB 1 c.m],[c.s2 d 1 2],.t [.c (c.at bKDC 3),aI 0],[c.s2 d 1 2,eB 3 c.m]⟩:=
 s1 [cA 1002 (s1 []:Spec Tryz.prog ⟨56,3,[.p 0 0,aS bKDC],[],[c.s2 d 1 2],aI 0,[c.s2 d 1 2]⟩) [],fA 4008 (isF hk),appA 7003 c.m c.hm]
abbrev nowK(k:Nat):Int:=10+(k:Int)
abbrev whenK(k j:Nat):Int:=10+(k:Int)+(j:Int)
/-- Up to what begins the session. -/
noncomputable abbrev pA (g:AG8 sd at_ la tu sid k j n) (O:Op18 Kk ka kb K1 K2 K3 t b1 c1 e1 bx) (B:Bg18 ka K1 K3 K4 t t1 (sid:Int) (nowK k) bx b) (hk:k<200):List (Pl Tryz.prog):=
 [cA 1000 alive18_s [],fA 3001 g.hs,cA 4000 O.a [],fA 5001 g.ha,fA 5002 (w64 (x:=nowK k) (by simp only [nowK];omega) (by have:=g.k1;simp only [nowK];omega)),cA 6011 B.a [],fA 7001 (isF (show ¬ (210:Int)<=nowK k by simp only [nowK];omega)),
  fA 9011 (neI (sid:Int)),cA 9021 (loSeq_s (clAm ka K1).shown) [],snA 9023 104 _ (selfStamp (nowK k) (0+1+1+1)) stG,cA 9036 (nkeys_s (s:=t1) B.T.keys) [],cA 9037 (nth_s (s:=t1) (n:=10) B.k4 (by decide)) [],snA 9038 41 _ (selfKey K4) kyG,
  fA 11002 g.hl,fA 11003 (w64 (x:=whenK k j) (by simp only [whenK];omega) (by have:=g.k1;have:=g.j1;simp only [whenK];omega)),fA 13001 g.ht,fA 32001 g.ht]
set_option maxRecDepth 100000
set_option maxHeartbeats 4000000
/-- The ticket is over. -/
theorem an_late(g:AG8 sd at_ la tu sid k j n)(O:Op18 Kk ka kb K1 K2 K3 t b1 c1 e1 bx)(hk:200<=k):AnS sd at_ la tu:=
 s1 [cA 1000 alive18_s [],fA 3001 g.hs,cA 4000 O.a [],fA 5001 g.ha,fA 5002 (w64 (x:=nowK k) (by simp only [nowK];omega) (by have:=g.k1;simp only [nowK];omega)),cA 6011 (beginL_s (s:=t) (me:=bANN) (now:=nowK k) (sid:=(sid:Int)) (clAm ka K1) (ck8 ka K1) (ckm8 K3) (show min (min 900 (min 900 (10+300))) (min 900 (10+200))<=nowK k by simp only [nowK];omega)) [],fA 7001 (isT (show (210:Int)<=nowK k by simp only [nowK];omega))]
theorem op_kk(B:Bg18 ka K1 K3 K4 t t1 (sid:Int) (nowK k) bx b)(O:Op18 Kk ka kb K1 K2 K3 t b1 c1 e1 bx):openTh t1 (kl Kk) 2 (mkB 98 8)=.inl 13:=
 B.T.opnNo (i:=7) (gx O.i7) (fun h=>key_ne O.k2 O.kk (by decide) (by decide) (by decide) h.1) (by decide)
end
end
section
open Go.RowKit Go.QT
section
variable{Kk ka kb K1 K2 K3 K4:Fin 16->UInt8}{t t1:STab}{sd at_ la tu:Int}{sid k j n:Nat}{bx:List SSealed}{b b1 c1 e1:Bytes}
theorem neqF{n:Nat}{c:Int}(h:(n:Int)≠c):Value.bool ((n:Int) == c)=.bool false:=by rw [beq_eq_false_iff_ne.2 h]
theorem neqT{n:Nat}{c:Int}(h:(n:Int)≠c):Value.bool ((n:Int) != c)=.bool true:=by rw [bne_iff_ne.2 h]
/-- Nothing is turned. -/
noncomputable abbrev pE (h:n=0∨9<=n):List (Pl Tryz.prog):=
 [fA 14000 (neqF (c:=1) (n:=n) (by omega)),fA 16000 (neqF (c:=2) (n:=n) (by omega)),fA 18000 (neqF (c:=3) (n:=n) (by omega)),fA 20000 (neqF (c:=4) (n:=n) (by omega)),fA 22000 (neqF (c:=5) (n:=n) (by omega)),fA 24000 (neqF (c:=6) (n:=n) (by omega)),fA 26000 (neqF (c:=7) (n:=n) (by omega)),fA 29000 (neqF (c:=8) (n:=n) (by omega))]
theorem subKj(k j:Nat)(_:k<=511)(h2:j<=63):Value.int .i64 (IntKind.i64.wrap (whenK k j-nowK k))=.int .i64 (j:Int):=(w64 (x:=whenK k j-nowK k) (by simp only [whenK,nowK];omega) (by simp only [whenK,nowK];omega)).trans (by congr 1;simp only [whenK,nowK];omega)
abbrev bEVE:ByteArray:=⟨#[101,118,101]⟩
set_option maxRecDepth 100000
set_option maxHeartbeats 4000000
theorem an0_late(g:AG8 sd at_ la tu sid k j n)(O:Op18 Kk ka kb K1 K2 K3 t b1 c1 e1 bx)(B:Bg18 ka K1 K3 K4 t t1 (sid:Int) (nowK k) bx b)(hk:k<200)(h:n=0∨9<=n)(hw:200<=k+j):AnS sd at_ la tu:=by
 have r1:=B.T.room 9 (by decide) (by rw [List.length_append,O.n9,List.length_singleton];decide)
 have ac:=accOver_s (sl:=[]) (me:=bBOB) (f:=bANN) (sid:=(sid:Int)) (now:=whenK k j) (l:=mkB 98 8) (au:=mkB 98 10) r1.ok (B.T.opn (i:=7) (gx O.i7) O.v1 (by decide)) (show min (min 900 (min 900 (10+300))) (min 900 (10+200))<=whenK k j by simp only [whenK];omega)
 rw [mkB_len,mkB_len] at ac
 exact s1 (pA g O B hk++pE h++[fA 33001 (isT (show (210:Int)<=whenK k j by simp only [whenK];omega)),fA 33004 (neqT (c:=3) (n:=n) (by omega)),fA 33008 (neqT (c:=4) (n:=n) (by omega)),fA 33012 (neqT (c:=6) (n:=n) (by omega)),fA 33016 (neqT (c:=7) (n:=n) (by omega)),fA 33020 (neqT (c:=8) (n:=n) (by omega)),cA 37013 ac []])
theorem an0_skew(g:AG8 sd at_ la tu sid k j n)(O:Op18 Kk ka kb K1 K2 K3 t b1 c1 e1 bx)(B:Bg18 ka K1 K3 K4 t t1 (sid:Int) (nowK k) bx b)(hk:k<200)(h:n=0∨9<=n)(hw:k+j<200)(hj:30<j):AnS sd at_ la tu:=by
 have A:=ac18 O B (wn:=whenK k j) (by have:=g.s1;omega) (by simp only [whenK];omega)
 have ac:=accSkew_s (sl:=[]) A (show nearF (whenK k j) (nowK k)=false by unfold nearF;exact decide_eq_false (by simp only [whenK,nowK];omega))
 rw [mkB_len,mkB_len] at ac
 exact s1 (pA g O B hk++pE h++[fA 33001 (isF (show ¬ (210:Int)<=whenK k j by simp only [whenK];omega)),fA 35005 (subKj k j g.k1 g.j1),fA 35006 (isT (show (30:Int)<(j:Int) by omega)),cA 37013 ac []])
theorem an0_ok(g:AG8 sd at_ la tu sid k j n)(O:Op18 Kk ka kb K1 K2 K3 t b1 c1 e1 bx)(B:Bg18 ka K1 K3 K4 t t1 (sid:Int) (nowK k) bx b)(hk:k<200)(h:n=0∨9<=n)(hw:k+j<200)(hj:j<=30):AnS sd at_ la tu:=by
 have A:=ac18 O B (wn:=whenK k j) (by have:=g.s1;omega) (by simp only [whenK];omega)
 obtain ⟨d,p0⟩:=pack_stamp (t:=nowK k) (q:=0+1+1+1) (inN_is (by simp only [nowK];omega) (by have:=g.k1;simp only [nowK];omega)) (by decide)
 have ac:=accOk_s (sl:=[]) (nb:=10) A (show nearF (whenK k j) (nowK k)=true by unfold nearF;exact decide_eq_true (by have:=g.k1;simp only [whenK,nowK];omega)) (by simp) (by decide) (by simp) (by rw [B.T.boxes,List.length_append,O.n9];rfl) p0
 have T2:TS ((t1.digest (bt8 (sid:Int))).seal (kl K4) 12 d) 10 (bx++[⟨kl K3,11,b⟩]++[⟨kl K4,12,d⟩]) knS:=(B.T.dig _).seal rfl (pack_le6 p0)
 have hl2:(bx++[⟨kl K3,11,b⟩]:List SSealed).length=10:=by rw [List.length_append,O.n9];rfl
 have r2:=T2.room 9 (by decide) (by rw [List.length_append,hl2,List.length_singleton];decide)
 have ho:=T2.opn (i:=10) (gl hl2) p0 (by decide)
 have o1:=openStamp_s (s:=(t1.digest (bt8 (sid:Int))).seal (kl K4) 12 d) (K:=K4) (us:=12) (l:=mkB 98 11) ho r2.ok
 have f1:=finOk_s (K:=K4) (peer:=bBOB) (me:=bANN) (sid:=(sid:Int)) r2.ok ho
 have f2:=finSt_s (s:=(t1.digest (bt8 (sid:Int))).seal (kl K4) 12 d) (K:=K4) (l:=mkB 98 11) (t:=nowK k) (q:=0+1+1+1) (peer:=bBOB) (me:=bEVE) (tn:=bANN) (sid:=(sid:Int)) (show bANN≠bEVE by decide)
 have f3:=finAuth0_s (s:=(t1.digest (bt8 (sid:Int))).seal (kl K4) 12 d) (K:=K4) (e:=13) (t:=nowK k) (q:=0+1+1+1) (peer:=bBOB) (me:=bANN) (sid:=(sid:Int)) r2.ok rfl (by decide)
 rw [mkB_len] at o1 f1 f2
 rw [mkB_len,mkB_len] at ac
 exact s1 (pA g O B hk++pE h++[fA 33001 (isF (show ¬ (210:Int)<=whenK k j by simp only [whenK];omega)),fA 35005 (subKj k j g.k1 g.j1),fA 35006 (isF (show ¬ (30:Int)<(j:Int) by omega)),cA 37013 ac [],
   cA 42009 o1 [],seA 43005 113 _ (selfMet bANN (sid:Int) K4) meG,fA 43020 (eqInt (a:=(sid:Int)) rfl),seA 43030 104 _ (selfStamp (nowK k) (0+1+1+1)) stG,cA 43040 f1 [],cA 43051 f2 [],cA 43063 f3 []])
end
end
section
open Go.RowKit Go.QT
section
variable{Kk ka kb K1 K2 K3 K4:Fin 16->UInt8}{t t1:STab}{sd at_ la tu:Int}{sid k j n:Nat}{bx:List SSealed}{b b1 c1 e1:Bytes}
theorem xor1(s:Nat)(h:s<=65535):∃ s2:Nat,bits .xor .i64 (s:Int) ((1:Nat):Int)=(s2:Int)/\s2≠s/\s2<=65535:=by
 refine ⟨s ^^^ 1,i64_xor_nat s 1 (by omega) (by omega),fun e=>?_,?_⟩
 · have h1:(s ^^^ 1) ^^^ s=s ^^^ s:=congrArg (· ^^^ s) e
   rw [Nat.xor_self,Nat.xor_comm s 1,Nat.xor_assoc,Nat.xor_self] at h1
   exact absurd h1 (by decide)
 have:s ^^^ 1<2 ^ 16:=Nat.xor_lt_two_pow (by omega) (by omega)
 omega
theorem numL_of:∀ (l:List DVal),(∀ v ∈ l,numV v=true)->numL l=true
 | [],_=>rfl
 | x::r,h=>by rw [numL,h x (List.mem_cons_self ..),numL_of r (fun v hv=>h v (List.mem_cons_of_mem _ hv))];rfl
theorem apqD_num{f t s:ByteArray}{sid:Int}{b:Bytes}(h:inN sid=true)(hs:rightN s=true):numV (apqD f t sid (.ticket s b) [])=true:=by
 unfold apqD
 rw [numV,decide_eq_true (by decide),Bool.true_and]
 refine numL_of _ fun v hv=>?_
 simp only [List.mem_cons,List.not_mem_nil,or_false] at hv
 rcases hv with rfl|rfl|rfl|rfl|rfl
 · exact numV_bD _
 · exact numV_bD _
 · exact numV_nD h
 · exact numV_val (t:=.ticket s b) (rightM_is hs (by simp))
 exact numV_bD _
theorem bt8_inj{s1 s2:Nat}(h1:s1<=65535)(h2:s2<=65535)(h:bt8 (s1:Int)=bt8 (s2:Int)):s1=s2:=by
 have i1:=inN_is (x:=(s1:Int)) (by omega) (by omega)
 have i2:=inN_is (x:=(s2:Int)) (by omega) (by omega)
 have a:=RdB_wr _ (apqD_right (f:=bANN) (t:=bBOB) (sid:=(s1:Int)) (s:=bBOB) (b:=mkB 98 8) (au:=[])) (apqD_num i1 right_bob) (apqD_len (by decide) (by decide) (by decide) (by rw [mkB_len];decide) (by simp))
 have c:=RdB_wr _ (apqD_right (f:=bANN) (t:=bBOB) (sid:=(s2:Int)) (s:=bBOB) (b:=mkB 98 8) (au:=[])) (apqD_num i2 right_bob) (apqD_len (by decide) (by decide) (by decide) (by rw [mkB_len];decide) (by simp))
 have e:(Sum.inr (apqD bANN bBOB (s1:Int) (.ticket bBOB (mkB 98 8)) []):Nat ⊕ DVal)=Sum.inr (apqD bANN bBOB (s2:Int) (.ticket bBOB (mkB 98 8)) []):=by
   rw [← a,← c];exact congrArg RdB h
 have e2:=Sum.inr.inj e
 have e3:(nD (s1:Int)).n=(nD (s2:Int)).n:=congrArg (fun v:DVal=>match v with | .mk _ _ _ _ (_::_::x::_)=>x.n|_=>0) e2
 have e4:((s1:Int)).toNat=((s2:Int)).toNat:=e3
 omega
theorem sum_other{s:STab}{β γ:Bytes}{m:Nat}(h:SK s β m)(hne:γ≠β):s.sumAt γ≠m:=by
 intro e
 have a:s.sums.findIdx (· = β)=m:=h.1
 have c:s.sums.findIdx (· = γ)=m:=e
 have h1:=List.findIdx_getElem (p:=fun x=>decide (x=β)) (xs:=s.sums) (w:=by rw [a];exact h.2)
 have h2:=List.findIdx_getElem (p:=fun x=>decide (x=γ)) (xs:=s.sums) (w:=by rw [c];exact h.2)
 simp only [decide_eq_true_eq] at h1 h2
 refine hne ?_
 rw [← h1,← h2]
 congr 1
 rw [a,c]
set_option maxRecDepth 100000
set_option maxHeartbeats 4000000
theorem an1_late(g:AG8 sd at_ la tu sid k j 1)(O:Op18 Kk ka kb K1 K2 K3 t b1 c1 e1 bx)(B:Bg18 ka K1 K3 K4 t t1 (sid:Int) (nowK k) bx b)(hk:k<200)(hw:200<=k+j):AnS sd at_ la tu:=by
 have r1:=B.T.room 9 (by decide) (by rw [List.length_append,O.n9,List.length_singleton];decide)
 obtain ⟨s2,hx,_,hs2⟩:=xor1 sid g.s1
 have ac:=accOver_s (sl:=[]) (me:=bBOB) (f:=bANN) (sid:=(s2:Int)) (now:=whenK k j) (l:=mkB 98 8) (au:=mkB 98 10) r1.ok (B.T.opn (i:=7) (gx O.i7) O.v1 (by decide)) (show min (min 900 (min 900 (10+300))) (min 900 (10+200))<=whenK k j by simp only [whenK];omega)
 rw [mkB_len,mkB_len] at ac
 exact s1 (pA g O B hk++[fA 15002 (show Value.int .i64 (bits .xor .i64 (sid:Int) ((1:Nat):Int))=.int .i64 (s2:Int) by rw [hx]),fA 33001 (isT (show (210:Int)<=whenK k j by simp only [whenK];omega)),cA 37013 ac []])
theorem an1_soon(g:AG8 sd at_ la tu sid k j 1)(O:Op18 Kk ka kb K1 K2 K3 t b1 c1 e1 bx)(B:Bg18 ka K1 K3 K4 t t1 (sid:Int) (nowK k) bx b)(hk:k<200)(hw:k+j<200)(hsk:SK t1 (bt8 (sid:Int)) (t1.sumAt (bt8 (sid:Int))))(hsm:t1.sums.length<=2):AnS sd at_ la tu:=by
 have r1:=B.T.room 9 (by decide) (by rw [List.length_append,O.n9,List.length_singleton];decide)
 obtain ⟨s2,hx,hne,hs2⟩:=xor1 sid g.s1
 have hb:bt8 (s2:Int)≠bt8 (sid:Int):=fun e=>hne (bt8_inj hs2 g.s1 e)
 have hs9:=sum_other hsk hb
 have hle:∀ β,t1.sumAt β<=t1.sums.length:=fun β=>List.findIdx_le_length
 have ac:=accSum_s (sl:=[]) (me:=bBOB) (c1:=bANN) (sid:=(s2:Int)) (now:=whenK k j) (l:=mkB 98 8) (au:=mkB 98 10) (β:=bt8 (s2:Int)) (q:=0+1+1+1) r1.ok (B.T.opn (i:=7) (gx O.i7) O.v1 (by decide)) (show ¬ min (min 900 (min 900 (10+300))) (min 900 (10+200))<=whenK k j by simp only [whenK];omega) (B.T.opn (i:=9) (gl O.n9) B.q (by decide)) ⟨⟨right_ann,by decide⟩,⟨right_bob,by decide⟩,inN_is (by omega) (by omega)⟩ (by rw [mkB_len];decide) (Nat.le_trans hsm (by decide)) rfl (fun e=>by
   have e2:=mkB_inj (by have:=hle (bt8 (sid:Int));omega) (by have:=hle (bt8 (s2:Int));omega) e
   omega)
 rw [mkB_len,mkB_len] at ac
 exact s1 (pA g O B hk++[fA 15002 (show Value.int .i64 (bits .xor .i64 (sid:Int) ((1:Nat):Int))=.int .i64 (s2:Int) by rw [hx]),fA 33001 (isF (show ¬ (210:Int)<=whenK k j by simp only [whenK];omega)),cA 37013 ac []])
theorem an2_late(g:AG8 sd at_ la tu sid k j 2)(O:Op18 Kk ka kb K1 K2 K3 t b1 c1 e1 bx)(B:Bg18 ka K1 K3 K4 t t1 (sid:Int) (nowK k) bx b)(hk:k<200)(hw:200<=k+j):AnS sd at_ la tu:=by
 have r1:=B.T.room 9 (by decide) (by rw [List.length_append,O.n9,List.length_singleton];decide)
 have ac:=accOver_s (sl:=[]) (me:=bBOB) (f:=bEVE) (sid:=(sid:Int)) (now:=whenK k j) (l:=mkB 98 8) (au:=mkB 98 10) r1.ok (B.T.opn (i:=7) (gx O.i7) O.v1 (by decide)) (show min (min 900 (min 900 (10+300))) (min 900 (10+200))<=whenK k j by simp only [whenK];omega)
 rw [mkB_len,mkB_len] at ac
 exact s1 (pA g O B hk++[fA 33001 (isT (show (210:Int)<=whenK k j by simp only [whenK];omega)),cA 37013 ac []])
theorem an2_soon(g:AG8 sd at_ la tu sid k j 2)(O:Op18 Kk ka kb K1 K2 K3 t b1 c1 e1 bx)(B:Bg18 ka K1 K3 K4 t t1 (sid:Int) (nowK k) bx b)(hk:k<200)(hw:k+j<200):AnS sd at_ la tu:=by
 have r1:=B.T.room 9 (by decide) (by rw [List.length_append,O.n9,List.length_singleton];decide)
 have ac:=accFrom_s (sl:=[]) (me:=bBOB) (f:=bEVE) (sid:=(sid:Int)) (now:=whenK k j) (l:=mkB 98 8) (au:=mkB 98 10) r1.ok (B.T.opn (i:=7) (gx O.i7) O.v1 (by decide)) (show ¬ min (min 900 (min 900 (10+300))) (min 900 (10+200))<=whenK k j by simp only [whenK];omega) (B.T.opn (i:=9) (gl O.n9) B.q (by decide)) (show bEVE≠bANN by decide)
 rw [mkB_len,mkB_len] at ac
 exact s1 (pA g O B hk++[fA 33001 (isF (show ¬ (210:Int)<=whenK k j by simp only [whenK];omega)),cA 37013 ac []])
end
end
section
open Go.RowKit Go.QT
section
variable{Kk ka kb K1 K2 K3 K4:Fin 16->UInt8}{t t1:STab}{sd at_ la tu:Int}{sid k j n:Nat}{bx:List SSealed}{b b1 c1 e1:Bytes}
set_option maxRecDepth 100000
set_option maxHeartbeats 4000000
theorem an3_late(g:AG8 sd at_ la tu sid k j 3)(O:Op18 Kk ka kb K1 K2 K3 t b1 c1 e1 bx)(B:Bg18 ka K1 K3 K4 t t1 (sid:Int) (nowK k) bx b)(hk:k<200)(hw:200<=k+j):AnS sd at_ la tu:=by
 have r1:=B.T.room 9 (by decide) (by rw [List.length_append,O.n9,List.length_singleton];decide)
 have ac:=accTo_s (t:=t1) (sl:=[]) (K:=K2) (me:=bEVE) (f:=bANN) (tn:=bBOB) (sv:=bBOB) (sid:=(sid:Int)) (now:=whenK k j) (l:=mkB 98 8) (au:=mkB 98 10) (show bBOB≠bEVE by decide)
 rw [mkB_len,mkB_len] at ac
 exact s1 (pA g O B hk++[fA 33001 (isT (show (210:Int)<=whenK k j by simp only [whenK];omega)),cA 37013 ac []])
theorem an3_soon(g:AG8 sd at_ la tu sid k j 3)(O:Op18 Kk ka kb K1 K2 K3 t b1 c1 e1 bx)(B:Bg18 ka K1 K3 K4 t t1 (sid:Int) (nowK k) bx b)(hk:k<200)(hw:k+j<200):AnS sd at_ la tu:=by
 have r1:=B.T.room 9 (by decide) (by rw [List.length_append,O.n9,List.length_singleton];decide)
 have ac:=accTo_s (t:=t1) (sl:=[]) (K:=K2) (me:=bEVE) (f:=bANN) (tn:=bBOB) (sv:=bBOB) (sid:=(sid:Int)) (now:=whenK k j) (l:=mkB 98 8) (au:=mkB 98 10) (show bBOB≠bEVE by decide)
 rw [mkB_len,mkB_len] at ac
 exact s1 (pA g O B hk++[fA 33001 (isF (show ¬ (210:Int)<=whenK k j by simp only [whenK];omega)),cA 37013 ac []])
theorem an4_late(g:AG8 sd at_ la tu sid k j 4)(O:Op18 Kk ka kb K1 K2 K3 t b1 c1 e1 bx)(B:Bg18 ka K1 K3 K4 t t1 (sid:Int) (nowK k) bx b)(hk:k<200)(hw:200<=k+j):AnS sd at_ la tu:=by
 have r1:=B.T.room 9 (by decide) (by rw [List.length_append,O.n9,List.length_singleton];decide)
 have ac:=accSeal_s (sl:=[]) (K:=Kk) (me:=bBOB) (f:=bANN) (sid:=(sid:Int)) (now:=whenK k j) (l:=mkB 98 8) (au:=mkB 98 10) (e:=13) r1.ok (op_kk B O) (by decide)
 rw [mkB_len,mkB_len] at ac
 exact s1 (pA g O B hk++[fA 33001 (isT (show (210:Int)<=whenK k j by simp only [whenK];omega)),cA 37013 ac []])
theorem an4_soon(g:AG8 sd at_ la tu sid k j 4)(O:Op18 Kk ka kb K1 K2 K3 t b1 c1 e1 bx)(B:Bg18 ka K1 K3 K4 t t1 (sid:Int) (nowK k) bx b)(hk:k<200)(hw:k+j<200):AnS sd at_ la tu:=by
 have r1:=B.T.room 9 (by decide) (by rw [List.length_append,O.n9,List.length_singleton];decide)
 have ac:=accSeal_s (sl:=[]) (K:=Kk) (me:=bBOB) (f:=bANN) (sid:=(sid:Int)) (now:=whenK k j) (l:=mkB 98 8) (au:=mkB 98 10) (e:=13) r1.ok (op_kk B O) (by decide)
 rw [mkB_len,mkB_len] at ac
 exact s1 (pA g O B hk++[fA 33001 (isF (show ¬ (210:Int)<=whenK k j by simp only [whenK];omega)),cA 37013 ac []])
theorem an5_late(g:AG8 sd at_ la tu sid k j 5)(O:Op18 Kk ka kb K1 K2 K3 t b1 c1 e1 bx)(B:Bg18 ka K1 K3 K4 t t1 (sid:Int) (nowK k) bx b)(hk:k<200)(hw:200<=k+j):AnS sd at_ la tu:=by
 have r1:=B.T.room 9 (by decide) (by rw [List.length_append,O.n9,List.length_singleton];decide)
 have ac:=accOver0_s (sl:=[]) (me:=bBOB) (f:=bANN) (sid:=(sid:Int)) (now:=whenK k j) (l:=mkB 98 8) r1.ok (B.T.opn (i:=7) (gx O.i7) O.v1 (by decide)) (show min (min 900 (min 900 (10+300))) (min 900 (10+200))<=whenK k j by simp only [whenK];omega)
 rw [mkB_len] at ac
 exact s1 (pA g O B hk++[fA 33001 (isT (show (210:Int)<=whenK k j by simp only [whenK];omega)),cA 37013 ac []])
theorem an5_soon(g:AG8 sd at_ la tu sid k j 5)(O:Op18 Kk ka kb K1 K2 K3 t b1 c1 e1 bx)(B:Bg18 ka K1 K3 K4 t t1 (sid:Int) (nowK k) bx b)(hk:k<200)(hw:k+j<200):AnS sd at_ la tu:=by
 have r1:=B.T.room 9 (by decide) (by rw [List.length_append,O.n9,List.length_singleton];decide)
 have ac:=accAuth0_s (sl:=[]) (me:=bBOB) (f:=bANN) (sid:=(sid:Int)) (now:=whenK k j) (l:=mkB 98 8) r1.ok (B.T.opn (i:=7) (gx O.i7) O.v1 (by decide)) (show ¬ min (min 900 (min 900 (10+300))) (min 900 (10+200))<=whenK k j by simp only [whenK];omega) rfl
 rw [mkB_len] at ac
 exact s1 (pA g O B hk++[fA 33001 (isF (show ¬ (210:Int)<=whenK k j by simp only [whenK];omega)),cA 37013 ac []])
end
end
section
open Go.RowKit Go.QT
section
variable{Kk ka kb K1 K2 K3 K4:Fin 16->UInt8}{t t1:STab}{sd at_ la tu:Int}{sid k j n:Nat}{bx:List SSealed}{b b1 c1 e1:Bytes}
set_option maxRecDepth 100000
set_option maxHeartbeats 4000000
theorem an6_late(g:AG8 sd at_ la tu sid k j 6)(O:Op18 Kk ka kb K1 K2 K3 t b1 c1 e1 bx)(B:Bg18 ka K1 K3 K4 t t1 (sid:Int) (nowK k) bx b)(hk:k<200)(hw:200<=k+j):AnS sd at_ la tu:=by
 have r1:=B.T.room 9 (by decide) (by rw [List.length_append,O.n9,List.length_singleton];decide)
 have ac:=accSv_s (t:=t1) (sl:=[]) (K:=K2) (me:=bBOB) (f:=bANN) (sv:=bKDC) (sid:=(sid:Int)) (now:=whenK k j) (l:=mkB 98 8) (au:=mkB 98 10) (show bKDC≠bBOB by decide)
 rw [mkB_len,mkB_len] at ac
 exact s1 (pA g O B hk++[fA 33001 (isT (show (210:Int)<=whenK k j by simp only [whenK];omega)),cA 37013 ac []])
theorem an6_soon(g:AG8 sd at_ la tu sid k j 6)(O:Op18 Kk ka kb K1 K2 K3 t b1 c1 e1 bx)(B:Bg18 ka K1 K3 K4 t t1 (sid:Int) (nowK k) bx b)(hk:k<200)(hw:k+j<200):AnS sd at_ la tu:=by
 have r1:=B.T.room 9 (by decide) (by rw [List.length_append,O.n9,List.length_singleton];decide)
 have ac:=accSv_s (t:=t1) (sl:=[]) (K:=K2) (me:=bBOB) (f:=bANN) (sv:=bKDC) (sid:=(sid:Int)) (now:=whenK k j) (l:=mkB 98 8) (au:=mkB 98 10) (show bKDC≠bBOB by decide)
 rw [mkB_len,mkB_len] at ac
 exact s1 (pA g O B hk++[fA 33001 (isF (show ¬ (210:Int)<=whenK k j by simp only [whenK];omega)),cA 37013 ac []])
theorem an7_late(g:AG8 sd at_ la tu sid k j 7)(O:Op18 Kk ka kb K1 K2 K3 t b1 c1 e1 bx)(B:Bg18 ka K1 K3 K4 t t1 (sid:Int) (nowK k) bx b)(hk:k<200)(hw:200<=k+j):AnS sd at_ la tu:=by
 have r1:=B.T.room 9 (by decide) (by rw [List.length_append,O.n9,List.length_singleton];decide)
 have ac:=accSv_s (t:=t1) (sl:=[]) (K:=Kk) (me:=bBOB) (f:=bANN) (sv:=bKDC) (sid:=(sid:Int)) (now:=whenK k j) (l:=mkB 98 2) (au:=mkB 98 10) (show bKDC≠bBOB by decide)
 rw [mkB_len,mkB_len] at ac
 exact s1 (pA g O B hk++[fA 33001 (isT (show (210:Int)<=whenK k j by simp only [whenK];omega)),cA 27008 (crGetK2_s (nowK k) (ck8 ka K1) (ckm8 K3) (show ¬ min 900 (10+300)<=nowK k by simp only [nowK];omega)) [],cA 37013 ac []])
theorem an7_soon(g:AG8 sd at_ la tu sid k j 7)(O:Op18 Kk ka kb K1 K2 K3 t b1 c1 e1 bx)(B:Bg18 ka K1 K3 K4 t t1 (sid:Int) (nowK k) bx b)(hk:k<200)(hw:k+j<200):AnS sd at_ la tu:=by
 have r1:=B.T.room 9 (by decide) (by rw [List.length_append,O.n9,List.length_singleton];decide)
 have ac:=accSv_s (t:=t1) (sl:=[]) (K:=Kk) (me:=bBOB) (f:=bANN) (sv:=bKDC) (sid:=(sid:Int)) (now:=whenK k j) (l:=mkB 98 2) (au:=mkB 98 10) (show bKDC≠bBOB by decide)
 rw [mkB_len,mkB_len] at ac
 exact s1 (pA g O B hk++[fA 33001 (isF (show ¬ (210:Int)<=whenK k j by simp only [whenK];omega)),cA 27008 (crGetK2_s (nowK k) (ck8 ka K1) (ckm8 K3) (show ¬ min 900 (10+300)<=nowK k by simp only [nowK];omega)) [],cA 37013 ac []])
theorem an8_late(g:AG8 sd at_ la tu sid k j 8)(O:Op18 Kk ka kb K1 K2 K3 t b1 c1 e1 bx)(B:Bg18 ka K1 K3 K4 t t1 (sid:Int) (nowK k) bx b)(hk:k<200)(hw:200<=k+j):AnS sd at_ la tu:=by
 have r1:=B.T.room 9 (by decide) (by rw [List.length_append,O.n9,List.length_singleton];decide)
 have ac:=accFlag_s (sl:=[]) (K:=Kk) (me:=bBOB) (f:=bANN) (sid:=(sid:Int)) (now:=whenK k j) (l:=mkB 98 2) (au:=mkB 98 10) r1.ok (B.T.opn (i:=1) (gx O.i1) O.p1 (by decide))
 rw [mkB_len,mkB_len] at ac
 exact s1 (pA g O B hk++[fA 33001 (isT (show (210:Int)<=whenK k j by simp only [whenK];omega)),cA 30008 (crGetK2_s (nowK k) (ck8 ka K1) (ckm8 K3) (show ¬ min 900 (10+300)<=nowK k by simp only [nowK];omega)) [],cA 37013 ac []])
theorem an8_soon(g:AG8 sd at_ la tu sid k j 8)(O:Op18 Kk ka kb K1 K2 K3 t b1 c1 e1 bx)(B:Bg18 ka K1 K3 K4 t t1 (sid:Int) (nowK k) bx b)(hk:k<200)(hw:k+j<200):AnS sd at_ la tu:=by
 have r1:=B.T.room 9 (by decide) (by rw [List.length_append,O.n9,List.length_singleton];decide)
 have ac:=accFlag_s (sl:=[]) (K:=Kk) (me:=bBOB) (f:=bANN) (sid:=(sid:Int)) (now:=whenK k j) (l:=mkB 98 2) (au:=mkB 98 10) r1.ok (B.T.opn (i:=1) (gx O.i1) O.p1 (by decide))
 rw [mkB_len,mkB_len] at ac
 exact s1 (pA g O B hk++[fA 33001 (isF (show ¬ (210:Int)<=whenK k j by simp only [whenK];omega)),cA 30008 (crGetK2_s (nowK k) (ck8 ka K1) (ckm8 K3) (show ¬ min 900 (10+300)<=nowK k by simp only [nowK];omega)) [],cA 37013 ac []])
end
end
section
open Go.RowKit Go.QT
theorem bg18k{Kk ka kb K1 K2 K3:Fin 16->UInt8}{t:STab}{sid now:Int}{bx:List SSealed}{b1 c1 e1:Bytes}(O:Op18 Kk ka kb K1 K2 K3 t b1 c1 e1 bx)(hsid:0<=sid/\sid<=65535)(hnow:10<=now/\now<210):∃ K4 t1 b,Bg18 ka K1 K3 K4 t t1 sid now bx b/\SK t1 (bt8 sid) (t1.sumAt (bt8 sid)):=by
 obtain ⟨K4,hK4⟩:=ex_key 10
 have T:=O.T
 obtain ⟨b,q0⟩:=pack_authent (s:=bANN) (t:=now) (q:=0+1+1+1) (K:=K4) (c:=mkB 100 ((t.add SFrom.fresh).sumAt (bt8 sid)+1)) (rightM_is right_ann (by intro z hz;simp only [List.mem_cons,List.not_mem_nil,or_false] at hz;apply inN_is <;> omega)) (by decide) (by rw [mkB_len];decide)
 have a:=begin18_s (s:=t) (K4:=K4) (now:=now) (sid:=sid) (nb:=9) (me:=bANN) (β:=bt8 sid) (clAm ka K1) (ck8 ka K1) (ckm8 K3) (T.room 9 (by decide) (by rw [O.n9];decide)) (Nat.le_trans O.sm (by decide)) ⟨right_ann,by decide⟩ (inN_is (by omega) (by omega)) (by rw [hK4,T.keys]) (show (0:Int)<=0+1+1/\(0:Int)+1+1<=1000000 by decide) (show ¬ min (min 900 (min 900 (10+300))) (min 900 (10+200))<=now by omega) (mkB_len _ _) rfl (by rw [T.boxes,O.n9]) (show (3:Nat)<=1000 by decide) q0
 rw [show (ckm8 K3).m.length=16 from mkB_len _ _] at a
 have T1:TS (shS (t.add SFrom.fresh) (bt8 sid) K3 11 b) 10 (bx++[⟨kl K3,11,b⟩]) knS:=((T.add (f:=SFrom.fresh) rfl).dig (bt8 sid)).seal rfl (pack_le6 q0)
 have hs1:(shS (t.add SFrom.fresh) (bt8 sid) K3 11 b).sums.length<=2:=dig_len (s:=t.add SFrom.fresh) (β:=bt8 sid) (n:=1) O.sm
 exact ⟨K4,_,b,⟨a,T1,hs1,hK4,by rw [sh_sumAt];exact q0⟩,by rw [sh_sumAt];exact sk_new (s:=t.add SFrom.fresh) (β:=bt8 sid)⟩
theorem handAnswers_all(sd at_ la tu:Int)(W:World):Calls Tryz.prog 8 #[.int .i64 sd,.int .i64 at_,.int .i64 la,.int .i64 tu] W (DPost W (.bool true)):=by
 suffices h:AnS sd at_ la tu from law_s h W fun _=>rfl
 obtain ⟨sid,hs,hs1⟩:=and_mask sd 65535 (by decide)
 obtain ⟨k,ha,hk1⟩:=and_mask at_ 511 (by decide)
 obtain ⟨j,hl,hj1⟩:=and_mask la 63 (by decide)
 obtain ⟨n,ht,hn1⟩:=and_mask tu 15 (by decide)
 have g:AG8 sd at_ la tu sid k j n:=⟨by rw [hs],hs1,by rw [ha],hk1,by rw [hl],hj1,by rw [ht],hn1⟩
 obtain ⟨Kk,ka,kb,K1,K2,K3,t,b1,c1,e1,bx,O⟩:=op18
 rcases (by omega:k<200∨200<=k) with hk|hk
 · obtain ⟨K4,t1,b,B,hsk⟩:=bg18k O (sid:=(sid:Int)) (now:=nowK k) (by omega) (by simp only [nowK];omega)
   rcases (by omega:200<=k+j∨k+j<200) with hw|hw
   · rcases (by omega:(n=0∨9<=n)∨n=1∨n=2∨n=3∨n=4∨n=5∨n=6∨n=7∨n=8) with h|rfl|rfl|rfl|rfl|rfl|rfl|rfl|rfl
     · exact an0_late g O B hk h hw
     · exact an1_late g O B hk hw
     · exact an2_late g O B hk hw
     · exact an3_late g O B hk hw
     · exact an4_late g O B hk hw
     · exact an5_late g O B hk hw
     · exact an6_late g O B hk hw
     · exact an7_late g O B hk hw
     exact an8_late g O B hk hw
   rcases (by omega:(n=0∨9<=n)∨n=1∨n=2∨n=3∨n=4∨n=5∨n=6∨n=7∨n=8) with h|rfl|rfl|rfl|rfl|rfl|rfl|rfl|rfl
   · rcases (by omega:30<j∨j<=30) with hj|hj
     · exact an0_skew g O B hk h hw hj
     exact an0_ok g O B hk h hw hj
   · exact an1_soon g O B hk hw hsk B.sm
   · exact an2_soon g O B hk hw
   · exact an3_soon g O B hk hw
   · exact an4_soon g O B hk hw
   · exact an5_soon g O B hk hw
   · exact an6_soon g O B hk hw
   · exact an7_soon g O B hk hw
   exact an8_soon g O B hk hw
 exact an_late g O hk
end
section
open Go.ChangeShapes Go.WideShapes Go.ChangeAt Go.RowKit
theorem handAnswers_lifted(os:Os)(started:os.Started)(H:Type)(enc:TypeId × Value->H) :
   ReturnsInHanded {} Tryz.checked os 8 .any (Rows.handAnswersSpec.pre6 enc Tryz.prog Tryz.f8 Rows.handAnswersRow.domain false) (Rows.handAnswersSpec.post enc Tryz.prog Tryz.f8 false true false false):=by
 refine returnsInHanded_of_change (C:=Tryz.checked) Tryz.own started (by kernel_rfl) Tryz.func8
   (ChangeSpec.witness6 (enc:=enc) (C:=Tryz.checked) false ⟨#[],#[.int .i64 0,.int .i64 0,.int .i64 0,.int .i64 0],[]⟩ 8 (by kernel_rfl) (by kernel_rfl) (by kernel_rfl) (by kernel_rfl)) ?_
 intro W base args ds gs before hval0 hW hcnd _
 have hval:∀ (j:Nat) t v,Tryz.f8.params[j]?=some t->args[j]?=some v->Value.okWide Tryz.prog W .any base t v:=hval0
 have hpost:∀ W',Below W.heap.size W W'->Rows.handAnswersSpec.post enc Tryz.prog Tryz.f8 false true false false W args (.bool true) W':=fun W' hb =>
   law_post Tryz.laidOut (by kernel_rfl) Tryz.underlying4 rfl rfl (fun ds hds=>by
     have hn:ds.length=4:=hds
     match ds,hn with
     | [_,_,_,_],_=>rfl) hW hb
 obtain ⟨p,q,hA0,hV,rfl,hfz,hnd⟩:=hW
 have hA:DataW.TrodAll enc Tryz.prog W 0 (fun _=>true) true Tryz.f8.params.toList args.toList ds p:=hA0
 rw [Tryz.params8] at hA hval
 clear hA0 hval0
 obtain ⟨v0,v1,v2,v3,d0,d1,d2,d3,p0,p1,p2,p3,rfl,rfl,rfl,h0,h1,h2,h3⟩:=trodAll_four hA
 obtain ⟨n0,rfl,rfl,rfl,hn0⟩:=open_int (t:=2) (k:=.i64) (by kernel_rfl) (hval 0 2 v0 rfl rfl) h0
 obtain ⟨n1,rfl,rfl,rfl,hn1⟩:=open_int (t:=3) (k:=.i64) (by kernel_rfl) (hval 1 3 v1 rfl rfl) h1
 obtain ⟨n2,rfl,rfl,rfl,hn2⟩:=open_int (t:=3) (k:=.i64) (by kernel_rfl) (hval 2 3 v2 rfl rfl) h2
 obtain ⟨n3,rfl,rfl,rfl,hn3⟩:=open_int (t:=3) (k:=.i64) (by kernel_rfl) (hval 3 3 v3 rfl rfl) h3
 refine (handAnswers_all n0 n1 n2 n3 W).mono fun e W' ⟨he,hw⟩=>?_
 subst he
 exact ⟨_,rfl,hpost W' hw⟩
theorem handAnswers_holds:Rows.HandAnswersSaid:=
 OpenClaim.holds_of_wide 8 Tryz.f8 rfl rfl rfl rfl rfl rfl rfl ⟨rfl,rfl,rfl,rfl,rfl⟩ rfl rfl rfl rfl rfl (by kernel_rfl) Tryz.func8 (by kernel_rfl)
   (of_decide_eq_true (by kernel_rfl)) (by unfold Func.isWrapper;first|(rw [if_pos (by decide +kernel)];kernel_rfl)|(rw [if_neg (by decide +kernel)];exact ⟨rfl,rfl⟩))
   (fun os started H enc _=>handAnswers_lifted os started H enc)
end
end Go.Proofs.YtaoijkhndakppaaGreat
