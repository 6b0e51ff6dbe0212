/- The row of LoginGets: for every input the law returns true and what came in reads as it did. -/
import Derived.ChangeMaps5
import Derived.Test.YtaoijkhndakppaaGreatCA15
set_option maxRecDepth 100000
set_option maxHeartbeats 4000000
namespace Go.Proofs.YtaoijkhndakppaaGreat
section
open Go.RowKit Go.QT
theorem eqInt{a b:Int}(h:a=b):Value.bool (a == b)=.bool true:=by rw [h,beq_self_eq_true]
/-- A law that holds nothing. -/
theorem law_s{f:FuncId}{al:List AV}{args:Array Value}(h:Spec Tryz.prog ⟨f,0,al,[],[],aB true,[]⟩)(W:World)(ha:∀ κ,(AV.denL κ al).toArray=args):Calls Tryz.prog f args W (DPost W (.bool true)):=by
 have κ:Kp:=fun _=>⟨0,none,rSB (.slice none 0 0) []⟩
 have h0:=h.calls κ W ⟨by rw [foot_nil];exact (Hp.nil _ W).ha,fun e he=>absurd he List.not_mem_nil,fun e he=>absurd he List.not_mem_nil⟩
 rw [ha κ] at h0
 refine h0.mono fun e w' ⟨κ',_,e1,h1⟩=>⟨e1,?_⟩
 have h2:=h1.ha.hp
 rw [foot_nil] at h2
 exact h2.below0
section
variable{pw:ByteArray}{now x y:Int}
set_option maxRecDepth 100000
set_option maxHeartbeats 4000000
theorem gets_a(h:60<(pw.size:Int)):Spec Tryz.prog ⟨3,0,[aS pw,aI now,aI x,aI y],[],[],aB true,[]⟩:=s1 [cA 1000 alive17_s [],fA 3002 (isT h)]
theorem gets_b(h:¬ 60<(pw.size:Int))(h2:now<0):Spec Tryz.prog ⟨3,0,[aS pw,aI now,aI x,aI y],[],[],aB true,[]⟩:=s1 [cA 1000 alive17_s [],fA 3002 (isF h),fA 3005 (isT h2)]
theorem gets_c(h:¬ 60<(pw.size:Int))(h2:¬ now<0)(h3:549755813888<now):Spec Tryz.prog ⟨3,0,[aS pw,aI now,aI x,aI y],[],[],aB true,[]⟩:=s1 [cA 1000 alive17_s [],fA 3002 (isF h),fA 3005 (isF h2),fA 3009 (isT h3)]
/-- Times in the law. -/
structure GT(pw:ByteArray)(now x y:Int)(k j:Nat):Prop where
 sz:¬ 60<(pw.size:Int)
 n0:¬ now<0
 n1:¬ 549755813888<now
 hx:bits .and .i64 x ((1023:Nat):Int)=(k:Int)
 kx:k<=1023
 hy:bits .and .i64 y ((127:Nat):Int)=(j:Int)
 jy:j<=127
theorem lgT{kp:Fin 16->UInt8}{b0:Bytes}{m:Nat}{kn:List (SFrom × Nat)}(h:TS (opS.made (textF pw bANN)) m [] kn)(h0:b0.length<=1000000):TS (lgS opS pw bANN kp b0) (m+1) ([]++[⟨kl kp,1,b0⟩]) kn:=(h.seal rfl h0).add rfl
theorem gets_no{k j m:Nat}(g:GT pw now x y k j){kp Kk ka kb N:Fin 16->UInt8}{b0:Bytes}{kn:List (SFrom × Nat)}(hk:kl Kk=mkB 107 1)(ha:kl ka=mkB 107 2)(hb:kl kb=mkB 107 3)(hp:kl kp=mkB 107 (opS.num (textF pw bANN)))(hT:TS (opS.made (textF pw bANN)) m [] kn)(hm:m<=10)(hN:kl N=mkB 107 (m+1))(p0:packB (.stamp now (0+1))=.inr b0)
   {er:Int} (hE:er=22/\pw≠pwA/\openTh (lgS opS pw bANN kp b0) (kl ka) 1 (mkB 98 1)=.inl 13∨er=12/\pw=pwA/\k=0/\openTh (lgS opS pw bANN kp b0) (kl ka) 1 (mkB 98 1)=.inr (.stamp now (0+1))) :
   Spec Tryz.prog ⟨3,0,[aS pw,aI now,aI x,aI y],[],[],aB true,[]⟩:=by
 obtain ⟨g1,g2,g3,g4,g5,g6,g7⟩:=g
 have T0:=TS.op
 have T1:=lgT (kp:=kp) hT (pack_le6 p0)
 have lg:=login_s (s:=opS) (ka:=kp) (Kn:=N) (n:=m+1) (nb:=0) (now:=now) (till:=now+(k:Int)) (pw:=pw) (Cl.new bANN) hp (by omega) (show (3:Nat)<=1000000 by decide) (T0.room 9 (by decide) (by decide)) p0 (congrArg List.length hT.boxes) (congrArg (· + 1) hT.keys) hN (show (0:Int)<=0/\(0:Int)<=1000000 by decide)
 have hok:=(T1.room 0 (by omega) (show 1+0<1000000 by decide)).ok
 have h32:[uAn ka,uBo kb].length<=1000000:=by simp
 have gf:=gotFail_s (K:=kp) (n:=((m+1:Nat):Int)) (Cl.new bANN).shown 1 er bKDC (by decide)
 rcases hE with ⟨rfl,hne,ho⟩|⟨rfl,rfl,rfl,ho⟩
 · exact s1 [cA 1000 alive17_s [],fA 3002 (isF g1),fA 3005 (isF g2),fA 3009 (isF g3),cA 5000 (open17_s hk ha hb) [],fA 6002 (show Value.int .i64 (bits .and .i64 x ((1023:Nat):Int))=.int .i64 (k:Int) by rw [g4]),fA 6003 (w64 (x:=now+(k:Int)) (by omega) (by omega)),cA 7007 lg [],
     cA 10008 (askAuth_s (now:=now) (nm0:=bANN) (till:=now+(k:Int)) (nn:=((m+1:Nat):Int)) (Kk:=Kk) (uAn ka) hok h32 plA.1 plA.2 ho) [],cA 10009 gf [],cA 11008 (crGet0_s bKDC now) [],fA 13010 (tx_eqF hne),cA 16010 crLen0_s []] [16]
 exact s1 [cA 1000 alive17_s [],fA 3002 (isF g1),fA 3005 (isF g2),fA 3009 (isF g3),cA 5000 (open17_s hk ha hb) [],fA 6002 (show Value.int .i64 (bits .and .i64 x ((1023:Nat):Int))=.int .i64 ((0:Nat):Int) by rw [g4]),fA 6003 (w64 (x:=now+((0:Nat):Int)) (by omega) (by omega)),cA 7007 lg [],
   cA 10008 (askLate_s (now:=now) (nm0:=bANN) (till:=now+((0:Nat):Int)) (nn:=((m+1:Nat):Int)) (Kk:=Kk) (uAn ka) hok h32 plA.1 plA.2 ho (near_now (by omega) (by omega)) (by omega)) [],cA 10009 gf [],cA 11008 (crGet0_s bKDC now) [],fA 13014 (isF (show ¬ now<now+((0:Nat):Int) by omega)),cA 16010 crLen0_s []] [16]
theorem gets_yes{k j:Nat}(g:GT pwA now x y k j)(hk0:1<=k){Kk ka kb:Fin 16->UInt8}{b0:Bytes}(hk:kl Kk=mkB 107 1)(ha:kl ka=mkB 107 2)(hb:kl kb=mkB 107 3)(p0:packB (.stamp now (0+1))=.inr b0):Spec Tryz.prog ⟨3,0,[aS pwA,aI now,aI x,aI y],[],[],aB true,[]⟩:=by
 obtain ⟨g1,g2,g3,g4,g5,g6,g7⟩:=g
 obtain ⟨N1,hN1⟩:=ex_key 4
 obtain ⟨K1,hK1⟩:=ex_key 5
 obtain ⟨N2,hN2⟩:=ex_key 6
 obtain ⟨K2,hK2⟩:=ex_key 7
 have i1:∀ z:Int,0<=z->z<=1099511627776->inN z=true:=fun z h1 h2=>inN_is h1 h2
 obtain ⟨b1,p1⟩:=pack_inside (f:=5) (K:=K1) (s:=bANN) (a:=now) (u:=min (now+(k:Int)) (now+100)) (r:=now+500) (rightM_is right_ann (by intro z hz;simp only [List.mem_cons,List.not_mem_nil,or_false] at hz;apply i1 <;> omega)) (by decide)
 obtain ⟨b2,p2⟩:=pack_reply (f:=5) (K:=K1) (n:=((4:Nat):Int)) (s:=bKDC) (a:=now) (u:=min (now+(k:Int)) (now+100)) (r:=now+500) (rightM_is right_kdc (by intro z hz;simp only [List.mem_cons,List.not_mem_nil,or_false] at hz;apply i1 <;> omega)) (by decide)
 have T0:=TS.op
 have m0:=T0.made_old (f:=textF pwA bANN) rfl fnA
 have T1:=lgT (kp:=ka) m0.1 (pack_le6 p0)
 have T2:TS (inS opS pwA (uAn ka) Kk b0 b1 b2) 5 _ knS:=(T1.add (f:=SFrom.fresh) rfl).gv (Kx:=Kk) (Ky:=ka) (us:=3) (pack_le6 p1) (pack_le6 p2)
 have lg:=login_s (s:=opS) (ka:=ka) (Kn:=N1) (n:=4) (nb:=0) (now:=now) (till:=now+(k:Int)) (pw:=pwA) (Cl.new bANN) (ha.trans (congrArg (mkB 107) m0.2.symm)) (by decide) (show (3:Nat)<=1000000 by decide) (T0.room 9 (by decide) (by decide)) p0 (congrArg List.length m0.1.boxes) (congrArg (· + 1) m0.1.keys) hN1 (show (0:Int)<=0/\(0:Int)<=1000000 by decide)
 have h32:[uAn ka,uBo kb].length<=1000000:=by simp
 have o1:openTh (lgS opS pwA bANN ka b0) (kl ka) 1 (mkB 98 1)=.inr (.stamp now (0+1)):=T1.opn (i:=0) rfl p0 (by decide)
 have aa:=askAs_s (nm0:=bANN) (us:=[uAn ka,uBo kb]) (Kk:=Kk) (K:=K1) (t:=lgS opS pwA bANN ka b0) (nb:=1) (nm:=bANN) (now:=now) (till:=now+(k:Int)) (nn:=((4:Nat):Int)) (uAn ka) (T1.room 9 (by decide) (show 1+9<1000000 by decide)) (congrArg List.length T1.boxes) (by rw [T1.keys];exact hK1) h32 plA.1 plA.2 o1 (near_now (by omega) (by omega)) (by omega) (by omega) (show (0:Int)<=100/\(100:Int)<=600 by decide) (show (0:Int)<500/\(500:Int)<=6000 by decide) (show (3:Nat)<=1000 by decide) p1 p2
 have hok2:=(T2.room 0 (by decide) (show 3+0<1000000 by decide)).ok
 have ga:=gotAs_s (n:=((4:Nat):Int)) (a:=now) (l:=mkB 98 3) (Cl.new bANN).shown (inC 1 K1 now (now+(k:Int)) (uAn ka)) hok2 (T2.opn (i:=2) rfl p2 (by decide))
 have g0:=crGet1_s now (inC 1 K1 now (now+(k:Int)) (uAn ka)) (show ¬ min (now+(k:Int)) (now+100)<=now by omega)
 by_cases hl:min (now+(k:Int)) (now+100)<=now+(j:Int)
 · exact s1 [cA 1000 alive17_s [],fA 3002 (isF g1),fA 3005 (isF g2),fA 3009 (isF g3),cA 5000 (open17_s hk ha hb) [],fA 6002 (show Value.int .i64 (bits .and .i64 x ((1023:Nat):Int))=.int .i64 (k:Int) by rw [g4]),fA 6003 (w64 (x:=now+(k:Int)) (by omega) (by omega)),cA 7007 lg [],cA 10008 aa [],cA 10009 ga [],cA 11008 g0 [],fA 13014 (isT (show now<now+(k:Int) by omega)),
     fA 17002 (show Value.int .i64 (bits .and .i64 y ((127:Nat):Int))=.int .i64 (j:Int) by rw [g6]),fA 17003 (w64 (x:=now+(j:Int)) (by omega) (by omega)),fA 18006 (w64 (x:=now+(j:Int)+1000) (by omega) (by omega)),cA 18007 (renewL_s (till:=now+(j:Int)+1000) ((Cl.new bANN).shown.asks 1 bKDC ka ((4:Nat):Int)).ended (inC 1 K1 now (now+(k:Int)) (uAn ka)) hl) [],fA 19003 (isT hl)] [16]
 generalize ht2:inS opS pwA (uAn ka) Kk b0 b1 b2=t2 at *
 have hs2:t2.sums=[]:=by rw [← ht2,in_sums];unfold opS;rw [made_sums,made_sums];rfl
 generalize hβ:qTg bKDC ((6:Nat):Int) (now+(j:Int)+1000) true false (mkB 98 2) []=β
 have hlen:β.length<=4096:=by rw [← hβ];exact qTg_len (by decide) (by decide) (by simp) (by decide)
 obtain ⟨d,q0⟩:=pack_authent (s:=bANN) (t:=now+(j:Int)) (q:=0+1+1) (K:=zKy) (c:=mkB 100 ((t2.add SFrom.fresh).sumAt β+1)) (rightM_is right_ann (by intro z hz;simp only [List.mem_cons,List.not_mem_nil,or_false] at hz;apply i1 <;> omega)) (by decide) (by rw [mkB_len];decide)
 have T3:TS (shS (t2.add SFrom.fresh) β K1 7 d) 6 _ knS:=((T2.add (f:=SFrom.fresh) rfl).dig β).seal rfl (pack_le6 q0)
 have hs3:(shS (t2.add SFrom.fresh) β K1 7 d).sums.length<=1000:=by
   have:=dig_len (s:=t2.add SFrom.fresh) (β:=β) (n:=0) (by show t2.sums.length<=0;rw [hs2];exact Nat.le_refl _)
   exact Nat.le_trans this (by decide)
 have hsa:(shS (t2.add SFrom.fresh) β K1 7 d).sumAt β=(t2.add SFrom.fresh).sumAt β:=sh_sumAt
 obtain ⟨e1,v1⟩:=pack_inside (f:=1) (K:=K2) (s:=bANN) (a:=now) (u:=min (min (now+(j:Int)+1000) (now+(j:Int)+100)) (now+500)) (r:=now+500) (rightM_is right_ann (by intro z hz;simp only [List.mem_cons,List.not_mem_nil,or_false] at hz;apply i1 <;> omega)) (by decide)
 obtain ⟨e2,v2⟩:=pack_reply (f:=1) (K:=K2) (n:=((6:Nat):Int)) (s:=bKDC) (a:=now) (u:=min (min (now+(j:Int)+1000) (now+(j:Int)+100)) (now+500)) (r:=now+500) (rightM_is right_kdc (by intro z hz;simp only [List.mem_cons,List.not_mem_nil,or_false] at hz;apply i1 <;> omega)) (by decide)
 have T4:TS (gvS (((shS (t2.add SFrom.fresh) β K1 7 d).digest β).add SFrom.fresh) Kk K1 8 e1 e2) 7 _ knS:=((T3.dig β).add rfl).gv (pack_le6 v1) (pack_le6 v2)
 have rn:=renew_s (s:=t2) (Kn:=N2) (n:=6) (nb:=3) (now:=now+(j:Int)) (till:=now+(j:Int)+1000) (b:=d) ((Cl.new bANN).shown.asks 1 bKDC ka ((4:Nat):Int)).ended (inC 1 K1 now (now+(k:Int)) (uAn ka)) (T2.room 9 (by decide) (show 3+9<1000000 by decide)) (by rw [hs2];decide) (congrArg (· + 1) T2.keys) hN2 (i1 _ (by omega) (by omega)) (show (0:Int)<=0+1/\(0:Int)+1<=1000000 by decide) hl (mkB_len _ _) hβ hlen (congrArg List.length T2.boxes) (show (3:Nat)<=1000 by decide) q0
 have ak:=askRenew_s (nm0:=bANN) (t:=shS (t2.add SFrom.fresh) β K1 7 d) (K:=K2) (Kk:=Kk) (nb:=4) (now:=now+(j:Int)) (nn:=((6:Nat):Int)) (till:=now+(j:Int)+1000) (au:=mkB 98 4) (β:=β) (sl:=[]) (us:=[uAn ka,uBo kb]) (q:=0+1+1) (ta:=now+(j:Int)) (K0:=zKy) (b1:=e1) (b2:=e2) (u:=uAn ka) ⟨K1,bANN,5,now,min (now+(k:Int)) (now+100),now+500,mkB 98 2⟩ rfl (T3.room 9 (by decide) (show 4+9<1000000 by decide)) (congrArg List.length T3.boxes) (by rw [T3.keys];exact hK2) (T3.opn (i:=1) rfl p1 (by decide)) hl (by rw [hsa];exact T3.opn (i:=3) rfl q0 (by decide)) (near_now (by omega) (by omega)) (by simp) (by simp) (by decide) hs3 (by decide) (i1 _ (by omega) (by omega)) (mkB_len _ _) hβ hlen (by omega) (show ¬ now+500<=now+(j:Int) by omega) h32 plA.1 plA.2 (show (3:Nat)<=1000 by decide) (by omega) (show (0:Int)<=100/\(100:Int)<=600 by decide) v1 v2
 have gm:=gotRenew_s (n:=((6:Nat):Int)) (K:=K1) (a:=now) (l:=mkB 98 6) ((Cl.new bANN).shown.asks 1 bKDC ka ((4:Nat):Int)).ended.shown (inC 1 K1 now (now+(k:Int)) (uAn ka)) ⟨mkB 98 5,K2,1,min (min (now+(j:Int)+1000) (now+(j:Int)+100)) (now+500),now+500,mk_le _ _⟩ (T4.room 9 (by decide) (show 6+9<1000000 by decide)).ok (T4.opn (i:=5) rfl v2 (by decide))
 have g2':=crGet1_s (now+(j:Int)) ⟨mkB 98 5,K2,1,min (min (now+(j:Int)+1000) (now+(j:Int)+100)) (now+500),now+500,mk_le _ _⟩ (show ¬ min (min (now+(j:Int)+1000) (now+(j:Int)+100)) (now+500)<=now+(j:Int) by omega)
 have hkn:kl K2≠kl K1:=key_ne hK2 hK1 (by decide) (by decide) (by decide)
 subst ht2
 exact s1 [cA 1000 alive17_s [],fA 3002 (isF g1),fA 3005 (isF g2),fA 3009 (isF g3),cA 5000 (open17_s hk ha hb) [],fA 6002 (show Value.int .i64 (bits .and .i64 x ((1023:Nat):Int))=.int .i64 (k:Int) by rw [g4]),fA 6003 (w64 (x:=now+(k:Int)) (by omega) (by omega)),cA 7007 lg [],cA 10008 aa [],cA 10009 ga [],cA 11008 g0 [],fA 13014 (isT (show now<now+(k:Int) by omega)),
   fA 17002 (show Value.int .i64 (bits .and .i64 y ((127:Nat):Int))=.int .i64 (j:Int) by rw [g6]),fA 17003 (w64 (x:=now+(j:Int)) (by omega) (by omega)),fA 18006 (w64 (x:=now+(j:Int)+1000) (by omega) (by omega)),cA 18007 rn [],fA 19003 (isF hl),cA 21008 ak [],cA 21009 gm [],cA 22008 g2' [],
   fA 23004 (w64 (x:=now+100) (by omega) (by omega)),fA 23005 (imin (now+(k:Int)) (now+100)),fA 23006 (eqInt (a:=min (now+(k:Int)) (now+100)) rfl),fA 23011 (w64 (x:=now+500) (by omega) (by omega)),fA 23012 (eqInt (a:=now+500) rfl),fA 23030 (w64 (x:=now+(j:Int)+100) (by omega) (by omega)),fA 23032 (w64 (x:=now+500) (by omega) (by omega)),fA 23033 (imin (now+(j:Int)+100) (now+500)),fA 23034 (eqInt (a:=min (min (now+(j:Int)+1000) (now+(j:Int)+100)) (now+500)) (b:=min (now+(j:Int)+100) (now+500)) (by omega)),knA 23041 K2 K1 hkn,fA 23048 (eqInt (a:=now+500) rfl),cA 23058 (crLen1_s ⟨mkB 98 5,K2,1,min (min (now+(j:Int)+1000) (now+(j:Int)+100)) (now+500),now+500,mk_le _ _⟩) []] [16]
end
end
section
open Go.RowKit Go.QT
theorem loginGets_all(pw:ByteArray)(now x y:Int)(W:World):Calls Tryz.prog 3 #[.string pw,.int .i64 now,.int .i64 x,.int .i64 y] W (DPost W (.bool true)):=by
 by_cases h1:60<(pw.size:Int)
 · exact law_s (gets_a h1) W fun _=>rfl
 by_cases h2:now<0
 · exact law_s (gets_b h1 h2) W fun _=>rfl
 by_cases h3:549755813888<now
 · exact law_s (gets_c h1 h2 h3) W fun _=>rfl
 obtain ⟨k,hk,hk1⟩:=and_mask x 1023 (by decide)
 obtain ⟨j,hj,hj1⟩:=and_mask y 127 (by decide)
 have g:GT pw now x y k j:=⟨h1,h2,h3,hk,hk1,hj,hj1⟩
 obtain ⟨Kk,hKk⟩:=ex_key 1
 obtain ⟨ka,ha⟩:=ex_key 2
 obtain ⟨kb,hb⟩:=ex_key 3
 obtain ⟨b0,p0⟩:=pack_stamp (t:=now) (q:=0+1) (inN_is (by omega) (by omega)) (by decide)
 by_cases hp:pw=pwA
 · subst hp
   by_cases hk0:k=0
   · subst hk0
     have m0:=TS.op.made_old (f:=textF pwA bANN) rfl fnA
     obtain ⟨N,hN⟩:=ex_key 4
     exact law_s (gets_no g hKk ha hb (kp:=ka) (ha.trans (congrArg (mkB 107) m0.2.symm)) m0.1 (by decide) hN p0 (.inr ⟨rfl,rfl,rfl,(lgT m0.1 (pack_le6 p0)).opn (i:=0) rfl p0 (by decide)⟩)) W fun _=>rfl
   exact law_s (gets_yes g (by omega) hKk ha hb p0) W fun _=>rfl
 have hf:∀ p ∈ knS,p.1≠textF pw bANN:=by
   intro p hm e
   simp only [List.mem_cons,List.not_mem_nil,or_false] at hm
   rcases hm with rfl|rfl
   · exact hp (tx_inj (by decide) (by omega) e).1.symm
   exact absurd (tx_inj (by decide) (by omega) e).2 (by decide)
 have m0:=TS.op.made_new (f:=textF pw bANN) rfl hf
 obtain ⟨kp,hkp⟩:=ex_key 4
 obtain ⟨N,hN⟩:=ex_key 5
 exact law_s (gets_no g hKk ha hb (kp:=kp) (hkp.trans (congrArg (mkB 107) m0.2.symm)) m0.1 (by decide) hN p0 (.inl ⟨rfl,hp,(lgT m0.1 (pack_le6 p0)).opnNo (i:=0) rfl (fun h=>key_ne hkp ha (by decide) (by decide) (by decide) h.1) (by decide)⟩)) W fun _=>rfl
end
section
open Go.ChangeShapes Go.WideShapes Go.ChangeAt Go.RowKit
theorem loginGets_lifted(os:Os)(started:os.Started)(H:Type)(enc:TypeId × Value->H) :
   ReturnsInHanded {} Tryz.checked os 3 .any (Rows.loginGetsSpec.pre6 enc Tryz.prog Tryz.f3 Rows.loginGetsRow.domain false) (Rows.loginGetsSpec.post enc Tryz.prog Tryz.f3 false true false false):=by
 refine returnsInHanded_of_change (C:=Tryz.checked) Tryz.own started (by kernel_rfl) Tryz.func3
   (ChangeSpec.witness6 (enc:=enc) (C:=Tryz.checked) false ⟨#[],#[.string ⟨#[]⟩,.int .i64 0,.int .i64 0,.int .i64 0],[]⟩ 8 (by kernel_rfl) (by kernel_rfl) (by kernel_rfl) (by kernel_rfl)) ?_
 intro W base args ds gs before hval0 hW hcnd _
 have hval:∀ (j:Nat) t v,Tryz.f3.params[j]?=some t->args[j]?=some v->Value.okWide Tryz.prog W .any base t v:=hval0
 have hpost:∀ W',Below W.heap.size W W'->Rows.loginGetsSpec.post enc Tryz.prog Tryz.f3 false true false false W args (.bool true) W':=fun W' hb =>
   law_post Tryz.laidOut (by kernel_rfl) Tryz.underlying4 rfl rfl (fun ds hds=>by
     have hn:ds.length=4:=hds
     match ds,hn with
     | [_,_,_,_],_=>rfl) hW hb
 obtain ⟨p,q,hA0,hV,rfl,hfz,hnd⟩:=hW
 have hA:DataW.TrodAll enc Tryz.prog W 0 (fun _=>true) true Tryz.f3.params.toList args.toList ds p:=hA0
 rw [Tryz.params3] at hA hval
 clear hA0 hval0
 obtain ⟨v0,v1,v2,v3,d0,d1,d2,d3,p0,p1,p2,p3,rfl,rfl,rfl,h0,h1,h2,h3⟩:=trodAll_four hA
 obtain ⟨l0,rfl,rfl,rfl,hz0⟩:=Go.ChangeMaps.open_string (t:=9) (by kernel_rfl) (hval 0 9 v0 rfl rfl) h0
 obtain ⟨n1,rfl,rfl,rfl,hn1⟩:=open_int (t:=2) (k:=.i64) (by kernel_rfl) (hval 1 2 v1 rfl rfl) h1
 obtain ⟨n2,rfl,rfl,rfl,hn2⟩:=open_int (t:=3) (k:=.i64) (by kernel_rfl) (hval 2 3 v2 rfl rfl) h2
 obtain ⟨n3,rfl,rfl,rfl,hn3⟩:=open_int (t:=3) (k:=.i64) (by kernel_rfl) (hval 3 3 v3 rfl rfl) h3
 refine (loginGets_all l0 n1 n2 n3 W).mono fun e W' ⟨he,hw⟩=>?_
 subst he
 exact ⟨_,rfl,hpost W' hw⟩
theorem loginGets_holds:Rows.LoginGetsSaid:=
 OpenClaim.holds_of_wide 3 Tryz.f3 rfl rfl rfl rfl rfl rfl rfl ⟨rfl,rfl,rfl,rfl,rfl⟩ rfl rfl rfl rfl rfl (by kernel_rfl) Tryz.func3 (by kernel_rfl)
   (of_decide_eq_true (by kernel_rfl)) (by unfold Func.isWrapper;first|(rw [if_pos (by decide +kernel)];kernel_rfl)|(rw [if_neg (by decide +kernel)];exact ⟨rfl,rfl⟩))
   (fun os started H enc _=>loginGets_lifted os started H enc)
end
end Go.Proofs.YtaoijkhndakppaaGreat
