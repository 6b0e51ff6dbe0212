/- The row of LoginClears: for every input the law returns true and what came in reads as it did. -/
import Derived.ChangeMaps5
import Derived.Test.YtaoijkhndakppaaGreatCA15
set_option maxRecDepth 100000
set_option maxHeartbeats 4000000
namespace Go.Proofs.YtaoijkhndakppaaGreat
section
open Go.RowKit Go.QT
/-- What Set leaves. -/
def BookP(G:Nat->Prop)(bk ec:Nat)(o:Option (ByteArray × Int))(w:World)(e:Ending)(w':World):Prop:=e=.returned (.int .i64 (ec:Int))/\∃ G',Hp G w w' [] [rBk G' bk o]
theorem bmfNone{s:ByteArray}:bmF none s=none:=rfl
theorem bmfEq{s a:ByteArray}{t:Int}(h:s=a):bmF (some (a,t)) s=some (0,.int .i64 t):=by exact if_pos h
theorem nright_dp(s:ByteArray)(w:World)(hs:s.size<=1000000000):Calls Tryz.prog 115 #[.string s] w (DPost w (.bool (rightN s))):=nright_any s w hs
theorem bkSet_0{G:Nat->Prop}{bk:Nat}{s:ByteArray}{now t:Int}{w:World}(hB:(rBk G bk none).Φ w)(hr:rightN s=true)(hsz:s.size<=1000000000)(ht:now<t) :Calls Tryz.prog 88 #[pt bk 0,.int .i64 now,.string s,.int .i64 t] w (BookP G bk 0 (some (s,t)) w):=by
 obtain ⟨mb,hG,h00⟩:=(Hp.one (rBk G bk none) hB).openBk 0 rfl
 have h0:=(show Hp G w w [] (lBk bk mb none++[]) from h00)
 refine mE 67 ?_
 refine mT (x_dp (v:=.bool true) h0 115 [(Value.string s)] (by kernel_rfl) (hr ▸ nright_dp _ _ hsz)) ?_
 rintro _ w4 ⟨rfl,h4⟩
 refine mX 18 (.bool false) (Value.bool (decide (t<=now))) (by simp;omega) ?_
 refine ma h4 0 ?_
 refine mT (x_bmRange h4 1 rfl (.tmp 27) (by kernel_rfl) (by kernel_rfl)) ?_
 rintro _ w9 ⟨r9,rfl,h9⟩
 refine mL (fun mM xX aA wL=>(mM=0/\aA=patch xX 67 [(0,(pt bk 0)),(1,(Value.int .i64 now)),(2,(Value.string s)),(3,(Value.int .i64 t)),(8,(Value.int .i64 0)),(28,(pt r9 0))]/\Hp G w wL [] [rBlk bk 266 ([(Value.map (some mb))]),rBi mb r9 none false])) ⟨_,_,⟨rfl,pM,h9⟩⟩ ?_
 rintro _ x11 _ w11 (⟨rfl,rfl,h11⟩) KL11 hKL11
 refine mAt ?_
 refine mT (x_bmOver h11 1 rfl (.inr rfl) (.tmp 28) (by kernel_rfl) (by kernel_rfl)) ?_
 rintro _ w13 ⟨rfl,h13⟩
 refine ma h13 0 ?_
 refine mW 48 (v:=(Value.tuple #[(Value.int .i64 0),(Value.bool false)])) (e_bmLook (h13.at_ 1 rfl) (.tmp 46) (.tmp 47) (by kernel_rfl) s (by kernel_rfl) (by kernel_rfl) (Value.tuple #[(Value.int .i64 0),(Value.bool false)]) (by rw [bmfNone])) ?_
 refine ma h13 0 ?_
 refine mW 58 (v:=(Value.int .i64 0)) (e_bmLen (h13.at_ 1 rfl) (.tmp 57) (by kernel_rfl) (by kernel_rfl) 0 rfl) ?_
 refine ma h13 0 ?_
 refine mT (x_bmUpd h13 1 rfl (.tmp 64) (.tmp 65) (.tmp 66) (by kernel_rfl) s t (by kernel_rfl) (by kernel_rfl) (by kernel_rfl) (fun _ hh=>by cases hh)) fun _ w19 h19=>?_
 refine mP (Value.int .i64 0) ?_
 exact ⟨rfl,_,(show Hp _ _ _ _ (lBk bk mb (some (s,t))++[]) from h19.sel [0,1] [] rfl rfl rfl).closeBk⟩
theorem bkFind_yes{bk mb:Nat}{o:Option (ByteArray × Int)}{s:ByteArray}{now t0:Int}{w:World}(h0:Hp (fun _=>False) w w [rBlk bk 266 [.map (some mb)],rBm mb o] [])(hf:bmF o s=some (0,.int .i64 t0))(ht:now<t0):Calls Tryz.prog 89 #[pt bk 0,.int .i64 now,.string s] w (DPost w (.tuple #[.int .i64 t0,.bool true])):=by
 have h0:=h0
 refine mE 27 ?_
 refine mr h0 0 ?_
 refine mW 16 (v:=(Value.tuple #[(Value.int .i64 t0),(Value.bool true)])) (e_bmLook (h0.rd 1 rfl) (.tmp 14) (.tmp 15) (by kernel_rfl) s (by kernel_rfl) (by kernel_rfl) (Value.tuple #[(Value.int .i64 t0),(Value.bool true)]) (by rw [hf])) ?_
 refine mX 24 (.bool false) (Value.bool (decide (t0<=now))) (by simp;omega) ?_
 exact mQ h0
end
section
open Go.RowKit Go.QT
/-- The bytes of what is asked. -/
def qDr(nm:ByteArray)(nn till:Int)(m:Bool)(l:Bytes):Bytes:=wrV (dirD nm nn till m (.ticket bKDC l) [])
theorem qDr_len{nm:ByteArray}{nn till:Int}{m:Bool}{l:Bytes}(hs:nm.size<=300)(hl:l.length<=300):(qDr nm nn till m l).length<=4096:=by
 have a6:=qTk_len (s:=bKDC) (b:=l) (show (3:Nat)<=300 by decide) hl
 have h0:=wrV_leT (dirD nm nn till m (.ticket bKDC l) [])
 have e:bodyV (dirD nm nn till m (.ticket bKDC l) [])=wrL [bD nm.data.toList,nD nn,nD till,nD m.toNat,valD (.ticket bKDC l),bD []]:=rfl
 rw [e] at h0
 have a1:=wr_bD nm.data.toList
 have a2:=wr_nD nn
 have a3:=wr_nD till
 have a4:=wr_nD (m.toNat:Int)
 have a7:=wr_bD []
 rw [size_toList] at a1
 simp only [wrL,List.length_append,List.length_nil] at h0 a7
 unfold qDr
 refine Nat.le_trans h0 ?_
 omega
theorem pack_fact'{n t:Int}{s:ByteArray}{f:Bool}(hr:rightM s [n,t]=true)(hs:s.size<=300):∃ b,packB (.fact n s f t)=.inr b:=by
 refine ⟨_,pack_is hr ?_⟩
 refine Nat.le_trans (val_small (n:=310) ?_ (by simp [valL])) (by decide)
 intro v hv
 simp only [valL,List.mem_cons,List.not_mem_nil,or_false] at hv
 have h2:=wr_bD s.data.toList
 rw [size_toList] at h2
 rcases hv with rfl|rfl|rfl|rfl
 · have:=wr_nD n;omega
 · omega
 · have:=wr_nD (f.toNat:Int);omega
 have:=wr_nD t;omega
section
variable{t s:STab}{K Kk K0 Kn ka:Fin 16->UInt8}{nb n:Nat}{now ta q till nn fn ft:Int}{au b1 b β l:Bytes}{sl:List Sh}{us:List User}{nm nm0:ByteArray}{o o2:Option (ByteArray × Int)}{m ff:Bool}
theorem rThFact(w:World)(n:Int)(s:ByteArray)(f:Bool)(t:Int):(rTh (fun _=>False) (.iface 49 (.agg #[.int .i64 n,.string s,.bool f,.int .i64 t])) (.fact n s f t)).Φ w:=⟨fun _ hf=>hf.elim,rfl⟩
theorem sealFact_s{us:Int}(hp:packB (.fact fn nm ff ft)=.inr b)(hn:t.boxes.length=n)(hs:TabOk t)(hl:nm.size<=100000):Spec Tryz.prog ⟨48,1,[tI,.c (aK K),aI us,.i 49 (.c [aI fn,aS nm,aB ff,aI ft])],[],[eT 0 t],.t [.o 1 16,aI 0],[eT 0 (t.seal (kl K) us b),eB 1 (mkB 98 (n+1))]⟩:=
 tab_s fun κ w F hh hF hT=>by
   have h4:=tseal_any (K:=K) (us:=us) hT hs (rThFact w fn nm ff ft) (fun _ hf=>hf.elim) hl
   rw [show (AV.denL κ [tI,.c (aK K),aI us,.i 49 (.c [aI fn,aS nm,aB ff,aI ft])]).toArray=#[(Value.iface 30 (pt (κ 0).n 0)),(Value.agg (vb (kl K)).toArray),.int .i64 us,(.iface 49 (.agg #[.int .i64 fn,.string nm,.bool ff,.int .i64 ft]))] from by simp only [AV.denL,AV.den,denL_rg]]
   exact h4.mono fun e w' h=>seal_post (by omega) hp hn h
theorem sumDir_s(m:Bool)(hsm:s.sums.length<=1000)(hs:rightN nm=true)(hsl:nm.size<=300)(hn:inN nn=true)(ht:inN till=true)(hl:l.length<=300) :
   Spec Tryz.prog ⟨26,2,[tI,.i 81 (.c [aS nm,aI nn,aI till,aB m,aS bKDC,.o 1 l.length,aN])],[eB 1 l],[eT 0 s],.o 2 16,[eT 0 (s.digest (qDr nm nn till m l)),eB 2 (mkB 100 (s.sumAt (qDr nm nn till m l)+1))]⟩:=
 tab_s fun κ w F hh hF hT=>by
   have h1:=sb_ent (j:=1) (l:=l) hh (by simp)
   exact (sumDir_any (C:=(κ 1).a) (D:=none) (cc:=(κ 1).n) (an:=0) (ca:=0) (m:=m) hT (by omega) h1 (sb_dj hh hF (j:=1) (l:=l) (by simp)) hs (by omega) hn ht ⟨by decide,by omega⟩ right_kdc (qDr_len hsl hl)).mono fun e w' h=>sum_post (by omega) h
theorem sumDirA_s{an:Nat}(m:Bool)(hsm:s.sums.length<=1000)(hs:rightN nm=true)(hsl:nm.size<=300)(hn:inN nn=true)(ht:inN till=true)(hl:l.length<=300) :
   Spec Tryz.prog ⟨26,3,[tI,.i 81 (.c [aS nm,aI nn,aI till,aB m,aS bKDC,.o 1 l.length,.o 2 an])],[eB 1 l,eB 2 au],[eT 0 s],.o 3 16,[eT 0 (s.digest (qDr nm nn till m l)),eB 3 (mkB 100 (s.sumAt (qDr nm nn till m l)+1))]⟩:=
 tab_s fun κ w F hh hF hT=>by
   have h1:=sb_ent (j:=1) (l:=l) hh (by simp)
   exact (sumDir_any (C:=(κ 1).a) (D:=(κ 2).a) (cc:=(κ 1).n) (an:=an) (ca:=(κ 2).n) (m:=m) hT (by omega) h1 (sb_dj hh hF (j:=1) (l:=l) (by simp)) hs (by omega) hn ht ⟨by decide,by omega⟩ right_kdc (qDr_len hsl hl)).mono fun e w' h=>sum_post (by omega) h
theorem bkSet_s{ec:Nat}(h:∀ (G:Nat->Prop) (bk:Nat) (w:World),(rBk G bk o).Φ w->Calls Tryz.prog 88 #[pt bk 0,.int .i64 now,.string nm,.int .i64 till] w (BookP G bk ec o2 w)) :
   Spec Tryz.prog ⟨88,1,[.p 0 0,aI now,aS nm,aI till],[],[eM 0 o],aI (ec:Int),[eM 0 o2]⟩:=
 own_s (fun _ _=>rfl) (fun _=>rfl) fun κ w G _ h1=>h G (κ 0).n w h1
theorem bkFind_s(h:∀ (bk mb:Nat) (w:World),Hp (fun _=>False) w w [rBlk bk 266 [.map (some mb)],rBm mb o] []->Calls Tryz.prog 89 #[pt bk 0,.int .i64 now,.string nm] w (DPost w (.tuple #[.int .i64 ft,.bool ff]))) :
   Spec Tryz.prog ⟨89,1,[.p 0 0,aI now,aS nm],[eM 0 o],[],.t [aI ft,aB ff],[]⟩:=
 pu_s (fun κ=>rfl) fun κ w hh=>by
   obtain ⟨G,h1,_⟩:=re_ent (j:=0) (R:=fun G n=>rBk G n o) hh (by simp)
   obtain ⟨mb,_,h2⟩:=(Hp.one (rBk G (κ 0).n o) h1).openBk 0 rfl
   have h3:HA G w w [] ([]++[rBlk (κ 0).n 266 [.map (some mb)],rBm mb o]):=h2.ha
   have h4:=h3.carve (ro':=[rBlk (κ 0).n 266 [.map (some mb)],rBm mb o]) (fun r hr=>.inr hr)
   rw [show (fun q=>∃ r ∈ ([]:List Res),r.F q)=fun _=>False from funext fun q=>by simp] at h4
   exact h _ mb w h4.hp
set_option maxRecDepth 100000
set_option maxHeartbeats 4000000
abbrev rqD(nm:ByteArray)(nn till:Int)(m:Bool)(n an:Nat):AV:=.c [aS nm,aI nn,aI till,aB m,aS bKDC,.o 6 n,.o 7 an]
/-- Who asks the directory. -/
structure DrW(t:STab)(Kk:Fin 16->UInt8)(k:Tk)(now ta q:Int)(au β:Bytes)(K0:Fin 16->UInt8)(sl:List Sh)(nm:ByteArray)(nn till:Int)(m:Bool):Prop where
 hr:Room 9 t
 ho:openTh t (kl Kk) 2 k.l=.inr (.inside k.f k.K k.c k.a k.u k.r)
 hu:¬ k.u<=now
 ha:openTh t (kl k.K) 7 au=.inr (.authent k.c ta q K0 (mkB 100 (t.sumAt β+1)))
 hnear:nearF now ta=true
 hsl:∀ y ∈ sl,0<=y.t/\y.t<=1099511627776
 hx0:(⟨k.c,ta,q⟩:Sh) ∉ sl
 hmost:sl.length<64
 hsm:t.sums.length<=1000
 hrn:rightN nm=true
 hnm:nm.size<=300
 hn:inN nn=true
 ht:inN till=true
 hl:k.l.length=16
 hβ:qDr nm nn till m k.l=β
 hkc:k.c.size<=1000
theorem whoDir_s(k:Tk)(h:DrW t Kk k now ta q au β K0 sl nm nn till m) :
   Spec Tryz.prog ⟨85,8,[.p 3 0,aI now,.c [aS bKDC,.o 6 k.l.length],.o 7 au.length,.i 81 (rqD nm nn till m k.l.length au.length)],[eK 1 2 Kk,eSv,eB 6 k.l,eB 7 au],[eT 0 t,eC 4 sl],
     .t [k.A,aI 0],[eT 0 (t.digest β),eC 4 (keptF now sl++[⟨k.c,ta,q⟩])]⟩:=by
 obtain ⟨hr,ho,hu,ha,hnear,hsl,hx0,hmost,hsm,hrn,hnm,hn,ht,hl,hβ,hkc⟩:=h
 subst hβ
 exact s1 [cTb 1003 (opened_s (now:=now) hr.ok ho hu),cTb 4010 (openAuth_s (us:=7) ha hr.ok),fA 7004 (neS k.c),cTb 7016 (sumDirA_s (l:=k.l) (an:=au.length) (au:=au) m hsm hrn hnm hn ht (by omega)),cA 7017 (equal_s (l:=mkB 100 (t.sumAt (qDr nm nn till m k.l)+1)) rfl) [],cA 9012 (show_s ⟨k.c,ta,q⟩ hnear hsl hx0 hmost) []]
theorem dirSet_s(k:Tk)(h:DrW t Kk k now ta q au β K0 sl k.c nn till true)(ht:now<min till k.u)(hnb:t.boxes.length=nb)(hb:packB (.fact nn k.c true (min till k.u))=.inr b) :
   Spec Tryz.prog ⟨55,8,[.p 3 0,aI now,rqD k.c nn till true k.l.length au.length],[eK 1 2 Kk,eSv,eB 6 k.l,eB 7 au],[eT 0 t,eC 4 sl,eM 5 none],
     .t [.c [aS k.c,.o 8 16],aI 0],[eT 0 ((t.digest β).seal (kl k.K) 13 b),eC 4 (keptF now sl++[⟨k.c,ta,q⟩]),eM 5 (some (k.c,min till k.u)),eB 8 (mkB 98 (nb+1))]⟩:=
 s1 [cTb 1008 (whoDir_s (q:=q) k h),fA 5004 (neS k.c),fA 7011 (imin till k.u),cA 7012 (bkSet_s (ec:=0) (o2:=some (k.c,min till k.u)) fun G bk w hB=>bkSet_0 hB h.hrn (by have:=h.hnm;omega) ht) [],
   cA 10007 (bkFind_s (o:=some (k.c,min till k.u)) fun bk mb w h0=>bkFind_yes h0 (bmfEq rfl) ht) [],cTb 11017 (sealFact_s (K:=k.K) (us:=13) (n:=nb) hb (by rw [dig_boxes,hnb]) (Room.digest (β:=β) h.hr).ok (by have:=h.hnm;omega))]
/-! ### At the stage -/
abbrev rqS(nm:ByteArray)(nn till:Int)(m:Bool)(n an:Nat):AV:=.i 81 (.c [aS nm,aI nn,aI till,aB m,aS bKDC,.o 9 n,.o 10 an])
theorem askSet_s(k:Tk)(h:DrW t Kk k now ta q au β K0 sl k.c nn till true)(ht:now<min till k.u)(hnb:t.boxes.length=nb)(hb:packB (.fact nn k.c true (min till k.u))=.inr b) :
   Spec Tryz.prog ⟨14,11,[.p 6 0,aI now,aS nm0,rqS k.c nn till true k.l.length au.length],[eG,eSv,eK 1 2 Kk,eB 9 k.l,eB 10 au],[eT 0 t,eC 4 sl,eM 5 none],
     .i 147 (.c [aS k.c,.o 11 16]),[eT 0 ((t.digest β).seal (kl k.K) 13 b),eC 4 (keptF now sl++[⟨k.c,ta,q⟩]),eM 5 (some (k.c,min till k.u)),eB 11 (mkB 98 (nb+1))]⟩:=
 s1 [cTb 16006 (dirSet_s (q:=q) k h ht hnb hb)]
/-- Who asks it. -/
theorem loAsk_s(c:Cl)(d:Ck)(hr:Room 9 s)(hsm:s.sums.length<=1000)(hrn:rightN nm=true)(hnm0:nm.size<=300)(hn:s.keys.length+1=n)(hKn:kl Kn=mkB 107 n)(ht:inN till=true)(hq:0<=c.q/\c.q<=1000000)(hk:¬ d.en<=now)
   (hm:d.m.length=16) (hβ:qDr nm (n:Int) till m d.m=β) (hnb:s.boxes.length=nb) (hnm:c.nm.size<=1000)
   (hb:packB (.authent c.nm now (c.q+1) zKy (mkB 100 ((s.add SFrom.fresh).sumAt β+1)))=.inr b) :
   Spec Tryz.prog ⟨29,4,[.p 1 0,aI now,aI till,aS nm,aB m],[eB 3 d.m],[eT 0 s,.blk 1 51 (c.c 2),.blk 2 162 (st1 (d.at bKDC 3))],
     .t [.c [aS nm,aI (n:Int),aI till,aB m,aS bKDC,.o 4 d.m.length,.o 5 16],aI 0],[eT 0 (shS (s.add SFrom.fresh) β d.K 7 b),.blk 1 51 ((c.shown.asks 4 nm d.K (n:Int)).c 2),.blk 2 162 (st1 (d.at bKDC 3)),eB 4 d.m,eB 5 (mkB 98 (nb+1))]⟩:=by
 subst hβ
 have hk9:=hr.key
 exact s1 [cA 1005 (crGet1_s now d hk) [],cTb 4005 (number_s (by rw [hKn,hn]) hn (by omega)),fA 1001004 (w64 (x:=c.q+1) (by omega) (by omega)),
   cTb 1002021 (sumDir_s (l:=d.m) (s:=s.add SFrom.fresh) (nn:=(n:Int)) m hsm hrn hnm0 (inN_is (by omega) (by omega)) ht (by omega)),
   cTb 1002024 (sealAuth_s (K:=d.K) (us:=7) hb (n:=nb) (by rw [dig_boxes];exact hnb) (Room.digest (β:=qDr nm (n:Int) till m d.m) (hr.add SFrom.fresh)).ok (by omega) (by rw [mkB_len];decide))] [22,49]
end
end
section
open Go.RowKit Go.QT
abbrev clAn(ka:Fin 16->UInt8):Cl:=((Cl.new bANN).shown.asks 1 bKDC ka ((4:Nat):Int)).ended
abbrev clBo(kb:Fin 16->UInt8):Cl:=((Cl.new bBOB).shown.asks 1 bKDC kb ((6:Nat):Int)).ended
abbrev ckA(ka K1:Fin 16->UInt8):Ck:=inC 1 K1 10 (10+600) (uAn ka)
abbrev ckB(kb K2:Fin 16->UInt8):Ck:=inC 4 K2 10 (10+600) (uBo kb)
abbrev tkA(K1:Fin 16->UInt8):Tk:=⟨K1,bANN,5,10,min (10+600) (10+100),10+500,mkB 98 2⟩
structure In2(Kk ka kb:Fin 16->UInt8)(t1 t2:STab)(K1 K2:Fin 16->UInt8)(b0 b1 b2 c1 c2:Bytes):Prop where
 i1:Spec Tryz.prog ⟨28,11,[.p 6 0,.p 9 0,aS bANN,aS pwA,aI 10],[eG,eSv,eK 1 2 Kk,eU 2 [uAn ka,uBo kb]],[eT 0 opS,.blk 9 51 ((Cl.new bANN).c 10),.blk 10 162 st0],aB true,
     [eT 0 t1,.blk 9 51 ((clAn ka).c 10),.blk 10 162 (st1 ((ckA ka K1).at bKDC 11)),eB 11 (mkB 98 2)]⟩
 i2:Spec Tryz.prog ⟨28,11,[.p 6 0,.p 9 0,aS bBOB,aS pwB,aI 10],[eG,eSv,eK 1 2 Kk,eU 2 [uAn ka,uBo kb]],[eT 0 t1,.blk 9 51 ((Cl.new bBOB).c 10),.blk 10 162 st0],aB true,
     [eT 0 t2,.blk 9 51 ((clBo kb).c 10),.blk 10 162 (st1 ((ckB kb K2).at bKDC 11)),eB 11 (mkB 98 5)]⟩
 T1:TS t1 5 ([]++[⟨kl ka,1,b0⟩]++[⟨kl Kk,2,b1⟩]++[⟨kl ka,3,b2⟩]) knS
 T2:TS t2 7 ([]++[⟨kl ka,1,b0⟩]++[⟨kl Kk,2,b1⟩]++[⟨kl ka,3,b2⟩]++[⟨kl kb,1,b0⟩]++[⟨kl Kk,2,c1⟩]++[⟨kl kb,3,c2⟩]) knS
 s1:t1.sums=[]
 s2:t2.sums=[]
 e1:kl K1=mkB 107 5
 e2:kl K2=mkB 107 7
 p1:packB (.inside 5 K1 bANN 10 (min (10+600) (10+100)) (10+500))=.inr b1
 r1:packB (.inside 5 K2 bBOB 10 (min (10+600) (10+60)) (10+500))=.inr c1
set_option maxRecDepth 100000
set_option maxHeartbeats 4000000
theorem in2{Kk ka kb:Fin 16->UInt8}(ha:kl ka=mkB 107 2)(hb:kl kb=mkB 107 3):∃ t1 t2 K1 K2 b0 b1 b2 c1 c2,In2 Kk ka kb t1 t2 K1 K2 b0 b1 b2 c1 c2:=by
 obtain ⟨N1,hN1⟩:=ex_key 4
 obtain ⟨K1,hK1⟩:=ex_key 5
 obtain ⟨N2,hN2⟩:=ex_key 6
 obtain ⟨K2,hK2⟩:=ex_key 7
 obtain ⟨b0,p0⟩:=pack_stamp (t:=10) (q:=0+1) (by decide) (by decide)
 obtain ⟨b1,p1⟩:=pack_inside (f:=5) (K:=K1) (s:=bANN) (a:=10) (u:=min (10+600) (10+100)) (r:=10+500) (rightM_is right_ann (by decide)) (by decide)
 obtain ⟨b2,p2⟩:=pack_reply (f:=5) (K:=K1) (n:=(4:Nat)) (s:=bKDC) (a:=10) (u:=min (10+600) (10+100)) (r:=10+500) (rightM_is right_kdc (by decide)) (by decide)
 obtain ⟨c1,r1⟩:=pack_inside (f:=5) (K:=K2) (s:=bBOB) (a:=10) (u:=min (10+600) (10+60)) (r:=10+500) (rightM_is right_bob (by decide)) (by decide)
 obtain ⟨c2,r2⟩:=pack_reply (f:=5) (K:=K2) (n:=(6:Nat)) (s:=bKDC) (a:=10) (u:=min (10+600) (10+60)) (r:=10+500) (rightM_is right_kdc (by decide)) (by decide)
 have T0:=TS.op
 have T1:TS (inS opS pwA (uAn ka) Kk b0 b1 b2) 5 _ knS:=T0.inn (uAn ka) (m:=2) fnA (pack_le6 p0) (pack_le6 p1) (pack_le6 p2)
 have T2:TS (inS (inS opS pwA (uAn ka) Kk b0 b1 b2) pwB (uBo kb) Kk b0 c1 c2) 7 _ knS:=T1.inn (uBo kb) (m:=3) fnB (pack_le6 p0) (pack_le6 r1) (pack_le6 r2)
 have hs1:(inS opS pwA (uAn ka) Kk b0 b1 b2).sums=[]:=by rw [in_sums];unfold opS;rw [made_sums,made_sums];rfl
 have hs2:(inS (inS opS pwA (uAn ka) Kk b0 b1 b2) pwB (uBo kb) Kk b0 c1 c2).sums=[]:=by rw [in_sums,hs1]
 have h32:[uAn ka,uBo kb].length<=1000000:=by simp
 have m0:=T0.made_old (f:=textF pwA bANN) rfl fnA
 have m1:=T1.made_old (f:=textF pwB bBOB) rfl fnB
 have i1:=in17_s (Kk:=Kk) (K:=K1) (Kn:=N1) (t:=opS) (nb:=0) (n:=4) (pw:=pwA) (now:=10) (us:=[uAn ka,uBo kb]) (Cl.new bANN) (uAn ka) rfl (T0.room 20 (by decide) (by decide)) (congrArg List.length T0.boxes) (congrArg (· + 1) m0.1.keys) (ha.trans (congrArg (mkB 107) m0.2.symm)) hN1 hK1 (by decide) h32 plA.1 plA.2 (by decide) (by decide) (show (0:Int)<100/\(100:Int)<=600 by decide) (show (0:Int)<500/\(500:Int)<=6000 by decide) (show (3:Nat)<=1000 by decide) p0 p1 p2
 have i2:=in17_s (Kk:=Kk) (K:=K2) (Kn:=N2) (t:=inS opS pwA (uAn ka) Kk b0 b1 b2) (nb:=3) (n:=6) (pw:=pwB) (now:=10) (us:=[uAn ka,uBo kb]) (Cl.new bBOB) (uBo kb) rfl (T1.room 20 (by decide) (show 3+20<1000000 by decide)) (congrArg List.length T1.boxes) (congrArg (· + 1) m1.1.keys) (hb.trans (congrArg (mkB 107) m1.2.symm)) hN2 hK2 (by decide) h32 plB.1 plB.2 (by decide) (by decide) (show (0:Int)<60/\(60:Int)<=600 by decide) (show (0:Int)<500/\(500:Int)<=6000 by decide) (show (3:Nat)<=1000 by decide) p0 r1 r2
 exact ⟨_,_,K1,K2,b0,b1,b2,c1,c2,i1,i2,T1,T2,hs1,hs2,hK1,hK2,p1,r1⟩
end
section
open Go.RowKit Go.QT
/-- A law that holds nothing. -/
theorem law_s{f:FuncId}{al:List AV}{args:Array Value}(h:Spec Tryz.prog ⟨f,0,al,[],[],aB true,[]⟩)(W:World)(ha:∀ κ,(AV.denL κ al).toArray=args):Calls Tryz.prog f args W (DPost W (.bool true)):=by
 have κ:Kp:=fun _=>⟨0,none,rSB (.slice none 0 0) []⟩
 have h0:=h.calls κ W ⟨by rw [foot_nil];exact (Hp.nil _ W).ha,fun e he=>absurd he List.not_mem_nil,fun e he=>absurd he List.not_mem_nil⟩
 rw [ha κ] at h0
 refine h0.mono fun e w' ⟨κ',_,e1,h1⟩=>⟨e1,?_⟩
 have h2:=h1.ha.hp
 rw [foot_nil] at h2
 exact h2.below0
section
variable{pw:ByteArray}{now x y:Int}
set_option maxRecDepth 100000
set_option maxHeartbeats 4000000
end
end
section
open Go.RowKit Go.QT
theorem openTh_some{t:STab}{k l:Bytes}{u:Int}{x:Thing}(h:openTh t k u l=.inr x):∃ body,t.open_ k u l=some body/\unpB body=.inr x:=by
 unfold openTh at h
 cases ho:t.open_ k u l with
 | none=>rw [ho] at h;cases h
 | some b=>rw [ho] at h;exact ⟨b,rfl,h⟩
section
variable{t:STab}{Kk ka kb K1 K2:Fin 16->UInt8}{nm:ByteArray}{x y:Int}{k j nb:Nat}{bx:List SSealed}{sl:List Sh}{o:Option (ByteArray × Int)}{ff:Bool}{ft:Int}{b1:Bytes}
set_option maxRecDepth 100000
set_option maxHeartbeats 4000000
theorem iN(z:Int)(h1:0<=z)(h2:z<=1099511627776):inN z=true:=inN_is h1 h2
end
end
section
open Go.RowKit Go.QT
/-- So many keys of 0. -/
def zKeys(n:Nat):List AV:=rg (vb (List.replicate (16*n) 0))
/-- Nothing is left. -/
abbrev Cl.out(c:Cl):Cl:={ c.ended with fn:=0,fs:=ByteArray.empty,ff:=false,ft:=0 }
section
variable{Kk ka kb K1 K2:Fin 16->UInt8}{t t1 t2 t3 t4:STab}{b0 b1 b2 c1 c2:Bytes}{now till:Int}{m l:Bytes}{ts:ByteArray}
set_option maxRecDepth 100000
set_option maxHeartbeats 4000000
theorem crKeys_s:Spec Tryz.prog ⟨65,1,[.p 0 0],[],[.blk 0 162 st0],.w 1 0 16 0,[.blk 0 162 st0,.row 1 41 16 16 (zKeys 16)]⟩:=s1 []
theorem loKeys_s(c:Cl)(hK:c.K=zKy):Spec Tryz.prog ⟨34,3,[.p 1 0],[],[.blk 1 51 (c.c 2),.blk 2 162 st0],.w 3 0 17 0,[.blk 1 51 (c.c 2),.blk 2 162 st0,.row 3 41 16 17 (zKeys 17)]⟩:=by
 obtain ⟨nm,q,ak,nn,wh,cK,fn,fs,ff,ft⟩:=c
 obtain rfl:cK=zKy:=hK
 exact s1 [cA 1004 crKeys_s []]
theorem loOut_s(c:Cl)(d:Ck):Spec Tryz.prog ⟨33,4,[.p 1 0],[],[.blk 1 51 (c.c 2),.blk 2 162 (st1 (d.at bKDC 3))],.t [],[.blk 1 51 (c.out.c 2),.blk 2 162 st0]⟩:=
 s1 [cA 4 (crWipe_s d) [],cA 1001 (end_s c) []]
theorem renew0_s(c:Cl):Spec Tryz.prog ⟨18,3,[.p 1 0,aI now,aI till],[],[.blk 1 51 (c.c 2),.blk 2 162 st0],.t [tqNo,aI 9],[.blk 1 51 (c.c 2),.blk 2 162 st0]⟩:=
 s1 [cA 1001005 (crGet0_s bKDC now) []] [57]
theorem gotA_s(c:Cl)(hk:c.ak=0){n n2:Nat}{nm:ByteArray}:Spec Tryz.prog ⟨13,5,[.p 1 0,.i 143 (.c [aS nm,aS ts,.o 3 n,.o 4 n2])],[eB 3 m,eB 4 l],[.blk 1 51 (c.c 2)],aI 16,[.blk 1 51 (c.c 2)]⟩:=by
 obtain ⟨nm,q,ak,nn,wh,cK,fn,fs,ff,ft⟩:=c
 obtain rfl:ak=0:=hk
 exact s1 []
theorem gotT_s(c:Cl)(hk:c.ak=0){n n2:Nat}{nm:ByteArray}:Spec Tryz.prog ⟨13,5,[.p 1 0,.i 145 (.c [aS nm,aS ts,.o 3 n,.o 4 n2])],[eB 3 m,eB 4 l],[.blk 1 51 (c.c 2)],aI 16,[.blk 1 51 (c.c 2)]⟩:=by
 obtain ⟨nm,q,ak,nn,wh,cK,fn,fs,ff,ft⟩:=c
 obtain rfl:ak=0:=hk
 exact s1 []
theorem gotD_s(c:Cl)(hk:c.ak=0){n:Nat}{nm:ByteArray}:Spec Tryz.prog ⟨13,4,[.p 1 0,.i 147 (.c [aS nm,.o 3 n])],[eB 3 m],[.blk 1 51 (c.c 2)],aI 16,[.blk 1 51 (c.c 2)]⟩:=by
 obtain ⟨nm,q,ak,nn,wh,cK,fn,fs,ff,ft⟩:=c
 obtain rfl:ak=0:=hk
 exact s1 []
abbrev clR(ka K1:Fin 16->UInt8):Cl:=(clAn ka).shown.asks 2 bKDC K1 ((6:Nat):Int)
abbrev clD(ka K1:Fin 16->UInt8):Cl:=(clAn ka).shown.asks 4 bANN K1 ((6:Nat):Int)
abbrev clL(ka:Fin 16->UInt8):Cl:=(clAn ka).shown.asks 1 bKDC ka ((6:Nat):Int)
abbrev ckR(K2:Fin 16->UInt8):Ck:=⟨mkB 98 5,K2,1,min (min 50 (11+100)) (10+500),10+500,mk_le _ _⟩
abbrev ckL(K2:Fin 16->UInt8):Ck:=⟨mkB 98 5,K2,5,min 50 (11+100),11+500,mk_le _ _⟩
/-- Another ticket is asked for, and given. -/
structure ClR(Kk ka kb K1 K2:Fin 16->UInt8)(t1 t3 t4:STab):Prop where
 a:Spec Tryz.prog ⟨18,4,[.p 1 0,aI 11,aI 50],[eB 3 (mkB 98 2)],[eT 0 t1,.blk 1 51 ((clAn ka).c 2),.blk 2 162 (st1 ((ckA ka K1).at bKDC 3))],
     .t [.c [aS bKDC,aI ((6:Nat):Int),aI 50,aB true,aB false,aS bKDC,.o 4 16,.o 5 16,aN],aI 0],[eT 0 t3,.blk 1 51 ((clR ka K1).c 2),.blk 2 162 (st1 ((ckA ka K1).at bKDC 3)),eB 4 (mkB 98 2),eB 5 (mkB 98 4)]⟩
 b:Spec Tryz.prog ⟨14,11,[.p 6 0,aI 11,aS bANN,.i 58 (.c [aS bKDC,aI ((6:Nat):Int),aI 50,aB true,aB false,aS bKDC,.o 9 16,.o 10 16,aN])],[eG,eSv,eK 1 2 Kk,eU 2 [uAn ka,uBo kb],eB 9 (mkB 98 2),eB 10 (mkB 98 4)],[eT 0 t3,eC 4 []],
     .i 145 (.c [aS bANN,aS bKDC,.o 11 16,.o 12 16]),[eT 0 t4,eC 4 (keptF 11 []++[⟨bANN,11,0+1+1⟩]),eB 11 (mkB 98 5),eB 12 (mkB 98 6)]⟩
 c:Spec Tryz.prog ⟨13,6,[.p 1 0,.i 145 (.c [aS bANN,aS bKDC,.o 3 16,.o 4 16])],[eT 0 t4,eB 3 (mkB 98 5),eB 4 (mkB 98 6)],[.blk 1 51 ((clR ka K1).c 2),.blk 2 162 (st1 ((ckA ka K1).at bKDC 5))],aI 0,
     [.blk 1 51 ((clR ka K1).ended.c 2),.blk 2 162 (st1 ((ckR K2).at bKDC 6)),eB 6 (mkB 98 5)]⟩
theorem clR_s(I:In2 Kk ka kb t1 t2 K1 K2 b0 b1 b2 c1 c2):∃ K2 t3 t4,ClR Kk ka kb K1 K2 t1 t3 t4:=by
 obtain ⟨N2,hN2⟩:=ex_key 6
 obtain ⟨K3,hK3⟩:=ex_key 7
 have T1:=I.T1
 generalize hβ:qTg bKDC ((6:Nat):Int) 50 true false (mkB 98 2) []=β
 have hlen:β.length<=4096:=by rw [← hβ];exact qTg_len (by decide) (by decide) (by simp) (by decide)
 obtain ⟨d,q0⟩:=pack_authent (s:=bANN) (t:=11) (q:=0+1+1) (K:=zKy) (c:=mkB 100 ((t1.add SFrom.fresh).sumAt β+1)) (rightM_is right_ann (by decide)) (by decide) (by rw [mkB_len];decide)
 have T3:TS (shS (t1.add SFrom.fresh) β K1 7 d) 6 _ knS:=((T1.add (f:=SFrom.fresh) rfl).dig β).seal rfl (pack_le6 q0)
 have hs3:(shS (t1.add SFrom.fresh) β K1 7 d).sums.length<=1000:=by
   have:=dig_len (s:=t1.add SFrom.fresh) (β:=β) (n:=0) (by show t1.sums.length<=0;rw [I.s1];exact Nat.le_refl _)
   exact Nat.le_trans this (by decide)
 have hsa:(shS (t1.add SFrom.fresh) β K1 7 d).sumAt β=(t1.add SFrom.fresh).sumAt β:=sh_sumAt
 have h32:[uAn ka,uBo kb].length<=1000000:=by simp
 obtain ⟨e1,v1⟩:=pack_inside (f:=1) (K:=K3) (s:=bANN) (a:=10) (u:=min (min 50 (11+100)) (10+500)) (r:=10+500) (rightM_is right_ann (by decide)) (by decide)
 obtain ⟨e2,v2⟩:=pack_reply (f:=1) (K:=K3) (n:=((6:Nat):Int)) (s:=bKDC) (a:=10) (u:=min (min 50 (11+100)) (10+500)) (r:=10+500) (rightM_is right_kdc (by decide)) (by decide)
 have T4:TS (gvS (((shS (t1.add SFrom.fresh) β K1 7 d).digest β).add SFrom.fresh) Kk K1 8 e1 e2) 7 _ knS:=((T3.dig β).add rfl).gv (pack_le6 v1) (pack_le6 v2)
 have a:=renew_s (s:=t1) (Kn:=N2) (n:=6) (nb:=3) (now:=11) (till:=50) (b:=d) (clAn ka) (ckA ka K1) (T1.room 9 (by decide) (show 3+9<1000000 by decide)) (by rw [I.s1];decide) (congrArg (· + 1) T1.keys) hN2 (iN _ (by decide) (by decide)) (show (0:Int)<=0+1/\(0:Int)+1<=1000000 by decide) (show ¬ min ((10:Int)+600) (10+100)<=11 by decide) (mkB_len _ _) hβ hlen (congrArg List.length T1.boxes) (show (3:Nat)<=1000 by decide) q0
 have b:=askRenew_s (nm0:=bANN) (t:=shS (t1.add SFrom.fresh) β K1 7 d) (K:=K3) (Kk:=Kk) (nb:=4) (now:=11) (nn:=((6:Nat):Int)) (till:=50) (au:=mkB 98 4) (β:=β) (sl:=[]) (us:=[uAn ka,uBo kb]) (q:=0+1+1) (ta:=11) (K0:=zKy) (b1:=e1) (b2:=e2) (u:=uAn ka) (tkA K1) rfl (T3.room 9 (by decide) (show 4+9<1000000 by decide)) (congrArg List.length T3.boxes) (by rw [T3.keys];exact hK3) (T3.opn (i:=1) rfl I.p1 (by decide)) (show ¬ min ((10:Int)+600) (10+100)<=11 by decide) (by rw [hsa];exact T3.opn (i:=3) rfl q0 (by decide)) (near_now (by decide) (by decide)) (by simp) (by simp) (by decide) hs3 (by decide) (iN _ (by decide) (by decide)) (mkB_len _ _) hβ hlen (by decide) (show ¬ (10:Int)+500<=11 by decide) h32 plA.1 plA.2 (show (3:Nat)<=1000 by decide) (by decide) (show (0:Int)<=100/\(100:Int)<=600 by decide) v1 v2
 have c:=gotRenew_s (n:=((6:Nat):Int)) (K:=K1) (a:=10) (l:=mkB 98 6) (clAn ka).shown (ckA ka K1) (ckR K3) (T4.room 9 (by decide) (show 6+9<1000000 by decide)).ok (T4.opn (i:=5) rfl v2 (by decide))
 rw [show (ckA ka K1).m.length=16 from mkB_len _ _] at a
 rw [show (tkA K1).l.length=16 from mkB_len _ _,mkB_len] at b
 rw [show (ckR K3).m.length=16 from mkB_len _ _,mkB_len] at c
 exact ⟨K3,_,_,a,b,c⟩
/-- The directory is told. -/
structure ClD(Kk ka K1:Fin 16->UInt8)(t1 t3 t4:STab)(ft:Int):Prop where
 a:Spec Tryz.prog ⟨29,4,[.p 1 0,aI 11,aI 50,aS bANN,aB true],[eB 3 (mkB 98 2)],[eT 0 t1,.blk 1 51 ((clAn ka).c 2),.blk 2 162 (st1 ((ckA ka K1).at bKDC 3))],
     .t [.c [aS bANN,aI ((6:Nat):Int),aI 50,aB true,aS bKDC,.o 4 16,.o 5 16],aI 0],[eT 0 t3,.blk 1 51 ((clD ka K1).c 2),.blk 2 162 (st1 ((ckA ka K1).at bKDC 3)),eB 4 (mkB 98 2),eB 5 (mkB 98 4)]⟩
 b:Spec Tryz.prog ⟨14,11,[.p 6 0,aI 11,aS bANN,rqS bANN ((6:Nat):Int) 50 true 16 16],[eG,eSv,eK 1 2 Kk,eB 9 (mkB 98 2),eB 10 (mkB 98 4)],[eT 0 t3,eC 4 [],eM 5 none],
     .i 147 (.c [aS bANN,.o 11 16]),[eT 0 t4,eC 4 (keptF 11 []++[⟨bANN,11,0+1+1⟩]),eM 5 (some (bANN,ft)),eB 11 (mkB 98 5)]⟩
 c:Spec Tryz.prog ⟨13,4,[.p 1 0,.i 147 (.c [aS bANN,.o 3 16])],[eT 0 t4,eB 3 (mkB 98 5)],[.blk 1 51 ((clD ka K1).c 2)],aI 0,[.blk 1 51 (((clD ka K1).told ((6:Nat):Int) bANN true ft).c 2)]⟩
theorem clD_s(I:In2 Kk ka kb t1 t2 K1 K2 b0 b1 b2 c1 c2):∃ t3 t4,ClD Kk ka K1 t1 t3 t4 (min 50 (tkA K1).u):=by
 obtain ⟨N,hN⟩:=ex_key 6
 have T1:=I.T1
 generalize hβ:qDr bANN ((6:Nat):Int) 50 true (mkB 98 2)=β
 obtain ⟨d,q0⟩:=pack_authent (s:=bANN) (t:=11) (q:=0+1+1) (K:=zKy) (c:=mkB 100 ((t1.add SFrom.fresh).sumAt β+1)) (rightM_is right_ann (by decide)) (by decide) (by rw [mkB_len];decide)
 obtain ⟨f,q1⟩:=pack_fact' (n:=((6:Nat):Int)) (s:=bANN) (f:=true) (t:=min 50 (tkA K1).u) (rightM_is right_ann (by show ∀ z ∈ [((6:Nat):Int),min 50 (min (10+600) (10+100))],_;decide)) (by decide)
 have T3:TS (shS (t1.add SFrom.fresh) β K1 7 d) 6 _ knS:=((T1.add (f:=SFrom.fresh) rfl).dig β).seal rfl (pack_le6 q0)
 have hs3:(shS (t1.add SFrom.fresh) β K1 7 d).sums.length<=1000:=by
   have:=dig_len (s:=t1.add SFrom.fresh) (β:=β) (n:=0) (by show t1.sums.length<=0;rw [I.s1];exact Nat.le_refl _)
   exact Nat.le_trans this (by decide)
 have hsa:(shS (t1.add SFrom.fresh) β K1 7 d).sumAt β=(t1.add SFrom.fresh).sumAt β:=sh_sumAt
 have T4:TS (((shS (t1.add SFrom.fresh) β K1 7 d).digest β).seal (kl K1) 13 f) 6 _ knS:=(T3.dig β).seal rfl (pack_le6 q1)
 have a:=loAsk_s (s:=t1) (Kn:=N) (n:=6) (nb:=3) (nm:=bANN) (now:=11) (till:=50) (m:=true) (b:=d) (clAn ka) (ckA ka K1) (T1.room 9 (by decide) (show 3+9<1000000 by decide)) (by rw [I.s1];decide) right_ann (by decide) (congrArg (· + 1) T1.keys) hN (iN _ (by decide) (by decide)) (show (0:Int)<=0+1/\(0:Int)+1<=1000000 by decide) (show ¬ min ((10:Int)+600) (10+100)<=11 by decide) (mkB_len _ _) hβ (congrArg List.length T1.boxes) (show (3:Nat)<=1000 by decide) q0
 have W:DrW (shS (t1.add SFrom.fresh) β K1 7 d) Kk (tkA K1) 11 11 (0+1+1) (mkB 98 4) β zKy [] bANN ((6:Nat):Int) 50 true:=
   ⟨T3.room 9 (by decide) (show 4+9<1000000 by decide),T3.opn (i:=1) rfl I.p1 (by decide),(show ¬ min ((10:Int)+600) (10+100)<=11 by decide),by rw [hsa];exact T3.opn (i:=3) rfl q0 (by decide),near_now (by decide) (by decide),by simp,by simp,by decide,hs3,right_ann,by decide,iN _ (by decide) (by decide),iN _ (by decide) (by decide),mkB_len _ _,hβ,show (3:Nat)<=1000 by decide⟩
 have b:=askSet_s (nm0:=bANN) (nb:=4) (b:=f) (tkA K1) W (show (11:Int)<min 50 (min (10+600) (10+100)) by decide) (congrArg List.length T3.boxes) q1
 obtain ⟨body,u1,u2⟩:=openTh_some (T4.opn (i:=4) rfl q1 (by decide))
 have c:=gotDir_s (K:=K1) (n:=((6:Nat):Int)) (clAn ka).shown bANN true (min 50 (tkA K1).u) (T4.room 9 (by decide) (show 5+9<1000000 by decide)).ok u1 u2
 rw [show (ckA ka K1).m.length=16 from mkB_len _ _] at a
 rw [show (tkA K1).l.length=16 from mkB_len _ _,mkB_len] at b
 rw [mkB_len] at c
 exact ⟨_,_,a,b,c⟩
/-- Who is there logs in once more. -/
structure ClLi(Kk ka kb K2:Fin 16->UInt8)(t1 t3 t4:STab)(ck0:Ck):Prop where
 a:Spec Tryz.prog ⟨12,3,[.p 1 0,aI 11,aS pwA,aI 50],[],[eT 0 t1,.blk 1 51 ((clAn ka).c 2)],.t [.c [aS bANN,aI ((6:Nat):Int),aI 50,.o 3 16],aI 0],[eT 0 t3,.blk 1 51 ((clL ka).c 2),eB 3 (mkB 98 4)]⟩
 b:Spec Tryz.prog ⟨14,10,[.p 6 0,aI 11,aS bANN,.i 27 (.c [aS bANN,aI ((6:Nat):Int),aI 50,.o 9 16])],[eG,eSv,eK 1 2 Kk,eU 2 [uAn ka,uBo kb],eB 9 (mkB 98 4)],[eT 0 t3],.i 143 (.c [aS bANN,aS bKDC,.o 10 16,.o 11 16]),
     [eT 0 t4,eB 10 (mkB 98 5),eB 11 (mkB 98 6)]⟩
 c:Spec Tryz.prog ⟨13,6,[.p 1 0,.i 143 (.c [aS bANN,aS bKDC,.o 3 16,.o 4 16])],[eT 0 t4,eB 3 (mkB 98 5),eB 4 (mkB 98 6)],[.blk 1 51 ((clL ka).c 2),.blk 2 162 (st1 (ck0.at bKDC 5))],aI 0,
     [.blk 1 51 ((clL ka).ended.c 2),.blk 2 162 (st1 ((ckL K2).at bKDC 6)),eB 6 (mkB 98 5)]⟩
theorem clL_s(ha:kl ka=mkB 107 2)(I:In2 Kk ka kb t1 t2 K1 K2 b0 b1 b2 c1 c2):∃ K2 t3 t4,ClLi Kk ka kb K2 t1 t3 t4 (ckA ka K1):=by
 obtain ⟨N,hN⟩:=ex_key 6
 obtain ⟨K3,hK3⟩:=ex_key 7
 have T1:=I.T1
 have m0:=T1.made_old (f:=textF pwA bANN) rfl fnA
 obtain ⟨d0,p0⟩:=pack_stamp (t:=11) (q:=0+1+1) (by decide) (by decide)
 obtain ⟨e1,v1⟩:=pack_inside (f:=5) (K:=K3) (s:=bANN) (a:=11) (u:=min 50 (11+100)) (r:=11+500) (rightM_is right_ann (by decide)) (by decide)
 obtain ⟨e2,v2⟩:=pack_reply (f:=5) (K:=K3) (n:=((6:Nat):Int)) (s:=bKDC) (a:=11) (u:=min 50 (11+100)) (r:=11+500) (rightM_is right_kdc (by decide)) (by decide)
 have T3:TS (lgS t1 pwA bANN ka d0) 6 _ knS:=(m0.1.seal rfl (pack_le6 p0)).add rfl
 have T4:TS (gvS ((lgS t1 pwA bANN ka d0).add SFrom.fresh) Kk ka 3 e1 e2) 7 _ knS:=(T3.add rfl).gv (pack_le6 v1) (pack_le6 v2)
 have h32:[uAn ka,uBo kb].length<=1000000:=by simp
 have a:=login_s (s:=t1) (ka:=ka) (Kn:=N) (n:=6) (nb:=3) (now:=11) (till:=50) (pw:=pwA) (clAn ka) (ha.trans (congrArg (mkB 107) m0.2.symm)) (by decide) (show (3:Nat)<=1000000 by decide) (T1.room 9 (by decide) (show 3+9<1000000 by decide)) p0 (congrArg List.length m0.1.boxes) (congrArg (· + 1) m0.1.keys) hN (show (0:Int)<=0+1/\(0:Int)+1<=1000000 by decide)
 have b:=askAs_s (nm0:=bANN) (us:=[uAn ka,uBo kb]) (Kk:=Kk) (K:=K3) (t:=lgS t1 pwA bANN ka d0) (nb:=4) (nm:=bANN) (now:=11) (till:=50) (nn:=((6:Nat):Int)) (pre:=mkB 98 4) (uAn ka) (T3.room 9 (by decide) (show 4+9<1000000 by decide)) (congrArg List.length T3.boxes) (by rw [T3.keys];exact hK3) h32 plA.1 plA.2 (T3.opn (i:=3) rfl p0 (by decide)) (near_now (by decide) (by decide)) (by decide) (by decide) (show (0:Int)<=100/\(100:Int)<=600 by decide) (show (0:Int)<500/\(500:Int)<=6000 by decide) (show (3:Nat)<=1000 by decide) v1 v2
 have c:=gotAs1_s (n:=((6:Nat):Int)) (a:=11) (K:=ka) (l:=mkB 98 6) (clAn ka).shown (ckA ka K1) (ckL K3) (T4.room 9 (by decide) (show 6+9<1000000 by decide)).ok (T4.opn (i:=5) rfl v2 (by decide))
 rw [mkB_len] at b
 rw [show (ckL K3).m.length=16 from mkB_len _ _,mkB_len] at c
 exact ⟨K3,_,_,a,b,c⟩
end
end
section
open Go.RowKit Go.QT
abbrev ClS(x:Int)(b:Bool):Prop:=Spec Tryz.prog ⟨6,0,[aI x,aB b],[],[],aB true,[]⟩
abbrev ClM(x:Int)(m:Nat):Prop:=Value.int .i64 (bits .and .i64 x ((3:Nat):Int))=.int .i64 (m:Int)
end
section
open Go.RowKit Go.QT
section
variable{Kk ka kb K1 K2 K3:Fin 16->UInt8}{t1 t2 t3 t4:STab}{x ft:Int}{b0 b1 b2 c1 c2:Bytes}
set_option maxRecDepth 100000
set_option maxHeartbeats 4000000
theorem cl_0(g:ClM x 0)(hk:kl Kk=mkB 107 1)(ha:kl ka=mkB 107 2)(hb:kl kb=mkB 107 3)(I:In2 Kk ka kb t1 t2 K1 K2 b0 b1 b2 c1 c2)(R:ClR Kk ka kb K1 K3 t1 t3 t4):∀ b,ClS x b
 | false=>s1 [cA 1000 alive17_s [],cA 3000 (open17_s hk ha hb) [],cA 4005 I.i1 [],fA 7001 g,cA 9004 R.a [],cA 14002 R.b [],cA 17004 (loOut_s (clR ka K1) (ckA ka K1)) [],cA 18004 (loKeys_s (clR ka K1).out rfl) [],cA 25004 (renew0_s (now:=12) (till:=50) (clR ka K1).out) [],cA 26018 crLen0_s [],cA 26041 (gotT_s (clR ka K1).out rfl (nm:=bANN) (m:=mkB 98 5) (l:=mkB 98 6) (ts:=bKDC) (n:=16) (n2:=16)) [],cA 26050 (loKeys_s (clR ka K1).out rfl) []] [30,16]
 | true=>s1 [cA 1000 alive17_s [],cA 3000 (open17_s hk ha hb) [],cA 4005 I.i1 [],fA 7001 g,cA 9004 R.a [],cA 14002 R.b [],cA 15011 R.c [],cA 17004 (loOut_s (clR ka K1).ended (ckR K3)) [],cA 18004 (loKeys_s (clR ka K1).ended.out rfl) [],cA 25004 (renew0_s (now:=12) (till:=50) (clR ka K1).ended.out) [],cA 26018 crLen0_s [],cA 26041 (gotT_s (clR ka K1).ended.out rfl (nm:=bANN) (m:=mkB 98 5) (l:=mkB 98 6) (ts:=bKDC) (n:=16) (n2:=16)) [],cA 26050 (loKeys_s (clR ka K1).ended.out rfl) []] [30,16]
end
end
section
open Go.RowKit Go.QT
section
variable{Kk ka kb K1 K2 K3:Fin 16->UInt8}{t1 t2 t3 t4:STab}{x ft:Int}{b0 b1 b2 c1 c2:Bytes}
set_option maxRecDepth 100000
set_option maxHeartbeats 4000000
theorem cl_1(g:ClM x 1)(hk:kl Kk=mkB 107 1)(ha:kl ka=mkB 107 2)(hb:kl kb=mkB 107 3)(I:In2 Kk ka kb t1 t2 K1 K2 b0 b1 b2 c1 c2)(R:ClD Kk ka K1 t1 t3 t4 ft):∀ b,ClS x b
 | false=>s1 [cA 1000 alive17_s [],cA 3000 (open17_s hk ha hb) [],cA 4005 I.i1 [],fA 7001 g,cA 11004 R.a [],cA 14002 R.b [],cA 17004 (loOut_s (clD ka K1) (ckA ka K1)) [],cA 18004 (loKeys_s (clD ka K1).out rfl) [],cA 25004 (renew0_s (now:=12) (till:=50) (clD ka K1).out) [],cA 26018 crLen0_s [],cA 26041 (gotD_s (clD ka K1).out rfl (nm:=bANN) (m:=mkB 98 5) (n:=16)) [],cA 26050 (loKeys_s (clD ka K1).out rfl) []] [31,16]
 | true=>s1 [cA 1000 alive17_s [],cA 3000 (open17_s hk ha hb) [],cA 4005 I.i1 [],fA 7001 g,cA 11004 R.a [],cA 14002 R.b [],cA 15011 R.c [],cA 17004 (loOut_s ((clD ka K1).told ((6:Nat):Int) bANN true ft) (ckA ka K1)) [],cA 18004 (loKeys_s ((clD ka K1).told ((6:Nat):Int) bANN true ft).out rfl) [],cA 25004 (renew0_s (now:=12) (till:=50) ((clD ka K1).told ((6:Nat):Int) bANN true ft).out) [],cA 26018 crLen0_s [],cA 26041 (gotD_s ((clD ka K1).told ((6:Nat):Int) bANN true ft).out rfl (nm:=bANN) (m:=mkB 98 5) (n:=16)) [],cA 26050 (loKeys_s ((clD ka K1).told ((6:Nat):Int) bANN true ft).out rfl) []] [31,16]
end
end
section
open Go.RowKit Go.QT
section
variable{Kk ka kb K1 K2 K3:Fin 16->UInt8}{t1 t2 t3 t4:STab}{x ft:Int}{b0 b1 b2 c1 c2:Bytes}
set_option maxRecDepth 100000
set_option maxHeartbeats 4000000
theorem cl_2(g:ClM x 2)(hk:kl Kk=mkB 107 1)(ha:kl ka=mkB 107 2)(hb:kl kb=mkB 107 3)(I:In2 Kk ka kb t1 t2 K1 K2 b0 b1 b2 c1 c2)(R:ClLi Kk ka kb K3 t1 t3 t4 (ckA ka K1)):∀ b,ClS x b
 | false=>s1 [cA 1000 alive17_s [],cA 3000 (open17_s hk ha hb) [],cA 4005 I.i1 [],fA 7001 g,cA 13004 R.a [],cA 14002 R.b [],cA 17004 (loOut_s (clL ka) (ckA ka K1)) [],cA 18004 (loKeys_s (clL ka).out rfl) [],cA 25004 (renew0_s (now:=12) (till:=50) (clL ka).out) [],cA 26018 crLen0_s [],cA 26041 (gotA_s (clL ka).out rfl (nm:=bANN) (m:=mkB 98 5) (l:=mkB 98 6) (ts:=bKDC) (n:=16) (n2:=16)) [],cA 26050 (loKeys_s (clL ka).out rfl) []] [32,16]
 | true=>s1 [cA 1000 alive17_s [],cA 3000 (open17_s hk ha hb) [],cA 4005 I.i1 [],fA 7001 g,cA 13004 R.a [],cA 14002 R.b [],cA 15011 R.c [],cA 17004 (loOut_s (clL ka).ended (ckL K3)) [],cA 18004 (loKeys_s (clL ka).ended.out rfl) [],cA 25004 (renew0_s (now:=12) (till:=50) (clL ka).ended.out) [],cA 26018 crLen0_s [],cA 26041 (gotA_s (clL ka).ended.out rfl (nm:=bANN) (m:=mkB 98 5) (l:=mkB 98 6) (ts:=bKDC) (n:=16) (n2:=16)) [],cA 26050 (loKeys_s (clL ka).ended.out rfl) []] [32,16]
end
end
section
open Go.RowKit Go.QT
section
variable{Kk ka kb K1 K2 K3:Fin 16->UInt8}{t1 t2 t3 t4:STab}{x ft:Int}{b0 b1 b2 c1 c2:Bytes}
set_option maxRecDepth 100000
set_option maxHeartbeats 4000000
theorem cl_3(g:ClM x 3)(hk:kl Kk=mkB 107 1)(ha:kl ka=mkB 107 2)(hb:kl kb=mkB 107 3)(I:In2 Kk ka kb t1 t2 K1 K2 b0 b1 b2 c1 c2):∀ b,ClS x b
 | false=>s1 [cA 1000 alive17_s [],cA 3000 (open17_s hk ha hb) [],cA 4005 I.i1 [],fA 7001 g,cA 17004 (loOut_s (clAn ka) (ckA ka K1)) [],cA 18004 (loKeys_s (clAn ka).out rfl) [],cA 25004 (renew0_s (now:=12) (till:=50) (clAn ka).out) [],cA 26018 crLen0_s [],cA 26050 (loKeys_s (clAn ka).out rfl) []] [14,16]
 | true=>s1 [cA 1000 alive17_s [],cA 3000 (open17_s hk ha hb) [],cA 4005 I.i1 [],fA 7001 g,cA 17004 (loOut_s (clAn ka) (ckA ka K1)) [],cA 18004 (loKeys_s (clAn ka).out rfl) [],cA 25004 (renew0_s (now:=12) (till:=50) (clAn ka).out) [],cA 26018 crLen0_s [],cA 26050 (loKeys_s (clAn ka).out rfl) []] [14,16]
end
end
section
open Go.RowKit Go.QT
theorem loginClears_all(x:Int)(b:Bool)(W:World):Calls Tryz.prog 6 #[.int .i64 x,.bool b] W (DPost W (.bool true)):=by
 obtain ⟨k,hk,hk1⟩:=and_mask x 3 (by decide)
 obtain ⟨Kk,hKk⟩:=ex_key 1
 obtain ⟨ka,ha⟩:=ex_key 2
 obtain ⟨kb,hb⟩:=ex_key 3
 obtain ⟨t1,t2,K1,K2,b0,b1,b2,c1,c2,I⟩:=in2 (Kk:=Kk) ha hb
 have g:ClM x k:=by rw [ClM,hk]
 rcases (by omega:k=0∨k=1∨k=2∨k=3) with rfl|rfl|rfl|rfl
 · obtain ⟨K3,t3,t4,R⟩:=clR_s I
   exact law_s (cl_0 g hKk ha hb I R b) W fun _=>rfl
 · obtain ⟨t3,t4,R⟩:=clD_s I
   exact law_s (cl_1 g hKk ha hb I R b) W fun _=>rfl
 · obtain ⟨K3,t3,t4,R⟩:=clL_s ha I
   exact law_s (cl_2 g hKk ha hb I R b) W fun _=>rfl
 exact law_s (cl_3 g hKk ha hb I b) W fun _=>rfl
end
section
open Go.ChangeShapes Go.WideShapes Go.ChangeAt Go.RowKit
theorem loginClears_lifted(os:Os)(started:os.Started)(H:Type)(enc:TypeId × Value->H) :
   ReturnsInHanded {} Tryz.checked os 6 .any (Rows.loginClearsSpec.pre6 enc Tryz.prog Tryz.f6 Rows.loginClearsRow.domain false) (Rows.loginClearsSpec.post enc Tryz.prog Tryz.f6 false true false false):=by
 refine returnsInHanded_of_change (C:=Tryz.checked) Tryz.own started (by kernel_rfl) Tryz.func6
   (ChangeSpec.witness6 (enc:=enc) (C:=Tryz.checked) false ⟨#[],#[.int .i64 0,.bool false],[]⟩ 8 (by kernel_rfl) (by kernel_rfl) (by kernel_rfl) (by kernel_rfl)) ?_
 intro W base args ds gs before hval0 hW hcnd _
 have hval:∀ (j:Nat) t v,Tryz.f6.params[j]?=some t->args[j]?=some v->Value.okWide Tryz.prog W .any base t v:=hval0
 have hpost:∀ W',Below W.heap.size W W'->Rows.loginClearsSpec.post enc Tryz.prog Tryz.f6 false true false false W args (.bool true) W':=fun W' hb =>
   law_post Tryz.laidOut (by kernel_rfl) Tryz.underlying4 rfl rfl (fun ds hds=>by
     have hn:ds.length=2:=hds
     match ds,hn with
     | [_,_],_=>rfl) hW hb
 obtain ⟨p,q,hA0,hV,rfl,hfz,hnd⟩:=hW
 have hA:DataW.TrodAll enc Tryz.prog W 0 (fun _=>true) true Tryz.f6.params.toList args.toList ds p:=hA0
 rw [Tryz.params6] at hA hval
 clear hA0 hval0
 obtain ⟨v0,v1,d0,d1,p0,p1,rfl,rfl,rfl,h0,h1⟩:=trodAll_two hA
 obtain ⟨n0,rfl,rfl,rfl,hn0⟩:=open_int (t:=3) (k:=.i64) (by kernel_rfl) (hval 0 3 v0 rfl rfl) h0
 obtain ⟨m1,rfl,rfl,rfl⟩:=open_bool (t:=4) (by kernel_rfl) (hval 1 4 v1 rfl rfl) h1
 refine (loginClears_all n0 m1 W).mono fun e W' ⟨he,hw⟩=>?_
 subst he
 exact ⟨_,rfl,hpost W' hw⟩
theorem loginClears_holds:Rows.LoginClearsSaid:=
 OpenClaim.holds_of_wide 6 Tryz.f6 rfl rfl rfl rfl rfl rfl rfl ⟨rfl,rfl,rfl,rfl,rfl⟩ rfl rfl rfl rfl rfl (by kernel_rfl) Tryz.func6 (by kernel_rfl)
   (of_decide_eq_true (by kernel_rfl)) (by unfold Func.isWrapper;first|(rw [if_pos (by decide +kernel)];kernel_rfl)|(rw [if_neg (by decide +kernel)];exact ⟨rfl,rfl⟩))
   (fun os started H enc _=>loginClears_lifted os started H enc)
end
end Go.Proofs.YtaoijkhndakppaaGreat
