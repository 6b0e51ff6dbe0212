/- The row of LoginAsks: for every input the law returns true and what came in reads as it did. -/
import Derived.ChangeMaps5
import Derived.Test.YtaoijkhndakppaaGreatCA16
set_option maxRecDepth 100000
set_option maxHeartbeats 4000000
namespace Go.Proofs.YtaoijkhndakppaaGreat
section
open Go.RowKit Go.QT
/-- What Set leaves. -/
def BookP(G:Nat->Prop)(bk ec:Nat)(o:Option (ByteArray × Int))(w:World)(e:Ending)(w':World):Prop:=e=.returned (.int .i64 (ec:Int))/\∃ G',Hp G w w' [] [rBk G' bk o]
theorem bmfNone{s:ByteArray}:bmF none s=none:=rfl
theorem bmfNe{s a:ByteArray}{t:Int}(h:s≠a):bmF (some (a,t)) s=none:=by exact if_neg h
theorem bmfEq{s a:ByteArray}{t:Int}(h:s=a):bmF (some (a,t)) s=some (0,.int .i64 t):=by exact if_pos h
theorem nright_dp(s:ByteArray)(w:World)(hs:s.size<=1000000000):Calls Tryz.prog 115 #[.string s] w (DPost w (.bool (rightN s))):=nright_any s w hs
theorem bkSet_late{G:Nat->Prop}{bk:Nat}{o:Option (ByteArray × Int)}{s:ByteArray}{now t:Int}{w:World}(hB:(rBk G bk o).Φ w)(hr:rightN s=true)(hsz:s.size<=1000000000)(hs:∀ p,o=some p->p.1=s)(ht:t<=now):Calls Tryz.prog 88 #[pt bk 0,.int .i64 now,.string s,.int .i64 t] w (BookP G bk 12 none w):=by
 obtain ⟨mb,hG,h00⟩:=(Hp.one (rBk G bk o) hB).openBk 0 rfl
 have h0:=(show Hp G w w [] (lBk bk mb o++[]) from h00)
 refine mE 67 ?_
 refine mT (x_dp (v:=.bool true) h0 115 [(Value.string s)] (by kernel_rfl) (hr ▸ nright_dp _ _ hsz)) ?_
 rintro _ w4 ⟨rfl,h4⟩
 refine mX 18 (.bool true) (Value.bool (decide (t<=now))) (by simp;omega) ?_
 refine ma h4 0 ?_
 refine mT (x_bmDel h4 1 rfl (.tmp 22) (.tmp 23) 9 (by kernel_rfl) s (by kernel_rfl) (by kernel_rfl) hs) fun _ w8 h8=>?_
 refine mP (Value.int .i64 12) ?_
 exact ⟨rfl,_,(show Hp _ _ _ _ (lBk bk mb none++[]) from h8.sel [0,1] [] rfl rfl rfl).closeBk⟩
theorem bkSet_0{G:Nat->Prop}{bk:Nat}{s:ByteArray}{now t:Int}{w:World}(hB:(rBk G bk none).Φ w)(hr:rightN s=true)(hsz:s.size<=1000000000)(ht:now<t) :Calls Tryz.prog 88 #[pt bk 0,.int .i64 now,.string s,.int .i64 t] w (BookP G bk 0 (some (s,t)) w):=by
 obtain ⟨mb,hG,h00⟩:=(Hp.one (rBk G bk none) hB).openBk 0 rfl
 have h0:=(show Hp G w w [] (lBk bk mb none++[]) from h00)
 refine mE 67 ?_
 refine mT (x_dp (v:=.bool true) h0 115 [(Value.string s)] (by kernel_rfl) (hr ▸ nright_dp _ _ hsz)) ?_
 rintro _ w4 ⟨rfl,h4⟩
 refine mX 18 (.bool false) (Value.bool (decide (t<=now))) (by simp;omega) ?_
 refine ma h4 0 ?_
 refine mT (x_bmRange h4 1 rfl (.tmp 27) (by kernel_rfl) (by kernel_rfl)) ?_
 rintro _ w9 ⟨r9,rfl,h9⟩
 refine mL (fun mM xX aA wL=>(mM=0/\aA=patch xX 67 [(0,(pt bk 0)),(1,(Value.int .i64 now)),(2,(Value.string s)),(3,(Value.int .i64 t)),(8,(Value.int .i64 0)),(28,(pt r9 0))]/\Hp G w wL [] [rBlk bk 266 ([(Value.map (some mb))]),rBi mb r9 none false])) ⟨_,_,⟨rfl,pM,h9⟩⟩ ?_
 rintro _ x11 _ w11 (⟨rfl,rfl,h11⟩) KL11 hKL11
 refine mAt ?_
 refine mT (x_bmOver h11 1 rfl (.inr rfl) (.tmp 28) (by kernel_rfl) (by kernel_rfl)) ?_
 rintro _ w13 ⟨rfl,h13⟩
 refine ma h13 0 ?_
 refine mW 48 (v:=(Value.tuple #[(Value.int .i64 0),(Value.bool false)])) (e_bmLook (h13.at_ 1 rfl) (.tmp 46) (.tmp 47) (by kernel_rfl) s (by kernel_rfl) (by kernel_rfl) (Value.tuple #[(Value.int .i64 0),(Value.bool false)]) (by rw [bmfNone])) ?_
 refine ma h13 0 ?_
 refine mW 58 (v:=(Value.int .i64 0)) (e_bmLen (h13.at_ 1 rfl) (.tmp 57) (by kernel_rfl) (by kernel_rfl) 0 rfl) ?_
 refine ma h13 0 ?_
 refine mT (x_bmUpd h13 1 rfl (.tmp 64) (.tmp 65) (.tmp 66) (by kernel_rfl) s t (by kernel_rfl) (by kernel_rfl) (by kernel_rfl) (fun _ hh=>by cases hh)) fun _ w19 h19=>?_
 refine mP (Value.int .i64 0) ?_
 exact ⟨rfl,_,(show Hp _ _ _ _ (lBk bk mb (some (s,t))++[]) from h19.sel [0,1] [] rfl rfl rfl).closeBk⟩
theorem bkFind_no{bk mb:Nat}{o:Option (ByteArray × Int)}{s:ByteArray}{now:Int}{w:World}(h0:Hp (fun _=>False) w w [rBlk bk 266 [.map (some mb)],rBm mb o] [])(hf:bmF o s=none):Calls Tryz.prog 89 #[pt bk 0,.int .i64 now,.string s] w (DPost w (.tuple #[.int .i64 0,.bool false])):=by
 have h0:=h0
 refine mE 27 ?_
 refine mr h0 0 ?_
 refine mW 16 (v:=(Value.tuple #[(Value.int .i64 0),(Value.bool false)])) (e_bmLook (h0.rd 1 rfl) (.tmp 14) (.tmp 15) (by kernel_rfl) s (by kernel_rfl) (by kernel_rfl) (Value.tuple #[(Value.int .i64 0),(Value.bool false)]) (by rw [hf])) ?_
 exact mQ h0
theorem bkFind_late{bk mb:Nat}{o:Option (ByteArray × Int)}{s:ByteArray}{now t0:Int}{w:World}(h0:Hp (fun _=>False) w w [rBlk bk 266 [.map (some mb)],rBm mb o] [])(hf:bmF o s=some (0,.int .i64 t0))(ht:t0<=now):Calls Tryz.prog 89 #[pt bk 0,.int .i64 now,.string s] w (DPost w (.tuple #[.int .i64 0,.bool false])):=by
 have h0:=h0
 refine mE 27 ?_
 refine mr h0 0 ?_
 refine mW 16 (v:=(Value.tuple #[(Value.int .i64 t0),(Value.bool true)])) (e_bmLook (h0.rd 1 rfl) (.tmp 14) (.tmp 15) (by kernel_rfl) s (by kernel_rfl) (by kernel_rfl) (Value.tuple #[(Value.int .i64 t0),(Value.bool true)]) (by rw [hf])) ?_
 refine mX 24 (.bool true) (Value.bool (decide (t0<=now))) (by simp;omega) ?_
 exact mQ h0
theorem bkFind_yes{bk mb:Nat}{o:Option (ByteArray × Int)}{s:ByteArray}{now t0:Int}{w:World}(h0:Hp (fun _=>False) w w [rBlk bk 266 [.map (some mb)],rBm mb o] [])(hf:bmF o s=some (0,.int .i64 t0))(ht:now<t0):Calls Tryz.prog 89 #[pt bk 0,.int .i64 now,.string s] w (DPost w (.tuple #[.int .i64 t0,.bool true])):=by
 have h0:=h0
 refine mE 27 ?_
 refine mr h0 0 ?_
 refine mW 16 (v:=(Value.tuple #[(Value.int .i64 t0),(Value.bool true)])) (e_bmLook (h0.rd 1 rfl) (.tmp 14) (.tmp 15) (by kernel_rfl) s (by kernel_rfl) (by kernel_rfl) (Value.tuple #[(Value.int .i64 t0),(Value.bool true)]) (by rw [hf])) ?_
 refine mX 24 (.bool false) (Value.bool (decide (t0<=now))) (by simp;omega) ?_
 exact mQ h0
end
section
open Go.RowKit Go.QT
/-- The bytes of what is asked. -/
def qDr(nm:ByteArray)(nn till:Int)(m:Bool)(l:Bytes):Bytes:=wrV (dirD nm nn till m (.ticket bKDC l) [])
theorem qDr_len{nm:ByteArray}{nn till:Int}{m:Bool}{l:Bytes}(hs:nm.size<=300)(hl:l.length<=300):(qDr nm nn till m l).length<=4096:=by
 have a6:=qTk_len (s:=bKDC) (b:=l) (show (3:Nat)<=300 by decide) hl
 have h0:=wrV_leT (dirD nm nn till m (.ticket bKDC l) [])
 have e:bodyV (dirD nm nn till m (.ticket bKDC l) [])=wrL [bD nm.data.toList,nD nn,nD till,nD m.toNat,valD (.ticket bKDC l),bD []]:=rfl
 rw [e] at h0
 have a1:=wr_bD nm.data.toList
 have a2:=wr_nD nn
 have a3:=wr_nD till
 have a4:=wr_nD (m.toNat:Int)
 have a7:=wr_bD []
 rw [size_toList] at a1
 simp only [wrL,List.length_append,List.length_nil] at h0 a7
 unfold qDr
 refine Nat.le_trans h0 ?_
 omega
theorem pack_fact'{n t:Int}{s:ByteArray}{f:Bool}(hr:rightM s [n,t]=true)(hs:s.size<=300):∃ b,packB (.fact n s f t)=.inr b:=by
 refine ⟨_,pack_is hr ?_⟩
 refine Nat.le_trans (val_small (n:=310) ?_ (by simp [valL])) (by decide)
 intro v hv
 simp only [valL,List.mem_cons,List.not_mem_nil,or_false] at hv
 have h2:=wr_bD s.data.toList
 rw [size_toList] at h2
 rcases hv with rfl|rfl|rfl|rfl
 · have:=wr_nD n;omega
 · omega
 · have:=wr_nD (f.toNat:Int);omega
 have:=wr_nD t;omega
section
variable{t s:STab}{K Kk K0 Kn ka:Fin 16->UInt8}{nb n:Nat}{now ta q till nn fn ft:Int}{au b1 b β l:Bytes}{sl:List Sh}{us:List User}{nm nm0:ByteArray}{o o2:Option (ByteArray × Int)}{m ff:Bool}
theorem rThFact(w:World)(n:Int)(s:ByteArray)(f:Bool)(t:Int):(rTh (fun _=>False) (.iface 49 (.agg #[.int .i64 n,.string s,.bool f,.int .i64 t])) (.fact n s f t)).Φ w:=⟨fun _ hf=>hf.elim,rfl⟩
theorem sealFact_s{us:Int}(hp:packB (.fact fn nm ff ft)=.inr b)(hn:t.boxes.length=n)(hs:TabOk t)(hl:nm.size<=100000):Spec Tryz.prog ⟨48,1,[tI,.c (aK K),aI us,.i 49 (.c [aI fn,aS nm,aB ff,aI ft])],[],[eT 0 t],.t [.o 1 16,aI 0],[eT 0 (t.seal (kl K) us b),eB 1 (mkB 98 (n+1))]⟩:=
 tab_s fun κ w F hh hF hT=>by
   have h4:=tseal_any (K:=K) (us:=us) hT hs (rThFact w fn nm ff ft) (fun _ hf=>hf.elim) hl
   rw [show (AV.denL κ [tI,.c (aK K),aI us,.i 49 (.c [aI fn,aS nm,aB ff,aI ft])]).toArray=#[(Value.iface 30 (pt (κ 0).n 0)),(Value.agg (vb (kl K)).toArray),.int .i64 us,(.iface 49 (.agg #[.int .i64 fn,.string nm,.bool ff,.int .i64 ft]))] from by simp only [AV.denL,AV.den,denL_rg]]
   exact h4.mono fun e w' h=>seal_post (by omega) hp hn h
theorem sumDir_s(m:Bool)(hsm:s.sums.length<=1000)(hs:rightN nm=true)(hsl:nm.size<=300)(hn:inN nn=true)(ht:inN till=true)(hl:l.length<=300) :
   Spec Tryz.prog ⟨26,2,[tI,.i 81 (.c [aS nm,aI nn,aI till,aB m,aS bKDC,.o 1 l.length,aN])],[eB 1 l],[eT 0 s],.o 2 16,[eT 0 (s.digest (qDr nm nn till m l)),eB 2 (mkB 100 (s.sumAt (qDr nm nn till m l)+1))]⟩:=
 tab_s fun κ w F hh hF hT=>by
   have h1:=sb_ent (j:=1) (l:=l) hh (by simp)
   exact (sumDir_any (C:=(κ 1).a) (D:=none) (cc:=(κ 1).n) (an:=0) (ca:=0) (m:=m) hT (by omega) h1 (sb_dj hh hF (j:=1) (l:=l) (by simp)) hs (by omega) hn ht ⟨by decide,by omega⟩ right_kdc (qDr_len hsl hl)).mono fun e w' h=>sum_post (by omega) h
theorem sumDirA_s{an:Nat}(m:Bool)(hsm:s.sums.length<=1000)(hs:rightN nm=true)(hsl:nm.size<=300)(hn:inN nn=true)(ht:inN till=true)(hl:l.length<=300) :
   Spec Tryz.prog ⟨26,3,[tI,.i 81 (.c [aS nm,aI nn,aI till,aB m,aS bKDC,.o 1 l.length,.o 2 an])],[eB 1 l,eB 2 au],[eT 0 s],.o 3 16,[eT 0 (s.digest (qDr nm nn till m l)),eB 3 (mkB 100 (s.sumAt (qDr nm nn till m l)+1))]⟩:=
 tab_s fun κ w F hh hF hT=>by
   have h1:=sb_ent (j:=1) (l:=l) hh (by simp)
   exact (sumDir_any (C:=(κ 1).a) (D:=(κ 2).a) (cc:=(κ 1).n) (an:=an) (ca:=(κ 2).n) (m:=m) hT (by omega) h1 (sb_dj hh hF (j:=1) (l:=l) (by simp)) hs (by omega) hn ht ⟨by decide,by omega⟩ right_kdc (qDr_len hsl hl)).mono fun e w' h=>sum_post (by omega) h
theorem bkSet_s{ec:Nat}(h:∀ (G:Nat->Prop) (bk:Nat) (w:World),(rBk G bk o).Φ w->Calls Tryz.prog 88 #[pt bk 0,.int .i64 now,.string nm,.int .i64 till] w (BookP G bk ec o2 w)) :
   Spec Tryz.prog ⟨88,1,[.p 0 0,aI now,aS nm,aI till],[],[eM 0 o],aI (ec:Int),[eM 0 o2]⟩:=
 own_s (fun _ _=>rfl) (fun _=>rfl) fun κ w G _ h1=>h G (κ 0).n w h1
theorem bkFind_s(h:∀ (bk mb:Nat) (w:World),Hp (fun _=>False) w w [rBlk bk 266 [.map (some mb)],rBm mb o] []->Calls Tryz.prog 89 #[pt bk 0,.int .i64 now,.string nm] w (DPost w (.tuple #[.int .i64 ft,.bool ff]))) :
   Spec Tryz.prog ⟨89,1,[.p 0 0,aI now,aS nm],[eM 0 o],[],.t [aI ft,aB ff],[]⟩:=
 pu_s (fun κ=>rfl) fun κ w hh=>by
   obtain ⟨G,h1,_⟩:=re_ent (j:=0) (R:=fun G n=>rBk G n o) hh (by simp)
   obtain ⟨mb,_,h2⟩:=(Hp.one (rBk G (κ 0).n o) h1).openBk 0 rfl
   have h3:HA G w w [] ([]++[rBlk (κ 0).n 266 [.map (some mb)],rBm mb o]):=h2.ha
   have h4:=h3.carve (ro':=[rBlk (κ 0).n 266 [.map (some mb)],rBm mb o]) (fun r hr=>.inr hr)
   rw [show (fun q=>∃ r ∈ ([]:List Res),r.F q)=fun _=>False from funext fun q=>by simp] at h4
   exact h _ mb w h4.hp
set_option maxRecDepth 100000
set_option maxHeartbeats 4000000
abbrev rqD(nm:ByteArray)(nn till:Int)(m:Bool)(n an:Nat):AV:=.c [aS nm,aI nn,aI till,aB m,aS bKDC,.o 6 n,.o 7 an]
/-- Who asks the directory. -/
structure DrW(t:STab)(Kk:Fin 16->UInt8)(k:Tk)(now ta q:Int)(au β:Bytes)(K0:Fin 16->UInt8)(sl:List Sh)(nm:ByteArray)(nn till:Int)(m:Bool):Prop where
 hr:Room 9 t
 ho:openTh t (kl Kk) 2 k.l=.inr (.inside k.f k.K k.c k.a k.u k.r)
 hu:¬ k.u<=now
 ha:openTh t (kl k.K) 7 au=.inr (.authent k.c ta q K0 (mkB 100 (t.sumAt β+1)))
 hnear:nearF now ta=true
 hsl:∀ y ∈ sl,0<=y.t/\y.t<=1099511627776
 hx0:(⟨k.c,ta,q⟩:Sh) ∉ sl
 hmost:sl.length<64
 hsm:t.sums.length<=1000
 hrn:rightN nm=true
 hnm:nm.size<=300
 hn:inN nn=true
 ht:inN till=true
 hl:k.l.length=16
 hβ:qDr nm nn till m k.l=β
 hkc:k.c.size<=1000
theorem whoDir_s(k:Tk)(h:DrW t Kk k now ta q au β K0 sl nm nn till m) :
   Spec Tryz.prog ⟨85,8,[.p 3 0,aI now,.c [aS bKDC,.o 6 k.l.length],.o 7 au.length,.i 81 (rqD nm nn till m k.l.length au.length)],[eK 1 2 Kk,eSv,eB 6 k.l,eB 7 au],[eT 0 t,eC 4 sl],
     .t [k.A,aI 0],[eT 0 (t.digest β),eC 4 (keptF now sl++[⟨k.c,ta,q⟩])]⟩:=by
 obtain ⟨hr,ho,hu,ha,hnear,hsl,hx0,hmost,hsm,hrn,hnm,hn,ht,hl,hβ,hkc⟩:=h
 subst hβ
 exact s1 [cTb 1003 (opened_s (now:=now) hr.ok ho hu),cTb 4010 (openAuth_s (us:=7) ha hr.ok),fA 7004 (neS k.c),cTb 7016 (sumDirA_s (l:=k.l) (an:=au.length) (au:=au) m hsm hrn hnm hn ht (by omega)),cA 7017 (equal_s (l:=mkB 100 (t.sumAt (qDr nm nn till m k.l)+1)) rfl) [],cA 9012 (show_s ⟨k.c,ta,q⟩ hnear hsl hx0 hmost) []]
/-- It is over: nothing is told. -/
theorem dirOver_s(k:Tk)(h:DrW t Kk k now ta q au β K0 sl k.c nn till true)(ho:∀ p,o=some p->p.1=k.c)(ht:min till k.u<=now) :
   Spec Tryz.prog ⟨55,8,[.p 3 0,aI now,rqD k.c nn till true k.l.length au.length],[eK 1 2 Kk,eSv,eB 6 k.l,eB 7 au],[eT 0 t,eC 4 sl,eM 5 o],
     .t [.c [aS ByteArray.empty,aN],aI 12],[eT 0 (t.digest β),eC 4 (keptF now sl++[⟨k.c,ta,q⟩]),eM 5 none]⟩:=
 s1 [cTb 1008 (whoDir_s (q:=q) k h),fA 5004 (neS k.c),fA 7011 (imin till k.u),cA 7012 (bkSet_s (ec:=12) fun G bk w hB=>bkSet_late hB h.hrn (by have:=h.hnm;omega) ho ht) []]
theorem dirSet_s(k:Tk)(h:DrW t Kk k now ta q au β K0 sl k.c nn till true)(ht:now<min till k.u)(hnb:t.boxes.length=nb)(hb:packB (.fact nn k.c true (min till k.u))=.inr b) :
   Spec Tryz.prog ⟨55,8,[.p 3 0,aI now,rqD k.c nn till true k.l.length au.length],[eK 1 2 Kk,eSv,eB 6 k.l,eB 7 au],[eT 0 t,eC 4 sl,eM 5 none],
     .t [.c [aS k.c,.o 8 16],aI 0],[eT 0 ((t.digest β).seal (kl k.K) 13 b),eC 4 (keptF now sl++[⟨k.c,ta,q⟩]),eM 5 (some (k.c,min till k.u)),eB 8 (mkB 98 (nb+1))]⟩:=
 s1 [cTb 1008 (whoDir_s (q:=q) k h),fA 5004 (neS k.c),fA 7011 (imin till k.u),cA 7012 (bkSet_s (ec:=0) (o2:=some (k.c,min till k.u)) fun G bk w hB=>bkSet_0 hB h.hrn (by have:=h.hnm;omega) ht) [],
   cA 10007 (bkFind_s (o:=some (k.c,min till k.u)) fun bk mb w h0=>bkFind_yes h0 (bmfEq rfl) ht) [],cTb 11017 (sealFact_s (K:=k.K) (us:=13) (n:=nb) hb (by rw [dig_boxes,hnb]) (Room.digest (β:=β) h.hr).ok (by have:=h.hnm;omega))]
/-- Somebody is asked for. -/
theorem dirAsk_s(k:Tk)(h:DrW t Kk k now ta q au β K0 sl nm nn till false)(hf:∀ (bk mb:Nat) (w:World),Hp (fun _=>False) w w [rBlk bk 266 [.map (some mb)],rBm mb o] []->Calls Tryz.prog 89 #[pt bk 0,.int .i64 now,.string nm] w (DPost w (.tuple #[.int .i64 ft,.bool ff])))(hnb:t.boxes.length=nb)(hb:packB (.fact nn nm ff ft)=.inr b) :
   Spec Tryz.prog ⟨55,8,[.p 3 0,aI now,rqD nm nn till false k.l.length au.length],[eK 1 2 Kk,eSv,eB 6 k.l,eB 7 au,eM 5 o],[eT 0 t,eC 4 sl],
     .t [.c [aS k.c,.o 8 16],aI 0],[eT 0 ((t.digest β).seal (kl k.K) 13 b),eC 4 (keptF now sl++[⟨k.c,ta,q⟩]),eB 8 (mkB 98 (nb+1))]⟩:=
 s1 [cTb 1008 (whoDir_s (q:=q) k h),cA 10007 (bkFind_s (o:=o) hf) [],cTb 11017 (sealFact_s (K:=k.K) (us:=13) (n:=nb) hb (by rw [dig_boxes,hnb]) (Room.digest (β:=β) h.hr).ok (by have:=h.hnm;omega))]
/-! ### At the stage -/
abbrev rqS(nm:ByteArray)(nn till:Int)(m:Bool)(n an:Nat):AV:=.i 81 (.c [aS nm,aI nn,aI till,aB m,aS bKDC,.o 9 n,.o 10 an])
theorem askOver_s(k:Tk)(h:DrW t Kk k now ta q au β K0 sl k.c nn till true)(ho:∀ p,o=some p->p.1=k.c)(ht:min till k.u<=now) :
   Spec Tryz.prog ⟨14,11,[.p 6 0,aI now,aS nm0,rqS k.c nn till true k.l.length au.length],[eG,eSv,eK 1 2 Kk,eB 9 k.l,eB 10 au],[eT 0 t,eC 4 sl,eM 5 o],
     failV nm0 12 nn,[eT 0 (t.digest β),eC 4 (keptF now sl++[⟨k.c,ta,q⟩]),eM 5 none]⟩:=
 s1 [cTb 16006 (dirOver_s (q:=q) k h ho ht)]
theorem askSet_s(k:Tk)(h:DrW t Kk k now ta q au β K0 sl k.c nn till true)(ht:now<min till k.u)(hnb:t.boxes.length=nb)(hb:packB (.fact nn k.c true (min till k.u))=.inr b) :
   Spec Tryz.prog ⟨14,11,[.p 6 0,aI now,aS nm0,rqS k.c nn till true k.l.length au.length],[eG,eSv,eK 1 2 Kk,eB 9 k.l,eB 10 au],[eT 0 t,eC 4 sl,eM 5 none],
     .i 147 (.c [aS k.c,.o 11 16]),[eT 0 ((t.digest β).seal (kl k.K) 13 b),eC 4 (keptF now sl++[⟨k.c,ta,q⟩]),eM 5 (some (k.c,min till k.u)),eB 11 (mkB 98 (nb+1))]⟩:=
 s1 [cTb 16006 (dirSet_s (q:=q) k h ht hnb hb)]
theorem askAsk_s(k:Tk)(h:DrW t Kk k now ta q au β K0 sl nm nn till false)(hf:∀ (bk mb:Nat) (w:World),Hp (fun _=>False) w w [rBlk bk 266 [.map (some mb)],rBm mb o] []->Calls Tryz.prog 89 #[pt bk 0,.int .i64 now,.string nm] w (DPost w (.tuple #[.int .i64 ft,.bool ff])))(hnb:t.boxes.length=nb)(hb:packB (.fact nn nm ff ft)=.inr b) :
   Spec Tryz.prog ⟨14,11,[.p 6 0,aI now,aS nm0,rqS nm nn till false k.l.length au.length],[eG,eSv,eK 1 2 Kk,eB 9 k.l,eB 10 au,eM 5 o],[eT 0 t,eC 4 sl],
     .i 147 (.c [aS k.c,.o 11 16]),[eT 0 ((t.digest β).seal (kl k.K) 13 b),eC 4 (keptF now sl++[⟨k.c,ta,q⟩]),eB 11 (mkB 98 (nb+1))]⟩:=
 s1 [cTb 16006 (dirAsk_s (q:=q) k h hf hnb hb)]
/-- Who asks it. -/
theorem loAsk_s(c:Cl)(d:Ck)(hr:Room 9 s)(hsm:s.sums.length<=1000)(hrn:rightN nm=true)(hnm0:nm.size<=300)(hn:s.keys.length+1=n)(hKn:kl Kn=mkB 107 n)(ht:inN till=true)(hq:0<=c.q/\c.q<=1000000)(hk:¬ d.en<=now)
   (hm:d.m.length=16) (hβ:qDr nm (n:Int) till m d.m=β) (hnb:s.boxes.length=nb) (hnm:c.nm.size<=1000)
   (hb:packB (.authent c.nm now (c.q+1) zKy (mkB 100 ((s.add SFrom.fresh).sumAt β+1)))=.inr b) :
   Spec Tryz.prog ⟨29,4,[.p 1 0,aI now,aI till,aS nm,aB m],[eB 3 d.m],[eT 0 s,.blk 1 51 (c.c 2),.blk 2 162 (st1 (d.at bKDC 3))],
     .t [.c [aS nm,aI (n:Int),aI till,aB m,aS bKDC,.o 4 d.m.length,.o 5 16],aI 0],[eT 0 (shS (s.add SFrom.fresh) β d.K 7 b),.blk 1 51 ((c.shown.asks 4 nm d.K (n:Int)).c 2),.blk 2 162 (st1 (d.at bKDC 3)),eB 4 d.m,eB 5 (mkB 98 (nb+1))]⟩:=by
 subst hβ
 have hk9:=hr.key
 exact s1 [cA 1005 (crGet1_s now d hk) [],cTb 4005 (number_s (by rw [hKn,hn]) hn (by omega)),fA 1001004 (w64 (x:=c.q+1) (by omega) (by omega)),
   cTb 1002021 (sumDir_s (l:=d.m) (s:=s.add SFrom.fresh) (nn:=(n:Int)) m hsm hrn hnm0 (inN_is (by omega) (by omega)) ht (by omega)),
   cTb 1002024 (sealAuth_s (K:=d.K) (us:=7) hb (n:=nb) (by rw [dig_boxes];exact hnb) (Room.digest (β:=qDr nm (n:Int) till m d.m) (hr.add SFrom.fresh)).ok (by omega) (by rw [mkB_len];decide))] [22,49]
end
end
section
open Go.RowKit Go.QT
abbrev clAn(ka:Fin 16->UInt8):Cl:=((Cl.new bANN).shown.asks 1 bKDC ka ((4:Nat):Int)).ended
abbrev clBo(kb:Fin 16->UInt8):Cl:=((Cl.new bBOB).shown.asks 1 bKDC kb ((6:Nat):Int)).ended
abbrev ckA(ka K1:Fin 16->UInt8):Ck:=inC 1 K1 10 (10+600) (uAn ka)
abbrev ckB(kb K2:Fin 16->UInt8):Ck:=inC 4 K2 10 (10+600) (uBo kb)
abbrev tkA(K1:Fin 16->UInt8):Tk:=⟨K1,bANN,5,10,min (10+600) (10+100),10+500,mkB 98 2⟩
abbrev tkB(K2:Fin 16->UInt8):Tk:=⟨K2,bBOB,5,10,min (10+600) (10+60),10+500,mkB 98 5⟩
structure In2(Kk ka kb:Fin 16->UInt8)(t1 t2:STab)(K1 K2:Fin 16->UInt8)(b0 b1 b2 c1 c2:Bytes):Prop where
 i1:Spec Tryz.prog ⟨28,11,[.p 6 0,.p 9 0,aS bANN,aS pwA,aI 10],[eG,eSv,eK 1 2 Kk,eU 2 [uAn ka,uBo kb]],[eT 0 opS,.blk 9 51 ((Cl.new bANN).c 10),.blk 10 162 st0],aB true,
     [eT 0 t1,.blk 9 51 ((clAn ka).c 10),.blk 10 162 (st1 ((ckA ka K1).at bKDC 11)),eB 11 (mkB 98 2)]⟩
 i2:Spec Tryz.prog ⟨28,11,[.p 6 0,.p 9 0,aS bBOB,aS pwB,aI 10],[eG,eSv,eK 1 2 Kk,eU 2 [uAn ka,uBo kb]],[eT 0 t1,.blk 9 51 ((Cl.new bBOB).c 10),.blk 10 162 st0],aB true,
     [eT 0 t2,.blk 9 51 ((clBo kb).c 10),.blk 10 162 (st1 ((ckB kb K2).at bKDC 11)),eB 11 (mkB 98 5)]⟩
 T1:TS t1 5 ([]++[⟨kl ka,1,b0⟩]++[⟨kl Kk,2,b1⟩]++[⟨kl ka,3,b2⟩]) knS
 T2:TS t2 7 ([]++[⟨kl ka,1,b0⟩]++[⟨kl Kk,2,b1⟩]++[⟨kl ka,3,b2⟩]++[⟨kl kb,1,b0⟩]++[⟨kl Kk,2,c1⟩]++[⟨kl kb,3,c2⟩]) knS
 s1:t1.sums=[]
 s2:t2.sums=[]
 e1:kl K1=mkB 107 5
 e2:kl K2=mkB 107 7
 p1:packB (.inside 5 K1 bANN 10 (min (10+600) (10+100)) (10+500))=.inr b1
 r1:packB (.inside 5 K2 bBOB 10 (min (10+600) (10+60)) (10+500))=.inr c1
set_option maxRecDepth 100000
set_option maxHeartbeats 4000000
theorem in2{Kk ka kb:Fin 16->UInt8}(ha:kl ka=mkB 107 2)(hb:kl kb=mkB 107 3):∃ t1 t2 K1 K2 b0 b1 b2 c1 c2,In2 Kk ka kb t1 t2 K1 K2 b0 b1 b2 c1 c2:=by
 obtain ⟨N1,hN1⟩:=ex_key 4
 obtain ⟨K1,hK1⟩:=ex_key 5
 obtain ⟨N2,hN2⟩:=ex_key 6
 obtain ⟨K2,hK2⟩:=ex_key 7
 obtain ⟨b0,p0⟩:=pack_stamp (t:=10) (q:=0+1) (by decide) (by decide)
 obtain ⟨b1,p1⟩:=pack_inside (f:=5) (K:=K1) (s:=bANN) (a:=10) (u:=min (10+600) (10+100)) (r:=10+500) (rightM_is right_ann (by decide)) (by decide)
 obtain ⟨b2,p2⟩:=pack_reply (f:=5) (K:=K1) (n:=(4:Nat)) (s:=bKDC) (a:=10) (u:=min (10+600) (10+100)) (r:=10+500) (rightM_is right_kdc (by decide)) (by decide)
 obtain ⟨c1,r1⟩:=pack_inside (f:=5) (K:=K2) (s:=bBOB) (a:=10) (u:=min (10+600) (10+60)) (r:=10+500) (rightM_is right_bob (by decide)) (by decide)
 obtain ⟨c2,r2⟩:=pack_reply (f:=5) (K:=K2) (n:=(6:Nat)) (s:=bKDC) (a:=10) (u:=min (10+600) (10+60)) (r:=10+500) (rightM_is right_kdc (by decide)) (by decide)
 have T0:=TS.op
 have T1:TS (inS opS pwA (uAn ka) Kk b0 b1 b2) 5 _ knS:=T0.inn (uAn ka) (m:=2) fnA (pack_le6 p0) (pack_le6 p1) (pack_le6 p2)
 have T2:TS (inS (inS opS pwA (uAn ka) Kk b0 b1 b2) pwB (uBo kb) Kk b0 c1 c2) 7 _ knS:=T1.inn (uBo kb) (m:=3) fnB (pack_le6 p0) (pack_le6 r1) (pack_le6 r2)
 have hs1:(inS opS pwA (uAn ka) Kk b0 b1 b2).sums=[]:=by rw [in_sums];unfold opS;rw [made_sums,made_sums];rfl
 have hs2:(inS (inS opS pwA (uAn ka) Kk b0 b1 b2) pwB (uBo kb) Kk b0 c1 c2).sums=[]:=by rw [in_sums,hs1]
 have h32:[uAn ka,uBo kb].length<=1000000:=by simp
 have m0:=T0.made_old (f:=textF pwA bANN) rfl fnA
 have m1:=T1.made_old (f:=textF pwB bBOB) rfl fnB
 have i1:=in17_s (Kk:=Kk) (K:=K1) (Kn:=N1) (t:=opS) (nb:=0) (n:=4) (pw:=pwA) (now:=10) (us:=[uAn ka,uBo kb]) (Cl.new bANN) (uAn ka) rfl (T0.room 20 (by decide) (by decide)) (congrArg List.length T0.boxes) (congrArg (· + 1) m0.1.keys) (ha.trans (congrArg (mkB 107) m0.2.symm)) hN1 hK1 (by decide) h32 plA.1 plA.2 (by decide) (by decide) (show (0:Int)<100/\(100:Int)<=600 by decide) (show (0:Int)<500/\(500:Int)<=6000 by decide) (show (3:Nat)<=1000 by decide) p0 p1 p2
 have i2:=in17_s (Kk:=Kk) (K:=K2) (Kn:=N2) (t:=inS opS pwA (uAn ka) Kk b0 b1 b2) (nb:=3) (n:=6) (pw:=pwB) (now:=10) (us:=[uAn ka,uBo kb]) (Cl.new bBOB) (uBo kb) rfl (T1.room 20 (by decide) (show 3+20<1000000 by decide)) (congrArg List.length T1.boxes) (congrArg (· + 1) m1.1.keys) (hb.trans (congrArg (mkB 107) m1.2.symm)) hN2 hK2 (by decide) h32 plB.1 plB.2 (by decide) (by decide) (show (0:Int)<60/\(60:Int)<=600 by decide) (show (0:Int)<500/\(500:Int)<=6000 by decide) (show (3:Nat)<=1000 by decide) p0 r1 r2
 exact ⟨_,_,K1,K2,b0,b1,b2,c1,c2,i1,i2,T1,T2,hs1,hs2,hK1,hK2,p1,r1⟩
end
section
open Go.RowKit Go.QT
/-- A law that holds nothing. -/
theorem law_s{f:FuncId}{al:List AV}{args:Array Value}(h:Spec Tryz.prog ⟨f,0,al,[],[],aB true,[]⟩)(W:World)(ha:∀ κ,(AV.denL κ al).toArray=args):Calls Tryz.prog f args W (DPost W (.bool true)):=by
 have κ:Kp:=fun _=>⟨0,none,rSB (.slice none 0 0) []⟩
 have h0:=h.calls κ W ⟨by rw [foot_nil];exact (Hp.nil _ W).ha,fun e he=>absurd he List.not_mem_nil,fun e he=>absurd he List.not_mem_nil⟩
 rw [ha κ] at h0
 refine h0.mono fun e w' ⟨κ',_,e1,h1⟩=>⟨e1,?_⟩
 have h2:=h1.ha.hp
 rw [foot_nil] at h2
 exact h2.below0
section
variable{pw:ByteArray}{now x y:Int}
set_option maxRecDepth 100000
set_option maxHeartbeats 4000000
end
end
section
open Go.RowKit Go.QT
theorem openTh_some{t:STab}{k l:Bytes}{u:Int}{x:Thing}(h:openTh t k u l=.inr x):∃ body,t.open_ k u l=some body/\unpB body=.inr x:=by
 unfold openTh at h
 cases ho:t.open_ k u l with
 | none=>rw [ho] at h;cases h
 | some b=>rw [ho] at h;exact ⟨b,rfl,h⟩
theorem rright_s{s:ByteArray}(hs:s.size<=1000000000){b:Bool}(hb:rightN s=b):Spec Tryz.prog ⟨27,0,[aS s],[],[],aB b,[]⟩:=
 pu_s (fun κ=>rfl) fun κ w _=>by rw [← hb];exact rright_any s hs w
section
variable{t:STab}{Kk ka kb K1 K2:Fin 16->UInt8}{nm:ByteArray}{x y:Int}{k j nb:Nat}{bx:List SSealed}{sl:List Sh}{o:Option (ByteArray × Int)}{ff:Bool}{ft:Int}{b1:Bytes}
set_option maxRecDepth 100000
set_option maxHeartbeats 4000000
theorem iN(z:Int)(h1:0<=z)(h2:z<=1099511627776):inN z=true:=inN_is h1 h2
/-- Ann asks for somebody. -/
structure AnnAsk(Kk ka K1:Fin 16->UInt8)(t:STab)(nb:Nat)(nm:ByteArray)(j:Nat)(sl:List Sh)(o:Option (ByteArray × Int))(ff:Bool)(ft:Int)(t5 t6:STab):Prop where
 a:Spec Tryz.prog ⟨29,4,[.p 1 0,aI (10+(j:Int)),aI 0,aS nm,aB false],[eB 3 (mkB 98 2)],[eT 0 t,.blk 1 51 ((clAn ka).c 2),.blk 2 162 (st1 ((ckA ka K1).at bKDC 3))],
     .t [.c [aS nm,aI ((9:Nat):Int),aI 0,aB false,aS bKDC,.o 4 16,.o 5 16],aI 0],[eT 0 t5,.blk 1 51 (((clAn ka).shown.asks 4 nm K1 ((9:Nat):Int)).c 2),.blk 2 162 (st1 ((ckA ka K1).at bKDC 3)),eB 4 (mkB 98 2),eB 5 (mkB 98 (nb+1))]⟩
 b:Spec Tryz.prog ⟨14,11,[.p 6 0,aI (10+(j:Int)),aS bANN,rqS nm ((9:Nat):Int) 0 false 16 16],[eG,eSv,eK 1 2 Kk,eB 9 (mkB 98 2),eB 10 (mkB 98 (nb+1)),eM 5 o],[eT 0 t5,eC 4 sl],
     .i 147 (.c [aS bANN,.o 11 16]),[eT 0 t6,eC 4 (keptF (10+(j:Int)) sl++[⟨bANN,10+(j:Int),0+1+1⟩]),eB 11 (mkB 98 (nb+2))]⟩
 c:Spec Tryz.prog ⟨13,4,[.p 1 0,.i 147 (.c [aS bANN,.o 3 16])],[eT 0 t6,eB 3 (mkB 98 (nb+2))],[.blk 1 51 (((clAn ka).shown.asks 4 nm K1 ((9:Nat):Int)).c 2)],aI 0,[.blk 1 51 ((((clAn ka).shown.asks 4 nm K1 ((9:Nat):Int)).told ((9:Nat):Int) nm ff ft).c 2)]⟩
theorem annAsk(T:TS t 8 bx knS)(hnb:bx.length=nb)(h20:nb<=20)(hsm:t.sums.length<=10)(hi:bx[1]?=some ⟨kl Kk,2,b1⟩)(p1:packB (.inside 5 K1 bANN 10 (min (10+600) (10+100)) (10+500))=.inr b1)(hr:rightN nm=true)(hsz:nm.size<=60)(hj:j<=63)
   (hsl:∀ y ∈ sl,y.c=bBOB/\0<=y.t/\y.t<=1099511627776) (hlen:sl.length<=10) (hft:0<=ft/\ft<=1000000)
   (hf:∀ (bk mb:Nat) (w:World),Hp (fun _=>False) w w [rBlk bk 266 [.map (some mb)],rBm mb o] []->Calls Tryz.prog 89 #[pt bk 0,.int .i64 (10+(j:Int)),.string nm] w (DPost w (.tuple #[.int .i64 ft,.bool ff]))) :
   ∃ t5 t6,AnnAsk Kk ka K1 t nb nm j sl o ff ft t5 t6:=by
 obtain ⟨N,hN⟩:=ex_key 9
 generalize hβ:qDr nm ((9:Nat):Int) 0 false (mkB 98 2)=β
 obtain ⟨d,q0⟩:=pack_authent (s:=bANN) (t:=10+(j:Int)) (q:=0+1+1) (K:=zKy) (c:=mkB 100 ((t.add SFrom.fresh).sumAt β+1)) (rightM_is right_ann (by intro z hz;simp only [List.mem_cons,List.not_mem_nil,or_false] at hz;apply iN <;> omega)) (by decide) (by rw [mkB_len];decide)
 obtain ⟨f,q1⟩:=pack_fact' (n:=((9:Nat):Int)) (s:=nm) (f:=ff) (t:=ft) (rightM_is hr (by intro z hz;simp only [List.mem_cons,List.not_mem_nil,or_false] at hz;apply iN <;> omega)) (by omega)
 have T5:TS (shS (t.add SFrom.fresh) β K1 7 d) 9 (bx++[⟨kl K1,7,d⟩]) knS:=((T.add (f:=SFrom.fresh) rfl).dig β).seal rfl (pack_le6 q0)
 have hl5:(bx++[⟨kl K1,7,d⟩]:List SSealed).length=nb+1:=by rw [List.length_append,hnb];rfl
 have hi5:(bx++[⟨kl K1,7,d⟩]:List SSealed)[1]?=some ⟨kl Kk,2,b1⟩:=by
   have:=(List.getElem?_eq_some_iff.1 hi).1
   rw [List.getElem?_append_left this];exact hi
 have hn5:(bx++[⟨kl K1,7,d⟩]:List SSealed)[nb]?=some ⟨kl K1,7,d⟩:=by rw [← hnb,List.getElem?_append_right (Nat.le_refl _),Nat.sub_self];rfl
 have T6:TS (((shS (t.add SFrom.fresh) β K1 7 d).digest β).seal (kl K1) 13 f) 9 (bx++[⟨kl K1,7,d⟩]++[⟨kl K1,13,f⟩]) knS:=(T5.dig β).seal rfl (pack_le6 q1)
 have hn6:(bx++[⟨kl K1,7,d⟩]++[⟨kl K1,13,f⟩]:List SSealed)[nb+1]?=some ⟨kl K1,13,f⟩:=by rw [← hl5,List.getElem?_append_right (Nat.le_refl _),Nat.sub_self];rfl
 have hs5:(shS (t.add SFrom.fresh) β K1 7 d).sums.length<=1000:=by
   have:=dig_len (s:=t.add SFrom.fresh) (β:=β) (n:=10) hsm
   exact Nat.le_trans this (by decide)
 have hsa:(shS (t.add SFrom.fresh) β K1 7 d).sumAt β=(t.add SFrom.fresh).sumAt β:=sh_sumAt
 have r5:=T5.room 9 (by decide) (by omega)
 have a:=loAsk_s (s:=t) (Kn:=N) (n:=9) (nb:=nb) (nm:=nm) (now:=10+(j:Int)) (till:=0) (m:=false) (b:=d) (clAn ka) (ckA ka K1) (T.room 9 (by decide) (by omega)) (by omega) hr (by omega) (congrArg (· + 1) T.keys) hN (iN 0 (by omega) (by omega)) (show (0:Int)<=0+1/\(0:Int)+1<=1000000 by decide) (show ¬ min ((10:Int)+600) (10+100)<=10+(j:Int) by omega) (mkB_len _ _) hβ ((congrArg List.length T.boxes).trans hnb) (show (3:Nat)<=1000 by decide) q0
 have W:DrW (shS (t.add SFrom.fresh) β K1 7 d) Kk (tkA K1) (10+(j:Int)) (10+(j:Int)) (0+1+1) (mkB 98 (nb+1)) β zKy sl nm ((9:Nat):Int) 0 false:=
   ⟨r5,T5.opn hi5 p1 (by decide),(show ¬ min ((10:Int)+600) (10+100)<=10+(j:Int) by omega),by rw [hsa];exact T5.opn hn5 q0 (by omega),near_now (by omega) (by omega),fun y hy=>(hsl y hy).2,fun h=>absurd (hsl _ h).1 (show bANN≠bBOB by decide),by omega,hs5,hr,by omega,iN _ (by omega) (by omega),iN _ (by omega) (by omega),mkB_len _ _,hβ,show (3:Nat)<=1000 by decide⟩
 have b:=askAsk_s (nm0:=bANN) (nb:=nb+1) (b:=f) (tkA K1) W hf ((congrArg List.length T5.boxes).trans hl5) q1
 obtain ⟨body,u1,u2⟩:=openTh_some (T6.opn hn6 q1 (by omega))
 have c:=gotDir_s (K:=K1) (n:=((9:Nat):Int)) (clAn ka).shown nm ff ft (T6.room 9 (by decide) (by rw [List.length_append,hl5];show nb+1+1+9<_;omega)).ok u1 u2
 rw [mkB_len] at c
 rw [show (tkA K1).l.length=16 from mkB_len _ _,mkB_len] at b
 rw [show (ckA ka K1).m.length=16 from mkB_len _ _] at a
 exact ⟨_,_,a,b,c⟩
end
end
section
open Go.RowKit Go.QT
section
variable{Kk ka kb K1 K2:Fin 16->UInt8}{t1 t2 t3 t4 t5 t6:STab}{nm:ByteArray}{x y:Int}{k j nb:Nat}{bx:List SSealed}{o:Option (ByteArray × Int)}{ff:Bool}{ft:Int}{b0 b1 b2 c1 c2:Bytes}
set_option maxRecDepth 100000
set_option maxHeartbeats 4000000
theorem asks_a(h:60<(nm.size:Int)):Spec Tryz.prog ⟨5,0,[aS nm,aI x,aI y],[],[],aB true,[]⟩:=s1 [cA 1000 alive17_s [],fA 3002 (isT h)]
theorem asks_b(h:¬ 60<(nm.size:Int))(h2:rightN nm=false):Spec Tryz.prog ⟨5,0,[aS nm,aI x,aI y],[],[],aB true,[]⟩:=s1 [cA 1000 alive17_s [],fA 3002 (isF h),cA 3005 (rright_s (by omega) h2) []]
structure AG(nm:ByteArray)(x y:Int)(k j:Nat):Prop where
 sz:¬ 60<(nm.size:Int)
 rn:rightN nm=true
 hx:Value.int .i64 (bits .and .i64 x ((127:Nat):Int))=.int .i64 (k:Int)
 kx:k<=127
 hy:Value.int .i64 (bits .and .i64 y ((63:Nat):Int))=.int .i64 (j:Int)
 jy:j<=63
abbrev tillB(k:Nat)(K2:Fin 16->UInt8):Int:=min (10+(k:Int)) (tkB K2).u
abbrev slB:List Sh:=keptF 10 []++[⟨bBOB,10,0+1+1⟩]
/-- Bob has told the directory; or it was over. -/
structure BobAsk(Kk kb K2:Fin 16->UInt8)(t2 t3:STab)(k:Nat):Prop where
 a:Spec Tryz.prog ⟨29,4,[.p 1 0,aI 10,aI (10+(k:Int)),aS bBOB,aB true],[eB 3 (mkB 98 5)],[eT 0 t2,.blk 1 51 ((clBo kb).c 2),.blk 2 162 (st1 ((ckB kb K2).at bKDC 3))],
     .t [.c [aS bBOB,aI ((8:Nat):Int),aI (10+(k:Int)),aB true,aS bKDC,.o 4 16,.o 5 16],aI 0],[eT 0 t3,.blk 1 51 (((clBo kb).shown.asks 4 bBOB K2 ((8:Nat):Int)).c 2),.blk 2 162 (st1 ((ckB kb K2).at bKDC 3)),eB 4 (mkB 98 5),eB 5 (mkB 98 7)]⟩
structure BobOver(Kk kb K2:Fin 16->UInt8)(t3 t4:STab):Prop where
 b:Spec Tryz.prog ⟨14,11,[.p 6 0,aI 10,aS bBOB,rqS bBOB ((8:Nat):Int) (10+((0:Nat):Int)) true 16 16],[eG,eSv,eK 1 2 Kk,eB 9 (mkB 98 5),eB 10 (mkB 98 7)],[eT 0 t3,eC 4 [],eM 5 none],failV bBOB 12 ((8:Nat):Int),[eT 0 t4,eC 4 slB,eM 5 none]⟩
 c:Spec Tryz.prog ⟨13,3,[.p 1 0,.i 151 (.c [aS bBOB,aI 12,aI ((8:Nat):Int)])],[],[.blk 1 51 (((clBo kb).shown.asks 4 bBOB K2 ((8:Nat):Int)).c 2)],aI 0,[.blk 1 51 (((clBo kb).shown.asks 4 bBOB K2 ((8:Nat):Int)).ended.c 2)]⟩
structure BobSet(Kk kb K2:Fin 16->UInt8)(t3 t4:STab)(k:Nat):Prop where
 b:Spec Tryz.prog ⟨14,11,[.p 6 0,aI 10,aS bBOB,rqS bBOB ((8:Nat):Int) (10+(k:Int)) true 16 16],[eG,eSv,eK 1 2 Kk,eB 9 (mkB 98 5),eB 10 (mkB 98 7)],[eT 0 t3,eC 4 [],eM 5 none],
     .i 147 (.c [aS bBOB,.o 11 16]),[eT 0 t4,eC 4 slB,eM 5 (some (bBOB,tillB k K2)),eB 11 (mkB 98 8)]⟩
 c:Spec Tryz.prog ⟨13,4,[.p 1 0,.i 147 (.c [aS bBOB,.o 3 16])],[eT 0 t4,eB 3 (mkB 98 8)],[.blk 1 51 (((clBo kb).shown.asks 4 bBOB K2 ((8:Nat):Int)).c 2)],aI 0,[.blk 1 51 ((((clBo kb).shown.asks 4 bBOB K2 ((8:Nat):Int)).told ((8:Nat):Int) bBOB true (tillB k K2)).c 2)]⟩
theorem bobAsk(I:In2 Kk ka kb t1 t2 K1 K2 b0 b1 b2 c1 c2)(hk:k<=127):∃ t3 d,BobAsk Kk kb K2 t2 t3 k /\
   TS t3 8 ([]++[⟨kl ka,1,b0⟩]++[⟨kl Kk,2,b1⟩]++[⟨kl ka,3,b2⟩]++[⟨kl kb,1,b0⟩]++[⟨kl Kk,2,c1⟩]++[⟨kl kb,3,c2⟩]++[⟨kl K2,7,d⟩]) knS/\t3.sums.length<=1 /\
   DrW t3 Kk (tkB K2) 10 10 (0+1+1) (mkB 98 7) (qDr bBOB ((8:Nat):Int) (10+(k:Int)) true (mkB 98 5)) zKy [] bBOB ((8:Nat):Int) (10+(k:Int)) true:=by
 obtain ⟨N,hN⟩:=ex_key 8
 generalize hβ:qDr bBOB ((8:Nat):Int) (10+(k:Int)) true (mkB 98 5)=β
 obtain ⟨d,q0⟩:=pack_authent (s:=bBOB) (t:=10) (q:=0+1+1) (K:=zKy) (c:=mkB 100 ((t2.add SFrom.fresh).sumAt β+1)) (rightM_is right_bob (by decide)) (by decide) (by rw [mkB_len];decide)
 have T2:=I.T2
 have T3:TS (shS (t2.add SFrom.fresh) β K2 7 d) 8 _ knS:=((T2.add (f:=SFrom.fresh) rfl).dig β).seal rfl (pack_le6 q0)
 have hs3:(shS (t2.add SFrom.fresh) β K2 7 d).sums.length<=1:=dig_len (s:=t2.add SFrom.fresh) (β:=β) (n:=0) (by show t2.sums.length<=0;rw [I.s2];exact Nat.le_refl _)
 have hsa:(shS (t2.add SFrom.fresh) β K2 7 d).sumAt β=(t2.add SFrom.fresh).sumAt β:=sh_sumAt
 have a:=loAsk_s (s:=t2) (Kn:=N) (n:=8) (nb:=6) (nm:=bBOB) (now:=10) (till:=10+(k:Int)) (m:=true) (b:=d) (clBo kb) (ckB kb K2) (T2.room 9 (by decide) (show 6+9<1000000 by decide)) (by rw [I.s2];decide) right_bob (by decide) (congrArg (· + 1) T2.keys) hN (iN _ (by omega) (by omega)) (show (0:Int)<=0+1/\(0:Int)+1<=1000000 by decide) (show ¬ min ((10:Int)+600) (10+60)<=10 by decide) (mkB_len _ _) hβ (congrArg List.length T2.boxes) (show (3:Nat)<=1000 by decide) q0
 rw [show (ckB kb K2).m.length=16 from mkB_len _ _] at a
 exact ⟨_,d,⟨a⟩,T3,hs3,T3.room 9 (by decide) (show 7+9<1000000 by decide),T3.opn (i:=4) rfl I.r1 (by decide),(show ¬ min ((10:Int)+600) (10+60)<=10 by decide),by rw [hsa];exact T3.opn (i:=6) rfl q0 (by decide),near_now (by decide) (by decide),by simp,by simp,by decide,Nat.le_trans hs3 (by decide),right_bob,by decide,iN _ (by decide) (by decide),iN _ (by omega) (by omega),mkB_len _ _,hβ,show (3:Nat)<=1000 by decide⟩
theorem slB_ok:∀ y ∈ slB,y.c=bBOB/\0<=y.t/\y.t<=1099511627776:=by
 intro y hy
 have:y=⟨bBOB,10,0+1+1⟩:=by simpa [slB,keptF] using hy
 subst this;exact ⟨rfl,by decide,by decide⟩
theorem slB_len:slB.length<=10:=by simp [slB,keptF]
theorem asks_over(g:AG nm x y 0 j)(hk:kl Kk=mkB 107 1)(ha:kl ka=mkB 107 2)(hb:kl kb=mkB 107 3)(I:In2 Kk ka kb t1 t2 K1 K2 b0 b1 b2 c1 c2)(A:BobAsk Kk kb K2 t2 t3 0)(B:BobOver Kk kb K2 t3 t4)(C:AnnAsk Kk ka K1 t4 7 nm j slB none false 0 t5 t6):Spec Tryz.prog ⟨5,0,[aS nm,aI x,aI y],[],[],aB true,[]⟩:=by
 obtain ⟨g1,g2,g3,g4,g5,g6⟩:=g
 by_cases hn:nm=bBOB
 · subst hn
   exact s1 [cA 1000 alive17_s [],fA 3002 (isF g1),cA 3005 (rright_s (by omega) g2) [],cA 5000 (open17_s hk ha hb) [],cA 6005 I.i1 [],cA 6013 I.i2 [],fA 8005 g3,cA 8007 A.a [],cA 9007 B.b [],cA 9008 B.c [],fA 10001 g5,fA 10002 (w64 (x:=10+(j:Int)) (by omega) (by omega)),cA 11006 C.a [],cA 12008 C.b [],cA 12009 C.c [],fA 13001 g3,fA 15005 (isF (show ¬ 10+(j:Int)<10 by omega)),seA 17019 49 [.int .i64 ((9:Nat):Int),.string bBOB,.bool false,.int .i64 0] (selfFact _ _ _ _) (by kernel_rfl)]
 exact s1 [cA 1000 alive17_s [],fA 3002 (isF g1),cA 3005 (rright_s (by omega) g2) [],cA 5000 (open17_s hk ha hb) [],cA 6005 I.i1 [],cA 6013 I.i2 [],fA 8005 g3,cA 8007 A.a [],cA 9007 B.b [],cA 9008 B.c [],fA 10001 g5,fA 10002 (w64 (x:=10+(j:Int)) (by omega) (by omega)),cA 11006 C.a [],cA 12008 C.b [],cA 12009 C.c [],fA 13001 g3,fA 15001 (tx_eqF hn),seA 17019 49 [.int .i64 ((9:Nat):Int),.string nm,.bool false,.int .i64 0] (selfFact _ _ _ _) (by kernel_rfl)]
theorem minB:Value.int .i64 (min (10+(k:Int)) 70)=.int .i64 (tillB k K2):=rfl
theorem asks_set(g:AG nm x y k j)(hk1:1<=k)(hk:kl Kk=mkB 107 1)(ha:kl ka=mkB 107 2)(hb:kl kb=mkB 107 3)(I:In2 Kk ka kb t1 t2 K1 K2 b0 b1 b2 c1 c2)(A:BobAsk Kk kb K2 t2 t3 k)(B:BobSet Kk kb K2 t3 t4 k)
   (C:(nm=bBOB/\10+(j:Int)<tillB k K2/\AnnAsk Kk ka K1 t4 8 nm j slB (some (bBOB,tillB k K2)) true (tillB k K2) t5 t6)∨((nm≠bBOB∨tillB k K2<=10+(j:Int))/\AnnAsk Kk ka K1 t4 8 nm j slB (some (bBOB,tillB k K2)) false 0 t5 t6)):Spec Tryz.prog ⟨5,0,[aS nm,aI x,aI y],[],[],aB true,[]⟩:=by
 obtain ⟨g1,g2,g3,g4,g5,g6⟩:=g
 rcases C with ⟨rfl,hl,C⟩|⟨hh,C⟩
 · exact s1 [cA 1000 alive17_s [],fA 3002 (isF g1),cA 3005 (rright_s (by omega) g2) [],cA 5000 (open17_s hk ha hb) [],cA 6005 I.i1 [],cA 6013 I.i2 [],fA 8005 g3,fA 8006 (w64 (x:=10+(k:Int)) (by omega) (by omega)),cA 8007 A.a [],cA 9007 B.b [],cA 9008 B.c [],fA 10001 g5,fA 10002 (w64 (x:=10+(j:Int)) (by omega) (by omega)),cA 11006 C.a [],cA 12008 C.b [],cA 12009 C.c [],fA 13001 g3,fA 13002 (w64 (x:=10+(k:Int)) (by omega) (by omega)),fA 13003 ((imin (10+(k:Int)) 70).trans (minB (K2:=K2))),fA 15005 (isT hl),seA 17019 49 [.int .i64 ((9:Nat):Int),.string bBOB,.bool true,.int .i64 (tillB k K2)] (selfFact _ _ _ _) (by kernel_rfl)]
 by_cases hn:nm=bBOB
 · subst hn
   have hl:¬ 10+(j:Int)<tillB k K2:=by
     rcases hh with h|h
     · exact absurd rfl h
     omega
   exact s1 [cA 1000 alive17_s [],fA 3002 (isF g1),cA 3005 (rright_s (by omega) g2) [],cA 5000 (open17_s hk ha hb) [],cA 6005 I.i1 [],cA 6013 I.i2 [],fA 8005 g3,fA 8006 (w64 (x:=10+(k:Int)) (by omega) (by omega)),cA 8007 A.a [],cA 9007 B.b [],cA 9008 B.c [],fA 10001 g5,fA 10002 (w64 (x:=10+(j:Int)) (by omega) (by omega)),cA 11006 C.a [],cA 12008 C.b [],cA 12009 C.c [],fA 13001 g3,fA 13002 (w64 (x:=10+(k:Int)) (by omega) (by omega)),fA 13003 ((imin (10+(k:Int)) 70).trans (minB (K2:=K2))),fA 15005 (isF hl),seA 17019 49 [.int .i64 ((9:Nat):Int),.string bBOB,.bool false,.int .i64 0] (selfFact _ _ _ _) (by kernel_rfl)]
 exact s1 [cA 1000 alive17_s [],fA 3002 (isF g1),cA 3005 (rright_s (by omega) g2) [],cA 5000 (open17_s hk ha hb) [],cA 6005 I.i1 [],cA 6013 I.i2 [],fA 8005 g3,fA 8006 (w64 (x:=10+(k:Int)) (by omega) (by omega)),cA 8007 A.a [],cA 9007 B.b [],cA 9008 B.c [],fA 10001 g5,fA 10002 (w64 (x:=10+(j:Int)) (by omega) (by omega)),cA 11006 C.a [],cA 12008 C.b [],cA 12009 C.c [],fA 13001 g3,fA 13002 (w64 (x:=10+(k:Int)) (by omega) (by omega)),fA 13003 ((imin (10+(k:Int)) 70).trans (minB (K2:=K2))),fA 15001 (tx_eqF hn),seA 17019 49 [.int .i64 ((9:Nat):Int),.string nm,.bool false,.int .i64 0] (selfFact _ _ _ _) (by kernel_rfl)]
end
theorem loginAsks_all(nm:ByteArray)(x y:Int)(W:World):Calls Tryz.prog 5 #[.string nm,.int .i64 x,.int .i64 y] W (DPost W (.bool true)):=by
 by_cases h1:60<(nm.size:Int)
 · exact law_s (asks_a h1) W fun _=>rfl
 cases h2:rightN nm with
 | false=>exact law_s (asks_b h1 h2) W fun _=>rfl
 | true =>
 obtain ⟨k,hk,hk1⟩:=and_mask x 127 (by decide)
 obtain ⟨j,hj,hj1⟩:=and_mask y 63 (by decide)
 have g:AG nm x y k j:=⟨h1,h2,by rw [hk],hk1,by rw [hj],hj1⟩
 obtain ⟨Kk,hKk⟩:=ex_key 1
 obtain ⟨ka,ha⟩:=ex_key 2
 obtain ⟨kb,hb⟩:=ex_key 3
 obtain ⟨t1,t2,K1,K2,b0,b1,b2,c1,c2,I⟩:=in2 (Kk:=Kk) ha hb
 obtain ⟨t3,d,A,T3,hs3,W3⟩:=bobAsk I hk1
 by_cases hk0:k=0
 · subst hk0
   have b:=askOver_s (nm0:=bBOB) (o:=none) (tkB K2) W3 (by simp) (show min (10+((0:Nat):Int)) (min (10+600) (10+60))<=10 by decide)
   rw [show (tkB K2).l.length=16 from mkB_len _ _,mkB_len] at b
   have c:=gotFail_s (K:=K2) (n:=((8:Nat):Int)) (clBo kb).shown 4 12 bBOB (by decide)
   have T4:=T3.dig (qDr bBOB ((8:Nat):Int) (10+((0:Nat):Int)) true (mkB 98 5))
   obtain ⟨t5,t6,C⟩:=annAsk (ka:=ka) (j:=j) (sl:=slB) (o:=none) (ff:=false) (ft:=0) T4 (nb:=7) rfl (by decide) (by have:=dig_len (s:=t3) (β:=qDr bBOB ((8:Nat):Int) (10+((0:Nat):Int)) true (mkB 98 5)) (n:=1) hs3;omega) rfl I.p1 h2 (by omega) hj1 slB_ok slB_len (by decide) (fun bk mb w h0=>bkFind_no h0 bmfNone)
   exact law_s (asks_over g hKk ha hb I A ⟨b,c⟩ C) W fun _=>rfl
 have hft:0<=tillB k K2/\tillB k K2<=1000000:=by show 0<=min (10+(k:Int)) (min (10+600) (10+60))/\min (10+(k:Int)) (min (10+600) (10+60))<=1000000;omega
 have hl1:10<tillB k K2:=by show 10<min (10+(k:Int)) (min (10+600) (10+60));omega
 obtain ⟨f,q1⟩:=pack_fact' (n:=((8:Nat):Int)) (s:=bBOB) (f:=true) (t:=tillB k K2) (rightM_is right_bob (by intro z hz;simp only [List.mem_cons,List.not_mem_nil,or_false] at hz;apply iN <;> omega)) (by decide)
 have b:=askSet_s (nm0:=bBOB) (nb:=7) (b:=f) (tkB K2) W3 hl1 (congrArg List.length T3.boxes) q1
 rw [show (tkB K2).l.length=16 from mkB_len _ _,mkB_len] at b
 generalize hβ:qDr bBOB ((8:Nat):Int) (10+(k:Int)) true (mkB 98 5)=β at *
 have T4:TS ((t3.digest β).seal (kl K2) 13 f) 8 _ knS:=(T3.dig β).seal rfl (pack_le6 q1)
 obtain ⟨body,u1,u2⟩:=openTh_some (T4.opn (i:=7) rfl q1 (by decide))
 have c:=gotDir_s (K:=K2) (n:=((8:Nat):Int)) (clBo kb).shown bBOB true (tillB k K2) (T4.room 9 (by decide) (show 8+9<1000000 by decide)).ok u1 u2
 rw [mkB_len] at c
 have hs4:((t3.digest β).seal (kl K2) 13 f).sums.length<=10:=by
   have:=dig_len (s:=t3) (β:=β) (n:=1) hs3
   show (t3.digest β).sums.length<=10;omega
 by_cases hn:nm=bBOB/\10+(j:Int)<tillB k K2
 · obtain ⟨t5,t6,C⟩:=annAsk (ka:=ka) (j:=j) (sl:=slB) (o:=some (bBOB,tillB k K2)) (ff:=true) (ft:=tillB k K2) T4 (nb:=8) rfl (by decide) hs4 rfl I.p1 h2 (by omega) hj1 slB_ok slB_len hft (fun bk mb w h0=>bkFind_yes h0 (bmfEq hn.1) hn.2)
   exact law_s (asks_set g (by omega) hKk ha hb I A ⟨b,c⟩ (.inl ⟨hn.1,hn.2,C⟩)) W fun _=>rfl
 have hh:nm≠bBOB∨tillB k K2<=10+(j:Int):=by
   by_cases h:nm=bBOB
   · right;rcases (by omega:tillB k K2<=10+(j:Int)∨10+(j:Int)<tillB k K2) with h3|h3
     · exact h3
     exact absurd ⟨h,h3⟩ hn
   exact .inl h
 obtain ⟨t5,t6,C⟩:=annAsk (ka:=ka) (j:=j) (sl:=slB) (o:=some (bBOB,tillB k K2)) (ff:=false) (ft:=0) T4 (nb:=8) rfl (by decide) hs4 rfl I.p1 h2 (by omega) hj1 slB_ok slB_len (by decide) (fun bk mb w h0=>by
   by_cases h:nm=bBOB
   · rcases hh with h3|h3
     · exact absurd h h3
     exact bkFind_late h0 (bmfEq h) h3
   exact bkFind_no h0 (bmfNe h))
 exact law_s (asks_set g (by omega) hKk ha hb I A ⟨b,c⟩ (.inr ⟨hh,C⟩)) W fun _=>rfl
end
section
open Go.ChangeShapes Go.WideShapes Go.ChangeAt Go.RowKit
theorem loginAsks_lifted(os:Os)(started:os.Started)(H:Type)(enc:TypeId × Value->H) :
   ReturnsInHanded {} Tryz.checked os 5 .any (Rows.loginAsksSpec.pre6 enc Tryz.prog Tryz.f5 Rows.loginAsksRow.domain false) (Rows.loginAsksSpec.post enc Tryz.prog Tryz.f5 false true false false):=by
 refine returnsInHanded_of_change (C:=Tryz.checked) Tryz.own started (by kernel_rfl) Tryz.func5
   (ChangeSpec.witness6 (enc:=enc) (C:=Tryz.checked) false ⟨#[],#[.string ⟨#[]⟩,.int .i64 0,.int .i64 0],[]⟩ 8 (by kernel_rfl) (by kernel_rfl) (by kernel_rfl) (by kernel_rfl)) ?_
 intro W base args ds gs before hval0 hW hcnd _
 have hval:∀ (j:Nat) t v,Tryz.f5.params[j]?=some t->args[j]?=some v->Value.okWide Tryz.prog W .any base t v:=hval0
 have hpost:∀ W',Below W.heap.size W W'->Rows.loginAsksSpec.post enc Tryz.prog Tryz.f5 false true false false W args (.bool true) W':=fun W' hb =>
   law_post Tryz.laidOut (by kernel_rfl) Tryz.underlying4 rfl rfl (fun ds hds=>by
     have hn:ds.length=3:=hds
     match ds,hn with
     | [_,_,_],_=>rfl) hW hb
 obtain ⟨p,q,hA0,hV,rfl,hfz,hnd⟩:=hW
 have hA:DataW.TrodAll enc Tryz.prog W 0 (fun _=>true) true Tryz.f5.params.toList args.toList ds p:=hA0
 rw [Tryz.params5] at hA hval
 clear hA0 hval0
 obtain ⟨v0,v1,v2,d0,d1,d2,p0,p1,p2,rfl,rfl,rfl,h0,h1,h2⟩:=trodAll_three hA
 obtain ⟨l0,rfl,rfl,rfl,hz0⟩:=Go.ChangeMaps.open_string (t:=9) (by kernel_rfl) (hval 0 9 v0 rfl rfl) h0
 obtain ⟨n1,rfl,rfl,rfl,hn1⟩:=open_int (t:=3) (k:=.i64) (by kernel_rfl) (hval 1 3 v1 rfl rfl) h1
 obtain ⟨n2,rfl,rfl,rfl,hn2⟩:=open_int (t:=3) (k:=.i64) (by kernel_rfl) (hval 2 3 v2 rfl rfl) h2
 refine (loginAsks_all l0 n1 n2 W).mono fun e W' ⟨he,hw⟩=>?_
 subst he
 exact ⟨_,rfl,hpost W' hw⟩
theorem loginAsks_holds:Rows.LoginAsksSaid:=
 OpenClaim.holds_of_wide 5 Tryz.f5 rfl rfl rfl rfl rfl rfl rfl ⟨rfl,rfl,rfl,rfl,rfl⟩ rfl rfl rfl rfl rfl (by kernel_rfl) Tryz.func5 (by kernel_rfl)
   (of_decide_eq_true (by kernel_rfl)) (by unfold Func.isWrapper;first|(rw [if_pos (by decide +kernel)];kernel_rfl)|(rw [if_neg (by decide +kernel)];exact ⟨rfl,rfl⟩))
   (fun os started H enc _=>loginAsks_lifted os started H enc)
end
end Go.Proofs.YtaoijkhndakppaaGreat
