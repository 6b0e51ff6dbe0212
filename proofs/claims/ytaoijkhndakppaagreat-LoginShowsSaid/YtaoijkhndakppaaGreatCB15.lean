/- Five parameters. -/
import Derived.ProofKit
import Derived.Carry
import Derived.ChangeShapes
import Derived.Test.YtaoijkhndakppaaGreatCB14
set_option maxRecDepth 100000
set_option maxHeartbeats 4000000
namespace Go.Proofs.YtaoijkhndakppaaGreat
section
open Go.RowKit Go.QT
abbrev eC(k:Nat)(l:List Sh):Ent:=eR k fun G n=>rCa G n 64 l
abbrev eM(k:Nat)(o:Option (ByteArray × Int)):Ent:=eR k fun G n=>rBk G n o
abbrev eSv:Ent:=.blk 3 124 [.p 1 0,.p 4 0,.p 5 0]
section
variable{t:STab}{K Kk Ki Ky:Fin 16->UInt8}{s0 c1:ByteArray}{us ta q now f a u r:Int}{l au b:Bytes}{sl:List Sh}
theorem cNew_s:Spec Tryz.prog ⟨66,0,[aI 64],[],[],.p 0 0,[eC 0 []]⟩:=make_s fun _ w=>(cnew_any w).mono fun _ _ ⟨G,cb,e1,h⟩=>⟨G,cb,e1,h⟩
theorem bkNew_s:Spec Tryz.prog ⟨77,0,[],[],[],.p 0 0,[eM 0 none]⟩:=make_s fun _ w=>(bknew_any w).mono fun _ _ ⟨bk,mv,e1,h⟩=>⟨mv,bk,e1,h⟩
theorem show_s(x:Sh)(hnear:nearF now x.t=true)(hl:∀ y ∈ sl,0<=y.t/\y.t<=1099511627776)(hx0:x ∉ sl)(hmost:sl.length<64):Spec Tryz.prog ⟨70,1,[.p 0 0,aI now,aS x.c,aI x.t,aI x.q],[],[eC 0 sl],aI 0,[eC 0 (keptF now sl++[x])]⟩:=
 own_s (fun _ _=>rfl) (fun _=>rfl) fun κ w G hh h1=>show_ok h1 hnear hl (by omega) hx0 hmost (by decide)
theorem equal_s{l m:Bytes}(h:l=m):Spec Tryz.prog ⟨69,2,[.o 0 l.length,.o 1 m.length],[eB 0 l,eB 1 m],[],aB true,[]⟩:=
 pu_s (fun _=>rfl) fun κ w hh=>(equal_any _ _ l m w (sb_ent (j:=0) hh (by simp)) (sb_ent (j:=1) hh (by simp))).mono fun e w' ⟨e1,e2⟩=>⟨by rw [e1,decide_eq_true h],e2 ▸ Below.refl _ _⟩
theorem openAuth_s(ho:openTh t (kl K) us l=.inr (.authent s0 ta q Ky b))(hs:TabOk t):Spec Tryz.prog ⟨23,2,[tI,.c (aK K),aI us,.o 1 l.length],[eT 0 t,eB 1 l],[],.t [.c ([aS s0,aI ta,aI q]++aK Ky++[.o 2 b.length]),aI 0],[eB 2 b]⟩:=⟨fun κ w hh=>by
 have hh:HE (fun _=>False) w w κ [eT 0 t,eB 1 l] []:=by rw [← foot_nil κ];exact hh
 have h0:=hh.ent (e:=eT 0 t) (by simp)
 obtain ⟨F,hF⟩:=h0.2
 have h1:(rTab F (κ 0).n t).Φ w:=by rw [← hF];exact h0.1
 have h2:=sb_ent (j:=1) (l:=l) hh (by simp)
 rw [show (AV.denL κ [tI,.c (aK K),aI us,.o 1 l.length]).toArray=#[(Value.iface 30 (pt (κ 0).n 0)),(Value.agg (vb (kl K)).toArray),.int .i64 us,(Value.slice (κ 1).a l.length (κ 1).n)] from by simp only [AV.denL,AV.den,denL_rg]]
 refine (auth_any h1 hs h2 ho).mono fun e w' ⟨A,c,e1,hp⟩=>⟨⟨upK κ 2 ⟨c,A,rSB (.slice A b.length c) b⟩,up1 _,?_,⟨?_,fun e he=>absurd he List.not_mem_nil,fun e he=>?_⟩⟩⟩
 · rw [e1]
   simp only [AV.den,AV.denL,denL_app,denL_rg,upK_at]
   rfl
 · rw [show foot κ (Sp.pre ⟨23,2,[tI,.c (aK K),aI us,.o 1 l.length],[eT 0 t,eB 1 l],[],.t [.c ([aS s0,aI ta,aI q]++aK Ky++[.o 2 b.length]),aI 0],[eB 2 b]⟩)=fun _=>False from foot_nil κ]
   show HA _ _ _ _ [(upK κ 2 _ 2).r]
   rw [upK_at];exact hp.ha
 rw [List.mem_singleton.1 he]
 show sbC b _
 rw [upK_at];rfl⟩
set_option maxRecDepth 100000
set_option maxHeartbeats 4000000
theorem kgNew_s(hK:kl Kk=mkB 107 (t.keys.length+1))(hn:t.keys.length<1000000):Spec Tryz.prog ⟨46,1,[tI],[],[eT 0 t],.p 3 0,[eT 0 (t.add SFrom.fresh),eK 1 2 Kk,eU 2 [],eSv,eC 4 [],eM 5 none]⟩:=
 s1 [cTb 1001 (kasNew_s hK hn),cA 1002 cNew_s [],cA 1003 bkNew_s []]
theorem opened_s(hs:TabOk t)(ho:openTh t (kl Kk) 2 l=.inr (.inside f Ki c1 a u r))(hu:¬ u<=now):Spec Tryz.prog ⟨117,7,[.p 3 0,aI now,.c [aS bKDC,.o 6 l.length]],[eT 0 t,eK 1 2 Kk,eSv,eB 6 l],[],.t [.c ([aI f]++aK Ki++[aS c1,aI a,aI u,aI r]),aI 0],[]⟩:=
 s1 [cTb 3016 (openInside_s ho hs),fA 6003 (isF hu)]
end
end
section
open Go.RowKit Go.QT
section
variable{n nb:Nat}{s:STab}{pw:ByteArray}{now till us:Int}{ka Kn K K2:Fin 16->UInt8}{b0 b β:Bytes}{c:Cl}
set_option maxRecDepth 100000
set_option maxHeartbeats 4000000
/-- The table behind Login. -/
abbrev lgS(s:STab)(pw nm:ByteArray)(ka:Fin 16->UInt8)(b0:Bytes):STab:=((s.made (textF pw nm)).seal (kl ka) 1 b0).add SFrom.fresh
theorem login_s(c:Cl)(hka:kl ka=mkB 107 (s.num (textF pw c.nm)))(hp:pw.size<=1000000)(hnm:c.nm.size<=1000000)(hr:Room 9 s)(hb0:packB (.stamp now (c.q+1))=.inr b0)(hnb:(s.made (textF pw c.nm)).boxes.length=nb)(hn:(s.made (textF pw c.nm)).keys.length+1=n)(hKn:kl Kn=mkB 107 n)(hq:0<=c.q/\c.q<=1000000) :
   Spec Tryz.prog ⟨12,3,[.p 1 0,aI now,aS pw,aI till],[],[eT 0 s,.blk 1 51 (c.c 2)],.t [.c [aS c.nm,aI (n:Int),aI till,.o 3 16],aI 0],[eT 0 (lgS s pw c.nm ka b0),.blk 1 51 ((c.shown.asks 1 bKDC ka (n:Int)).c 2),eB 3 (mkB 98 (nb+1))]⟩:=
 s1 [cTb 1011 (text_s hka hp hnm hr.keys),fA 2004 (w64 (x:=c.q+1) (by omega) (by omega)),cTb 3012 (sealStamp_s (K:=ka) (us:=1) hb0 hnb (hr.made _).ok),
   cTb 6006 (number_s (s:=(s.made (textF pw c.nm)).seal (kl ka) 1 b0) (n:=n) (K:=Kn) (by rw [hKn,← hn];rfl) hn (by have:=(hr.made (textF pw c.nm)).key;omega)),cA 6007 (begin_s c.shown 1 bKDC ka (n:Int))]
/-- The table behind a request that is shown. -/
abbrev shS(s:STab)(β:Bytes)(K:Fin 16->UInt8)(u:Int)(b:Bytes):STab:=(s.digest β).seal (kl K) u b
theorem meet_s(c:Cl)(d:Ck){peer ts2:ByteArray}{m2:Bytes}(hr:Room 9 s)(hsm:s.sums.length<=1000)(hp:rightN peer=true)(hpl:peer.size<=300)(hn:s.keys.length+1=n)(hKn:kl Kn=mkB 107 n)(ht:inN till=true)(hq:0<=c.q/\c.q<=1000000)(hk:¬ d.en<=now)
   (hm:d.m.length=16) (hts:rightN ts2=true) (hts2:ts2.size<=300) (hm2:m2.length=16) (hβ:qTg peer (n:Int) till false true d.m [.ticket ts2 m2]=β) (hlen:β.length<=4096) (hnb:s.boxes.length=nb) (hnm:c.nm.size<=1000)
   (hb:packB (.authent c.nm now (c.q+1) zKy (mkB 100 ((s.add SFrom.fresh).sumAt β+1)))=.inr b) :
   Spec Tryz.prog ⟨45,5,[.p 1 0,aI now,aI till,aS peer,.c [aS ts2,.o 4 m2.length]],[eB 3 d.m,eB 4 m2],[eT 0 s,.blk 1 51 (c.c 2),.blk 2 162 (st1 (d.at bKDC 3))],
     .t [.c [aS peer,aI (n:Int),aI till,aB false,aB true,aS bKDC,.o 5 d.m.length,.o 6 16,.s 7 0 1 1],aI 0],[eT 0 (shS (s.add SFrom.fresh) β d.K 7 b),.blk 1 51 ((c.shown.asks 3 peer d.K (n:Int)).c 2),.blk 2 162 (st1 (d.at bKDC 3)),eB 5 d.m,eB 6 (mkB 98 (nb+1)),.blk 7 39 [aS ts2,.o 4 m2.length]]⟩:=by
 subst hβ
 have hk9:=hr.key
 exact s1 [cA 1001005 (crGet1_s now d hk),cTb 1004006 (number_s (by rw [hKn,hn]) hn (by omega)),fA 2001004 (w64 (x:=c.q+1) (by omega) (by omega)),
   cTb 2002021 (sumMeet_s (s:=s.add SFrom.fresh) (nn:=(n:Int)) false true hsm hp hpl (inN_is (by omega) (by omega)) ht (by omega) hts hts2 (by omega) hlen),
   cTb 2002024 (sealAuth_s (K:=d.K) (us:=7) hb (n:=nb) (by rw [dig_boxes];exact hnb) (Room.digest (β:=qTg peer (n:Int) till false true d.m [.ticket ts2 m2]) (hr.add SFrom.fresh)).ok (by omega) (by rw [mkB_len];decide))] [57,22,49]
end
end
section
open Go.RowKit Go.QT
theorem neI(n:Int):Value.bool (n != n)=.bool false:=by rw [bne_self_eq_false]
theorem neS(s:ByteArray):Value.bool (!(s.toList == s.toList))=.bool false:=by rw [beq_self_eq_true];rfl
/-- Nothing is asked for any more. -/
abbrev Cl.ended(c:Cl):Cl:={ c with ak:=0,wh:=ByteArray.empty,K:=zKy }
section
variable{s:STab}{l:Bytes}{n a:Int}{K:Fin 16->UInt8}
set_option maxRecDepth 100000
set_option maxHeartbeats 4000000
theorem end_s(c:Cl):Spec Tryz.prog ⟨52,3,[.p 1 0],[],[.blk 1 51 (c.c 2)],.t [],[.blk 1 51 (c.ended.c 2)]⟩:=s1 []
theorem gotAs_s(c:Cl)(d:Ck)(hs:TabOk s)(ho:openTh s (kl K) 3 l=.inr (.reply d.fl d.K n bKDC a d.en d.rn)) :
   Spec Tryz.prog ⟨13,5,[.p 1 0,.i 143 (.c [aS c.nm,aS bKDC,.o 3 d.m.length,.o 4 l.length])],[eT 0 s,eB 3 d.m,eB 4 l],[.blk 1 51 ((c.asks 1 bKDC K n).c 2),.blk 2 162 st0],aI 0,
     [.blk 1 51 ((c.asks 1 bKDC K n).ended.c 2),.blk 2 162 (st1 (d.at bKDC 5)),eB 5 d.m]⟩:=
 s1 [fA 4012 (neS c.nm),cTb 1001010 (openReply_s ho hs),fA 1004006 (neI n),cA 1006014 (crPut0_s d),cA 1008001 (end_s (c.asks 1 bKDC K n))] [50]
theorem gotMeet_s(c:Cl)(e d:Ck)(hs:TabOk s)(ho:openTh s (kl K) 8 l=.inr (.reply d.fl d.K n bBOB a d.en d.rn)) :
   Spec Tryz.prog ⟨13,6,[.p 1 0,.i 145 (.c [aS c.nm,aS bBOB,.o 3 d.m.length,.o 4 l.length])],[eT 0 s,eB 3 d.m,eB 4 l],[.blk 1 51 ((c.asks 3 bBOB K n).c 2),.blk 2 162 (st1 (e.at bKDC 5))],aI 0,
     [.blk 1 51 ((c.asks 3 bBOB K n).ended.c 2),.blk 2 162 (st2 (e.at bKDC 5) (d.at bBOB 6)),eB 6 d.m]⟩:=
 s1 [fA 9019 (neS c.nm),cTb 1001010 (openReply_s ho hs),fA 1004006 (neI n),cA 1006014 (crPut2_s e d),cA 1008001 (end_s (c.asks 3 bBOB K n))] [50]
end
end
section
open Go.RowKit Go.QT
theorem imin3(a b c:Int):Value.int .i64 (if c<(if b<a then b else a) then c else (if b<a then b else a))=.int .i64 (min (min a b) c):=by
 congr 1;rw [Int.min_def,Int.min_def];repeat' split <;> omega
theorem neT{s t:ByteArray}(h:s.toList≠t.toList):Value.bool (s.toList == t.toList)=.bool false:=by rw [beq_eq_false_iff_ne.2 h]
/-- What somebody shows: an opened ticket, a number, a time. -/
structure Tk where
 K:Fin 16->UInt8
 c:ByteArray
 f:Int
 a:Int
 u:Int
 r:Int
 l:Bytes
abbrev Tk.A(k:Tk):AV:=.c ([aI k.f]++aK k.K++[aS k.c,aI k.a,aI k.u,aI k.r])
section
variable{t:STab}{K Kk Kx K0:Fin 16->UInt8}{nb:Nat}{now ta q till nn:Int}{au m2 b1 b2 β:Bytes}{sl:List Sh}{us:List User}{srv:ByteArray}
set_option maxRecDepth 100000
set_option maxHeartbeats 4000000
abbrev rqA(srv:ByteArray)(nn till:Int)(r m:Bool)(nl na:Nat)(x:AV):AV:=.c [aS srv,aI nn,aI till,aB r,aB m,aS bKDC,.o 6 nl,.o 7 na,x]
theorem whoMeet_s(k:Tk)(hs:TabOk t)(ho:openTh t (kl Kk) 2 k.l=.inr (.inside k.f k.K k.c k.a k.u k.r))(hu:¬ k.u<=now)(ha:openTh t (kl k.K) 7 au=.inr (.authent k.c ta q K0 (mkB 100 (t.sumAt β+1))))
   (hnear:nearF now ta=true) (hsl:∀ y ∈ sl,0<=y.t/\y.t<=1099511627776) (hx0:(⟨k.c,ta,q⟩:Sh) ∉ sl) (hmost:sl.length<64)
   (hsm:t.sums.length<=1000) (hs1:rightN srv=true) (hs2:srv.size<=300) (hn:inN nn=true) (ht:inN till=true) (hl:k.l.length=16) (hm:m2.length=16) (hβ:qTg srv nn till false true k.l [.ticket bKDC m2]=β) (hlen:β.length<=4096) :
   Spec Tryz.prog ⟨85,10,[.p 3 0,aI now,.c [aS bKDC,.o 6 k.l.length],.o 7 au.length,.i 58 (rqA srv nn till false true k.l.length au.length (.s 8 0 1 1))],[eK 1 2 Kk,eSv,eB 6 k.l,eB 7 au,.blk 8 39 [aS bKDC,.o 9 m2.length],eB 9 m2],[eT 0 t,eC 4 sl],
     .t [k.A,aI 0],[eT 0 (t.digest β),eC 4 (keptF now sl++[⟨k.c,ta,q⟩])]⟩:=by
 subst hβ
 exact s1 [cTb 1003 (opened_s (now:=now) hs ho hu),cTb 4010 (openAuth_s (us:=7) ha hs),fA 7004 (neS k.c),cTb 7016 (sumMeetA_s (an:=au.length) (au:=au) false true hsm hs1 hs2 hn ht (by omega) right_kdc (by decide) (by omega) hlen),cA 7017 (equal_s (l:=mkB 100 (t.sumAt (qTg srv nn till false true k.l [.ticket bKDC m2])+1)) rfl) [],cA 9012 (show_s ⟨k.c,ta,q⟩ hnear hsl hx0 hmost) []]
theorem met_s(k p:Tk)(hs:TabOk t)(ho:openTh t (kl Kk) 2 p.l=.inr (.inside p.f p.K p.c p.a p.u p.r))(hu:¬ p.u<=now)(h32:us.length<=1000000){u:User}(hb:placeB us p.c=true)(hg:us[placeI us p.c]?=some u)(hne:p.c.toList≠k.c.toList)(hme:u.mesh=true) :
   Spec Tryz.prog ⟨87,10,[.p 3 0,aI now,k.A,rqA p.c nn till false true k.l.length au.length (.s 8 0 1 1)],[eT 0 t,eK 1 2 Kk,eU 2 us,eSv,eB 6 k.l,eB 7 au,.blk 8 39 [aS bKDC,.o 9 p.l.length],eB 9 p.l],[],
     .t [.c ([aI 2]++aZ++[aS k.c,aI k.a,aI (min (min till k.u) p.u),aI 0]),.c (aK p.K),aI 0],[]⟩:=
 s1 [cTb 3006 (opened_s (now:=now) hs ho hu),cA 6009 (bsGet_s h32 hb hg) [],fA 9004 (neS p.c),fA 9010 (neT hne),fA 11002 (show Value.bool (!u.mesh)=.bool false by rw [hme];rfl),fA 13010 (imin3 till k.u p.u)]
theorem tgsMeet_s(k p:Tk)(hr:Room 9 t)(hnb:t.boxes.length=nb)(hK:kl K=mkB 107 (t.keys.length+1))(ho:openTh t (kl Kk) 2 k.l=.inr (.inside k.f k.K k.c k.a k.u k.r))(hu:¬ k.u<=now)(ha:openTh t (kl k.K) 7 au=.inr (.authent k.c ta q K0 (mkB 100 (t.sumAt β+1))))
   (hnear:nearF now ta=true) (hsl:∀ y ∈ sl,0<=y.t/\y.t<=1099511627776) (hx0:(⟨k.c,ta,q⟩:Sh) ∉ sl) (hmost:sl.length<64)
   (hsm:t.sums.length<=1000) (hs1:rightN p.c=true) (hs2:p.c.size<=300) (hn:inN nn=true) (ht:inN till=true) (hl:k.l.length=16) (hm:p.l.length=16) (hβ:qTg p.c nn till false true k.l [.ticket bKDC p.l]=β) (hlen:β.length<=4096)
   (htl:¬ till<=now) (ho2:openTh (t.digest β) (kl Kk) 2 p.l=.inr (.inside p.f p.K p.c p.a p.u p.r)) (hu2:¬ p.u<=now) (h32:us.length<=1000000) {u:User} (hb:placeB us p.c=true) (hg:us[placeI us p.c]?=some u) (hne:p.c.toList≠k.c.toList) (hme:u.mesh=true) (hkc:k.c.size<=1000)
   (h1:packB (.inside 2 K k.c k.a (min (min till k.u) p.u) 0)=.inr b1) (h2:packB (.reply 2 K nn p.c k.a (min (min till k.u) p.u) 0)=.inr b2) :
   Spec Tryz.prog ⟨54,10,[.p 3 0,aI now,rqA p.c nn till false true k.l.length au.length (.s 8 0 1 1)],[eK 1 2 Kk,eU 2 us,eSv,eB 6 k.l,eB 7 au,.blk 8 39 [aS bKDC,.o 9 p.l.length],eB 9 p.l],[eT 0 t,eC 4 sl],
     .t [.c [aS k.c,aS p.c,.o 10 16,.o 11 16],aI 0],[eT 0 (gvS ((t.digest β).add SFrom.fresh) p.K k.K 8 b1 b2),eC 4 (keptF now sl++[⟨k.c,ta,q⟩]),eB 10 (mkB 98 (nb+1)),eB 11 (mkB 98 (nb+2))]⟩:=
 s1 [cTb 1008 (whoMeet_s (q:=q) (srv:=p.c) (m2:=p.l) k hr.ok ho hu ha hnear hsl hx0 hmost hsm hs1 hs2 hn ht hl hm hβ hlen),fA 6003 (isF htl),cTb 5004 (met_s (t:=t.digest β) (nn:=nn) (till:=till) (au:=au) k p (Room.digest hr).ok ho2 hu2 h32 hb hg hne hme),cTb 14007 (fresh_s (s:=t.digest β) (by rw [dig_keys];exact hK) (by rw [dig_keys];exact hr.keys)),
   cTb 15012 (give_s (Kx:=p.K) (Ky:=k.K) (Kk:=Kk) (ug:=8) ((Room.digest (β:=β) hr).add SFrom.fresh) (nb:=nb) (by show (t.digest β).boxes.length=nb;rw [dig_boxes,hnb]) h1 h2 (by omega) (by omega))]
end
end
section
open Go.RowKit Go.QT
abbrev pwA:ByteArray:=⟨#[112,97]⟩
abbrev pwB:ByteArray:=⟨#[112,98]⟩
/-- Who is enrolled. -/
abbrev uAn(K:Fin 16->UInt8):User:=⟨bANN,K,100,500,true⟩
abbrev uBo(K:Fin 16->UInt8):User:=⟨bBOB,K,60,500,true⟩
abbrev eG:Ent:=.blk 6 34 [.p 0 0,.p 3 0,.p 7 0,.p 8 0]
section
variable{t:STab}{K Kk ka kb Kn:Fin 16->UInt8}{nb n:Nat}{nm pw:ByteArray}{now till nn st sq:Int}{b0 b1 b2 pre:Bytes}{us:List User}
theorem sNew_s:Spec Tryz.prog ⟨19,0,[],[],[],.p 0 0,[eT 0 STab.empty]⟩:=
 make_s (R:=fun F n=>rTab F n STab.empty) fun _ w=>(snew_any w).mono fun _ _ ⟨tb,F,e1,hT,hF,hb⟩=>⟨F,tb,e1,(Hp.nil _ w).newS hb (rTab F tb STab.empty) hT hF⟩
set_option maxRecDepth 100000
set_option maxHeartbeats 4000000
/-- The table of the stage. -/
abbrev opS:STab:=((STab.empty.add SFrom.fresh).made (textF pwA bANN)).made (textF pwB bBOB)
theorem open17_s(hk:kl Kk=mkB 107 1)(ha:kl ka=mkB 107 2)(hb:kl kb=mkB 107 3):Spec Tryz.prog ⟨11,0,[],[],[],.p 6 0,[eG,eSv,eK 1 2 Kk,.blk 7 51 ((Cl.new bANN).c 9),.blk 8 51 ((Cl.new bBOB).c 10),eT 0 opS,eU 2 [uAn ka,uBo kb],eC 4 [],eM 5 none,.blk 9 162 st0,.blk 10 162 st0]⟩:=
 s1 [cA 1000 sNew_s [],cA 2003 (kgNew_s (t:=STab.empty) hk (by decide)) [],cA 2006 (loNew_s bANN (STab.empty.add SFrom.fresh)) [],cA 2009 (loNew_s bBOB (STab.empty.add SFrom.fresh)) [],
   cA 5007 (enrol_s (t:=STab.empty.add SFrom.fresh) (pw:=pwA) (nm:=bANN) (K:=ka) (us:=[]) (life:=100) (renew:=500) (mesh:=true) (Kk:=Kk) ha (by decide) (by decide) (by decide) (by decide) right_ann (by decide) rfl (by decide) rfl) [],
   cA 5017 (enrol_s (t:=(STab.empty.add SFrom.fresh).made (textF pwA bANN)) (pw:=pwB) (nm:=bBOB) (K:=kb) (us:=[uAn ka]) (life:=60) (renew:=500) (mesh:=true) (Kk:=Kk) (by rw [hb];decide +kernel) (by decide) (by decide) (by decide +kernel) (by simp) right_bob (by decide) (place_other (show bANN≠bBOB from by decide)) (by simp) (by rw [placeI_one];exact show (if cmpS bANN bBOB<0 then 1 else 0)=1 from by decide +kernel)) []]
theorem askAs_s{nm0:ByteArray}(u:User)(hr:Room 9 t)(hnb:t.boxes.length=nb)(hK:kl K=mkB 107 (t.keys.length+1))(h32:us.length<=1000000)(hb:placeB us nm=true)(hu:us[placeI us nm]?=some u)(ho:openTh t (kl u.key) 1 pre=.inr (.stamp st sq))(hnear:nearF now st=true)(ht:¬ till<=now)
   (hnow:0<=now/\now<=1099511627776) (hlife:0<=u.life/\u.life<=600) (hren:0<u.renew/\u.renew<=6000) (hl:u.name.size<=1000)
   (h1:packB (.inside 5 K u.name now (min till (now+u.life)) (now+u.renew))=.inr b1) (h2:packB (.reply 5 K nn bKDC now (min till (now+u.life)) (now+u.renew))=.inr b2) :
   Spec Tryz.prog ⟨14,10,[.p 6 0,aI now,aS nm0,.i 27 (.c [aS nm,aI nn,aI till,.o 9 pre.length])],[eG,eSv,eK 1 2 Kk,eU 2 us,eB 9 pre],[eT 0 t],.i 143 (.c [aS u.name,aS bKDC,.o 10 16,.o 11 16]),
     [eT 0 (gvS (t.add SFrom.fresh) Kk u.key 3 b1 b2),eB 10 (mkB 98 (nb+1)),eB 11 (mkB 98 (nb+2))]⟩:=
 s1 [cTb 4009 (as_s (Kk:=Kk) u hr hnb hK h32 hb hu ho hnear ht hnow hlife hren hl h1 h2)]
/-- The table behind who logged in; what they have. -/
abbrev inS(t:STab)(pw:ByteArray)(u:User)(Kk:Fin 16->UInt8)(b0 b1 b2:Bytes):STab:=gvS ((lgS t pw u.name u.key b0).add SFrom.fresh) Kk u.key 3 b1 b2
theorem near_now{now:Int}(h1:0<=now)(h2:now<=1099511627776):nearF now now=true:=by unfold nearF;exact decide_eq_true (by omega)
theorem mk_le(k:UInt8)(n:Nat):(mkB k n).length<=1000000:=by rw [mkB_len];decide
abbrev inC(nb:Nat)(K:Fin 16->UInt8)(now till:Int)(u:User):Ck:=⟨mkB 98 (nb+1),K,5,min till (now+u.life),now+u.renew,mk_le 98 (nb+1)⟩
theorem in17_s(c:Cl)(u:User)(hc:c.nm=u.name)(hr:Room 20 t)(hnb:t.boxes.length=nb)(hn:(t.made (textF pw u.name)).keys.length+1=n)(hka:kl u.key=mkB 107 (t.num (textF pw u.name)))(hKn:kl Kn=mkB 107 n)(hK:kl K=mkB 107 (n+1))(hpw:pw.size<=1000)
   (h32:us.length<=1000000) (hb:placeB us u.name=true) (hu:us[placeI us u.name]?=some u) (hq:0<=c.q/\c.q<=1000000) (hnow:0<=now/\now<=1000000000000) (hlife:0<u.life/\u.life<=600) (hren:0<u.renew/\u.renew<=6000) (hl:u.name.size<=1000)
   (h0:packB (.stamp now (c.q+1))=.inr b0) (h1:packB (.inside 5 K u.name now (min (now+600) (now+u.life)) (now+u.renew))=.inr b1) (h2:packB (.reply 5 K (n:Int) bKDC now (min (now+600) (now+u.life)) (now+u.renew))=.inr b2) :
   Spec Tryz.prog ⟨28,11,[.p 6 0,.p 9 0,aS u.name,aS pw,aI now],[eG,eSv,eK 1 2 Kk,eU 2 us],[eT 0 t,.blk 9 51 (c.c 10),.blk 10 162 st0],aB true,
     [eT 0 (inS t pw u Kk b0 b1 b2),.blk 9 51 ((c.shown.asks 1 bKDC u.key (n:Int)).ended.c 10),.blk 10 162 (st1 ((inC (nb+1) K now (now+600) u).at bKDC 11)),eB 11 (mkB 98 (nb+2))]⟩:=by
 obtain ⟨nm,q,ak,nn,wh,cK,fn,fs,ff,ft⟩:=c
 obtain rfl:nm=u.name:=hc
 have hnb2:(t.made (textF pw u.name)).boxes.length=nb:=by rw [← hnb,made_bx]
 have e1:((t.made (textF pw u.name)).seal (kl u.key) 1 b0).boxes.length=nb+1:=by rw [seal_len,hnb2]
 have hr1:Room 17 (lgS t pw u.name u.key b0):=((hr.made _).seal _ _ (pack_le6 h0)).add SFrom.fresh
 have ho1:openTh (lgS t pw u.name u.key b0) (kl u.key) 1 (mkB 98 (nb+1))=.inr (.stamp now (q+1)):=op_bx (by rw [bx_add,← hnb2];exact bx_new (by have:=(hr.made (textF pw u.name)).box;omega)) h0
 have hr2:Room 14 (inS t pw u Kk b0 b1 b2):=((hr1.add SFrom.fresh).seal _ _ (pack_le6 h1)).seal _ _ (pack_le6 h2)
 have ho2:openTh (inS t pw u Kk b0 b1 b2) (kl u.key) 3 (mkB 98 (nb+3))=.inr (.reply 5 K (n:Int) bKDC now (min (now+600) (now+u.life)) (now+u.renew)):=
   op_bx (by rw [show nb+3=(((lgS t pw u.name u.key b0).add SFrom.fresh).seal (kl Kk) 2 b1).boxes.length+1 from by rw [seal_len];exact congrArg (· + 2) e1.symm];exact bx_new (by have:=hr2.box;rw [seal_len] at this;omega)) h2
 exact s1 [fA 1004 (w64 (x:=now+600) (by omega) (by omega)),cTb 1005 (login_s (till:=now+600) (Kn:=Kn) ⟨u.name,q,ak,nn,wh,cK,fn,fs,ff,ft⟩ hka (by omega) (show u.name.size<=1000000 by omega) (hr.less (m:=9) (by decide)) h0 hnb2 hn hKn hq),
   cTb 2009 (askAs_s (nm0:=u.name) (Kk:=Kk) (nb:=nb+1) u (hr1.less (m:=9) (by decide)) e1 (by rw [hK];congr 1;show n+1=((t.made _).keys++[_]).length+1;rw [List.length_append];exact congrArg (· + 1) hn.symm) h32 hb hu ho1 (near_now hnow.1 (by omega)) (by omega) (by omega) (by omega) hren hl h1 h2),
   cTb 2010 (gotAs_s (n:=(n:Int)) ⟨u.name,q+1,ak,nn,wh,cK,fn,fs,ff,ft⟩ (inC (nb+1) K now (now+600) u) hr2.ok ho2),cA 2018 (crLen1_s (inC (nb+1) K now (now+600) u)) []]
end
end
section
open Go.RowKit Go.QT
theorem qTk_len{s:ByteArray}{b:Bytes}(h1:s.size<=300)(h2:b.length<=300):(wrV (valD (.ticket s b))).length<=630:=by
 have h0:=wrV_leT (valD (.ticket s b))
 have e:bodyV (valD (.ticket s b))=wrL (valL (.ticket s b)):=rfl
 rw [e] at h0
 have h3:=wr_bD s.data.toList
 have h4:=wr_bD b
 rw [size_toList] at h3
 simp only [valL,wrL,List.length_append,List.length_nil] at h0
 omega
theorem qXs_len:∀ (xs:List Thing),(∀ x ∈ xs,(wrV (valD x)).length<=630)->xs.length<=1->(wrV (.mk 2 0 0 [] (xs.map valD))).length<=640
 | [],_,_=>by
   have h2:=wrV_leT (.mk 2 0 0 [] [])
   have e2:bodyV (.mk 2 0 0 [] [])=wrL []:=rfl
   rw [e2,wrL] at h2
   exact Nat.le_trans h2 (by decide)
 | [x],hx,_=>by
   have h2:=wrV_leT (.mk 2 0 0 [] [valD x])
   have e2:bodyV (.mk 2 0 0 [] [valD x])=wrL [valD x]:=rfl
   rw [e2] at h2
   simp only [wrL,List.length_append,List.length_nil] at h2
   have h3:=hx x (by simp)
   exact Nat.le_trans h2 (by omega)
 | _::_::_,_,h=>absurd h (by simp)
theorem qTg_len{srv:ByteArray}{nn till:Int}{r m:Bool}{l:Bytes}{xs:List Thing}(hs:srv.size<=300)(hl:l.length<=300)(hx:∀ x ∈ xs,(wrV (valD x)).length<=630)(h1:xs.length<=1):(qTg srv nn till r m l xs).length<=4096:=by
 have a8:=qXs_len xs hx h1
 have a6:=qTk_len (s:=bKDC) (show (3:Nat)<=300 by decide) hl
 have h0:=wrV_leT (tgsD srv nn till r m (.ticket bKDC l) [] xs)
 have e:bodyV (tgsD srv nn till r m (.ticket bKDC l) [] xs)=wrL [bD srv.data.toList,nD nn,nD till,nD r.toNat,nD m.toNat,valD (.ticket bKDC l),bD [],.mk 2 0 0 [] (xs.map valD)]:=rfl
 rw [e] at h0
 have a1:=wr_bD srv.data.toList
 have a2:=wr_nD nn
 have a3:=wr_nD till
 have a4:=wr_nD (r.toNat:Int)
 have a5:=wr_nD (m.toNat:Int)
 have a7:=wr_bD []
 rw [size_toList] at a1
 simp only [wrL,List.length_append,List.length_nil] at h0 a7
 refine Nat.le_trans h0 ?_
 omega
end
section
open Go.RowKit Go.QT
section
variable{t:STab}{K Kk Kx K0 ka kb Kn:Fin 16->UInt8}{nb n:Nat}{now ta q till nn:Int}{au m2 b0 b1 b2 β:Bytes}{sl:List Sh}{us:List User}{pw:ByteArray}{bx:List SSealed}{kn:List (SFrom × Nat)}
theorem TS.dig(h:TS t n bx kn)(β:Bytes):TS (t.digest β) n bx kn:=⟨by rw [dig_keys];exact h.keys,by rw [dig_boxes];exact h.boxes,by unfold STab.digest;split <;> exact h.known,h.body⟩
theorem TS.gv(h:TS t n bx kn){Kx Ky:Fin 16->UInt8}{us:Int}(h1:b1.length<=1000000)(h2:b2.length<=1000000):TS (gvS t Kx Ky us b1 b2) n (bx++[⟨kl Kx,2,b1⟩]++[⟨kl Ky,us,b2⟩]) kn:=(h.seal rfl h1).seal rfl h2
theorem TS.inn(h:TS t n bx kn)(u:User){m:Nat}(hf:kn.find? (fun p=>decide (p.1=textF pw u.name))=some (textF pw u.name,m))(h0:b0.length<=1000000)(h1:b1.length<=1000000)(h2:b2.length<=1000000):TS (inS t pw u Kk b0 b1 b2) (n+1+1) (bx++[⟨kl u.key,1,b0⟩]++[⟨kl Kk,2,b1⟩]++[⟨kl u.key,3,b2⟩]) kn:=
 ((((h.made_old rfl hf).1.seal rfl h0).add rfl).add rfl).gv h1 h2
set_option maxRecDepth 100000
set_option maxHeartbeats 4000000
theorem askMeet_s{nm0:ByteArray}(k p:Tk)(hr:Room 9 t)(hnb:t.boxes.length=nb)(hK:kl K=mkB 107 (t.keys.length+1))(ho:openTh t (kl Kk) 2 k.l=.inr (.inside k.f k.K k.c k.a k.u k.r))(hu:¬ k.u<=now)(ha:openTh t (kl k.K) 7 au=.inr (.authent k.c ta q K0 (mkB 100 (t.sumAt β+1))))
   (hnear:nearF now ta=true) (hsl:∀ y ∈ sl,0<=y.t/\y.t<=1099511627776) (hx0:(⟨k.c,ta,q⟩:Sh) ∉ sl) (hmost:sl.length<64)
   (hsm:t.sums.length<=1000) (hs1:rightN p.c=true) (hs2:p.c.size<=300) (hn:inN nn=true) (ht:inN till=true) (hl:k.l.length=16) (hm:p.l.length=16) (hβ:qTg p.c nn till false true k.l [.ticket bKDC p.l]=β) (hlen:β.length<=4096)
   (htl:¬ till<=now) (ho2:openTh (t.digest β) (kl Kk) 2 p.l=.inr (.inside p.f p.K p.c p.a p.u p.r)) (hu2:¬ p.u<=now) (h32:us.length<=1000000) {u:User} (hb:placeB us p.c=true) (hg:us[placeI us p.c]?=some u) (hne:p.c.toList≠k.c.toList) (hme:u.mesh=true) (hkc:k.c.size<=1000)
   (h1:packB (.inside 2 K k.c k.a (min (min till k.u) p.u) 0)=.inr b1) (h2:packB (.reply 2 K nn p.c k.a (min (min till k.u) p.u) 0)=.inr b2) :
   Spec Tryz.prog ⟨14,13,[.p 6 0,aI now,aS nm0,.i 58 (.c [aS p.c,aI nn,aI till,aB false,aB true,aS bKDC,.o 9 k.l.length,.o 10 au.length,.s 11 0 1 1])],[eG,eSv,eK 1 2 Kk,eU 2 us,eB 9 k.l,eB 10 au,.blk 11 39 [aS bKDC,.o 12 p.l.length],eB 12 p.l],[eT 0 t,eC 4 sl],
     .i 145 (.c [aS k.c,aS p.c,.o 13 16,.o 14 16]),[eT 0 (gvS ((t.digest β).add SFrom.fresh) p.K k.K 8 b1 b2),eC 4 (keptF now sl++[⟨k.c,ta,q⟩]),eB 13 (mkB 98 (nb+1)),eB 14 (mkB 98 (nb+2))]⟩:=
 s1 [cTb 10006 (tgsMeet_s (Kk:=Kk) (q:=q) k p hr hnb hK ho hu ha hnear hsl hx0 hmost hsm hs1 hs2 hn ht hl hm hβ hlen htl ho2 hu2 h32 hb hg hne hme hkc h1 h2)]
abbrev knS:List (SFrom × Nat):=[(textF pwA bANN,2),(textF pwB bBOB,3)]
theorem TS.op:TS opS 3 [] knS:=
 (((TS.empty.add (f:=SFrom.fresh) rfl).made_new (f:=textF pwA bANN) rfl (by simp)).1.made_new (f:=textF pwB bBOB) rfl (by decide +kernel)).1
theorem made_sums(f:SFrom):(t.made f).sums=t.sums:=(made_boxes rfl).2
theorem in_sums(u:User):(inS t pw u Kk b0 b1 b2).sums=t.sums:=made_sums (textF pw u.name)
theorem sh_sumAt{d:Bytes}{u:Int}:(shS t β K u d).sumAt β=t.sumAt β:=(sk_new (s:=t) (β:=β)).1
theorem plA{k k':Fin 16->UInt8}:placeB [uAn k,uBo k'] bANN=true/\[uAn k,uBo k'][placeI [uAn k,uBo k'] bANN]?=some (uAn k):=⟨by kernel_rfl,by kernel_rfl⟩
theorem plB{k k':Fin 16->UInt8}:placeB [uAn k,uBo k'] bBOB=true/\[uAn k,uBo k'][placeI [uAn k,uBo k'] bBOB]?=some (uBo k'):=⟨by kernel_rfl,by kernel_rfl⟩
theorem fnA:knS.find? (fun p=>decide (p.1=textF pwA bANN))=some (textF pwA bANN,2):=by decide +kernel
theorem fnB:knS.find? (fun p=>decide (p.1=textF pwB bBOB))=some (textF pwB bBOB,3):=by decide +kernel
theorem alive17_s:Spec Tryz.prog ⟨10,0,[],[],[],aB true,[]⟩:=by
 obtain ⟨Kk,hk⟩:=ex_key 1
 obtain ⟨ka,ha⟩:=ex_key 2
 obtain ⟨kb,hb⟩:=ex_key 3
 obtain ⟨N1,hN1⟩:=ex_key 4
 obtain ⟨K1,hK1⟩:=ex_key 5
 obtain ⟨N2,hN2⟩:=ex_key 6
 obtain ⟨K2,hK2⟩:=ex_key 7
 obtain ⟨N3,hN3⟩:=ex_key 8
 obtain ⟨K3,hK3⟩:=ex_key 9
 obtain ⟨b0,p0⟩:=pack_stamp (t:=100) (q:=0+1) (by decide) (by decide)
 obtain ⟨b1,p1⟩:=pack_inside (f:=5) (K:=K1) (s:=bANN) (a:=100) (u:=min (100+600) (100+100)) (r:=100+500) (rightM_is right_ann (by decide)) (by decide)
 obtain ⟨b2,p2⟩:=pack_reply (f:=5) (K:=K1) (n:=(4:Nat)) (s:=bKDC) (a:=100) (u:=min (100+600) (100+100)) (r:=100+500) (rightM_is right_kdc (by decide)) (by decide)
 obtain ⟨c1,r1⟩:=pack_inside (f:=5) (K:=K2) (s:=bBOB) (a:=100) (u:=min (100+600) (100+60)) (r:=100+500) (rightM_is right_bob (by decide)) (by decide)
 obtain ⟨c2,r2⟩:=pack_reply (f:=5) (K:=K2) (n:=(6:Nat)) (s:=bKDC) (a:=100) (u:=min (100+600) (100+60)) (r:=100+500) (rightM_is right_kdc (by decide)) (by decide)
 have T0:=TS.op
 have T1:TS (inS opS pwA (uAn ka) Kk b0 b1 b2) 5 _ knS:=T0.inn (uAn ka) (m:=2) fnA (pack_le6 p0) (pack_le6 p1) (pack_le6 p2)
 have T2:TS (inS (inS opS pwA (uAn ka) Kk b0 b1 b2) pwB (uBo kb) Kk b0 c1 c2) 7 _ knS:=T1.inn (uBo kb) (m:=3) fnB (pack_le6 p0) (pack_le6 r1) (pack_le6 r2)
 generalize hβ:qTg bBOB (8:Nat) 999 false true (mkB 98 2) [.ticket bKDC (mkB 98 5)]=β
 have hlen:β.length<=4096:=by rw [← hβ];exact qTg_len (by decide) (by decide) (by intro x hx;rw [List.mem_singleton.1 hx];exact qTk_len (by decide) (by decide)) (by decide)
 have hs2:(inS (inS opS pwA (uAn ka) Kk b0 b1 b2) pwB (uBo kb) Kk b0 c1 c2).sums=[]:=by rw [in_sums,in_sums];unfold opS;rw [made_sums,made_sums];rfl
 generalize ht1:inS opS pwA (uAn ka) Kk b0 b1 b2=t1 at *
 generalize ht2:inS t1 pwB (uBo kb) Kk b0 c1 c2=t2 at *
 obtain ⟨d,q0⟩:=pack_authent (s:=bANN) (t:=110) (q:=0+1+1) (K:=zKy) (c:=mkB 100 ((t2.add SFrom.fresh).sumAt β+1)) (rightM_is right_ann (by decide)) (by decide) (by rw [mkB_len];decide)
 have T3:TS (shS (t2.add SFrom.fresh) β K1 7 d) 8 _ knS:=((T2.add (f:=SFrom.fresh) rfl).dig β).seal rfl (pack_le6 q0)
 have hs3:(shS (t2.add SFrom.fresh) β K1 7 d).sums.length<=1000:=by
   have:=dig_len (s:=t2.add SFrom.fresh) (β:=β) (n:=0) (by show t2.sums.length<=0;rw [hs2];exact Nat.le_refl _)
   exact Nat.le_trans this (by decide)
 have hsa:(shS (t2.add SFrom.fresh) β K1 7 d).sumAt β=(t2.add SFrom.fresh).sumAt β:=sh_sumAt
 have h32:[uAn ka,uBo kb].length<=1000000:=by simp
 have m0:=T0.made_old (f:=textF pwA bANN) rfl fnA
 have m1:=T1.made_old (f:=textF pwB bBOB) rfl fnB
 have i1:=in17_s (Kk:=Kk) (K:=K1) (Kn:=N1) (t:=opS) (nb:=0) (n:=4) (pw:=pwA) (now:=100) (us:=[uAn ka,uBo kb]) (Cl.new bANN) (uAn ka) rfl (T0.room 20 (by decide) (by decide)) (congrArg List.length T0.boxes) (congrArg (· + 1) m0.1.keys) (ha.trans (congrArg (mkB 107) m0.2.symm)) hN1 hK1 (by decide) h32 plA.1 plA.2 (by decide) (by decide) (show (0:Int)<100/\(100:Int)<=600 by decide) (show (0:Int)<500/\(500:Int)<=6000 by decide) (show (3:Nat)<=1000 by decide) p0 p1 p2
 have i2:=in17_s (Kk:=Kk) (K:=K2) (Kn:=N2) (t:=t1) (nb:=3) (n:=6) (pw:=pwB) (now:=100) (us:=[uAn ka,uBo kb]) (Cl.new bBOB) (uBo kb) rfl (T1.room 20 (by decide) (show 3+20<1000000 by decide)) (congrArg List.length T1.boxes) (congrArg (· + 1) m1.1.keys) (hb.trans (congrArg (mkB 107) m1.2.symm)) hN2 hK2 (by decide) h32 plB.1 plB.2 (by decide) (by decide) (show (0:Int)<60/\(60:Int)<=600 by decide) (show (0:Int)<500/\(500:Int)<=6000 by decide) (show (3:Nat)<=1000 by decide) p0 r1 r2
 rw [ht1] at i1
 rw [ht2] at i2
 obtain ⟨e1,v1⟩:=pack_inside (f:=2) (K:=K3) (s:=bANN) (a:=100) (u:=min (min 999 (min (100+600) (100+100))) (min (100+600) (100+60))) (r:=0) (rightM_is right_ann (by decide)) (by decide)
 obtain ⟨e2,v2⟩:=pack_reply (f:=2) (K:=K3) (n:=(8:Nat)) (s:=bBOB) (a:=100) (u:=min (min 999 (min (100+600) (100+100))) (min (100+600) (100+60))) (r:=0) (rightM_is right_bob (by decide)) (by decide)
 have T4:TS (gvS (((shS (t2.add SFrom.fresh) β K1 7 d).digest β).add SFrom.fresh) K2 K1 8 e1 e2) 9 _ knS:=((T3.dig β).add rfl).gv (pack_le6 v1) (pack_le6 v2)
 have g1:=crGet1_s 110 (inC 4 K2 100 (100+600) (uBo kb)) (show ¬ min ((100:Int)+600) (100+60)<=110 by decide)
 have mt:=meet_s (s:=t2) (Kn:=N3) (n:=8) (nb:=6) (now:=110) (till:=999) (b:=d) (peer:=bBOB) (ts2:=bKDC) (m2:=mkB 98 5) ((Cl.new bANN).shown.asks 1 bKDC ka ((4:Nat):Int)).ended (inC 1 K1 100 (100+600) (uAn ka)) (T2.room 9 (by decide) (show 6+9<1000000 by decide)) (by rw [hs2];decide) right_bob (by decide) (congrArg (· + 1) T2.keys) hN3 (by decide) (show (0:Int)<=0+1/\(0:Int)+1<=1000000 by decide) (show ¬ min ((100:Int)+600) (100+100)<=110 by decide) (mkB_len _ _) right_kdc (by decide) (mkB_len _ _) hβ hlen (congrArg List.length T2.boxes) (show (3:Nat)<=1000 by decide) q0
 have ak:=askMeet_s (nm0:=bANN) (t:=shS (t2.add SFrom.fresh) β K1 7 d) (K:=K3) (Kk:=Kk) (nb:=7) (now:=110) (nn:=((8:Nat):Int)) (till:=999) (au:=mkB 98 7) (β:=β) (sl:=[]) (us:=[uAn ka,uBo kb]) (q:=0+1+1) (ta:=110) (K0:=zKy) (b1:=e1) (b2:=e2) (u:=uBo kb) ⟨K1,bANN,5,100,min (100+600) (100+100),100+500,mkB 98 2⟩ ⟨K2,bBOB,5,100,min (100+600) (100+60),100+500,mkB 98 5⟩ (T3.room 9 (by decide) (show 7+9<1000000 by decide)) (congrArg List.length T3.boxes) (by rw [T3.keys];exact hK3) (T3.opn (i:=1) rfl p1 (by decide)) (show ¬ min ((100:Int)+600) (100+100)<=110 by decide) (by rw [hsa];exact T3.opn (i:=6) rfl q0 (by decide)) (near_now (by decide) (by decide)) (by simp) (by simp) (by decide) hs3 right_bob (show (3:Nat)<=300 by decide) (by decide) (by decide) (mkB_len _ _) (mkB_len _ _) hβ hlen (by decide) ((T3.dig β).opn (i:=4) rfl r1 (by decide)) (show ¬ min ((100:Int)+600) (100+60)<=110 by decide) h32 plB.1 plB.2 (show bBOB.toList≠bANN.toList by decide +kernel) rfl (show (3:Nat)<=1000 by decide) v1 v2
 have gm:=gotMeet_s (n:=((8:Nat):Int)) (K:=K1) (a:=100) (l:=mkB 98 9) ((Cl.new bANN).shown.asks 1 bKDC ka ((4:Nat):Int)).ended.shown (inC 1 K1 100 (100+600) (uAn ka)) ⟨mkB 98 8,K3,2,min (min 999 (min (100+600) (100+100))) (min (100+600) (100+60)),0,mk_le _ _⟩ (T4.room 9 (by decide) (show 9+9<1000000 by decide)).ok (T4.opn (i:=8) rfl v2 (by decide))
 have g2:=crGet2_s 110 (inC 1 K1 100 (100+600) (uAn ka)) ⟨mkB 98 8,K3,2,min (min 999 (min (100+600) (100+100))) (min (100+600) (100+60)),0,mk_le _ _⟩ (show ¬ min (min (999:Int) (min (100+600) (100+100))) (min (100+600) (100+60))<=110 by decide)
 exact s1 [cA 1000 (open17_s hk ha hb) [],cA 2008 i1 [],cA 2017 i2 [],cA 4007 g1 [],cA 5006 mt [],cA 7007 ak [],cA 7008 gm [],cA 8007 g2 []] [16,25]
end
end
section
open Go.RowKit Go.QT
section
variable{t s:STab}{K Kk K0 Kn ka:Fin 16->UInt8}{nb n:Nat}{now ta q till nn st sq:Int}{au m2 b0 b1 b2 b β pre l:Bytes}{sl:List Sh}{us:List User}{nm nm0:ByteArray}
set_option maxRecDepth 100000
set_option maxHeartbeats 4000000
end
end
section
open Go.RowKit Go.QT
theorem pv_tr{P:Program}{o:Oper}{ev:Operand->AV}{ro H:List Ent}{b:Nat}{v:Value}{ob:List Ob}(h:∀ (κ:Kp) (a:Act) (w:World),a.eval=(fun y=>(ev y).den κ)->(execOp a.eval o).run P w=.ok (.value v) w):Tr P o ev ro H b ⟨.v v,H,[],ob⟩ where
 goes:=fun _ _ _ _ ha hh=>OpTo.run _ (h _ _ _ ha) ⟨_,AgR.refl _ _ _,rfl,hh⟩
 names:=fun _ _ hH=>⟨trivial,fun _ he=>Ent.ok_mono (fun _ h=>.inl h) (hH _ he)⟩
 keeps:=fun _ he _=>he
end
section
open Go.RowKit Go.QT
end
section
open Go.RowKit Go.QT
end
section
open Go.RowKit Go.QT
/-- A call that makes one thing, and turns nothing. -/
theorem mk1_s{f:FuncId}{nx:Nat}{al:List AV}{ro:List Ent}{v:AV}{C:Kv->Prop}(h:∀ (κ:Kp) (w:World),HE (fun _=>False) w w κ ro []->Calls Tryz.prog f (AV.denL κ al).toArray w (fun e w'=>∃ kv:Kv,e=.returned (v.den (upK κ nx kv))/\C kv/\Hp (fun _=>False) w w' [] [kv.r])):Spec Tryz.prog ⟨f,nx,al,ro,[],v,[.opq nx C]⟩:=⟨fun κ w hh=>by
 have hh:HE (fun _=>False) w w κ ro []:=by rw [← foot_nil κ];exact hh
 refine (h κ w hh).mono fun e w' ⟨kv,e1,hC,hp⟩=>⟨⟨upK κ nx kv,up1 _,e1,⟨?_,fun e he=>absurd he List.not_mem_nil,fun e he=>?_⟩⟩⟩
 · rw [show foot κ (Sp.pre ⟨f,nx,al,ro,[],v,[.opq nx C]⟩)=fun _=>False from foot_nil κ]
   show HA _ _ _ _ [(upK κ nx kv nx).r]
   rw [upK_at];exact hp.ha
 rw [List.mem_singleton.1 he]
 show C (upK κ nx kv nx)
 rw [upK_at];exact hC⟩
abbrev aRc(k n:Nat):List AV:=[aI 1,aI 0,.v (.int .u64 0),.o k n,aN]
abbrev aR(k n:Nat):AV:=.c (aRc k n)
abbrev aNu(n:Int):AV:=.c (rg (nV n))
section
variable{s t:ByteArray}{n sid:Int}{b:Bytes}{m:Nat}
theorem raw_kv{nx:Nat}{κ:Kp}{w w':World}{e:Ending}(h:RawPost w b e w'):∃ kv:Kv,e=.returned ((aR nx b.length).den (upK κ nx kv))/\sbC b kv/\Hp (fun _=>False) w w' [] [kv.r]:=by
 obtain ⟨A,c,e1,h2,h3,h4⟩:=h
 refine ⟨⟨c,A,rSB (.slice A b.length c) b⟩,?_,rfl,(Hp.nil _ w).newS h3 _ h2 (fun q hq=>h4 q hq.2)⟩
 rw [e1];simp only [AV.den,AV.denL,upK_at]
theorem mText_s{k:Nat}(hs:s.size<=1000000)(hk:s.data.toList.length=k):Spec Tryz.prog ⟨95,0,[aS s],[],[],aR 0 k,[eB 0 s.data.toList]⟩:=by
 subst hk;exact mk1_s fun κ w _=>(mtext_any s w hs).mono fun e w' h=>raw_kv h
theorem mNum_s(n:Int):Spec Tryz.prog ⟨96,0,[aI n],[],[],aNu n,[]⟩:=
 pu_s (u:=.agg (nV n).toArray) (fun κ=>by rw [AV.den,denL_rg]) fun κ w _=>mnum_any n w
theorem dSeq_s(tag:Int)(nx:Nat)(ro:List Ent):Spec Tryz.prog ⟨94,nx,[aI tag,.s 0 0 m m],ro,[],.c [aI 2,aI tag,.v (.int .u64 0),aN,.s 0 0 m m],[]⟩:=⟨fun κ w hh=>by
 refine (dseq_any tag (some ⟨(κ 0).n,0,none⟩) m m w).mono fun e w' ⟨e1,hb⟩=>⟨⟨κ,fun _ _=>⟨rfl,rfl⟩,by rw [e1];rfl,⟨?_,fun e he=>absurd he List.not_mem_nil,fun e he=>absurd he List.not_mem_nil⟩⟩⟩
 rw [show foot κ (Sp.pre ⟨94,nx,[aI tag,.s 0 0 m m],ro,[],.c [aI 2,aI tag,.v (.int .u64 0),aN,.s 0 0 m m],[]⟩)=fun _=>False from foot_nil κ]
 exact ((Hp.nil _ w).below hb).ha⟩
theorem rv_blk{w:World}{g:Nat}{T:TypeId}{l:List Value}(hb:Blk w g T l)(hl:l.length<=1000):RV w 1 (some ⟨g,0,none⟩) l.length (l.map fun v=>[v]):=by
 refine ⟨by rw [List.length_map];exact Nat.le_refl _,by unfold maxLen;omega,by simp,fun _=>⟨g,0,rfl,hb.lt,fun i x hx j u hu=>?_⟩⟩
 rw [List.getElem?_map] at hx
 cases hi:l[i]? with
 | none=>rw [hi] at hx;cases hx
 | some v =>
   rw [hi] at hx
   injection hx with hx;subst hx
   cases j with
   | zero =>
     injection hu with hu;subst hu
     rw [show 0+i*1+0=i from by omega]
     exact (hb.cell i).trans hi
   | succ j=>simp at hu
theorem mRight2_s(h1:rightN s=true/\s.size<=1000000)(h2:rightN t=true/\t.size<=1000000)(h3:inN n=true):Spec Tryz.prog ⟨98,2,[.s 0 0 2 2,.s 1 0 1 1],[.blk 0 9 [aS s,aS t],.blk 1 2 [aI n]],[],aB true,[]⟩:=
 pu_s (fun κ=>rfl) fun κ w hh=>by
   have b1:Blk w (κ 0).n 9 [.string s,.string t]:=(hh.ent (e:=.blk 0 9 [aS s,aS t]) (by simp)).1
   have b2:Blk w (κ 1).n 2 [.int .i64 n]:=(hh.ent (e:=.blk 1 2 [aI n]) (by simp)).1
   exact mright_any [s,t] [n] _ _ 2 1 w (by simp) (by simp) (by simp;exact ⟨⟨h1.1,by omega⟩,h2.1,by omega⟩) (by simp;exact h3) (rv_blk b1 (by simp)) (rv_blk b2 (by simp))
end
section
variable{f t:ByteArray}{sid:Int}{s:ByteArray}{b bx:Bytes}
set_option maxRecDepth 100000
set_option maxHeartbeats 4000000
/-! ### The values -/
structure Nm2(f t:ByteArray)(sid:Int):Prop where
 hf:rightN f=true/\f.size<=300
 ht:rightN t=true/\t.size<=300
 hs:inN sid=true
theorem Nm2.f6{f t:ByteArray}{sid:Int}(h:Nm2 f t sid):rightN f=true/\f.size<=1000000:=⟨h.hf.1,by have:=h.hf.2;omega⟩
theorem Nm2.t6{f t:ByteArray}{sid:Int}(h:Nm2 f t sid):rightN t=true/\t.size<=1000000:=⟨h.ht.1,by have:=h.ht.2;omega⟩
theorem vCall_s{k1 k2:Nat}(h:Nm2 f t sid)(e1:f.data.toList.length=k1)(e2:t.data.toList.length=k2):Spec Tryz.prog ⟨72,0,[.i 67 (.c [aS f,aS t,aI sid])],[],[],.t [.c [aI 2,aI 15,.v (.int .u64 0),aN,.s 0 0 3 3],aB true],
   [.blk 0 196 (aRc 1 k1++aRc 2 k2++rg (nV sid)),eB 1 f.data.toList,eB 2 t.data.toList]⟩:=
 s1 [cA 20002 (mText_s h.f6.2 e1) [],cA 20005 (mText_s h.t6.2 e2) [],cA 20008 (mNum_s sid) [],cA 20010 (dSeq_s (m:=3) 15 3 [.blk 0 196 (aRc 1 k1++aRc 2 k2++rg (nV sid)),eB 1 f.data.toList,eB 2 t.data.toList]) [],cA 20019 (mRight2_s h.f6 h.t6 h.hs) []]
end
end
section
open Go.RowKit Go.QT
/-! ### What a value leaves,as the old words have it -/
section
variable{κ:Kp}{w w':World}{post ro:List Ent}{b:Bytes}{v:DVal}{j:Nat}
theorem dvr_eB(h:Hp (fun _=>False) w w' [] (post.map (Ent.res κ)))(hh:∀ e ∈ post,e.holds κ)(i:Nat)(hi:post[i]?=some (eB j b)):DVR (newF w w') w' (rV (.slice (κ j).a b.length (κ j).n)) (bD b):=by
 have h1:(κ j).r=rSB (.slice (κ j).a b.length (κ j).n) b:=hh _ (List.mem_of_getElem? hi)
 exact dvr_sb h i (by rw [List.getElem?_map,hi];show some ((κ j).r)=_;rw [h1])
theorem mv_take{nx:Nat}{x:AV}{tag n k:Nat}{cs:List AV}(hs:Spec Tryz.prog ⟨72,nx,[x],ro,[],.t [.c [aI 2,aI (tag:Int),.v (.int .u64 0),aN,.s k 0 n n],aB true],.blk k 196 cs::post⟩){ts:List DVal}(hn:ts.length=n)(hl:decide (n<=1000)=true)
   (hx:∀ (κ:Kp) (w w':World),Hp (fun _=>False) w w' [] ((.blk k 196 cs::post).map (Ent.res κ))->(∀ e ∈ (Ent.blk k 196 cs::post),e.holds κ)->∃ xs,AV.denL κ cs=xs.flatten/\DVLs (newF w w') w' xs ts) (κ:Kp) (w:World) (hh:HE (fun _=>False) w w κ ro []) :
   Calls Tryz.prog 72 #[x.den κ] w (MvPost w (.mk 2 tag 0 [] ts)):=by
 have h0:=hs.calls κ w (by rw [foot_nil];exact hh)
 refine h0.mono fun e w' ⟨κ',_,e1,h1⟩=>?_
 rw [foot_nil] at h1
 obtain ⟨xs,hf,hd⟩:=hx κ' w w' h1.ha.hp h1.hh
 rw [e1]
 exact mv_of (tag:=tag) h1.ha.hp 0 rfl hf hd hn hl
theorem mWrite_s{nx:Nat}{x:AV}{m:Nat}(h:∀ κ w,HE (fun _=>False) w w κ ro []->Calls Tryz.prog 72 #[x.den κ] w (MvPost w v))(hr:rightV v 1=true)(hn:(wrV v).length<=4096)(hm:(wrV v).length=m):Spec Tryz.prog ⟨43,nx,[x],ro,[],.t [.o nx m,aI 0],[eB nx (wrV v)]⟩:=by
 subst hm
 refine mk1_s fun κ w hh=>(mwrite_any (h κ w hh) hr hn).mono fun e w' ⟨A,c,e1,h1⟩=>⟨⟨c,A,rSB (.slice A (wrV v).length c) (wrV v)⟩,?_,rfl,?_⟩
 · rw [e1];simp only [AV.den,AV.denL,upK_at]
 exact h1.upd 0 rfl (Fr.refl _ _) (rSB (.slice A (wrV v).length c) (wrV v)) (OB.sb (h1.own 0 _ rfl)) (fun q hq=>.inl hq.2)
end
/-! ### Sizes and shapes -/
inductive PtOk:DVal->Prop
 | raw (b:Bytes):PtOk (bD b)
 | num (n:Int):PtOk (nD n)
 | tk (s:ByteArray) (b:Bytes):PtOk (valD (.ticket s b))
theorem msg_right{tag:Nat}{ps:List DVal}(ht:rightV (.mk 2 tag 0 [] []) 1=true)(hp:∀ p ∈ ps,PtOk p)(_:ps.length<=100):rightV (.mk 2 tag 0 [] ps) 1=true:=by
 have hv:∀ t d,d<=6->rightV (valD t) d=true:=by
   intro t d hd
   unfold valD
   rw [rightV,rightL_all]
   · have:d<=8:=by omega
     cases t <;> simp [tagTh,this]
   refine valL_all _ (fun n=>?_) (fun b=>?_) t
   · unfold nD;rw [rightV];simp;omega
   unfold bD;rw [rightV];simp;omega
 rw [rightV,rightL_all]
 · rw [rightV] at ht
   simp only [Bool.and_eq_true] at ht
   simpa using ht.1
 intro x hx
 cases hp x hx with
 | raw b=>exact rightV_bD _
 | num n=>exact rightV_nD n
 | tk s b=>exact hv _ _ (by omega)
section
variable{f t s:ByteArray}{sid:Int}{b au:Bytes}
def callD(f t:ByteArray)(sid:Int):DVal:=.mk 2 15 0 [] [bD f.data.toList,bD t.data.toList,nD sid]
theorem callD_right:rightV (callD f t sid) 1=true:=msg_right rfl (by
 intro p hp;simp only [List.mem_cons,List.not_mem_nil,or_false] at hp
 rcases hp with rfl|rfl|rfl
 · exact .raw _
 · exact .raw _
 exact .num _) (by simp)
theorem callD_len(hf:f.size<=300)(ht:t.size<=300):(wrV (callD f t sid)).length<=4096:=by
 have h0:=wrV_leT (callD f t sid)
 have e:bodyV (callD f t sid)=wrL [bD f.data.toList,bD t.data.toList,nD sid]:=rfl
 rw [e] at h0
 have a1:=wr_bD f.data.toList
 have a2:=wr_bD t.data.toList
 have a3:=wr_nD sid
 rw [size_toList] at a1 a2
 simp only [wrL,List.length_append,List.length_nil] at h0
 refine Nat.le_trans h0 ?_
 omega
end
/-! ### Digests -/
section
variable{F:Nat->Prop}{tb:Nat}{st:STab}{l:Bytes}{bv:Value}{w:World}
theorem digest_sum(hT:(rTab F tb st).Φ w)(hb:SB w bv l)(hl:l.length<=1000000)(hm:st.sums.length<1000000):Calls Tryz.prog 161 #[pt tb 0,bv] w (SumPost F tb st l w):=
 (digest_any F tb st l bv w hT hb hl hm).mono fun e w' hq=>by
   obtain ⟨v,F',he,hsb,hT',h1,_,hf,hn⟩:=hq
   obtain ⟨A,cc,rfl,hc1,hc2,hcell⟩:=hsb
   have hs:SB w' (.slice A (mkB 100 (st.sumAt l+1)).length cc) (mkB 100 (st.sumAt l+1)):=⟨A,cc,rfl,hc1,hc2,hcell⟩
   rw [mkB_len] at hs he hn
   have h:=(Hp.one (rTab F tb st) hT).upd 0 rfl hf (rTab F' tb (st.digest l)) hT' h1
   refine ⟨A,cc,F',he,(h.addS (rSB (.slice A 16 cc) (mkB 100 (st.sumAt l+1))) hs (fun q hq=>.inr (hn q hq.2).1) (fun j t ht q h3 h4=>?_) (fun j t ht q h3 h4=>by simp at ht)).sel [1,0] [] rfl rfl rfl⟩
   cases j with
   | zero=>injection ht with ht;subst ht;exact (hn q h3.2).2 h4
   | succ j=>simp at ht
theorem digest_s(hl:l.length<=1000000)(hm:st.sums.length<1000000):Spec Tryz.prog ⟨161,2,[.p 0 0,.o 1 l.length],[eB 1 l],[eT 0 st],.o 2 16,[eT 0 (st.digest l),eB 2 (mkB 100 (st.sumAt l+1))]⟩:=
 tab_s fun κ w F hh hF hT=>(digest_sum hT (sb_ent (j:=1) (l:=l) hh (by simp)) hl hm).mono fun e w' h=>sum_post (by omega) h
end
section
variable{f t sv:ByteArray}{sid:Int}{b au:Bytes}{st:STab}
set_option maxRecDepth 100000
set_option maxHeartbeats 4000000
theorem mvCall(h:Nm2 f t sid)(κ:Kp)(w:World)(hh:HE (fun _=>False) w w κ [] []):Calls Tryz.prog 72 #[(AV.i 67 (.c [aS f,aS t,aI sid])).den κ] w (MvPost w (callD f t sid)):=
 mv_take (vCall_s h rfl rfl) rfl (by decide) (fun κ w w' h1 h2=>⟨[_,_,_],by simp only [AV.denL,AV.den,denL_app,denL_rg];rfl,.cons (dvr_eB h1 h2 1 rfl) (.cons (dvr_eB h1 h2 2 rfl) (.cons (dvr_num h.hs) .nil))⟩) κ w hh
theorem wrCall_s(h:Nm2 f t sid){m:Nat}(hm:(wrV (callD f t sid)).length=m):Spec Tryz.prog ⟨43,0,[.i 67 (.c [aS f,aS t,aI sid])],[],[],.t [.o 0 m,aI 0],[eB 0 (wrV (callD f t sid))]⟩:=
 mWrite_s (mvCall h) callD_right (callD_len h.hf.2 h.ht.2) hm
theorem sumCall_s(h:Nm2 f t sid)(hsm:st.sums.length<=1000):Spec Tryz.prog ⟨26,1,[tI,.i 67 (.c [aS f,aS t,aI sid])],[],[eT 0 st],.o 1 16,[eT 0 (st.digest (wrV (callD f t sid))),eB 1 (mkB 100 (st.sumAt (wrV (callD f t sid))+1))]⟩:=
 s1 [cA 14001 (wrCall_s h rfl) [],cTb 15002 (digest_s (st:=st) (l:=wrV (callD f t sid)) (by have:=callD_len (sid:=sid) h.hf.2 h.ht.2;omega) (by omega))]
end
end
section
open Go.ChangeShapes Go.WideShapes Go.ChangeAt Go.RowKit
set_option maxRecDepth 100000
variable{H:Type}{enc:TypeId × Value->H}{w:World}{base:Nat}{spare:Nat->Bool}{held:Bool}
theorem c22:Tryz.prog.cellsOf 40=16:=by kernel_rfl
theorem c5:Tryz.prog.cellsOf 5=1:=by kernel_rfl
end
section
open Go.ChangeShapes Go.WideShapes Go.ChangeAt Go.RowKit
theorem Tryz.own:ownKnob Tryz.prog.godebug=none:=by kernel_rfl
theorem Tryz.laidOut:laidOutB Tryz.prog=true:=by kernel_rfl
section
variable{H:Type}{enc:TypeId × Value->H}{P:Program}
theorem trodAll_stays{W W':World}{sp':Nat->Bool}(hl:laidOutB P=true):∀ (ts:List TypeId) (vs:List Value) (ds:List (DataW H)) (ps:List MemPlace),
   (ts.all fun t=>P.readableRec t && decide (t<P.types.size))=true->DataW.TrodAll enc P W 0 (fun _=>true) true ts vs ds ps ->
   (∀ p ∈ ps,W.sameAt W' p)->(∀ p ∈ ps,sp' p.block=true)->DataW.TrodAll enc P W' 0 sp' true ts vs ds ps
 | [],_,_,_,_,h,_,_=>by
   obtain ⟨rfl,rfl,rfl⟩:=trodAll_nil h
   exact rfl
 | t::ts,_,_,_,ht,h,hs,hsp=>by
   obtain ⟨v,vs,d,ds,a,b,rfl,rfl,rfl,h1,h2⟩:=trodAll_cons h
   rw [List.all_cons,Bool.and_eq_true,Bool.and_eq_true,decide_eq_true_eq] at ht
   exact ⟨a,b,WideElems.Trod_stays hl ht.1.1 ht.1.2 h1 (fun p hp=>hs p (by simp [hp])) (fun p hp=>hsp p (by simp [hp])),
     trodAll_stays hl ts vs ds b ht.2 h2 (fun p hp=>hs p (by simp [hp])) (fun p hp=>hsp p (by simp [hp])),rfl⟩
theorem post_of_below{f:Func}{s:ChangeSpec}{apart fresh handsOn again:Bool}{W W':World}{args:Array Value}{v:Value}{ds gs:List (DataW H)}{before pa pv:List MemPlace}
   (hW:DataW.Whole enc P f.params.toList s.vars apart W args.toList ds gs before)
   (hres:∀ (b:Nat) (sp:Nat->Bool) (hd:Bool),DataW.TrodAll enc P W' b sp hd f.resultTypes.toList (v.resultList f.resultTypes.size) (s.fn H (ds++gs)).results [])
   (hargs:∀ sp:Nat->Bool,(∀ p ∈ before,sp p.block=true)->DataW.TrodAll enc P W' 0 sp true f.params.toList args.toList (s.fn H (ds++gs)).args pa)
   (hvars:∀ sp:Nat->Bool,(∀ p ∈ before,sp p.block=true)->DataW.TrodVars enc P W' sp s.vars (s.fn H (ds++gs)).vars pv)
   (hps:before=pa++pv) (hb:Below W.heap.size W W')
   (hok:∀ (j:Nat) (t:TypeId) (r:Value),f.resultTypes[j]?=some t->(v.resultList f.resultTypes.size)[j]?=some r->Value.okWide P W' .any 0 t r) :
   s.post enc P f apart fresh handsOn again W args v W':=by
 have hlt:∀ p ∈ before,p.block<W.heap.size:=fun p hp=>hW.lt p hp
 have hold:∀ p ∈ before,(fun b=>decide (b<W.heap.size)) p.block=true:=fun p hp=>by simpa using hlt p hp
 refine ⟨ds,gs,before,[],pa,pv,hW,hres _ _ _,hargs _ hold,hvars _ hold,World.keptBut_mono (fun p hp=>⟨hp,?_⟩) (hb.frame (· ∈ before)),fun _=>?_⟩
 · rw [hps,List.mem_append] at hp
   exact Or.inr hp
 obtain ⟨_,_,_,_,_,hz,hn⟩:=hW
 refine ⟨hok,_,_,([]++pa)++pv,⟨[]++pa,pv,trodAll_append (hargs _ (fun _ _=>rfl)) (hres _ _ _),hvars _ (fun _ _=>rfl),rfl,?_,?_⟩,?_⟩
 · intro b off hp
   have hin:MemPlace.cell b off ∈ before:=by rw [hps];simpa using hp
   rw [hb.frozen (hlt _ hin)]
   exact hz b off hin
 · intro ha
   have:=hn ha
   rw [hps] at this
   simpa using this
 intro p hp _
 rw [hps]
 simpa using hp
/-- A law's post: it returned true, and what was there is as it was. -/
theorem law_post{f:Func}{s:ChangeSpec}{apart fresh handsOn again:Bool}{W W':World}{args:Array Value}{ds gs:List (DataW H)}{before:List MemPlace}{tb:TypeId}
   (hl:laidOutB P=true) (hts:(f.params.toList.all fun t=>P.readableRec t && decide (t<P.types.size))=true) (htb:P.underlying tb=some .bool) (hr:f.resultTypes=#[tb]) (hv:s.vars=[])
   (hfn:∀ ds:List (DataW H),ds.length=f.params.size->s.fn H ds=⟨[.lit (.bool true)],ds,[]⟩)
   (hW:DataW.Whole enc P f.params.toList s.vars apart W args.toList ds gs before) (hb:Below W.heap.size W W') :
   s.post enc P f apart fresh handsOn again W args (.bool true) W':=by
 have hW':=hW
 have hlt:∀ p ∈ before,p.block<W.heap.size:=fun p hp=>hW.lt p hp
 obtain ⟨p,q,hA,hV,rfl,hfz,hnd⟩:=hW
 rw [hv] at hV
 obtain ⟨rfl,rfl⟩:=trodVars_none hV
 have hlen:ds.length=f.params.size:=by
   have:∀ (ts:List TypeId) (vs:List Value) (ds:List (DataW H)) (p:List MemPlace),DataW.TrodAll enc P W 0 (fun _=>true) true ts vs ds p->ds.length=ts.length:=by
     intro ts
     induction ts with
     | nil=>intro vs ds p h;obtain ⟨rfl,rfl,rfl⟩:=trodAll_nil h;rfl
     | cons t ts ih =>
       intro vs ds p h
       obtain ⟨v,vs,d,ds,a,b,rfl,rfl,rfl,h1,h2⟩:=trodAll_cons h
       simp [ih _ _ _ h2]
   simpa using this _ _ _ _ hA
 simp only [List.append_nil] at hW' hlt
 have hds:s.fn H (ds++[])=⟨[.lit (.bool true)],ds,[]⟩:=by rw [List.append_nil];exact hfn ds hlen
 refine post_of_below (pa:=p) (pv:=[]) (gs:=[]) hW' ?_ ?_ ?_ (by simp) hb ?_
 · intro b sp hd
   rw [hds,hr]
   exact trodAll_mk1 (shut_bool htb true)
 · intro sp hsp
   rw [hds]
   exact trodAll_stays hl _ _ _ _ hts hA (fun x hx=>hb.same (hlt x hx)) hsp
 · intro sp _
   rw [hds,hv]
   exact rfl
 exact ok_one hr rfl (okWide_bool_mk htb true)
end
section
variable{H:Type}{enc:TypeId × Value->H}{w:World}{base:Nat}
end
end
section
open Go.ChangeShapes
variable{H:Type}{enc:TypeId × Value->H}{P:Program}{w:World}{base:Nat}{spare:Nat->Bool}{held:Bool}
end
end Go.Proofs.YtaoijkhndakppaaGreat
