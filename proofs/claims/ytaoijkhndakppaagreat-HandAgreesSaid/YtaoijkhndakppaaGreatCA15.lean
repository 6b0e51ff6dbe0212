/- Rows of steps that come in: opened (law18). -/
import Derived.ProofKit
import Derived.Carry
import Derived.ChangeShapes
import Derived.ChangeMaps5
import Derived.Deep.Slices
import Derived.Test.YtaoijkhndakppaaGreatCA14
set_option maxRecDepth 100000
set_option maxHeartbeats 4000000
namespace Go.Proofs.YtaoijkhndakppaaGreat
section
open Go.RowKit Go.QT
section
variable{K:Fin 16->UInt8}{n:Nat}{s:STab}
theorem drop11(hK:kl K=mkB 107 n)(hn:n<1000000):getP ((kl K).drop 11)=some n:=by
 rw [hK,getP_yes _ (by rw [List.length_drop,mkB_len];decide) (by rw [List.length_drop,mkB_len];decide)]
 have h1:getN (put8 n)=n:=getN_put8 n (by omega)
 have h2:(mkB 107 n).drop 11=(put8 n).drop 3:=rfl
 have h3:put8 n=0::0::0::(put8 n).drop 3:=by
   have e0:UInt8.ofNat (n / 256 ^ 7)=0:=by rw [Nat.div_eq_of_lt (by omega)];rfl
   have e1:UInt8.ofNat (n / 256 ^ 6)=0:=by rw [Nat.div_eq_of_lt (by omega)];rfl
   have e2:UInt8.ofNat (n / 256 ^ 5)=0:=by rw [Nat.div_eq_of_lt (by omega)];rfl
   show [UInt8.ofNat (n / 256 ^ 7),UInt8.ofNat (n / 256 ^ 6),UInt8.ofNat (n / 256 ^ 5),_,_,_,_,_]=_
   rw [e0,e1,e2];rfl
 have h4:=congrArg getN h3
 rw [getN_zero,getN_zero,getN_zero,h1] at h4
 rw [h2,← h4]
theorem get5_s(hK:kl K=mkB 107 n)(hn:n<1000000):Spec Tryz.prog ⟨61,1,[.s 0 11 5 5],[.blk 0 41 (aK K)],[],.t [.v (.int .u64 (n:Int)),aB true],[]⟩:=⟨fun κ w hh=>by
 have hb:Blk w (κ 0).n 41 (AV.denL κ (aK K)):=hh.ha.red _ (List.mem_map.2 ⟨_,List.mem_singleton.2 rfl,rfl⟩)
 rw [denL_rg] at hb
 have hsb:SB w (.slice (some ⟨(κ 0).n,11,none⟩) 5 5) ((kl K).drop 11):=⟨some ⟨(κ 0).n,11,none⟩,5,by rw [List.length_drop,kl_len],by rw [List.length_drop,kl_len];decide,by decide,fun _=>⟨_,11,rfl,hb.lt,fun i hi=>by
   rw [List.length_drop,kl_len] at hi
   rw [hb.cell]
   show (vb (kl K))[11+i]?=_
   unfold vb
   rw [List.getElem?_map,List.getElem?_eq_getElem (by rw [kl_len];omega)]
   congr 3
   unfold gb
   rw [List.getD_eq_getElem?_getD,List.getElem?_drop,List.getElem?_eq_getElem (by rw [kl_len];omega)];rfl⟩⟩
 refine (get_any _ _ w hsb).mono fun e w' ⟨e1,m,e2⟩=>⟨⟨κ,fun _ _=>⟨rfl,rfl⟩,?_,?_,fun e he=>absurd he List.not_mem_nil,fun e he=>absurd he List.not_mem_nil⟩⟩
 · rw [e1,drop11 hK hn];rfl
 rw [foot_nil,e2];exact ((Hp.nil _ w).drewN m).ha⟩
set_option maxRecDepth 100000
set_option maxHeartbeats 4000000
theorem number_s(hK:kl K=mkB 107 (s.keys.length+1))(hl:s.keys.length+1=n)(hn:n<1000000):Spec Tryz.prog ⟨24,1,[tI],[],[eT 0 s],aI (n:Int),[eT 0 (s.add SFrom.fresh)]⟩:=
 s1 [cA 1001 (fresh_s hK (by omega)) [(0,0)],cA 2001 (get5_s (by rw [hK,hl]) hn),fA 3001 (w64 (x:=(n:Int)) (by omega) (by omega))] [] [(0,0)]
end
/-- Somebody, and what they have asked for. -/
structure Cl where
 nm:ByteArray
 q:Int
 ak:Int
 nn:Int
 wh:ByteArray
 K:Fin 16->UInt8
 fn:Int
 fs:ByteArray
 ff:Bool
 ft:Int
abbrev Cl.c(c:Cl)(st:Nat):List AV:=[tI,aS c.nm,.p st 0,aI c.q,aI c.ak,aI c.nn,aS c.wh]++aK c.K++[aI c.fn,aS c.fs,aB c.ff,aI c.ft]
def zKy:Fin 16->UInt8:=fun _=>0
abbrev Cl.new(nm:ByteArray):Cl:=⟨nm,0,0,0,ByteArray.empty,zKy,0,ByteArray.empty,false,0⟩
/-- Something is asked for. -/
abbrev Cl.asks(c:Cl)(k:Int)(s:ByteArray)(K:Fin 16->UInt8)(n:Int):Cl:={ c with ak:=k,wh:=s,K:=K,nn:=n }
abbrev Cl.shown(c:Cl):Cl:={ c with q:=c.q+1 }
section
variable(c:Cl)(k:Int)(s:ByteArray)(K:Fin 16->UInt8)(n:Int)(nm:ByteArray)
set_option maxRecDepth 100000
set_option maxHeartbeats 4000000
theorem loNew_s(t:STab):Spec Tryz.prog ⟨20,1,[tI,aS nm],[eT 0 t],[],.p 1 0,[.blk 1 51 ((Cl.new nm).c 2),.blk 2 162 st0]⟩:=s1 [] [58]
theorem begin_s:Spec Tryz.prog ⟨49,3,[.p 1 0,aI k,aS s,.c (aK K),aI n],[],[.blk 1 51 (c.c 2)],.t [],[.blk 1 51 ((c.asks k s K n).c 2)]⟩:=s1 []
end
end
section
open Go.RowKit Go.QT
theorem rvOne{w:World}{g:Nat}{T:TypeId}{s:ByteArray}{v:Value}(hb:Blk w g T [.string s,v]):RV w 2 (some ⟨g,0,none⟩) 1 [[.string s,v]]:=by
 refine ⟨Nat.le_refl _,by unfold maxLen;omega,by simp,fun _=>⟨g,0,rfl,hb.lt,fun i x hx j u hu=>?_⟩⟩
 match i,hx with
 | 0,hx =>
   injection hx with hx;subst hx
   rw [show 0+0*2+j=j from by omega]
   exact (hb.cell j).trans hu
/-- The bytes of a request for a ticket. -/
abbrev qTg(srv:ByteArray)(nn till:Int)(r m:Bool)(l:Bytes)(xs:List Thing):Bytes:=wrV (tgsD srv nn till r m (.ticket bKDC l) [] xs)
section
variable{κ:Kp}{w w':World}{ro:List Ent}{nx:Nat}{s:STab}{F:Nat->Prop}{l β:Bytes}{e:Ending}
theorem sb_dj(hh:HE (foot κ [eT 0 s]) w w κ ro [eT 0 s])(hF:(κ 0).r=rTab F (κ 0).n s){j:Nat}(hj:eB j l ∈ ro):(rSB (.slice (κ j).a l.length (κ j).n) l).dj (rTab F (κ 0).n s):=by
 have h2:=hh.ha.rdis ((eB j l).res κ) (List.mem_map.2 ⟨_,hj,rfl⟩) ((eT 0 s).res κ) (by simp)
 have h3:(κ j).r=rFB (.slice (κ j).a l.length (κ j).n) l:=hh.hr _ hj
 intro q hq hf
 exact h2 q (show ((κ 0).r).W q from by rw [hF];exact hf) (show ((κ j).r).F q from by rw [h3];exact hq)
theorem sum_post(h0:0<nx)(h:SumPost F (κ 0).n s β w e w'):∃ κ':Kp,Agr (· < nx) κ κ'/\e=.returned ((AV.o nx 16).den κ')/\Hp F w w' [] ([eT 0 (s.digest β),eB nx (mkB 100 (s.sumAt β+1))].map (Ent.res κ'))/\∀ e ∈ [eT 0 (s.digest β),eB nx (mkB 100 (s.sumAt β+1))],e.holds κ':=by
 obtain ⟨A,c,F',e1,h1⟩:=h
 rw [show (Value.slice A 16 c)=.slice A (mkB 100 (s.sumAt β+1)).length c from by rw [mkB_len]] at h1
 obtain ⟨κ',k1,k2,k3,k4,k5⟩:=mkT1 (κ:=κ) h0 h1
 refine ⟨κ',k1,?_,k4,k5⟩
 rw [e1]
 show _=Ending.returned (.slice (κ' nx).a 16 (κ' nx).n)
 rw [k2,k3]
end
section
variable{s:STab}{srv ts2:ByteArray}{nn till:Int}{l m2:Bytes}
theorem sumMeet_s(r m:Bool)(hsm:s.sums.length<=1000)(hs:rightN srv=true)(hsl:srv.size<=300)(hn:inN nn=true)(ht:inN till=true)(hl:l.length<=300)(hts:rightN ts2=true)(hts2:ts2.size<=300)(hm:m2.length<=300)(hlen:(qTg srv nn till r m l [.ticket ts2 m2]).length<=4096) :
   Spec Tryz.prog ⟨26,4,[tI,.i 58 (.c [aS srv,aI nn,aI till,aB r,aB m,aS bKDC,.o 1 l.length,aN,.s 2 0 1 1])],[eB 1 l,.blk 2 39 [aS ts2,.o 3 m2.length],eB 3 m2],[eT 0 s],.o 4 16,[eT 0 (s.digest (qTg srv nn till r m l [.ticket ts2 m2])),eB 4 (mkB 100 (s.sumAt (qTg srv nn till r m l [.ticket ts2 m2])+1))]⟩:=
 tab_s fun κ w F hh hF hT=>by
   have h1:=sb_ent (j:=1) (l:=l) hh (by simp)
   have h3:=sb_ent (j:=3) (l:=m2) hh (by simp)
   have hb:=(hh.ent (e:=.blk 2 39 [aS ts2,.o 3 m2.length]) (by simp)).1
   have hE:(rXt (some ⟨(κ 2).n,0,none⟩) 1 [⟨ts2,m2,(κ 3).a,(κ 3).n⟩]).Φ w:=⟨rvOne hb,fun x hx=>by rw [List.mem_singleton.1 hx];exact h3⟩
   have hd:(rXt (some ⟨(κ 2).n,0,none⟩) 1 [⟨ts2,m2,(κ 3).a,(κ 3).n⟩]).dj (rTab F (κ 0).n s):=by
     intro q hq hf
     rcases hq with hq|⟨x,hx,hq⟩
     · have h4:=hh.ha.rdis ((Ent.blk 2 39 [aS ts2,.o 3 m2.length]).res κ) (by simp) ((eT 0 s).res κ) (by simp)
       refine h4 q (show ((κ 0).r).W q from by rw [hF];exact hf) ?_
       have:(κ 2).n=q:=by simpa [ownA] using hq.2
       exact this.symm
     rw [List.mem_singleton.1 hx] at hq
     exact sb_dj hh hF (j:=3) (l:=m2) (by simp) q hq hf
   have h:=sumTgs_any (C:=(κ 1).a) (D:=none) (E:=some ⟨(κ 2).n,0,none⟩) (cc:=(κ 1).n) (an:=0) (ca:=0) (ce:=1) (r:=r) (m:=m) hT (by omega) h1 (sb_dj hh hF (j:=1) (l:=l) (by simp)) hE hd ⟨Nat.le_refl _,fun x hx=>by rw [List.mem_singleton.1 hx];exact ⟨hts,by show ts2.size<=100000;omega,by show m2.length<=100000;omega⟩⟩ hs (by omega) hn ht ⟨by decide,by omega⟩ right_kdc hlen
   exact h.mono fun e w' h=>sum_post (by omega) h
/-- The same requests, with what shows who asks. -/
theorem sumMeetA_s{an:Nat}(r m:Bool)(hsm:s.sums.length<=1000)(hs:rightN srv=true)(hsl:srv.size<=300)(hn:inN nn=true)(ht:inN till=true)(hl:l.length<=300)(hts:rightN ts2=true)(hts2:ts2.size<=300)(hm:m2.length<=300)(hlen:(qTg srv nn till r m l [.ticket ts2 m2]).length<=4096){au:Bytes} :
   Spec Tryz.prog ⟨26,5,[tI,.i 58 (.c [aS srv,aI nn,aI till,aB r,aB m,aS bKDC,.o 1 l.length,.o 4 an,.s 2 0 1 1])],[eB 1 l,.blk 2 39 [aS ts2,.o 3 m2.length],eB 3 m2,eB 4 au],[eT 0 s],.o 5 16,[eT 0 (s.digest (qTg srv nn till r m l [.ticket ts2 m2])),eB 5 (mkB 100 (s.sumAt (qTg srv nn till r m l [.ticket ts2 m2])+1))]⟩:=
 tab_s fun κ w F hh hF hT=>by
   have h1:=sb_ent (j:=1) (l:=l) hh (by simp)
   have h3:=sb_ent (j:=3) (l:=m2) hh (by simp)
   have hb:=(hh.ent (e:=.blk 2 39 [aS ts2,.o 3 m2.length]) (by simp)).1
   have hE:(rXt (some ⟨(κ 2).n,0,none⟩) 1 [⟨ts2,m2,(κ 3).a,(κ 3).n⟩]).Φ w:=⟨rvOne hb,fun x hx=>by rw [List.mem_singleton.1 hx];exact h3⟩
   have hd:(rXt (some ⟨(κ 2).n,0,none⟩) 1 [⟨ts2,m2,(κ 3).a,(κ 3).n⟩]).dj (rTab F (κ 0).n s):=by
     intro q hq hf
     rcases hq with hq|⟨x,hx,hq⟩
     · have h4:=hh.ha.rdis ((Ent.blk 2 39 [aS ts2,.o 3 m2.length]).res κ) (by simp) ((eT 0 s).res κ) (by simp)
       refine h4 q (show ((κ 0).r).W q from by rw [hF];exact hf) ?_
       have:(κ 2).n=q:=by simpa [ownA] using hq.2
       exact this.symm
     rw [List.mem_singleton.1 hx] at hq
     exact sb_dj hh hF (j:=3) (l:=m2) (by simp) q hq hf
   have h:=sumTgs_any (C:=(κ 1).a) (D:=(κ 4).a) (E:=some ⟨(κ 2).n,0,none⟩) (cc:=(κ 1).n) (an:=an) (ca:=(κ 4).n) (ce:=1) (r:=r) (m:=m) hT (by omega) h1 (sb_dj hh hF (j:=1) (l:=l) (by simp)) hE hd ⟨Nat.le_refl _,fun x hx=>by rw [List.mem_singleton.1 hx];exact ⟨hts,by show ts2.size<=100000;omega,by show m2.length<=100000;omega⟩⟩ hs (by omega) hn ht ⟨by decide,by omega⟩ right_kdc hlen
   exact h.mono fun e w' h=>sum_post (by omega) h
end
end
section
open Go.RowKit Go.QT
abbrev eC(k:Nat)(l:List Sh):Ent:=eR k fun G n=>rCa G n 64 l
abbrev eM(k:Nat)(o:Option (ByteArray × Int)):Ent:=eR k fun G n=>rBk G n o
abbrev eSv:Ent:=.blk 3 124 [.p 1 0,.p 4 0,.p 5 0]
section
variable{t:STab}{K Kk Ki Ky:Fin 16->UInt8}{s0 c1:ByteArray}{us ta q now f a u r:Int}{l au b:Bytes}{sl:List Sh}
theorem cNew_s:Spec Tryz.prog ⟨66,0,[aI 64],[],[],.p 0 0,[eC 0 []]⟩:=make_s fun _ w=>(cnew_any w).mono fun _ _ ⟨G,cb,e1,h⟩=>⟨G,cb,e1,h⟩
theorem bkNew_s:Spec Tryz.prog ⟨77,0,[],[],[],.p 0 0,[eM 0 none]⟩:=make_s fun _ w=>(bknew_any w).mono fun _ _ ⟨bk,mv,e1,h⟩=>⟨mv,bk,e1,h⟩
theorem show_s(x:Sh)(hnear:nearF now x.t=true)(hl:∀ y ∈ sl,0<=y.t/\y.t<=1099511627776)(hx0:x ∉ sl)(hmost:sl.length<64):Spec Tryz.prog ⟨70,1,[.p 0 0,aI now,aS x.c,aI x.t,aI x.q],[],[eC 0 sl],aI 0,[eC 0 (keptF now sl++[x])]⟩:=
 own_s (fun _ _=>rfl) (fun _=>rfl) fun κ w G hh h1=>show_ok h1 hnear hl (by omega) hx0 hmost (by decide)
theorem equal_s{l m:Bytes}(h:l=m):Spec Tryz.prog ⟨69,2,[.o 0 l.length,.o 1 m.length],[eB 0 l,eB 1 m],[],aB true,[]⟩:=
 pu_s (fun _=>rfl) fun κ w hh=>(equal_any _ _ l m w (sb_ent (j:=0) hh (by simp)) (sb_ent (j:=1) hh (by simp))).mono fun e w' ⟨e1,e2⟩=>⟨by rw [e1,decide_eq_true h],e2 ▸ Below.refl _ _⟩
theorem openAuth_s(ho:openTh t (kl K) us l=.inr (.authent s0 ta q Ky b))(hs:TabOk t):Spec Tryz.prog ⟨23,2,[tI,.c (aK K),aI us,.o 1 l.length],[eT 0 t,eB 1 l],[],.t [.c ([aS s0,aI ta,aI q]++aK Ky++[.o 2 b.length]),aI 0],[eB 2 b]⟩:=⟨fun κ w hh=>by
 have hh:HE fN w w κ [eT 0 t,eB 1 l] []:=by rw [← foot_nil κ];exact hh
 have h0:=hh.ent (e:=eT 0 t) (by simp)
 obtain ⟨F,hF⟩:=h0.2
 have h1:(rTab F (κ 0).n t).Φ w:=by rw [← hF];exact h0.1
 have h2:=sb_ent (j:=1) (l:=l) hh (by simp)
 rw [show (AV.denL κ [tI,.c (aK K),aI us,.o 1 l.length]).toArray=#[(Value.iface 30 (pt (κ 0).n 0)),(Value.agg (vb (kl K)).toArray),.int .i64 us,(Value.slice (κ 1).a l.length (κ 1).n)] from by simp only [AV.denL,AV.den,denL_rg]]
 refine (auth_any h1 hs h2 ho).mono fun e w' ⟨A,c,e1,hp⟩=>⟨⟨upK κ 2 ⟨c,A,rFB (.slice A b.length c) b⟩,up1 _,?_,⟨?_,fun e he=>absurd he List.not_mem_nil,fun e he=>?_⟩⟩⟩
 · rw [e1]
   simp only [AV.den,AV.denL,denL_app,denL_rg,upK_at]
   rfl
 · rw [show foot κ (Sp.pre ⟨23,2,[tI,.c (aK K),aI us,.o 1 l.length],[eT 0 t,eB 1 l],[],.t [.c ([aS s0,aI ta,aI q]++aK Ky++[.o 2 b.length]),aI 0],[eB 2 b]⟩)=fN from foot_nil κ]
   show HA _ _ _ _ [(upK κ 2 _ 2).r]
   rw [upK_at];exact (hp.upd 0 rfl (Fr.refl _ _) (rFB (.slice A b.length c) b) (show (rSB (.slice A b.length c) b).Φ w' from hp.own 0 _ rfl) (fun q hq=>.inl hq)).ha
 rw [List.mem_singleton.1 he]
 show sbC b _
 rw [upK_at];rfl⟩
set_option maxRecDepth 100000
set_option maxHeartbeats 4000000
theorem kgNew_s(hK:kl Kk=mkB 107 (t.keys.length+1))(hn:t.keys.length<1000000):Spec Tryz.prog ⟨46,1,[tI],[],[eT 0 t],.p 3 0,[eT 0 (t.add SFrom.fresh),eK 1 2 Kk,eU 2 [],eSv,eC 4 [],eM 5 none]⟩:=
 s1 [cTb 1001 (kasNew_s hK hn),cA 1002 cNew_s [],cA 1003 bkNew_s []]
theorem opened_s(hs:TabOk t)(ho:openTh t (kl Kk) 2 l=.inr (.inside f Ki c1 a u r))(hu:¬ u<=now):Spec Tryz.prog ⟨117,7,[.p 3 0,aI now,.c [aS bKDC,.o 6 l.length]],[eT 0 t,eK 1 2 Kk,eSv,eB 6 l],[],.t [.c ([aI f]++aK Ki++[aS c1,aI a,aI u,aI r]),aI 0],[]⟩:=
 s1 [cTb 3016 (openInside_s ho hs),fA 6003 (isF hu)]
end
end
section
open Go.RowKit Go.QT
section
variable{n nb:Nat}{s:STab}{pw:ByteArray}{now till us:Int}{ka Kn K K2:Fin 16->UInt8}{b0 b β:Bytes}{c:Cl}
set_option maxRecDepth 100000
set_option maxHeartbeats 4000000
/-- The table behind Login. -/
abbrev lgS(s:STab)(pw nm:ByteArray)(ka:Fin 16->UInt8)(b0:Bytes):STab:=((s.made (textF pw nm)).seal (kl ka) 1 b0).add SFrom.fresh
theorem login_s(c:Cl)(hka:kl ka=mkB 107 (s.num (textF pw c.nm)))(hp:pw.size<=1000000)(hnm:c.nm.size<=1000000)(hr:Room 9 s)(hb0:packB (.stamp now (c.q+1))=.inr b0)(hnb:(s.made (textF pw c.nm)).boxes.length=nb)(hn:(s.made (textF pw c.nm)).keys.length+1=n)(hKn:kl Kn=mkB 107 n)(hq:0<=c.q/\c.q<=1000000) :
   Spec Tryz.prog ⟨12,3,[.p 1 0,aI now,aS pw,aI till],[],[eT 0 s,.blk 1 51 (c.c 2)],.t [.c [aS c.nm,aI (n:Int),aI till,.o 3 16],aI 0],[eT 0 (lgS s pw c.nm ka b0),.blk 1 51 ((c.shown.asks 1 bKDC ka (n:Int)).c 2),eB 3 (mkB 98 (nb+1))]⟩:=
 s1 [cTb 1011 (text_s hka hp hnm hr.keys),fA 2004 (w64 (x:=c.q+1) (by omega) (by omega)),cTb 3012 (sealStamp_s (K:=ka) (us:=1) hb0 hnb (hr.made _).ok),
   cTb 6006 (number_s (s:=(s.made (textF pw c.nm)).seal (kl ka) 1 b0) (n:=n) (K:=Kn) (by rw [hKn,← hn];rfl) hn (by have:=(hr.made (textF pw c.nm)).key;omega)),cA 6007 (begin_s c.shown 1 bKDC ka (n:Int))]
/-- The table behind a request that is shown. -/
abbrev shS(s:STab)(β:Bytes)(K:Fin 16->UInt8)(u:Int)(b:Bytes):STab:=(s.digest β).seal (kl K) u b
theorem meet_s(c:Cl)(d:Ck){peer ts2:ByteArray}{m2:Bytes}(hr:Room 9 s)(hsm:s.sums.length<=1000)(hp:rightN peer=true)(hpl:peer.size<=300)(hn:s.keys.length+1=n)(hKn:kl Kn=mkB 107 n)(ht:inN till=true)(hq:0<=c.q/\c.q<=1000000)(hk:¬ d.en<=now)
   (hm:d.m.length=16) (hts:rightN ts2=true) (hts2:ts2.size<=300) (hm2:m2.length=16) (hβ:qTg peer (n:Int) till false true d.m [.ticket ts2 m2]=β) (hlen:β.length<=4096) (hnb:s.boxes.length=nb) (hnm:c.nm.size<=1000)
   (hb:packB (.authent c.nm now (c.q+1) zKy (mkB 100 ((s.add SFrom.fresh).sumAt β+1)))=.inr b) :
   Spec Tryz.prog ⟨45,5,[.p 1 0,aI now,aI till,aS peer,.c [aS ts2,.o 4 m2.length]],[eB 3 d.m,eB 4 m2],[eT 0 s,.blk 1 51 (c.c 2),.blk 2 162 (st1 (d.at bKDC 3))],
     .t [.c [aS peer,aI (n:Int),aI till,aB false,aB true,aS bKDC,.o 5 d.m.length,.o 6 16,.s 7 0 1 1],aI 0],[eT 0 (shS (s.add SFrom.fresh) β d.K 7 b),.blk 1 51 ((c.shown.asks 3 peer d.K (n:Int)).c 2),.blk 2 162 (st1 (d.at bKDC 3)),eB 5 d.m,eB 6 (mkB 98 (nb+1)),.blk 7 39 [aS ts2,.o 4 m2.length]]⟩:=by
 subst hβ
 have hk9:=hr.key
 exact s1 [cA 1001005 (crGet1_s now d hk),cTb 1004006 (number_s (by rw [hKn,hn]) hn (by omega)),fA 2001004 (w64 (x:=c.q+1) (by omega) (by omega)),
   cTb 2002021 (sumMeet_s (s:=s.add SFrom.fresh) (nn:=(n:Int)) false true hsm hp hpl (inN_is (by omega) (by omega)) ht (by omega) hts hts2 (by omega) hlen),
   cTb 2002024 (sealAuth_s (K:=d.K) (us:=7) hb (n:=nb) (by rw [dig_boxes];exact hnb) (Room.digest (β:=qTg peer (n:Int) till false true d.m [.ticket ts2 m2]) (hr.add SFrom.fresh)).ok (by omega) (by rw [mkB_len];decide))] [57,22,49]
end
end
section
open Go.RowKit Go.QT
theorem neI(n:Int):Value.bool (n != n)=.bool false:=by rw [bne_self_eq_false]
theorem neS(s:ByteArray):Value.bool (!(s.toList == s.toList))=.bool false:=by rw [beq_self_eq_true];rfl
/-- Nothing is asked for any more. -/
abbrev Cl.ended(c:Cl):Cl:={ c with ak:=0,wh:=ByteArray.empty,K:=zKy }
section
variable{s:STab}{l:Bytes}{n a:Int}{K:Fin 16->UInt8}
set_option maxRecDepth 100000
set_option maxHeartbeats 4000000
theorem end_s(c:Cl):Spec Tryz.prog ⟨52,3,[.p 1 0],[],[.blk 1 51 (c.c 2)],.t [],[.blk 1 51 (c.ended.c 2)]⟩:=s1 []
theorem gotAs_s(c:Cl)(d:Ck)(hs:TabOk s)(ho:openTh s (kl K) 3 l=.inr (.reply d.fl d.K n bKDC a d.en d.rn)) :
   Spec Tryz.prog ⟨13,5,[.p 1 0,.i 143 (.c [aS c.nm,aS bKDC,.o 3 d.m.length,.o 4 l.length])],[eT 0 s,eB 3 d.m,eB 4 l],[.blk 1 51 ((c.asks 1 bKDC K n).c 2),.blk 2 162 st0],aI 0,
     [.blk 1 51 ((c.asks 1 bKDC K n).ended.c 2),.blk 2 162 (st1 (d.at bKDC 5)),eB 5 d.m]⟩:=
 s1 [fA 4012 (neS c.nm),cTb 1001010 (openReply_s ho hs),fA 1004006 (neI n),cA 1006014 (crPut0_s d),cA 1008001 (end_s (c.asks 1 bKDC K n))] [50]
theorem gotMeet_s(c:Cl)(e d:Ck)(hs:TabOk s)(ho:openTh s (kl K) 8 l=.inr (.reply d.fl d.K n bBOB a d.en d.rn)) :
   Spec Tryz.prog ⟨13,6,[.p 1 0,.i 145 (.c [aS c.nm,aS bBOB,.o 3 d.m.length,.o 4 l.length])],[eT 0 s,eB 3 d.m,eB 4 l],[.blk 1 51 ((c.asks 3 bBOB K n).c 2),.blk 2 162 (st1 (e.at bKDC 5))],aI 0,
     [.blk 1 51 ((c.asks 3 bBOB K n).ended.c 2),.blk 2 162 (st2 (e.at bKDC 5) (d.at bBOB 6)),eB 6 d.m]⟩:=
 s1 [fA 9019 (neS c.nm),cTb 1001010 (openReply_s ho hs),fA 1004006 (neI n),cA 1006014 (crPut2_s e d),cA 1008001 (end_s (c.asks 3 bBOB K n))] [50]
end
end
section
open Go.RowKit Go.QT
theorem imin3(a b c:Int):Value.int .i64 (if c<(if b<a then b else a) then c else (if b<a then b else a))=.int .i64 (min (min a b) c):=by
 congr 1;rw [Int.min_def,Int.min_def];repeat' split <;> omega
theorem neT{s t:ByteArray}(h:s.toList≠t.toList):Value.bool (s.toList == t.toList)=.bool false:=by rw [beq_eq_false_iff_ne.2 h]
/-- What somebody shows: an opened ticket, a number, a time. -/
structure Tk where
 K:Fin 16->UInt8
 c:ByteArray
 f:Int
 a:Int
 u:Int
 r:Int
 l:Bytes
abbrev Tk.A(k:Tk):AV:=.c ([aI k.f]++aK k.K++[aS k.c,aI k.a,aI k.u,aI k.r])
section
variable{t:STab}{K Kk Kx K0:Fin 16->UInt8}{nb:Nat}{now ta q till nn:Int}{au m2 b1 b2 β:Bytes}{sl:List Sh}{us:List User}{srv:ByteArray}
set_option maxRecDepth 100000
set_option maxHeartbeats 4000000
abbrev rqA(srv:ByteArray)(nn till:Int)(r m:Bool)(nl na:Nat)(x:AV):AV:=.c [aS srv,aI nn,aI till,aB r,aB m,aS bKDC,.o 6 nl,.o 7 na,x]
theorem whoMeet_s(k:Tk)(hs:TabOk t)(ho:openTh t (kl Kk) 2 k.l=.inr (.inside k.f k.K k.c k.a k.u k.r))(hu:¬ k.u<=now)(ha:openTh t (kl k.K) 7 au=.inr (.authent k.c ta q K0 (mkB 100 (t.sumAt β+1))))
   (hnear:nearF now ta=true) (hsl:∀ y ∈ sl,0<=y.t/\y.t<=1099511627776) (hx0:(⟨k.c,ta,q⟩:Sh) ∉ sl) (hmost:sl.length<64)
   (hsm:t.sums.length<=1000) (hs1:rightN srv=true) (hs2:srv.size<=300) (hn:inN nn=true) (ht:inN till=true) (hl:k.l.length=16) (hm:m2.length=16) (hβ:qTg srv nn till false true k.l [.ticket bKDC m2]=β) (hlen:β.length<=4096) :
   Spec Tryz.prog ⟨85,10,[.p 3 0,aI now,.c [aS bKDC,.o 6 k.l.length],.o 7 au.length,.i 58 (rqA srv nn till false true k.l.length au.length (.s 8 0 1 1))],[eK 1 2 Kk,eSv,eB 6 k.l,eB 7 au,.blk 8 39 [aS bKDC,.o 9 m2.length],eB 9 m2],[eT 0 t,eC 4 sl],
     .t [k.A,aI 0],[eT 0 (t.digest β),eC 4 (keptF now sl++[⟨k.c,ta,q⟩])]⟩:=by
 subst hβ
 exact s1 [cTb 1003 (opened_s (now:=now) hs ho hu),cTb 4010 (openAuth_s (us:=7) ha hs),fA 7004 (neS k.c),cTb 7016 (sumMeetA_s (an:=au.length) (au:=au) false true hsm hs1 hs2 hn ht (by omega) right_kdc (by decide) (by omega) hlen),cA 7017 (equal_s (l:=mkB 100 (t.sumAt (qTg srv nn till false true k.l [.ticket bKDC m2])+1)) rfl) [],cA 9012 (show_s ⟨k.c,ta,q⟩ hnear hsl hx0 hmost) []]
theorem met_s(k p:Tk)(hs:TabOk t)(ho:openTh t (kl Kk) 2 p.l=.inr (.inside p.f p.K p.c p.a p.u p.r))(hu:¬ p.u<=now)(h32:us.length<=1000000){u:User}(hb:placeB us p.c=true)(hg:us[placeI us p.c]?=some u)(hne:p.c.toList≠k.c.toList)(hme:u.mesh=true) :
   Spec Tryz.prog ⟨87,10,[.p 3 0,aI now,k.A,rqA p.c nn till false true k.l.length au.length (.s 8 0 1 1)],[eT 0 t,eK 1 2 Kk,eU 2 us,eSv,eB 6 k.l,eB 7 au,.blk 8 39 [aS bKDC,.o 9 p.l.length],eB 9 p.l],[],
     .t [.c ([aI 2]++aZ++[aS k.c,aI k.a,aI (min (min till k.u) p.u),aI 0]),.c (aK p.K),aI 0],[]⟩:=
 s1 [cTb 3006 (opened_s (now:=now) hs ho hu),cA 6009 (bsGet_s h32 hb hg) [],fA 9004 (neS p.c),fA 9010 (neT hne),fA 11002 (show Value.bool (!u.mesh)=.bool false by rw [hme];rfl),fA 13010 (imin3 till k.u p.u)]
theorem tgsMeet_s(k p:Tk)(hr:Room 9 t)(hnb:t.boxes.length=nb)(hK:kl K=mkB 107 (t.keys.length+1))(ho:openTh t (kl Kk) 2 k.l=.inr (.inside k.f k.K k.c k.a k.u k.r))(hu:¬ k.u<=now)(ha:openTh t (kl k.K) 7 au=.inr (.authent k.c ta q K0 (mkB 100 (t.sumAt β+1))))
   (hnear:nearF now ta=true) (hsl:∀ y ∈ sl,0<=y.t/\y.t<=1099511627776) (hx0:(⟨k.c,ta,q⟩:Sh) ∉ sl) (hmost:sl.length<64)
   (hsm:t.sums.length<=1000) (hs1:rightN p.c=true) (hs2:p.c.size<=300) (hn:inN nn=true) (ht:inN till=true) (hl:k.l.length=16) (hm:p.l.length=16) (hβ:qTg p.c nn till false true k.l [.ticket bKDC p.l]=β) (hlen:β.length<=4096)
   (htl:¬ till<=now) (ho2:openTh (t.digest β) (kl Kk) 2 p.l=.inr (.inside p.f p.K p.c p.a p.u p.r)) (hu2:¬ p.u<=now) (h32:us.length<=1000000) {u:User} (hb:placeB us p.c=true) (hg:us[placeI us p.c]?=some u) (hne:p.c.toList≠k.c.toList) (hme:u.mesh=true) (hkc:k.c.size<=1000)
   (h1:packB (.inside 2 K k.c k.a (min (min till k.u) p.u) 0)=.inr b1) (h2:packB (.reply 2 K nn p.c k.a (min (min till k.u) p.u) 0)=.inr b2) :
   Spec Tryz.prog ⟨54,10,[.p 3 0,aI now,rqA p.c nn till false true k.l.length au.length (.s 8 0 1 1)],[eK 1 2 Kk,eU 2 us,eSv,eB 6 k.l,eB 7 au,.blk 8 39 [aS bKDC,.o 9 p.l.length],eB 9 p.l],[eT 0 t,eC 4 sl],
     .t [.c [aS k.c,aS p.c,.o 10 16,.o 11 16],aI 0],[eT 0 (gvS ((t.digest β).add SFrom.fresh) p.K k.K 8 b1 b2),eC 4 (keptF now sl++[⟨k.c,ta,q⟩]),eB 10 (mkB 98 (nb+1)),eB 11 (mkB 98 (nb+2))]⟩:=
 s1 [cTb 1008 (whoMeet_s (q:=q) (srv:=p.c) (m2:=p.l) k hr.ok ho hu ha hnear hsl hx0 hmost hsm hs1 hs2 hn ht hl hm hβ hlen),fA 6003 (isF htl),cTb 5004 (met_s (t:=t.digest β) (nn:=nn) (till:=till) (au:=au) k p (Room.digest hr).ok ho2 hu2 h32 hb hg hne hme),cTb 14007 (fresh_s (s:=t.digest β) (by rw [dig_keys];exact hK) (by rw [dig_keys];exact hr.keys)),
   cTb 15012 (give_s (Kx:=p.K) (Ky:=k.K) (Kk:=Kk) (ug:=8) ((Room.digest (β:=β) hr).add SFrom.fresh) (nb:=nb) (by show (t.digest β).boxes.length=nb;rw [dig_boxes,hnb]) h1 h2 (by omega) (by omega))]
end
end
section
open Go.RowKit Go.QT
abbrev pwA:ByteArray:=⟨#[112,97]⟩
abbrev pwB:ByteArray:=⟨#[112,98]⟩
section
variable{t:STab}{K Kk ka kb Kn:Fin 16->UInt8}{nb n:Nat}{nm pw:ByteArray}{now till nn st sq:Int}{b0 b1 b2 pre:Bytes}{us:List User}
theorem sNew_s:Spec Tryz.prog ⟨19,0,[],[],[],.p 0 0,[eT 0 STab.empty]⟩:=
 make_s (R:=fun F n=>rTab F n STab.empty) fun _ w=>(snew_any w).mono fun _ _ ⟨tb,F,e1,hT,hF,hb⟩=>⟨F,tb,e1,(Hp.nil _ w).newS hb (rTab F tb STab.empty) hT hF⟩
set_option maxRecDepth 100000
set_option maxHeartbeats 4000000
/-- The table of the stage. -/
abbrev opS:STab:=((STab.empty.add SFrom.fresh).made (textF pwA bANN)).made (textF pwB bBOB)
/-- The table behind who logged in; what they have. -/
abbrev inS(t:STab)(pw:ByteArray)(u:User)(Kk:Fin 16->UInt8)(b0 b1 b2:Bytes):STab:=gvS ((lgS t pw u.name u.key b0).add SFrom.fresh) Kk u.key 3 b1 b2
theorem near_now{now:Int}(h1:0<=now)(h2:now<=1099511627776):nearF now now=true:=by unfold nearF;exact decide_eq_true (by omega)
theorem mk_le(k:UInt8)(n:Nat):(mkB k n).length<=1000000:=by rw [mkB_len];decide
end
end
section
open Go.RowKit Go.QT
theorem qTk_len{s:ByteArray}{b:Bytes}(h1:s.size<=300)(h2:b.length<=300):(wrV (valD (.ticket s b))).length<=630:=by
 have h0:=wrV_leT (valD (.ticket s b))
 have e:bodyV (valD (.ticket s b))=wrL (valL (.ticket s b)):=rfl
 rw [e] at h0
 have h3:=wr_bD s.data.toList
 have h4:=wr_bD b
 rw [size_toList] at h3
 simp only [valL,wrL,List.length_append,List.length_nil] at h0
 omega
theorem qXs_len:∀ (xs:List Thing),(∀ x ∈ xs,(wrV (valD x)).length<=630)->xs.length<=1->(wrV (.mk 2 0 0 [] (xs.map valD))).length<=640
 | [],_,_=>by
   have h2:=wrV_leT (.mk 2 0 0 [] [])
   have e2:bodyV (.mk 2 0 0 [] [])=wrL []:=rfl
   rw [e2,wrL] at h2
   exact Nat.le_trans h2 (by decide)
 | [x],hx,_=>by
   have h2:=wrV_leT (.mk 2 0 0 [] [valD x])
   have e2:bodyV (.mk 2 0 0 [] [valD x])=wrL [valD x]:=rfl
   rw [e2] at h2
   simp only [wrL,List.length_append,List.length_nil] at h2
   have h3:=hx x (by simp)
   exact Nat.le_trans h2 (by omega)
 | _::_::_,_,h=>absurd h (by simp)
theorem qTg_len{srv:ByteArray}{nn till:Int}{r m:Bool}{l:Bytes}{xs:List Thing}(hs:srv.size<=300)(hl:l.length<=300)(hx:∀ x ∈ xs,(wrV (valD x)).length<=630)(h1:xs.length<=1):(qTg srv nn till r m l xs).length<=4096:=by
 have a8:=qXs_len xs hx h1
 have a6:=qTk_len (s:=bKDC) (show (3:Nat)<=300 by decide) hl
 have h0:=wrV_leT (tgsD srv nn till r m (.ticket bKDC l) [] xs)
 have e:bodyV (tgsD srv nn till r m (.ticket bKDC l) [] xs)=wrL [bD srv.data.toList,nD nn,nD till,nD r.toNat,nD m.toNat,valD (.ticket bKDC l),bD [],.mk 2 0 0 [] (xs.map valD)]:=rfl
 rw [e] at h0
 have a1:=wr_bD srv.data.toList
 have a2:=wr_nD nn
 have a3:=wr_nD till
 have a4:=wr_nD (r.toNat:Int)
 have a5:=wr_nD (m.toNat:Int)
 have a7:=wr_bD []
 rw [size_toList] at a1
 simp only [wrL,List.length_append,List.length_nil] at h0 a7
 refine Nat.le_trans h0 ?_
 omega
end
section
open Go.RowKit Go.QT
section
variable{t:STab}{K Kk Kx K0 ka kb Kn:Fin 16->UInt8}{nb n:Nat}{now ta q till nn:Int}{au m2 b0 b1 b2 β:Bytes}{sl:List Sh}{us:List User}{pw:ByteArray}{bx:List SSealed}{kn:List (SFrom × Nat)}
theorem TS.dig(h:TS t n bx kn)(β:Bytes):TS (t.digest β) n bx kn:=⟨by rw [dig_keys];exact h.keys,by rw [dig_boxes];exact h.boxes,by unfold STab.digest;split <;> exact h.known,h.body⟩
theorem TS.gv(h:TS t n bx kn){Kx Ky:Fin 16->UInt8}{us:Int}(h1:b1.length<=1000000)(h2:b2.length<=1000000):TS (gvS t Kx Ky us b1 b2) n (bx++[⟨kl Kx,2,b1⟩]++[⟨kl Ky,us,b2⟩]) kn:=(h.seal rfl h1).seal rfl h2
theorem TS.inn(h:TS t n bx kn)(u:User){m:Nat}(hf:kn.find? (fun p=>decide (p.1=textF pw u.name))=some (textF pw u.name,m))(h0:b0.length<=1000000)(h1:b1.length<=1000000)(h2:b2.length<=1000000):TS (inS t pw u Kk b0 b1 b2) (n+1+1) (bx++[⟨kl u.key,1,b0⟩]++[⟨kl Kk,2,b1⟩]++[⟨kl u.key,3,b2⟩]) kn:=
 ((((h.made_old rfl hf).1.seal rfl h0).add rfl).add rfl).gv h1 h2
set_option maxRecDepth 100000
set_option maxHeartbeats 4000000
abbrev knS:List (SFrom × Nat):=[(textF pwA bANN,2),(textF pwB bBOB,3)]
theorem TS.op:TS opS 3 [] knS:=
 (((TS.empty.add (f:=SFrom.fresh) rfl).made_new (f:=textF pwA bANN) rfl (by simp)).1.made_new (f:=textF pwB bBOB) rfl (by decide +kernel)).1
theorem made_sums(f:SFrom):(t.made f).sums=t.sums:=(made_boxes rfl).2
theorem in_sums(u:User):(inS t pw u Kk b0 b1 b2).sums=t.sums:=made_sums (textF pw u.name)
theorem sh_sumAt{d:Bytes}{u:Int}:(shS t β K u d).sumAt β=t.sumAt β:=(sk_new (s:=t) (β:=β)).1
theorem fnA:knS.find? (fun p=>decide (p.1=textF pwA bANN))=some (textF pwA bANN,2):=by decide +kernel
theorem fnB:knS.find? (fun p=>decide (p.1=textF pwB bBOB))=some (textF pwB bBOB,3):=by decide +kernel
end
end
section
open Go.RowKit Go.QT
section
variable{t s:STab}{K Kk K0 Kn ka:Fin 16->UInt8}{nb n:Nat}{now ta q till nn st sq:Int}{au m2 b0 b1 b2 b β pre l:Bytes}{sl:List Sh}{us:List User}{nm nm0:ByteArray}
theorem openStampN_s{us:Int}{e:Nat}(ho:openTh s (kl K) us l=.inl e)(hs:TabOk s):Spec Tryz.prog ⟨42,2,[tI,.c (aK K),aI us,.o 1 l.length],[eT 0 s,eB 1 l],[],.t [.c [aI 0,aI 0],aI (e:Int)],[]⟩:=
 ro2_s (u:=outStamp (.inl e)) (fun κ=>by simp only [AV.den,AV.denL];rfl) fun κ w F hT hb=>by
   have h:=oStamp_any (K:=K) (us:=us) hT hs hb
   rw [ho] at h
   simp only [AV.denL,AV.den,denL_rg];exact h
set_option maxRecDepth 100000
set_option maxHeartbeats 4000000
end
end
section
open Go.RowKit Go.QT
/-- A call that makes one thing, and turns nothing. -/
theorem mk1_s{f:FuncId}{nx:Nat}{al:List AV}{ro:List Ent}{v:AV}{C:Kv->Prop}(h:∀ (κ:Kp) (w:World),HE fN w w κ ro []->Calls Tryz.prog f (AV.denL κ al).toArray w (fun e w'=>∃ kv:Kv,e=.returned (v.den (upK κ nx kv))/\C kv/\Hp (fun _=>False) w w' [] [kv.r])):Spec Tryz.prog ⟨f,nx,al,ro,[],v,[.opq nx C]⟩:=⟨fun κ w hh=>by
 have hh:HE fN w w κ ro []:=by rw [← foot_nil κ];exact hh
 refine (h κ w hh).mono fun e w' ⟨kv,e1,hC,hp⟩=>⟨⟨upK κ nx kv,up1 _,e1,⟨?_,fun e he=>absurd he List.not_mem_nil,fun e he=>?_⟩⟩⟩
 · rw [show foot κ (Sp.pre ⟨f,nx,al,ro,[],v,[.opq nx C]⟩)=fN from foot_nil κ]
   show HA _ _ _ _ [(upK κ nx kv nx).r]
   rw [upK_at];exact hp.ha
 rw [List.mem_singleton.1 he]
 show C (upK κ nx kv nx)
 rw [upK_at];exact hC⟩
/-- Values of der, but numbers: their parts lie under a name. -/
def dvC(v:DVal)(kv:Kv):Prop:=∃ F,kv.r=rDV F [.int .i64 2,.int .i64 (v.tag:Int),.int .u64 0,.slice none 0 0,.slice kv.a v.l.length kv.n] v
abbrev eDv(k:Nat)(v:DVal):Ent:=.opq k (dvC v)
abbrev aRc(k n:Nat):List AV:=[aI 1,aI 0,.v (.int .u64 0),.o k n,aN]
abbrev aR(k n:Nat):AV:=.c (aRc k n)
abbrev aNu(n:Int):AV:=.c (rg (nV n))
section
variable{s t:ByteArray}{n sid:Int}{b:Bytes}{m:Nat}
theorem raw_kv{nx:Nat}{κ:Kp}{w w':World}{e:Ending}(h:RawPost w b e w'):∃ kv:Kv,e=.returned ((aR nx b.length).den (upK κ nx kv))/\sbC b kv/\Hp (fun _=>False) w w' [] [kv.r]:=by
 obtain ⟨A,c,e1,h2,h3,h4⟩:=h
 refine ⟨⟨c,A,rFB (.slice A b.length c) b⟩,?_,rfl,(Hp.nil _ w).newS h3 _ h2 (fun q hq=>h4 q hq.2)⟩
 rw [e1];simp only [AV.den,AV.denL,upK_at]
theorem mText_s{k:Nat}(hs:s.size<=1000000)(hk:s.data.toList.length=k):Spec Tryz.prog ⟨95,0,[aS s],[],[],aR 0 k,[eB 0 s.data.toList]⟩:=by
 subst hk;exact mk1_s fun κ w _=>(mtext_any s w hs).mono fun e w' h=>raw_kv h
theorem mNum_s(n:Int):Spec Tryz.prog ⟨96,0,[aI n],[],[],aNu n,[]⟩:=
 pu_s (u:=.agg (nV n).toArray) (fun κ=>by rw [AV.den,denL_rg]) fun κ w _=>mnum_any n w
theorem dRaw0_s:Spec Tryz.prog ⟨97,0,[aN],[],[],aR 0 0,[eB 0 []]⟩:=
 mk1_s fun κ w _=>(draw_any (.slice none 0 0) [] w ⟨none,0,rfl,Nat.le_refl _,by unfold maxLen;omega,fun h=>absurd rfl h⟩ (by decide)).mono fun e w' h=>raw_kv (b:=[]) h
theorem dSeq_s(tag:Int)(nx:Nat)(ro:List Ent):Spec Tryz.prog ⟨94,nx,[aI tag,.s 0 0 m m],ro,[],.c [aI 2,aI tag,.v (.int .u64 0),aN,.s 0 0 m m],[]⟩:=⟨fun κ w hh=>by
 refine (dseq_any tag (some ⟨(κ 0).n,0,none⟩) m m w).mono fun e w' ⟨e1,hb⟩=>⟨⟨κ,fun _ _=>⟨rfl,rfl⟩,by rw [e1];rfl,⟨?_,fun e he=>absurd he List.not_mem_nil,fun e he=>absurd he List.not_mem_nil⟩⟩⟩
 rw [show foot κ (Sp.pre ⟨94,nx,[aI tag,.s 0 0 m m],ro,[],.c [aI 2,aI tag,.v (.int .u64 0),aN,.s 0 0 m m],[]⟩)=fN from foot_nil κ]
 exact ((Hp.nil _ w).below hb).ha⟩
/-- tick.Value of a ticket. -/
theorem tVal_s(hr:rightN s=true)(hs:s.size<=100000)(hl:b.length<=100000):Spec Tryz.prog ⟨99,1,[.i 39 (.c [aS s,.o 0 b.length])],[eB 0 b],[],.t [.c [aI 2,aI (tagTh (.ticket s b):Int),.v (.int .u64 0),aN,.o 1 2],aB true],[eDv 1 (valD (.ticket s b))]⟩:=
 mk1_s fun κ w hh=>by
   have h1:=sb_ent (j:=0) (l:=b) hh (by simp)
   refine (mval_any (t:=.ticket s b) ⟨(κ 0).a,(κ 0).n,rfl,rsg_of h1⟩ ⟨hs,hl⟩ (by show rightM s []=true;unfold rightM;rw [hr];rfl)).mono fun e w' ⟨F,g,n,e1,hp⟩=>?_
   have hn:n=2:=by
     have h2:=hp.own 0 _ rfl
     obtain ⟨B,d,A,c,xs,h3,_⟩:=dv_open h2
     injection h3 with _ h3;injection h3 with _ h3;injection h3 with _ h3;injection h3 with _ h3;injection h3 with h3 _
     injection h3
   subst hn
   refine ⟨⟨2,some ⟨g,0,none⟩,_⟩,?_,⟨F,rfl⟩,hp⟩
   rw [e1];simp only [AV.den,AV.denL,upK_at]
theorem rv_blk{w:World}{g:Nat}{T:TypeId}{l:List Value}(hb:Blk w g T l)(hl:l.length<=1000):RV w 1 (some ⟨g,0,none⟩) l.length (l.map fun v=>[v]):=by
 refine ⟨by rw [List.length_map];exact Nat.le_refl _,by unfold maxLen;omega,by simp,fun _=>⟨g,0,rfl,hb.lt,fun i x hx j u hu=>?_⟩⟩
 rw [List.getElem?_map] at hx
 cases hi:l[i]? with
 | none=>rw [hi] at hx;cases hx
 | some v =>
   rw [hi] at hx
   injection hx with hx;subst hx
   cases j with
   | zero =>
     injection hu with hu;subst hu
     rw [show 0+i*1+0=i from by omega]
     exact (hb.cell i).trans hi
   | succ j=>simp at hu
theorem mRight2_s(h1:rightN s=true/\s.size<=1000000)(h2:rightN t=true/\t.size<=1000000)(h3:inN n=true):Spec Tryz.prog ⟨98,2,[.s 0 0 2 2,.s 1 0 1 1],[.blk 0 9 [aS s,aS t],.blk 1 2 [aI n]],[],aB true,[]⟩:=
 pu_s (fun κ=>rfl) fun κ w hh=>by
   have b1:Blk w (κ 0).n 9 [.string s,.string t]:=(hh.ent (e:=.blk 0 9 [aS s,aS t]) (by simp)).1
   have b2:Blk w (κ 1).n 2 [.int .i64 n]:=(hh.ent (e:=.blk 1 2 [aI n]) (by simp)).1
   exact mright_any [s,t] [n] _ _ 2 1 w (by simp) (by simp) (by simp;exact ⟨⟨h1.1,by omega⟩,h2.1,by omega⟩) (by simp;exact h3) (rv_blk b1 (by simp)) (rv_blk b2 (by simp))
end
section
variable{f t:ByteArray}{sid:Int}{s:ByteArray}{b bx:Bytes}
set_option maxRecDepth 100000
set_option maxHeartbeats 4000000
/-! ### The values -/
structure Nm2(f t:ByteArray)(sid:Int):Prop where
 hf:rightN f=true/\f.size<=300
 ht:rightN t=true/\t.size<=300
 hs:inN sid=true
theorem Nm2.f6{f t:ByteArray}{sid:Int}(h:Nm2 f t sid):rightN f=true/\f.size<=1000000:=⟨h.hf.1,by have:=h.hf.2;omega⟩
theorem Nm2.t6{f t:ByteArray}{sid:Int}(h:Nm2 f t sid):rightN t=true/\t.size<=1000000:=⟨h.ht.1,by have:=h.ht.2;omega⟩
end
end
section
open Go.RowKit Go.QT
/-! ### What a value leaves,as the old words have it -/
section
variable{κ:Kp}{w w':World}{post ro:List Ent}{b:Bytes}{v:DVal}{j:Nat}
theorem dvr_eB(h:HA fN w w' [] (post.map (Ent.res κ)))(hh:∀ e ∈ post,e.holds κ)(i:Nat)(hi:post[i]?=some (eB j b)):DVR (newF w w') w' (rV (.slice (κ j).a b.length (κ j).n)) (bD b):=by
 have h1:(κ j).r=rFB (.slice (κ j).a b.length (κ j).n) b:=hh _ (List.mem_of_getElem? hi)
 have h2:=h.sel (r:=(κ j).r) (List.mem_map.2 ⟨_,List.mem_of_getElem? hi,rfl⟩)
 rw [h1] at h2
 exact dvr_sb (h2.upd 0 rfl (Fr.refl _ _) (rSB (.slice (κ j).a b.length (κ j).n) b) (show (rFB (.slice (κ j).a b.length (κ j).n) b).Φ w' from h2.own 0 _ rfl) (fun q hq=>.inl hq)) 0 rfl
theorem dvr_eD(h:HA fN w w' [] (post.map (Ent.res κ)))(hh:∀ e ∈ post,e.holds κ)(i:Nat)(hi:post[i]?=some (eDv j v)):DVR (newF w w') w' [.int .i64 2,.int .i64 (v.tag:Int),.int .u64 0,.slice none 0 0,.slice (κ j).a v.l.length (κ j).n] v:=by
 obtain ⟨F,h1⟩:∃ F,(κ j).r=rDV F [.int .i64 2,.int .i64 (v.tag:Int),.int .u64 0,.slice none 0 0,.slice (κ j).a v.l.length (κ j).n] v:=hh _ (List.mem_of_getElem? hi)
 exact dvr_dv (h.sel (r:=(κ j).r) (List.mem_map.2 ⟨_,List.mem_of_getElem? hi,rfl⟩)) 0 (by rw [h1];rfl)
theorem mv_take{nx:Nat}{x:AV}{tag n k:Nat}{cs:List AV}(hs:Spec Tryz.prog ⟨72,nx,[x],ro,[],.t [.c [aI 2,aI (tag:Int),.v (.int .u64 0),aN,.s k 0 n n],aB true],.blk k 196 cs::post⟩){ts:List DVal}(hn:ts.length=n)(hl:decide (n<=1000)=true)
   (hx:∀ (κ:Kp) (w w':World),HA fN w w' [] ((.blk k 196 cs::post).map (Ent.res κ))->(∀ e ∈ (Ent.blk k 196 cs::post),e.holds κ)->∃ xs,AV.denL κ cs=xs.flatten/\DVLs (newF w w') w' xs ts) (κ:Kp) (w:World) (hh:HE fN w w κ ro []) :
   Calls Tryz.prog 72 #[x.den κ] w (MvPost w (.mk 2 tag 0 [] ts)):=by
 have h0:=hs.calls κ w (by rw [foot_nil];exact hh)
 refine h0.mono fun e w' ⟨κ',_,e1,h1⟩=>?_
 rw [foot_nil] at h1
 obtain ⟨xs,hf,hd⟩:=hx κ' w w' h1.ha h1.hh
 rw [e1]
 exact mv_of (tag:=tag) (h1.ha.sel (List.mem_cons_self ..)) 0 rfl hf hd hn hl
theorem mWrite_s{nx:Nat}{x:AV}{m:Nat}(h:∀ κ w,HE fN w w κ ro []->Calls Tryz.prog 72 #[x.den κ] w (MvPost w v))(hr:rightV v 1=true)(hn:(wrV v).length<=4096)(hm:(wrV v).length=m):Spec Tryz.prog ⟨43,nx,[x],ro,[],.t [.o nx m,aI 0],[eB nx (wrV v)]⟩:=by
 subst hm
 refine mk1_s fun κ w hh=>(mwrite_any (h κ w hh) hr hn).mono fun e w' ⟨A,c,e1,h1⟩=>⟨⟨c,A,rFB (.slice A (wrV v).length c) (wrV v)⟩,?_,rfl,?_⟩
 · rw [e1];simp only [AV.den,AV.denL,upK_at]
 exact h1.upd 0 rfl (Fr.refl _ _) (rFB (.slice A (wrV v).length c) (wrV v)) (OB.sb (h1.own 0 _ rfl)) (fun q hq=>.inl hq.2)
end
/-! ### Sizes and shapes -/
inductive PtOk:DVal->Prop
 | raw (b:Bytes):PtOk (bD b)
 | num (n:Int):PtOk (nD n)
 | tk (s:ByteArray) (b:Bytes):PtOk (valD (.ticket s b))
theorem msg_right{tag:Nat}{ps:List DVal}(ht:rightV (.mk 2 tag 0 [] []) 1=true)(hp:∀ p ∈ ps,PtOk p)(_:ps.length<=100):rightV (.mk 2 tag 0 [] ps) 1=true:=by
 have hv:∀ t d,d<=6->rightV (valD t) d=true:=by
   intro t d hd
   unfold valD
   rw [rightV,rightL_all]
   · have:d<=8:=by omega
     cases t <;> simp [tagTh,this]
   refine valL_all _ (fun n=>?_) (fun b=>?_) t
   · unfold nD;rw [rightV];simp;omega
   unfold bD;rw [rightV];simp;omega
 rw [rightV,rightL_all]
 · rw [rightV] at ht
   simp only [Bool.and_eq_true] at ht
   simpa using ht.1
 intro x hx
 cases hp x hx with
 | raw b=>exact rightV_bD _
 | num n=>exact rightV_nD n
 | tk s b=>exact hv _ _ (by omega)
section
variable{f t s:ByteArray}{sid:Int}{b au:Bytes}
def callD(f t:ByteArray)(sid:Int):DVal:=.mk 2 15 0 [] [bD f.data.toList,bD t.data.toList,nD sid]
def apqD(f t:ByteArray)(sid:Int)(tk:Thing)(au:Bytes):DVal:=.mk 2 17 0 [] [bD f.data.toList,bD t.data.toList,nD sid,valD tk,bD au]
theorem callD_right:rightV (callD f t sid) 1=true:=msg_right rfl (by
 intro p hp;simp only [List.mem_cons,List.not_mem_nil,or_false] at hp
 rcases hp with rfl|rfl|rfl
 · exact .raw _
 · exact .raw _
 exact .num _) (by simp)
theorem apqD_right:rightV (apqD f t sid (.ticket s b) au) 1=true:=msg_right rfl (by
 intro p hp;simp only [List.mem_cons,List.not_mem_nil,or_false] at hp
 rcases hp with rfl|rfl|rfl|rfl|rfl
 · exact .raw _
 · exact .raw _
 · exact .num _
 · exact .tk _ _
 exact .raw _) (by simp)
theorem apqD_len(hf:f.size<=300)(ht:t.size<=300)(hs:s.size<=300)(hb:b.length<=300)(ha:au.length<=300):(wrV (apqD f t sid (.ticket s b) au)).length<=4096:=by
 have a6:=qTk_len hs hb
 have h0:=wrV_leT (apqD f t sid (.ticket s b) au)
 have e:bodyV (apqD f t sid (.ticket s b) au)=wrL [bD f.data.toList,bD t.data.toList,nD sid,valD (.ticket s b),bD au]:=rfl
 rw [e] at h0
 have a1:=wr_bD f.data.toList
 have a2:=wr_bD t.data.toList
 have a3:=wr_nD sid
 have a4:=wr_bD au
 rw [size_toList] at a1 a2
 simp only [wrL,List.length_append,List.length_nil] at h0
 refine Nat.le_trans h0 ?_
 omega
end
/-! ### Digests -/
section
variable{F:Nat->Prop}{tb:Nat}{st:STab}{l:Bytes}{bv:Value}{w:World}
theorem digest_sum(hT:(rTab F tb st).Φ w)(hb:SB w bv l)(hl:l.length<=1000000)(hm:st.sums.length<1000000):Calls Tryz.prog 161 #[pt tb 0,bv] w (SumPost F tb st l w):=
 (digest_any F tb st l bv w hT hb hl hm).mono fun e w' hq=>by
   obtain ⟨v,F',he,hsb,hT',h1,_,hf,hn⟩:=hq
   obtain ⟨A,cc,rfl,hc1,hc2,hcell⟩:=hsb
   have hs:SB w' (.slice A (mkB 100 (st.sumAt l+1)).length cc) (mkB 100 (st.sumAt l+1)):=⟨A,cc,rfl,hc1,hc2,hcell⟩
   rw [mkB_len] at hs he hn
   have h:=(Hp.one (rTab F tb st) hT).upd 0 rfl hf (rTab F' tb (st.digest l)) hT' h1
   refine ⟨A,cc,F',he,(h.addS (rSB (.slice A 16 cc) (mkB 100 (st.sumAt l+1))) hs (fun q hq=>.inr (hn q hq.2).1) (fun j t ht q h3 h4=>?_) (fun j t ht q h3 h4=>by simp at ht)).sel [1,0] [] rfl rfl rfl⟩
   cases j with
   | zero=>injection ht with ht;subst ht;exact (hn q h3.2).2 h4
   | succ j=>simp at ht
theorem digest_s(hl:l.length<=1000000)(hm:st.sums.length<1000000):Spec Tryz.prog ⟨161,2,[.p 0 0,.o 1 l.length],[eB 1 l],[eT 0 st],.o 2 16,[eT 0 (st.digest l),eB 2 (mkB 100 (st.sumAt l+1))]⟩:=
 tab_s fun κ w F hh hF hT=>(digest_sum hT (sb_ent (j:=1) (l:=l) hh (by simp)) hl hm).mono fun e w' h=>sum_post (by omega) h
end
section
variable{f t sv:ByteArray}{sid:Int}{b au:Bytes}{st:STab}
set_option maxRecDepth 100000
set_option maxHeartbeats 4000000
theorem vApq0_s{k1 k2:Nat}(h:Nm2 f t sid)(hs:rightN sv=true/\sv.size<=300)(hb:b.length<=300)(e1:f.data.toList.length=k1)(e2:t.data.toList.length=k2):Spec Tryz.prog ⟨72,1,[.i 102 (.c [aS f,aS t,aI sid,aS sv,.o 0 b.length,aN])],[eB 0 b],[],.t [.c [aI 2,aI 17,.v (.int .u64 0),aN,.s 1 0 5 5],aB true],
   [.blk 1 196 (aRc 2 k1++aRc 3 k2++rg (nV sid)++[aI 2,aI (tagTh (.ticket sv b):Int),.v (.int .u64 0),aN,.o 4 2]++aRc 5 0),eB 2 f.data.toList,eB 3 t.data.toList,eDv 4 (valD (.ticket sv b)),eB 5 []]⟩:=
 s1 [cA 27003 (tVal_s hs.1 (by omega) (show b.length<=100000 by omega)) [],cA 28002 (mText_s h.f6.2 e1) [],cA 28005 (mText_s h.t6.2 e2) [],cA 28008 (mNum_s sid) [],cA 28012 dRaw0_s [],cA 28014 (dSeq_s (m:=5) 17 5 [.blk 0 196 (aRc 1 k1++aRc 2 k2++rg (nV sid)++[aI 2,aI (tagTh (.ticket sv b):Int),.v (.int .u64 0),aN,.o 3 2]++aRc 4 0),eB 1 f.data.toList,eB 2 t.data.toList,eDv 3 (valD (.ticket sv b)),eB 4 []]) [],cA 28025 (mRight2_s h.f6 h.t6 h.hs) []]
theorem mvApq0(h:Nm2 f t sid)(hs:rightN sv=true/\sv.size<=300)(hb:b.length<=300)(κ:Kp)(w:World)(hh:HE fN w w κ [eB 0 b] []):Calls Tryz.prog 72 #[(AV.i 102 (.c [aS f,aS t,aI sid,aS sv,.o 0 b.length,aN])).den κ] w (MvPost w (apqD f t sid (.ticket sv b) [])):=
 mv_take (vApq0_s h hs hb rfl rfl) rfl (by decide) (fun κ w w' h1 h2=>⟨[_,_,_,_,_],by simp only [AV.denL,AV.den,denL_app,denL_rg];rfl,.cons (dvr_eB h1 h2 1 rfl) (.cons (dvr_eB h1 h2 2 rfl) (.cons (dvr_num h.hs) (.cons (dvr_eD h1 h2 3 rfl) (.cons (dvr_eB h1 h2 4 rfl) .nil))))⟩) κ w hh
theorem wrApq0_s(h:Nm2 f t sid)(hs:rightN sv=true/\sv.size<=300)(hb:b.length<=300){m:Nat}(hm:(wrV (apqD f t sid (.ticket sv b) [])).length=m):Spec Tryz.prog ⟨43,1,[.i 102 (.c [aS f,aS t,aI sid,aS sv,.o 0 b.length,aN])],[eB 0 b],[],.t [.o 1 m,aI 0],[eB 1 (wrV (apqD f t sid (.ticket sv b) []))]⟩:=
 mWrite_s (mvApq0 h hs hb) apqD_right (apqD_len h.hf.2 h.ht.2 hs.2 hb (by simp)) hm
/-- Its sum, with and without what shows who asks. -/
abbrev qAp(f t:ByteArray)(sid:Int)(sv:ByteArray)(b:Bytes):Bytes:=wrV (apqD f t sid (.ticket sv b) [])
theorem sumApq0_s(h:Nm2 f t sid)(hs:rightN sv=true/\sv.size<=300)(hb:b.length<=300)(hsm:st.sums.length<=1000):Spec Tryz.prog ⟨26,2,[tI,.i 102 (.c [aS f,aS t,aI sid,aS sv,.o 1 b.length,aN])],[eB 1 b],[eT 0 st],.o 2 16,[eT 0 (st.digest (qAp f t sid sv b)),eB 2 (mkB 100 (st.sumAt (qAp f t sid sv b)+1))]⟩:=
 s1 [cA 14001 (wrApq0_s h hs hb rfl) [],cTb 15002 (digest_s (st:=st) (l:=qAp f t sid sv b) (by have:=apqD_len (sid:=sid) (au:=[]) h.hf.2 h.ht.2 hs.2 hb (by simp);unfold qAp;omega) (by omega))]
theorem sumApq_s(h:Nm2 f t sid)(hs:rightN sv=true/\sv.size<=300)(hb:b.length<=300)(hsm:st.sums.length<=1000){an:Nat}:Spec Tryz.prog ⟨26,3,[tI,.i 102 (.c [aS f,aS t,aI sid,aS sv,.o 1 b.length,.o 2 an])],[eB 1 b,eB 2 au],[eT 0 st],.o 3 16,[eT 0 (st.digest (qAp f t sid sv b)),eB 3 (mkB 100 (st.sumAt (qAp f t sid sv b)+1))]⟩:=
 s1 [cA 14001 (wrApq0_s h hs hb rfl) [],cTb 15002 (digest_s (st:=st) (l:=qAp f t sid sv b) (by have:=apqD_len (sid:=sid) (au:=[]) h.hf.2 h.ht.2 hs.2 hb (by simp);unfold qAp;omega) (by omega))]
end
end
section
open Go.RowKit Go.QT
noncomputable def kqF (K L:Fin 16->UInt8) (o:Oper) (ev:Operand->AV) (_ H:List Ent) (_:Nat):Option Out:=
 match o.op with
 | .binOp .neq t x y _=>bif Nat.beq t 41 then some ⟨.v (.bool (!decide (kl K=kl L))),H,[],[⟨AV,ev x,.c (aK K)⟩,⟨AV,ev y,.c (aK L)⟩]⟩ else none
 | .binOp .eql t x y _=>bif Nat.beq t 41 then some ⟨.v (.bool (decide (kl K=kl L))),H,[],[⟨AV,ev x,.c (aK K)⟩,⟨AV,ev y,.c (aK L)⟩]⟩ else none
 | _=>none
theorem pv_tr{P:Program}{o:Oper}{ev:Operand->AV}{ro H:List Ent}{b:Nat}{v:Value}{ob:List Ob}(h:∀ (κ:Kp) (a:Act) (w:World),a.eval=(fun y=>(ev y).den κ)->(execOp a.eval o).run P w=.ok (.value v) w):Tr P o ev ro H b ⟨.v v,H,[],ob⟩ where
 goes:=fun _ _ _ _ ha hh=>OpTo.run _ (h _ _ _ ha) ⟨_,AgR.refl _ _ _,rfl,hh⟩
 names:=fun _ _ hH=>⟨trivial,fun _ he=>Ent.ok_mono (fun _ h=>.inl h) (hH _ he)⟩
 keeps:=fun _ he _=>he
theorem aK_den(κ:Kp)(K:Fin 16->UInt8):(AV.c (aK K)).den κ=.agg (vb (kl K)).toArray:=by rw [AV.den,denL_rg]
/-- Two keys, side by side. -/
noncomputable def kqA (key:Nat) (K L:Fin 16->UInt8):Pl Tryz.prog:=⟨key,kqF K L,by
 intro o ev ro H b u h hob
 unfold kqF at h
 split at h
 · rename_i t x y t' ho
   rw [cond_some] at h
   obtain ⟨hc,h⟩:=h
   subst h
   obtain rfl:=Nat.eq_of_beq_eq_true hc
   have o1:ev x=.c (aK K):=hob _ (List.mem_cons_self ..)
   have o2:ev y=.c (aK L):=hob _ (List.mem_cons_of_mem _ (List.mem_cons_self ..))
   exact pv_tr fun κ a w ha=>exec_ne16 _ _ x y ho (kl K) (kl L) (by rw [ha];simp only [o1];exact aK_den κ K) (by rw [ha];simp only [o2];exact aK_den κ L) (by kernel_rfl) eg42 (kl_len K) (kl_len L) w
 · rename_i t x y t' ho
   rw [cond_some] at h
   obtain ⟨hc,h⟩:=h
   subst h
   obtain rfl:=Nat.eq_of_beq_eq_true hc
   have o1:ev x=.c (aK K):=hob _ (List.mem_cons_self ..)
   have o2:ev y=.c (aK L):=hob _ (List.mem_cons_of_mem _ (List.mem_cons_self ..))
   exact pv_tr fun κ a w ha=>exec_eq16 _ _ x y ho (kl K) (kl L) (by rw [ha];simp only [o1];exact aK_den κ K) (by rw [ha];simp only [o2];exact aK_den κ L) (by kernel_rfl) eg42 (kl_len K) (kl_len L) w
 cases h⟩
noncomputable def knA (key:Nat) (K L:Fin 16->UInt8) (h:kl K≠kl L):Pl Tryz.prog:=⟨key,fun o ev ro H b=>match kqF K L o ev ro H b with|some u=>some ⟨.v (.bool (match o.op with | .binOp .neq _ _ _ _=>true|_=>false)),u.H,u.md,u.ob⟩|none=>none,by
 intro o ev ro H b u hu hob
 split at hu
 · rename_i u' h'
   injection hu with hu;subst hu
   have h1:Tr Tryz.prog o ev ro H b u':=(kqA key K L).ok (ro:=ro) (b:=b) h' (show obOk u'.ob from hob)
   have e:(.v (.bool (match o.op with | .binOp .neq _ _ _ _=>true|_=>false)):AV)=u'.v:=by
     unfold kqF at h'
     split at h' <;> first|(rename_i ho;rw [cond_some] at h';rw [← h'.2];simp only [ho,decide_eq_false h] <;> rfl)|cases h'
   obtain ⟨v',H',md',ob'⟩:=u'
   subst e;exact h1
 cases hu⟩
end
section
open Go.RowKit Go.QT
theorem exec_self{P:Program}{o:Oper}{a:Act}(t:TypeId)(cs:List Value)(x y:Operand)(t':TypeId)(ho:o.op=.binOp .eql t x y t')(hx:a.eval x=.agg cs.toArray)(hy:a.eval y=.agg cs.toArray)(hg:P.eqGuardType P.depth t=false)(hs:∀ W,(Op.equalIn 10000 t (.agg cs.toArray) (.agg cs.toArray)).run P W=.ok true W)(W:World) :
   (execOp a.eval o).run P W=.ok (.value (.bool true)) W:=by
 unfold execOp
 simp only [ho,hx,hy,Sem.run_bind,run_eqGuard_agg W _ t _ _ _ _ hg,Result.andThen_ok,run_eql_struct,hs,Sem.run_pure]
noncomputable def seF (T:TypeId) (cs:List Value) (o:Oper) (ev:Operand->AV) (_ H:List Ent) (_:Nat):Option Out:=
 match o.op with
 | .binOp .eql t x y _=>bif Nat.beq t T then some ⟨.v (.bool true),H,[],[⟨AV,ev x,.c (rg cs)⟩,⟨AV,ev y,.c (rg cs)⟩]⟩ else none
 | _=>none
noncomputable def seA (key:Nat) (T:TypeId) (cs:List Value) (hs:∀ W,(Op.equalIn 10000 T (.agg cs.toArray) (.agg cs.toArray)).run Tryz.prog W=.ok true W) (hg:Tryz.prog.eqGuardType Tryz.prog.depth T=false):Pl Tryz.prog:=⟨key,seF T cs,by
 intro o ev ro H b u h hob
 unfold seF at h
 split at h
 · rename_i t x y t' ho
   rw [cond_some] at h
   obtain ⟨hc,h⟩:=h
   subst h
   obtain rfl:=Nat.eq_of_beq_eq_true hc
   have o1:ev x=.c (rg cs):=hob _ (List.mem_cons_self ..)
   have o2:ev y=.c (rg cs):=hob _ (List.mem_cons_of_mem _ (List.mem_cons_self ..))
   exact pv_tr fun κ a w ha=>exec_self _ cs x y _ ho (by rw [ha];simp only [o1];rw [AV.den,denL_rg]) (by rw [ha];simp only [o2];rw [AV.den,denL_rg]) hg hs w
 cases h⟩
end
section
open Go.RowKit Go.QT
end
section
open Go.RowKit Go.QT
section
variable{t s:STab}{K Ki Ky K4:Fin 16->UInt8}{us now ta q:Int}{l m:Bytes}{sl:List Sh}{e:Nat}
theorem equalN_s{l m:Bytes}(h:l≠m):Spec Tryz.prog ⟨69,2,[.o 0 l.length,.o 1 m.length],[eB 0 l,eB 1 m],[],aB false,[]⟩:=
 pu_s (fun _=>rfl) fun κ w hh=>(equal_any _ _ l m w (sb_ent (j:=0) hh (by simp)) (sb_ent (j:=1) hh (by simp))).mono fun e w' ⟨e1,e2⟩=>⟨by rw [e1,decide_eq_false h],e2 ▸ Below.refl _ _⟩
theorem showAgain_s(x:Sh)(hnear:nearF now x.t=true)(hl:∀ y ∈ sl,0<=y.t/\y.t<=1099511627776)(hm:sl.length<=1000000)(hx:x ∈ sl):Spec Tryz.prog ⟨70,1,[.p 0 0,aI now,aS x.c,aI x.t,aI x.q],[],[eC 0 sl],aI 14,[eC 0 sl]⟩:=
 own_s (fun _ _=>rfl) (fun _=>rfl) fun _ _ _ _ h1=>show_twice h1 hnear hl hm hx
end
/-! ### Begin -/
abbrev offC(peer:ByteArray)(sid:Int)(K:Fin 16->UInt8)(t q:Int):List AV:=[aS peer,aI sid]++aK K++[aI t,aI q]
section
variable{s:STab}{K4:Fin 16->UInt8}{now sid:Int}{nb:Nat}{b β:Bytes}{me:ByteArray}
set_option maxRecDepth 100000
set_option maxHeartbeats 4000000
theorem begin18_s(c:Cl)(e d:Ck)(hr:Room 9 s)(hsm:s.sums.length<=1000)(hme:rightN me=true/\me.size<=300)(hsid:inN sid=true)(hK:kl K4=mkB 107 (s.keys.length+1))(hq:0<=c.q/\c.q<=1000000)(hk:¬ d.en<=now)(hm:d.m.length=16)(hβ:qAp me bBOB sid bBOB d.m=β)(hnb:s.boxes.length=nb)(hnm:c.nm.size<=1000)
   (hb:packB (.authent c.nm now (c.q+1) K4 (mkB 100 ((s.add SFrom.fresh).sumAt β+1)))=.inr b) :
   Spec Tryz.prog ⟨37,5,[tI,.p 1 0,aS me,aI now,aS bBOB,aI sid],[eB 4 d.m],[eT 0 s,.blk 1 51 (c.c 2),.blk 2 162 (st2 (e.at bKDC 3) (d.at bBOB 4))],
     .t [.c [aS me,aS bBOB,aI sid,aS bBOB,.o 5 d.m.length,.o 6 16],.c (offC bBOB sid K4 now (c.q+1)),aI 0],[eT 0 (shS (s.add SFrom.fresh) β d.K 11 b),.blk 1 51 (c.shown.c 2),.blk 2 162 (st2 (e.at bKDC 3) (d.at bBOB 4)),eB 5 d.m,eB 6 (mkB 98 (nb+1))]⟩:=by
 subst hβ
 have hk9:=hr.key
 exact s1 [cA 1006 (crGet2_s now e d hk) [],cTb 4003 (fresh_s hK (by omega)),fA 1001004 (w64 (x:=c.q+1) (by omega) (by omega)),
   cTb 1002021 (sumApq0_s (st:=s.add SFrom.fresh) (b:=d.m) ⟨hme,⟨right_bob,by decide⟩,hsid⟩ ⟨right_bob,by decide⟩ (by omega) hsm),
   cTb 1002024 (sealAuth_s (K:=d.K) (us:=11) hb (n:=nb) (by rw [dig_boxes];exact hnb) (Room.digest (β:=qAp me bBOB sid bBOB d.m) (hr.add SFrom.fresh)).ok (by omega) (by rw [mkB_len];decide))] [22,25]
end
/-! ### Accept -/
abbrev metNo:AV:=.c ([aS ByteArray.empty,aI 0]++aZ)
abbrev repNo:AV:=.c [aS ByteArray.empty,aS ByteArray.empty,aI 0,aN]
abbrev apC(f t:ByteArray)(sid:Int)(sv:ByteArray)(n:Nat)(au:AV):AV:=.c [aS f,aS t,aI sid,aS sv,.o 2 n,au]
section
variable{t:STab}{K Ki Ky K4:Fin 16->UInt8}{now ta q sid fl a u r:Int}{l au b β:Bytes}{sl:List Sh}{nb e:Nat}{me f tn sv c1:ByteArray}
abbrev AcS(me:ByteArray)(K:Fin 16->UInt8)(now:Int)(q:AV)(ro pre:List Ent)(v:AV)(post:List Ent):Prop:=Spec Tryz.prog ⟨38,4,[tI,aS me,.c (aK K),.p 1 0,aI now,q],ro,pre,v,post⟩
set_option maxRecDepth 100000
set_option maxHeartbeats 4000000
/-- What is shown is another thing. -/
theorem accSum_s(hs:TabOk t)(ho:openTh t (kl K) 2 l=.inr (.inside 2 Ki c1 a u r))(hu:¬ u<=now)(h2:openTh t (kl Ki) 11 au=.inr (.authent c1 ta q K4 b))(hm:Nm2 c1 me sid)(hl:l.length<=300)(hsm:t.sums.length<=1000)(hβ:qAp c1 me sid me l=β)(hne:b≠mkB 100 (t.sumAt β+1)) :
   AcS me K now (apC c1 me sid me l.length (.o 3 au.length)) [eC 1 sl,eB 2 l,eB 3 au] [eT 0 t] (.t [metNo,repNo,aI 17]) [eT 0 (t.digest β)]:=by
 subst hβ
 exact s1 [fA 1003 (neS me),fA 1009 (neS me),cTb 3005 (openInside_s ho hs),fA 8003 (isF hu),cTb 10005 (openAuth_s h2 hs),fA 13004 (neS c1),fA 13010 (neS c1),cTb 13018 (sumApq_s (an:=au.length) (st:=t) (b:=l) (au:=au) hm ⟨hm.ht.1,hm.ht.2⟩ hl hsm),cA 13019 (equalN_s hne) []]
/-- It is shown rightly. -/
structure AcOk(t:STab)(K Ki K4:Fin 16->UInt8)(now:Int)(l au β:Bytes)(me c1:ByteArray)(sid a u r ta q:Int):Prop where
 hr:Room 9 t
 ho:openTh t (kl K) 2 l=.inr (.inside 2 Ki c1 a u r)
 hu:¬ u<=now
 h2:openTh t (kl Ki) 11 au=.inr (.authent c1 ta q K4 (mkB 100 (t.sumAt β+1)))
 hm:Nm2 c1 me sid
 hl:l.length<=300
 hsm:t.sums.length<=1000
 hβ:qAp c1 me sid me l=β
theorem accAgain_s(h:AcOk t K Ki K4 now l au β me c1 sid a u r ta q)(hn:nearF now ta=true)(hsl:∀ y ∈ sl,0<=y.t/\y.t<=1099511627776)(hm1:sl.length<=1000000)(hx:(⟨c1,ta,q⟩:Sh) ∈ sl):AcS me K now (apC c1 me sid me l.length (.o 3 au.length)) [eB 2 l,eB 3 au] [eT 0 t,eC 1 sl] (.t [metNo,repNo,aI 14]) [eT 0 (t.digest β),eC 1 sl]:=by
 obtain ⟨hr,ho,hu,h2,hm,hl,hsm,hβ⟩:=h
 subst hβ
 exact s1 [fA 1003 (neS me),fA 1009 (neS me),cTb 3005 (openInside_s ho hr.ok),fA 8003 (isF hu),cTb 10005 (openAuth_s h2 hr.ok),fA 13004 (neS c1),fA 13010 (neS c1),cTb 13018 (sumApq_s (an:=au.length) (st:=t) (b:=l) (au:=au) hm ⟨hm.ht.1,hm.ht.2⟩ hl hsm),cA 13019 (equal_s (l:=mkB 100 (t.sumAt (qAp c1 me sid me l)+1)) rfl) [],cA 15008 (showAgain_s ⟨c1,ta,q⟩ hn hsl hm1 hx) []]
theorem accOk_s(h:AcOk t K Ki K4 now l au β me c1 sid a u r ta q)(hn:nearF now ta=true)(hsl:∀ y ∈ sl,0<=y.t/\y.t<=1099511627776)(hm1:sl.length<64)(hx:(⟨c1,ta,q⟩:Sh) ∉ sl)(hnb:t.boxes.length=nb)(hb:packB (.stamp ta q)=.inr b) :
   AcS me K now (apC c1 me sid me l.length (.o 3 au.length)) [eB 2 l,eB 3 au] [eT 0 t,eC 1 sl] (.t [.c ([aS c1,aI sid]++aK K4),.c [aS me,aS c1,aI sid,.o 4 16],aI 0]) [eT 0 ((t.digest β).seal (kl K4) 12 b),eC 1 (keptF now sl++[⟨c1,ta,q⟩]),eB 4 (mkB 98 (nb+1))]:=by
 obtain ⟨hr,ho,hu,h2,hm,hl,hsm,hβ⟩:=h
 subst hβ
 exact s1 [fA 1003 (neS me),fA 1009 (neS me),cTb 3005 (openInside_s ho hr.ok),fA 8003 (isF hu),cTb 10005 (openAuth_s h2 hr.ok),fA 13004 (neS c1),fA 13010 (neS c1),cTb 13018 (sumApq_s (an:=au.length) (st:=t) (b:=l) (au:=au) hm ⟨hm.ht.1,hm.ht.2⟩ hl hsm),cA 13019 (equal_s (l:=mkB 100 (t.sumAt (qAp c1 me sid me l)+1)) rfl) [],cA 15008 (show_s ⟨c1,ta,q⟩ hn hsl hx hm1) [],
   cTb 18009 (sealStamp_s (s:=t.digest (qAp c1 me sid me l)) (K:=K4) (us:=12) (n:=nb) hb (by rw [dig_boxes];exact hnb) (Room.digest hr).ok)]
end
end
section
open Go.RowKit Go.QT
end
section
open Go.RowKit Go.QT
end
section
open Go.RowKit Go.QT
abbrev clAn(ka:Fin 16->UInt8):Cl:=((Cl.new bANN).shown.asks 1 bKDC ka ((4:Nat):Int)).ended
abbrev clBo(kb:Fin 16->UInt8):Cl:=((Cl.new bBOB).shown.asks 1 bKDC kb ((6:Nat):Int)).ended
set_option maxRecDepth 100000
set_option maxHeartbeats 4000000
end
section
open Go.RowKit Go.QT
abbrev uAn8(K:Fin 16->UInt8):User:=⟨bANN,K,300,0,true⟩
abbrev uBo8(K:Fin 16->UInt8):User:=⟨bBOB,K,200,0,true⟩
abbrev eG18(k:List AV):Ent:=.blk 6 111 ([.p 0 0,.p 3 0,.p 7 0,.p 8 0]++k++[.p 11 0])
section
variable{t:STab}{K Kk Kn ka kb K1 K2 K3:Fin 16->UInt8}{nb n:Nat}{nm pw:ByteArray}{now till nn st sq:Int}{b0 b1 b2 pre:Bytes}{us:List User}
set_option maxRecDepth 100000
set_option maxHeartbeats 4000000
theorem as0_s(u:User)(hr:Room 9 t)(hnb:t.boxes.length=nb)(hK:kl K=mkB 107 (t.keys.length+1))(h32:us.length<=1000000)(hb:placeB us nm=true)(hu:us[placeI us nm]?=some u)(ho:openTh t (kl u.key) 1 pre=.inr (.stamp st sq))(hnear:nearF now st=true)(ht:¬ till<=now)
   (hnow:0<=now/\now<=1099511627776) (hlife:0<=u.life/\u.life<=600) (hren:u.renew=0) (hl:u.name.size<=1000)
   (h1:packB (.inside 4 K u.name now (min till (now+u.life)) 0)=.inr b1) (h2:packB (.reply 4 K nn bKDC now (min till (now+u.life)) 0)=.inr b2) :
   Spec Tryz.prog ⟨53,4,[.p 1 0,aI now,.c [aS nm,aI nn,aI till,.o 3 pre.length]],[eK 1 2 Kk,eU 2 us,eB 3 pre],[eT 0 t],.t [.c [aS u.name,aS bKDC,.o 4 16,.o 5 16],aI 0],
     [eT 0 (gvS (t.add SFrom.fresh) Kk u.key 3 b1 b2),eB 4 (mkB 98 (nb+1)),eB 5 (mkB 98 (nb+2))]⟩:=
 s1 [cA 1006 (bsGet_s h32 hb hu) [],cTb 4008 (openStamp_s ho hr.ok),cA 7003 (near_s hnear) [],fA 9003 (isF ht),cTb 11004 (fresh_s hK hr.keys),fA 11013 (w64 (x:=now+u.life) (by omega) (by omega)),fA 11014 (imin till (now+u.life)),
   fA 12002 (isF (show ¬ 0<u.renew by omega)),cTb 15010 (give_s (ug:=3) (Kx:=Kk) (Ky:=u.key) (Kk:=Kk) (hr.add SFrom.fresh) hnb h1 h2 (by omega) (by decide))]
abbrev in0C(nb:Nat)(K:Fin 16->UInt8)(u:User):Ck:=⟨mkB 98 (nb+1),K,4,min 900 (10+u.life),0,mk_le 98 (nb+1)⟩
theorem login18_s(c:Cl)(u:User)(hc:c.nm=u.name)(hr:Room 20 t)(hnb:t.boxes.length=nb)(hn:(t.made (textF pw u.name)).keys.length+1=n)(hka:kl u.key=mkB 107 (t.num (textF pw u.name)))(hKn:kl Kn=mkB 107 n)(hK:kl K=mkB 107 (n+1))(hpw:pw.size<=1000)
   (h32:us.length<=1000000) (hb:placeB us u.name=true) (hu:us[placeI us u.name]?=some u) (hq:0<=c.q/\c.q<=1000000) (hlife:0<u.life/\u.life<=600) (hren:u.renew=0) (hl:u.name.size<=1000)
   (h0:packB (.stamp 10 (c.q+1))=.inr b0) (h1:packB (.inside 4 K u.name 10 (min 900 (10+u.life)) 0)=.inr b1) (h2:packB (.reply 4 K (n:Int) bKDC 10 (min 900 (10+u.life)) 0)=.inr b2) :
   Spec Tryz.prog ⟨67,12,[.p 6 0,.p 9 0,aS pw],[eG18 aZ,eSv,eK 1 2 Kk,eU 2 us],[eT 0 t,.blk 9 51 (c.c 10),.blk 10 162 st0],aB true,
     [eT 0 (inS t pw u Kk b0 b1 b2),.blk 9 51 ((c.shown.asks 1 bKDC u.key (n:Int)).ended.c 10),.blk 10 162 (st1 ((in0C (nb+1) K u).at bKDC 12)),eB 12 (mkB 98 (nb+2))]⟩:=by
 obtain ⟨nm,q,ak,nn,wh,cK,fn,fs,ff,ft⟩:=c
 obtain rfl:nm=u.name:=hc
 have hnb2:(t.made (textF pw u.name)).boxes.length=nb:=by rw [← hnb,made_bx]
 have e1:((t.made (textF pw u.name)).seal (kl u.key) 1 b0).boxes.length=nb+1:=by rw [seal_len,hnb2]
 have hr1:Room 17 (lgS t pw u.name u.key b0):=((hr.made _).seal _ _ (pack_le6 h0)).add SFrom.fresh
 have ho1:openTh (lgS t pw u.name u.key b0) (kl u.key) 1 (mkB 98 (nb+1))=.inr (.stamp 10 (q+1)):=op_bx (by rw [bx_add,← hnb2];exact bx_new (by have:=(hr.made (textF pw u.name)).box;omega)) h0
 have hr2:Room 14 (inS t pw u Kk b0 b1 b2):=((hr1.add SFrom.fresh).seal _ _ (pack_le6 h1)).seal _ _ (pack_le6 h2)
 have ho2:openTh (inS t pw u Kk b0 b1 b2) (kl u.key) 3 (mkB 98 (nb+3))=.inr (.reply 4 K (n:Int) bKDC 10 (min 900 (10+u.life)) 0):=
   op_bx (by rw [show nb+3=(((lgS t pw u.name u.key b0).add SFrom.fresh).seal (kl Kk) 2 b1).boxes.length+1 from by rw [seal_len];exact congrArg (· + 2) e1.symm];exact bx_new (by have:=hr2.box;rw [seal_len] at this;omega)) h2
 exact s1 [cTb 1002 (login_s (now:=10) (till:=900) (Kn:=Kn) ⟨u.name,q,ak,nn,wh,cK,fn,fs,ff,ft⟩ hka (by omega) (show u.name.size<=1000000 by omega) (hr.less (m:=9) (by decide)) h0 hnb2 hn hKn hq),
   cTb 2008 (as0_s (now:=10) (till:=900) (nn:=(n:Int)) (Kk:=Kk) (nb:=nb+1) u (hr1.less (m:=9) (by decide)) e1 (by rw [hK];congr 1;show n+1=((t.made _).keys++[_]).length+1;rw [List.length_append];exact congrArg (· + 1) hn.symm) h32 hb hu ho1 (near_now (by decide) (by decide)) (by decide) (by decide) (by omega) hren hl h1 h2),
   cTb 3010 (gotAs_s (n:=(n:Int)) (a:=10) ⟨u.name,q+1,ak,nn,wh,cK,fn,fs,ff,ft⟩ (in0C (nb+1) K u) hr2.ok ho2)]
theorem plA8{k k':Fin 16->UInt8}:placeB [uAn8 k,uBo8 k'] bANN=true/\[uAn8 k,uBo8 k'][placeI [uAn8 k,uBo8 k'] bANN]?=some (uAn8 k):=⟨by kernel_rfl,by kernel_rfl⟩
theorem plB8{k k':Fin 16->UInt8}:placeB [uAn8 k,uBo8 k'] bBOB=true/\[uAn8 k,uBo8 k'][placeI [uAn8 k,uBo8 k'] bBOB]?=some (uBo8 k'):=⟨by kernel_rfl,by kernel_rfl⟩
/-- Ann has asked for a ticket for bob, and has it. -/
abbrev clAm(ka K1:Fin 16->UInt8):Cl:=((clAn ka).shown.asks 3 bBOB K1 ((8:Nat):Int)).ended
abbrev ck8(ka K1:Fin 16->UInt8):Ck:=in0C 1 K1 (uAn8 ka)
abbrev ckb8(kb K2:Fin 16->UInt8):Ck:=in0C 4 K2 (uBo8 kb)
abbrev uu8:Int:=min (min 900 (min 900 (10+300))) (min 900 (10+200))
abbrev ckm8(K3:Fin 16->UInt8):Ck:=⟨mkB 98 8,K3,2,uu8,0,mk_le _ _⟩
abbrev sh8:List Sh:=keptF 10 []++[⟨bANN,10,0+1+1⟩]
structure Op18(Kk ka kb K1 K2 K3:Fin 16->UInt8)(t:STab)(b1 c1 e1:Bytes)(bx:List SSealed):Prop where
 a:Spec Tryz.prog ⟨36,0,[],[],[],.p 6 0,[eG18 (aK K2),eSv,eK 1 2 Kk,.blk 7 51 ((clAm ka K1).c 9),.blk 8 51 ((clBo kb).c 10),.blk 9 162 (st2 ((ck8 ka K1).at bKDC 12) ((ckm8 K3).at bBOB 13)),.blk 10 162 (st1 ((ckb8 kb K2).at bKDC 14)),eT 0 t,eU 2 [uAn8 ka,uBo8 kb],eC 4 sh8,eM 5 none,eC 11 [],eB 12 (mkB 98 2),eB 13 (mkB 98 8),eB 14 (mkB 98 5)]⟩
 T:TS t 9 bx knS
 n9:bx.length=9
 sm:t.sums.length<=1
 k1:kl K1=mkB 107 5
 k2:kl K2=mkB 107 7
 k3:kl K3=mkB 107 9
 kk:kl Kk=mkB 107 1
 i1:bx[1]?=some ⟨kl Kk,2,b1⟩
 p1:packB (.inside 4 K1 bANN 10 (min 900 (10+300)) 0)=.inr b1
 i7:bx[7]?=some ⟨kl K2,2,e1⟩
 v1:packB (.inside 2 K3 bANN 10 uu8 0)=.inr e1
 hka:kl ka=mkB 107 2
 hkb:kl kb=mkB 107 3
 kx:bx.map (fun x=>(x.by_,x.usage))=[(kl ka,1),(kl Kk,2),(kl ka,3),(kl kb,1),(kl Kk,2),(kl kb,3),(kl K1,7),(kl K2,2),(kl K1,8)]
theorem op18:∃ Kk ka kb K1 K2 K3 t b1 c1 e1 bx,Op18 Kk ka kb K1 K2 K3 t b1 c1 e1 bx:=by
 obtain ⟨Kk,hk⟩:=ex_key 1
 obtain ⟨ka,ha⟩:=ex_key 2
 obtain ⟨kb,hb⟩:=ex_key 3
 obtain ⟨N1,hN1⟩:=ex_key 4
 obtain ⟨K1,hK1⟩:=ex_key 5
 obtain ⟨N2,hN2⟩:=ex_key 6
 obtain ⟨K2,hK2⟩:=ex_key 7
 obtain ⟨N3,hN3⟩:=ex_key 8
 obtain ⟨K3,hK3⟩:=ex_key 9
 obtain ⟨b0,p0⟩:=pack_stamp (t:=10) (q:=0+1) (by decide) (by decide)
 obtain ⟨b1,p1⟩:=pack_inside (f:=4) (K:=K1) (s:=bANN) (a:=10) (u:=min 900 (10+300)) (r:=0) (rightM_is right_ann (by decide)) (by decide)
 obtain ⟨b2,p2⟩:=pack_reply (f:=4) (K:=K1) (n:=(4:Nat)) (s:=bKDC) (a:=10) (u:=min 900 (10+300)) (r:=0) (rightM_is right_kdc (by decide)) (by decide)
 obtain ⟨c1,r1⟩:=pack_inside (f:=4) (K:=K2) (s:=bBOB) (a:=10) (u:=min 900 (10+200)) (r:=0) (rightM_is right_bob (by decide)) (by decide)
 obtain ⟨c2,r2⟩:=pack_reply (f:=4) (K:=K2) (n:=(6:Nat)) (s:=bKDC) (a:=10) (u:=min 900 (10+200)) (r:=0) (rightM_is right_kdc (by decide)) (by decide)
 have T0:=TS.op
 have T1:TS (inS opS pwA (uAn8 ka) Kk b0 b1 b2) 5 _ knS:=T0.inn (uAn8 ka) (m:=2) fnA (pack_le6 p0) (pack_le6 p1) (pack_le6 p2)
 have T2:TS (inS (inS opS pwA (uAn8 ka) Kk b0 b1 b2) pwB (uBo8 kb) Kk b0 c1 c2) 7 _ knS:=T1.inn (uBo8 kb) (m:=3) fnB (pack_le6 p0) (pack_le6 r1) (pack_le6 r2)
 generalize hβ:qTg bBOB ((8:Nat):Int) 900 false true (mkB 98 2) [.ticket bKDC (mkB 98 5)]=β
 have hlen:β.length<=4096:=by rw [← hβ];exact qTg_len (by decide) (by decide) (by intro x hx;rw [List.mem_singleton.1 hx];exact qTk_len (by decide) (by decide)) (by decide)
 have hs2:(inS (inS opS pwA (uAn8 ka) Kk b0 b1 b2) pwB (uBo8 kb) Kk b0 c1 c2).sums=[]:=by rw [in_sums,in_sums];unfold opS;rw [made_sums,made_sums];rfl
 have h32:[uAn8 ka,uBo8 kb].length<=1000000:=by simp
 have m0:=T0.made_old (f:=textF pwA bANN) rfl fnA
 have m1:=T1.made_old (f:=textF pwB bBOB) rfl fnB
 have i1:=login18_s (Kk:=Kk) (K:=K1) (Kn:=N1) (t:=opS) (nb:=0) (n:=4) (pw:=pwA) (us:=[uAn8 ka,uBo8 kb]) (Cl.new bANN) (uAn8 ka) rfl (T0.room 20 (by decide) (by decide)) (congrArg List.length T0.boxes) (congrArg (· + 1) m0.1.keys) (ha.trans (congrArg (mkB 107) m0.2.symm)) hN1 hK1 (by decide) h32 plA8.1 plA8.2 (by decide) (show (0:Int)<300/\(300:Int)<=600 by decide) rfl (show (3:Nat)<=1000 by decide) p0 p1 p2
 have i2:=login18_s (Kk:=Kk) (K:=K2) (Kn:=N2) (t:=inS opS pwA (uAn8 ka) Kk b0 b1 b2) (nb:=3) (n:=6) (pw:=pwB) (us:=[uAn8 ka,uBo8 kb]) (Cl.new bBOB) (uBo8 kb) rfl (T1.room 20 (by decide) (show 3+20<1000000 by decide)) (congrArg List.length T1.boxes) (congrArg (· + 1) m1.1.keys) (hb.trans (congrArg (mkB 107) m1.2.symm)) hN2 hK2 (by decide) h32 plB8.1 plB8.2 (by decide) (show (0:Int)<200/\(200:Int)<=600 by decide) rfl (show (3:Nat)<=1000 by decide) p0 r1 r2
 generalize ht1:inS opS pwA (uAn8 ka) Kk b0 b1 b2=t1 at *
 generalize ht2:inS t1 pwB (uBo8 kb) Kk b0 c1 c2=t2 at *
 obtain ⟨d,q0⟩:=pack_authent (s:=bANN) (t:=10) (q:=0+1+1) (K:=zKy) (c:=mkB 100 ((t2.add SFrom.fresh).sumAt β+1)) (rightM_is right_ann (by decide)) (by decide) (by rw [mkB_len];decide)
 have T3:TS (shS (t2.add SFrom.fresh) β K1 7 d) 8 _ knS:=((T2.add (f:=SFrom.fresh) rfl).dig β).seal rfl (pack_le6 q0)
 have hs3:(shS (t2.add SFrom.fresh) β K1 7 d).sums.length<=1:=dig_len (s:=t2.add SFrom.fresh) (β:=β) (n:=0) (by show t2.sums.length<=0;rw [hs2];exact Nat.le_refl _)
 have hsa:(shS (t2.add SFrom.fresh) β K1 7 d).sumAt β=(t2.add SFrom.fresh).sumAt β:=sh_sumAt
 have hdg:(shS (t2.add SFrom.fresh) β K1 7 d).digest β=shS (t2.add SFrom.fresh) β K1 7 d:=dig_old (show SK (shS (t2.add SFrom.fresh) β K1 7 d) β ((t2.add SFrom.fresh).sumAt β) from sk_new (s:=t2.add SFrom.fresh) (β:=β))
 obtain ⟨e1,v1⟩:=pack_inside (f:=2) (K:=K3) (s:=bANN) (a:=10) (u:=uu8) (r:=0) (rightM_is right_ann (by decide)) (by decide)
 obtain ⟨e2,v2⟩:=pack_reply (f:=2) (K:=K3) (n:=(8:Nat)) (s:=bBOB) (a:=10) (u:=uu8) (r:=0) (rightM_is right_bob (by decide)) (by decide)
 have T4:TS (gvS (((shS (t2.add SFrom.fresh) β K1 7 d).digest β).add SFrom.fresh) K2 K1 8 e1 e2) 9 _ knS:=((T3.dig β).add rfl).gv (pack_le6 v1) (pack_le6 v2)
 have g1:=crGet1_s 10 (ckb8 kb K2) (show ¬ min (900:Int) (10+200)<=10 by decide)
 have mt:=meet_s (s:=t2) (Kn:=N3) (n:=8) (nb:=6) (now:=10) (till:=900) (b:=d) (peer:=bBOB) (ts2:=bKDC) (m2:=mkB 98 5) (clAn ka) (ck8 ka K1) (T2.room 9 (by decide) (show 6+9<1000000 by decide)) (by rw [hs2];decide) right_bob (by decide) (congrArg (· + 1) T2.keys) hN3 (by decide) (show (0:Int)<=0+1/\(0:Int)+1<=1000000 by decide) (show ¬ min (900:Int) (10+300)<=10 by decide) (mkB_len _ _) right_kdc (by decide) (mkB_len _ _) hβ hlen (congrArg List.length T2.boxes) (show (3:Nat)<=1000 by decide) q0
 have ak:=tgsMeet_s (t:=shS (t2.add SFrom.fresh) β K1 7 d) (K:=K3) (Kk:=Kk) (nb:=7) (now:=10) (nn:=((8:Nat):Int)) (till:=900) (au:=mkB 98 7) (β:=β) (sl:=[]) (us:=[uAn8 ka,uBo8 kb]) (q:=0+1+1) (ta:=10) (K0:=zKy) (b1:=e1) (b2:=e2) (u:=uBo8 kb) ⟨K1,bANN,4,10,min 900 (10+300),0,mkB 98 2⟩ ⟨K2,bBOB,4,10,min 900 (10+200),0,mkB 98 5⟩ (T3.room 9 (by decide) (show 7+9<1000000 by decide)) (congrArg List.length T3.boxes) (by rw [T3.keys];exact hK3) (T3.opn (i:=1) rfl p1 (by decide)) (show ¬ min (900:Int) (10+300)<=10 by decide) (by rw [hsa];exact T3.opn (i:=6) rfl q0 (by decide)) (near_now (by decide) (by decide)) (by simp) (by simp) (by decide) (Nat.le_trans hs3 (by decide)) right_bob (show (3:Nat)<=300 by decide) (by decide) (by decide) (mkB_len _ _) (mkB_len _ _) hβ hlen (by decide) ((T3.dig β).opn (i:=4) rfl r1 (by decide)) (show ¬ min (900:Int) (10+200)<=10 by decide) h32 plB8.1 plB8.2 (show bBOB.toList≠bANN.toList by decide +kernel) rfl (show (3:Nat)<=1000 by decide) v1 v2
 have gm:=gotMeet_s (n:=((8:Nat):Int)) (K:=K1) (a:=10) (l:=mkB 98 9) (clAn ka).shown (ck8 ka K1) (ckm8 K3) (T4.room 9 (by decide) (show 9+9<1000000 by decide)).ok (T4.opn (i:=8) rfl v2 (by decide))
 refine ⟨Kk,ka,kb,K1,K2,K3,_,b1,c1,e1,_,⟨?_,T4,rfl,by rw [hdg];exact hs3,hK1,hK2,hK3,hk,rfl,p1,rfl,v1,ha,hb,rfl⟩⟩
 exact s1 [cA 1000 sNew_s [],cA 2003 (kgNew_s (t:=STab.empty) hk (by decide)) [],cA 2006 (loNew_s bANN (STab.empty.add SFrom.fresh)) [],cA 2009 (loNew_s bBOB (STab.empty.add SFrom.fresh)) [],cA 2010 cNew_s [],
   cA 5007 (enrol_s (t:=STab.empty.add SFrom.fresh) (pw:=pwA) (nm:=bANN) (K:=ka) (us:=[]) (life:=300) (renew:=0) (mesh:=true) (Kk:=Kk) ha (by decide) (by decide) (by decide) (by decide) right_ann (by decide) rfl (by decide) rfl) [],
   cA 5017 (enrol_s (t:=(STab.empty.add SFrom.fresh).made (textF pwA bANN)) (pw:=pwB) (nm:=bBOB) (K:=kb) (us:=[uAn8 ka]) (life:=200) (renew:=0) (mesh:=true) (Kk:=Kk) (by rw [hb];decide +kernel) (by decide) (by decide) (by decide +kernel) (by simp) right_bob (by decide) (place_other (show bANN≠bBOB from by decide)) (by simp) (by rw [placeI_one];exact show (if cmpS bANN bBOB<0 then 1 else 0)=1 from by decide +kernel)) [],
   cA 5026 i1 [],cA 5035 i2 [],cA 7007 g1 [],cA 8006 mt [],cA 9005 ak [],cA 10017 gm []]
end
end
section
open Go.RowKit Go.QT
/-! ### Things that are the same -/
theorem selfStamp(t q:Int)(W:World):(Op.equalIn 10000 104 (.agg ([Value.int .i64 t,.int .i64 q]).toArray) (.agg ([Value.int .i64 t,.int .i64 q]).toArray)).run Tryz.prog W=.ok true W:=by
 refine self_struct 9999 104 _ [(2,0),(2,1)] (by kernel_rfl) (by kernel_rfl) (by kernel_rfl) ?_ W
 intro p hp
 simp only [List.mem_cons,List.not_mem_nil,or_false] at hp
 rcases hp with rfl|rfl
 · exact ⟨_,part_at _ _ _ (.int .i64 t) (by intro W;kernel_rfl) (by kernel_rfl),seq_int _ (by kernel_rfl) _⟩
 exact ⟨_,part_at _ _ _ (.int .i64 q) (by intro W;kernel_rfl) (by kernel_rfl),seq_int _ (by kernel_rfl) _⟩
theorem selfMet(s:ByteArray)(n:Int)(K:Fin 16->UInt8)(W:World):(Op.equalIn 10000 113 (.agg ([Value.string s,.int .i64 n]++vb (kl K)).toArray) (.agg ([Value.string s,.int .i64 n]++vb (kl K)).toArray)).run Tryz.prog W=.ok true W:=by
 refine self_struct 9999 113 _ [(9,0),(2,1),(41,2)] (by kernel_rfl) (by kernel_rfl) (by kernel_rfl) ?_ W
 intro p hp
 simp only [List.mem_cons,List.not_mem_nil,or_false] at hp
 rcases hp with rfl|rfl|rfl
 · exact ⟨_,part_at _ _ _ (.string s) (by intro W;kernel_rfl) (by kernel_rfl),seq_str _⟩
 · exact ⟨_,part_at _ _ _ (.int .i64 n) (by intro W;kernel_rfl) (by kernel_rfl),seq_int _ (by kernel_rfl) _⟩
 exact ⟨_,part_ar _ 16 _ _ (vb (kl K)) (by intro W;kernel_rfl) (by intro W;kernel_rfl) (by kernel_rfl),seq_key _ (kl_len K)⟩
theorem selfKey(K:Fin 16->UInt8)(W:World):(Op.equalIn 10000 41 (.agg (vb (kl K)).toArray) (.agg (vb (kl K)).toArray)).run Tryz.prog W=.ok true W:=by
 rw [run_equalIn16 9998 41 (kl K) (kl K) W (by kernel_rfl) (kl_len K) (kl_len K)];simp
theorem exec_selfN{P:Program}{o:Oper}{a:Act}(t:TypeId)(cs:List Value)(x y:Operand)(t':TypeId)(ho:o.op=.binOp .neq t x y t')(hx:a.eval x=.agg cs.toArray)(hy:a.eval y=.agg cs.toArray)(hg:P.eqGuardType P.depth t=false)(hs:∀ W,(Op.equalIn 10000 t (.agg cs.toArray) (.agg cs.toArray)).run P W=.ok true W)(W:World) :
   (execOp a.eval o).run P W=.ok (.value (.bool false)) W:=by
 unfold execOp
 simp only [ho,hx,hy,Sem.run_bind,run_eqGuard_agg W _ t _ _ _ _ hg,Result.andThen_ok,run_neq_struct,hs,Sem.run_pure]
 rfl
noncomputable def snF (T:TypeId) (cs:List Value) (o:Oper) (ev:Operand->AV) (_ H:List Ent) (_:Nat):Option Out:=
 match o.op with
 | .binOp .neq t x y _=>bif Nat.beq t T then some ⟨.v (.bool false),H,[],[⟨AV,ev x,.c (rg cs)⟩,⟨AV,ev y,.c (rg cs)⟩]⟩ else none
 | _=>none
noncomputable def snA (key:Nat) (T:TypeId) (cs:List Value) (hs:∀ W,(Op.equalIn 10000 T (.agg cs.toArray) (.agg cs.toArray)).run Tryz.prog W=.ok true W) (hg:Tryz.prog.eqGuardType Tryz.prog.depth T=false):Pl Tryz.prog:=⟨key,snF T cs,by
 intro o ev ro H b u h hob
 unfold snF at h
 split at h
 · rename_i t x y t' ho
   rw [cond_some] at h
   obtain ⟨hc,h⟩:=h
   subst h
   obtain rfl:=Nat.eq_of_beq_eq_true hc
   have o1:ev x=.c (rg cs):=hob _ (List.mem_cons_self ..)
   have o2:ev y=.c (rg cs):=hob _ (List.mem_cons_of_mem _ (List.mem_cons_self ..))
   exact pv_tr fun κ a w ha=>exec_selfN _ cs x y _ ho (by rw [ha];simp only [o1];rw [AV.den,denL_rg]) (by rw [ha];simp only [o2];rw [AV.den,denL_rg]) hg hs w
 cases h⟩
theorem stG:Tryz.prog.eqGuardType Tryz.prog.depth 104=false:=by kernel_rfl
theorem meG:Tryz.prog.eqGuardType Tryz.prog.depth 113=false:=by kernel_rfl
theorem kyG:Tryz.prog.eqGuardType Tryz.prog.depth 41=false:=by kernel_rfl
/-! ### Finish -/
section
variable{s:STab}{K:Fin 16->UInt8}{n e:Nat}{l:Bytes}{sid t q:Int}{me peer fr tn:ByteArray}
set_option maxRecDepth 100000
set_option maxHeartbeats 4000000
theorem finOk_s(hs:TabOk s)(ho:openTh s (kl K) 12 l=.inr (.stamp t q)):Spec Tryz.prog ⟨39,2,[.c (offC peer sid K t q),tI,aS me,.c [aS peer,aS me,aI sid,.o 1 l.length]],[eT 0 s,eB 1 l],[],aI 0,[]⟩:=
 s1 [fA 1004 (neS peer),fA 1009 (neS me),fA 1016 (neI sid),cTb 3005 (openStamp_s ho hs),snA 6003 104 [.int .i64 t,.int .i64 q] (selfStamp t q) stG]
end
/-! ### At the stage -/
abbrev bt8(sid:Int):Bytes:=qAp bANN bBOB sid bBOB (mkB 98 8)
structure Bg18(ka K1 K3 K4:Fin 16->UInt8)(t t1:STab)(sid now:Int)(bx:List SSealed)(b:Bytes):Prop where
 a:Spec Tryz.prog ⟨37,5,[tI,.p 1 0,aS bANN,aI now,aS bBOB,aI sid],[eB 4 (mkB 98 8)],[eT 0 t,.blk 1 51 ((clAm ka K1).c 2),.blk 2 162 (st2 ((ck8 ka K1).at bKDC 3) ((ckm8 K3).at bBOB 4))],
     .t [.c [aS bANN,aS bBOB,aI sid,aS bBOB,.o 5 16,.o 6 16],.c (offC bBOB sid K4 now (0+1+1+1)),aI 0],[eT 0 t1,.blk 1 51 ((clAm ka K1).shown.c 2),.blk 2 162 (st2 ((ck8 ka K1).at bKDC 3) ((ckm8 K3).at bBOB 4)),eB 5 (mkB 98 8),eB 6 (mkB 98 10)]⟩
 T:TS t1 10 (bx++[⟨kl K3,11,b⟩]) knS
 sm:t1.sums.length<=2
 k4:kl K4=mkB 107 10
 q:packB (.authent bANN now (0+1+1+1) K4 (mkB 100 (t1.sumAt (bt8 sid)+1)))=.inr b
section
variable{Kk ka kb K1 K2 K3 K4:Fin 16->UInt8}{t t1:STab}{sid now wn:Int}{bx:List SSealed}{b b1 c1 e1:Bytes}
theorem bg18(O:Op18 Kk ka kb K1 K2 K3 t b1 c1 e1 bx)(hsid:0<=sid/\sid<=65535)(hnow:10<=now/\now<210):∃ K4 t1 b,Bg18 ka K1 K3 K4 t t1 sid now bx b:=by
 obtain ⟨K4,hK4⟩:=ex_key 10
 have T:=O.T
 obtain ⟨b,q0⟩:=pack_authent (s:=bANN) (t:=now) (q:=0+1+1+1) (K:=K4) (c:=mkB 100 ((t.add SFrom.fresh).sumAt (bt8 sid)+1)) (rightM_is right_ann (by intro z hz;simp only [List.mem_cons,List.not_mem_nil,or_false] at hz;apply inN_is <;> omega)) (by decide) (by rw [mkB_len];decide)
 have a:=begin18_s (s:=t) (K4:=K4) (now:=now) (sid:=sid) (nb:=9) (me:=bANN) (β:=bt8 sid) (clAm ka K1) (ck8 ka K1) (ckm8 K3) (T.room 9 (by decide) (by rw [O.n9];decide)) (Nat.le_trans O.sm (by decide)) ⟨right_ann,by decide⟩ (inN_is (by omega) (by omega)) (by rw [hK4,T.keys]) (show (0:Int)<=0+1+1/\(0:Int)+1+1<=1000000 by decide) (show ¬ min (min 900 (min 900 (10+300))) (min 900 (10+200))<=now by omega) (mkB_len _ _) rfl (by rw [T.boxes,O.n9]) (show (3:Nat)<=1000 by decide) q0
 rw [show (ckm8 K3).m.length=16 from mkB_len _ _] at a
 have T1:TS (shS (t.add SFrom.fresh) (bt8 sid) K3 11 b) 10 (bx++[⟨kl K3,11,b⟩]) knS:=((T.add (f:=SFrom.fresh) rfl).dig (bt8 sid)).seal rfl (pack_le6 q0)
 have hs1:(shS (t.add SFrom.fresh) (bt8 sid) K3 11 b).sums.length<=2:=dig_len (s:=t.add SFrom.fresh) (β:=bt8 sid) (n:=1) O.sm
 exact ⟨K4,_,b,a,T1,hs1,hK4,by rw [sh_sumAt];exact q0⟩
theorem gx{i:Nat}{x y:SSealed}(h:bx[i]?=some x):(bx++[y])[i]?=some x:=by
 rw [List.getElem?_append_left (List.getElem?_eq_some_iff.1 h).1];exact h
theorem gl{n:Nat}{y:SSealed}(h:bx.length=n):(bx++[y])[n]?=some y:=by
 rw [← h,List.getElem?_append_right (Nat.le_refl _),Nat.sub_self];rfl
theorem ac18(O:Op18 Kk ka kb K1 K2 K3 t b1 c1 e1 bx)(B:Bg18 ka K1 K3 K4 t t1 sid now bx b)(hsid:0<=sid/\sid<=65535)(hw:wn<210):AcOk t1 K2 K3 K4 wn (mkB 98 8) (mkB 98 10) (bt8 sid) bBOB bANN sid 10 uu8 0 now (0+1+1+1):=
 ⟨B.T.room 9 (by decide) (by rw [List.length_append,O.n9,List.length_singleton];decide),B.T.opn (i:=7) (gx O.i7) O.v1 (by decide),(show ¬ min (min 900 (min 900 (10+300))) (min 900 (10+200))<=wn by omega),B.T.opn (i:=9) (gl O.n9) B.q (by decide),⟨⟨right_ann,by decide⟩,⟨right_bob,by decide⟩,inN_is (by omega) (by omega)⟩,by rw [mkB_len];decide,Nat.le_trans B.sm (by decide),rfl⟩
set_option maxRecDepth 100000
set_option maxHeartbeats 4000000
theorem alive18_s:Spec Tryz.prog ⟨35,0,[],[],[],aB true,[]⟩:=by
 obtain ⟨Kk,ka,kb,K1,K2,K3,t,b1,c1,e1,bx,O⟩:=op18
 obtain ⟨K4,t1,b,B⟩:=bg18 O (sid:=7) (now:=20) (by decide) (by decide)
 obtain ⟨d,p0⟩:=pack_stamp (t:=20) (q:=0+1+1+1) (by decide) (by decide)
 have A1:=ac18 O B (wn:=21) (by decide) (by decide)
 have k1:=accOk_s (sl:=[]) (nb:=10) A1 (by decide) (by simp) (by decide) (by simp) (by rw [B.T.boxes,List.length_append,O.n9];rfl) p0
 have T2:TS ((t1.digest (bt8 7)).seal (kl K4) 12 d) 10 (bx++[⟨kl K3,11,b⟩]++[⟨kl K4,12,d⟩]) knS:=(B.T.dig _).seal rfl (pack_le6 p0)
 have hl2:(bx++[⟨kl K3,11,b⟩]:List SSealed).length=10:=by rw [List.length_append,O.n9];rfl
 have hs2:((t1.digest (bt8 7)).seal (kl K4) 12 d).sums.length<=1000:=Nat.le_trans (dig_len (s:=t1) (β:=bt8 7) (n:=2) B.sm) (by decide)
 have hsa:((t1.digest (bt8 7)).seal (kl K4) 12 d).sumAt (bt8 7)=t1.sumAt (bt8 7):=sh_sumAt (t:=t1) (β:=bt8 7) (K:=K4) (d:=d) (u:=12)
 have r2:=T2.room 9 (by decide) (by rw [List.length_append,hl2,List.length_singleton];decide)
 have A2:AcOk ((t1.digest (bt8 7)).seal (kl K4) 12 d) K2 K3 K4 22 (mkB 98 8) (mkB 98 10) (bt8 7) bBOB bANN 7 10 uu8 0 20 (0+1+1+1):=
   ⟨r2,T2.opn (i:=7) (gx (gx O.i7)) O.v1 (by decide),by decide,by rw [hsa];exact T2.opn (i:=9) (gx (gl O.n9)) B.q (by decide),A1.hm,A1.hl,hs2,rfl⟩
 have k2:=accAgain_s (sl:=keptF 21 []++[⟨bANN,20,0+1+1+1⟩]) A2 (by decide) (by intro y hy;rcases List.mem_append.1 hy with hy|hy;(· cases hy);rw [List.mem_singleton.1 hy];exact ⟨by decide,by decide⟩) (by decide) (List.mem_append_right _ (List.mem_singleton.2 rfl))
 have T3:=T2.dig (bt8 7)
 have k3:=finOk_s (K:=K4) (peer:=bBOB) (me:=bANN) (sid:=7) (T3.room 9 (by decide) (by rw [List.length_append,hl2,List.length_singleton];decide)).ok (T3.opn (i:=10) (gl hl2) p0 (by decide))
 rw [mkB_len,mkB_len] at k1 k2
 rw [mkB_len] at k3
 exact s1 [cA 1000 O.a [],cA 4009 B.a [],cA 5014 k1 [],cA 6014 k2 [],seA 7015 113 _ (selfMet bANN 7 K4) meG,cA 7025 k3 []]
end
end
section
open Go.RowKit Go.QT
end
section
open Go.RowKit Go.QT
end
section
open Go.RowKit Go.QT
end
section
open Go.RowKit Go.QT
end
section
open Go.RowKit Go.QT
end
section
open Go.RowKit Go.QT
end
section
open Go.RowKit Go.QT
end
section
open Go.RowKit Go.QT
end
section
open Go.RowKit Go.QT
end
section
open Go.RowKit Go.QT
end
section
open Go.ChangeShapes Go.WideShapes Go.ChangeAt Go.RowKit
set_option maxRecDepth 100000
variable{H:Type}{enc:TypeId × Value->H}{w:World}{base:Nat}{spare:Nat->Bool}{held:Bool}
theorem c22:Tryz.prog.cellsOf 40=16:=by kernel_rfl
theorem c5:Tryz.prog.cellsOf 5=1:=by kernel_rfl
end
section
open Go.ChangeShapes Go.WideShapes Go.ChangeAt Go.RowKit
theorem Tryz.own:ownKnob Tryz.prog.godebug=none:=by kernel_rfl
theorem Tryz.laidOut:laidOutB Tryz.prog=true:=by kernel_rfl
section
variable{H:Type}{enc:TypeId × Value->H}{P:Program}
theorem trodAll_stays{W W':World}{sp':Nat->Bool}(hl:laidOutB P=true):∀ (ts:List TypeId) (vs:List Value) (ds:List (DataW H)) (ps:List MemPlace),
   (ts.all fun t=>P.readableRec t && decide (t<P.types.size))=true->DataW.TrodAll enc P W 0 (fun _=>true) true ts vs ds ps ->
   (∀ p ∈ ps,W.sameAt W' p)->(∀ p ∈ ps,sp' p.block=true)->DataW.TrodAll enc P W' 0 sp' true ts vs ds ps
 | [],_,_,_,_,h,_,_=>by
   obtain ⟨rfl,rfl,rfl⟩:=trodAll_nil h
   exact rfl
 | t::ts,_,_,_,ht,h,hs,hsp=>by
   obtain ⟨v,vs,d,ds,a,b,rfl,rfl,rfl,h1,h2⟩:=trodAll_cons h
   rw [List.all_cons,Bool.and_eq_true,Bool.and_eq_true,decide_eq_true_eq] at ht
   exact ⟨a,b,WideElems.Trod_stays hl ht.1.1 ht.1.2 h1 (fun p hp=>hs p (by simp [hp])) (fun p hp=>hsp p (by simp [hp])),
     trodAll_stays hl ts vs ds b ht.2 h2 (fun p hp=>hs p (by simp [hp])) (fun p hp=>hsp p (by simp [hp])),rfl⟩
theorem post_of_below{f:Func}{s:ChangeSpec}{apart fresh handsOn again:Bool}{W W':World}{args:Array Value}{v:Value}{ds gs:List (DataW H)}{before pa pv:List MemPlace}
   (hW:DataW.Whole enc P f.params.toList s.vars apart W args.toList ds gs before)
   (hres:∀ (b:Nat) (sp:Nat->Bool) (hd:Bool),DataW.TrodAll enc P W' b sp hd f.resultTypes.toList (v.resultList f.resultTypes.size) (s.fn H (ds++gs)).results [])
   (hargs:∀ sp:Nat->Bool,(∀ p ∈ before,sp p.block=true)->DataW.TrodAll enc P W' 0 sp true f.params.toList args.toList (s.fn H (ds++gs)).args pa)
   (hvars:∀ sp:Nat->Bool,(∀ p ∈ before,sp p.block=true)->DataW.TrodVars enc P W' sp s.vars (s.fn H (ds++gs)).vars pv)
   (hps:before=pa++pv) (hb:Below W.heap.size W W')
   (hok:∀ (j:Nat) (t:TypeId) (r:Value),f.resultTypes[j]?=some t->(v.resultList f.resultTypes.size)[j]?=some r->Value.okWide P W' .any 0 t r) :
   s.post enc P f apart fresh handsOn again W args v W':=by
 have hlt:∀ p ∈ before,p.block<W.heap.size:=fun p hp=>hW.lt p hp
 have hold:∀ p ∈ before,(fun b=>decide (b<W.heap.size)) p.block=true:=fun p hp=>by simpa using hlt p hp
 refine ⟨ds,gs,before,[],pa,pv,hW,hres _ _ _,hargs _ hold,hvars _ hold,World.keptBut_mono (fun p hp=>⟨hp,?_⟩) (hb.frame (· ∈ before)),fun _=>?_⟩
 · rw [hps,List.mem_append] at hp
   exact Or.inr hp
 obtain ⟨_,_,_,_,_,hz,hn⟩:=hW
 refine ⟨hok,_,_,([]++pa)++pv,⟨[]++pa,pv,trodAll_append (hargs _ (fun _ _=>rfl)) (hres _ _ _),hvars _ (fun _ _=>rfl),rfl,?_,?_⟩,?_⟩
 · intro b off hp
   have hin:MemPlace.cell b off ∈ before:=by rw [hps];simpa using hp
   rw [hb.frozen (hlt _ hin)]
   exact hz b off hin
 · intro ha
   have:=hn ha
   rw [hps] at this
   simpa using this
 intro p hp _
 rw [hps]
 simpa using hp
/-- A law's post: it returned true, and what was there is as it was. -/
theorem law_post{f:Func}{s:ChangeSpec}{apart fresh handsOn again:Bool}{W W':World}{args:Array Value}{ds gs:List (DataW H)}{before:List MemPlace}{tb:TypeId}
   (hl:laidOutB P=true) (hts:(f.params.toList.all fun t=>P.readableRec t && decide (t<P.types.size))=true) (htb:P.underlying tb=some .bool) (hr:f.resultTypes=#[tb]) (hv:s.vars=[])
   (hfn:∀ ds:List (DataW H),ds.length=f.params.size->s.fn H ds=⟨[.lit (.bool true)],ds,[]⟩)
   (hW:DataW.Whole enc P f.params.toList s.vars apart W args.toList ds gs before) (hb:Below W.heap.size W W') :
   s.post enc P f apart fresh handsOn again W args (.bool true) W':=by
 have hW':=hW
 have hlt:∀ p ∈ before,p.block<W.heap.size:=fun p hp=>hW.lt p hp
 obtain ⟨p,q,hA,hV,rfl,hfz,hnd⟩:=hW
 rw [hv] at hV
 obtain ⟨rfl,rfl⟩:=trodVars_none hV
 have hlen:ds.length=f.params.size:=by
   have:∀ (ts:List TypeId) (vs:List Value) (ds:List (DataW H)) (p:List MemPlace),DataW.TrodAll enc P W 0 (fun _=>true) true ts vs ds p->ds.length=ts.length:=by
     intro ts
     induction ts with
     | nil=>intro vs ds p h;obtain ⟨rfl,rfl,rfl⟩:=trodAll_nil h;rfl
     | cons t ts ih =>
       intro vs ds p h
       obtain ⟨v,vs,d,ds,a,b,rfl,rfl,rfl,h1,h2⟩:=trodAll_cons h
       simp [ih _ _ _ h2]
   simpa using this _ _ _ _ hA
 simp only [List.append_nil] at hW' hlt
 have hds:s.fn H (ds++[])=⟨[.lit (.bool true)],ds,[]⟩:=by rw [List.append_nil];exact hfn ds hlen
 refine post_of_below (pa:=p) (pv:=[]) (gs:=[]) hW' ?_ ?_ ?_ (by simp) hb ?_
 · intro b sp hd
   rw [hds,hr]
   exact trodAll_mk1 (shut_bool htb true)
 · intro sp hsp
   rw [hds]
   exact trodAll_stays hl _ _ _ _ hts hA (fun x hx=>hb.same (hlt x hx)) hsp
 · intro sp _
   rw [hds,hv]
   exact rfl
 exact ok_one hr rfl (okWide_bool_mk htb true)
end
end
section
open Go.ChangeShapes
variable{H:Type}{enc:TypeId × Value->H}{P:Program}{w:World}{base:Nat}{spare:Nat->Bool}{held:Bool}
end
section
open Go.ChangeShapes Go.WideShapes Go.ChangeAt Go.RowKit Go.QT
set_option maxRecDepth 100000
section
variable{H:Type}{enc:TypeId × Value->H}{w:World}{base:Nat}
theorem kInt:Tryz.prog.cellsOf 3=1:=by kernel_rfl
theorem uIntK:Tryz.prog.underlying 3=some (.int .i64):=by kernel_rfl
theorem fldK{S:TypeId}{k:Nat}{l:List (Nat × Nat)}{n:Nat}{cs:List Value}{xs:List (DataW H × List MemPlace)}{sp:Nat->Bool}(hF:(Tryz.prog.fieldsOf S).toList.map (fun f=>(f.type,f.offset))=l)(hk:l.length=k)(hxl:xs.length=(Tryz.prog.fieldsOf S).size)
   (hx:∀ (i:Nat) (f:Field),(Tryz.prog.fieldsOf S)[i]?=some f->xs[i]?=DataW.trod enc Tryz.prog w base sp true n f.type ((cs.drop f.offset).take (Tryz.prog.cellsOf f.type))):∀ (i:Nat) (t o:Nat),l[i]?=some (t,o)->∃ y,DataW.trod enc Tryz.prog w base sp true n t ((cs.drop o).take (Tryz.prog.cellsOf t))=some y:=by
 intro i t o h
 have hi:i<k:=by rw [← hk];exact (List.getElem?_eq_some_iff.1 h).1
 have hs:(Tryz.prog.fieldsOf S).size=k:=by
   have:=congrArg List.length hF
   rw [← hk,← this];simp
 rw [← hF,List.getElem?_map,Option.map_eq_some_iff] at h
 obtain ⟨f,hf1,hf2⟩:=h
 injection hf2 with h1 h2
 have:=hx i f (by rw [← Array.getElem?_toList];exact hf1)
 rw [h1,h2,List.getElem?_eq_getElem (by omega)] at this
 exact ⟨_,this.symm⟩
end
end
section
open Go.ChangeShapes Go.WideShapes Go.ChangeAt Go.RowKit Go.QT
set_option maxRecDepth 100000
theorem list_of{α:Type}(n:Nat)(p:Nat->α->Prop)(h:∀ i,i<n->∃ z,p i z):∃ st:List α,st.length=n/\∀ i z,st[i]?=some z->p i z:=by
 induction n with
 | zero=>exact ⟨[],rfl,by simp⟩
 | succ n ih =>
   obtain ⟨st,hl,hst⟩:=ih fun i hi=>h i (by omega)
   obtain ⟨z,hz⟩:=h n (by omega)
   refine ⟨st++[z],by simp [hl],fun i y hy=>?_⟩
   by_cases hi:i<st.length
   · rw [List.getElem?_append_left hi] at hy;exact hst i y hy
   have e:i=st.length:=by
     have:=(List.getElem?_eq_some_iff.1 hy).1
     simp at this;omega
   subst e
   rw [List.getElem?_append_right (Nat.le_refl _),Nat.sub_self] at hy
   have hy:z=y:=by simpa using hy
   subst hy;rw [hl];exact hz
section
variable{H:Type}{enc:TypeId × Value->H}{w:World}{base:Nat}
/-- A row of elements of some cells each, as it comes in. -/
theorem open_row{α:Type}{E S sz:Nat}(cells:α->List Value)(Q:α->Prop)(hu:Tryz.prog.underlying S=some (.slice E))(hsz:Tryz.prog.cellsOf E=sz)(hpos:0<sz)(hlen:∀ z,(cells z).length=sz)
   (hel:∀ {fuel:Nat} {cs:List Value} {x:DataW H × List MemPlace} {sp:Nat->Bool},cs.length=sz->DataW.trod enc Tryz.prog w base sp true fuel E cs=some x->∃ z,cs=cells z/\Q z)
   {b0:Nat} {v:Value} {d:DataW H} {p:List MemPlace} {sp:Nat->Bool} (hv:Value.okWide Tryz.prog w .any b0 S v) (h:DataW.Trod enc Tryz.prog w base sp true S v d p) :
   ∃ A c st,v=.slice A (List.length st) c/\RV w sz A c (st.map cells)/\∀ z ∈ st,Q z:=by
 obtain ⟨a1,len,cap,rfl⟩:=okWide_slice hu hv
 obtain ⟨fuel,hf⟩:=h
 rcases Go.Deep.open_slice hu hf with ⟨hcs,_⟩|⟨a,len',cap',m,n,D,Pl,hcs,_,hl,hm,hmm,_,hx⟩
 · simp [Value.cells] at hcs
   obtain ⟨rfl,rfl,rfl⟩:=hcs
   exact ⟨none,0,[],rfl,⟨by simp,Nat.zero_le _,by simp,by simp⟩,by simp⟩
 simp [Value.cells] at hcs
 obtain ⟨rfl,rfl,rfl⟩:=hcs
 have hml:len<=m:=by rw [hmm];split <;> omega
 obtain ⟨st,hlen2,hst⟩:=list_of len (fun i z=>w.cells? base (a.add (i*sz)) sz=some (cells z)/\Q z) fun i hi=>by
   obtain ⟨cs',h1,h2⟩:=hx i (by omega)
   rw [hsz] at h1
   obtain ⟨z,rfl,hs⟩:=hel (World.cells?_some h1).2.1 h2
   exact ⟨z,h1,hs⟩
 subst hlen2
 refine ⟨some a,cap,st,rfl,⟨by simpa using hl,hm,?_,?_⟩,fun z hz=>?_⟩
 · intro y hy
   rw [List.mem_map] at hy
   obtain ⟨z,_,rfl⟩:=hy
   exact hlen z
 · intro hne
   have hpos2:0<st.length:=by
     rcases Nat.eq_zero_or_pos st.length with h0|h0
     · exact absurd (by rw [List.eq_nil_of_length_eq_zero h0];rfl) hne
     exact h0
   have hz0:=(hst 0 _ (List.getElem?_eq_getElem hpos2)).1
   obtain ⟨_,_,hc0⟩:=World.cells?_some hz0
   obtain ⟨ab,ao,spot⟩:=a
   have h00:=hc0 0 (by omega)
   have hl0:=hlen st[0]
   have h01:w.cell? (((⟨ab,ao,spot⟩:Addr).add (0*sz)).add 0)=some ((cells st[0])[0]'(by omega)):=by rw [h00,List.getElem?_eq_getElem (by omega)]
   have hspot:spot=none:=by simpa [Addr.add] using World.cell?_spot h01
   subst hspot
   refine ⟨ab,ao,rfl,?_,fun i y hy j u hu=>?_⟩
   · rcases Nat.lt_or_ge ab w.heap.size with h' | h'
     · exact h'
     rw [Addr.add_lit,Addr.add_lit] at h01
     simp [World.cell?,Array.getElem?_eq_none h'] at h01
   rw [List.getElem?_map,Option.map_eq_some_iff] at hy
   obtain ⟨z,hz,rfl⟩:=hy
   obtain ⟨_,_,hc⟩:=World.cells?_some (hst i z hz).1
   have hj:j<sz:=by have:=(List.getElem?_eq_some_iff.1 hu).1;rw [hlen z] at this;exact this
   have:=hc j hj
   rw [Addr.add_lit,Addr.add_lit] at this
   rw [this];exact hu
 obtain ⟨i,hi⟩:=List.getElem?_of_mem hz
 exact (hst i z hi).2
end
end
section
open Go.ChangeShapes Go.WideShapes Go.ChangeAt Go.RowKit Go.QT
set_option maxRecDepth 100000
section
variable{H:Type}{enc:TypeId × Value->H}{w:World}{base:Nat}
theorem hstUnd:Tryz.prog.underlying 100=some (.struct (Tryz.prog.fieldsOf 100)):=by kernel_rfl
theorem hstFields:(Tryz.prog.fieldsOf 100).toList.map (fun f=>(f.type,f.offset))=[(3,0),(3,1),(3,2),(3,3),(3,4)]:=by kernel_rfl
theorem hstCellsOf:Tryz.prog.cellsOf 100=5:=by kernel_rfl
/-- A step. -/
structure HSt where
 kind:Int
 a:Int
 b:Int
 c:Int
 sid:Int
def hstC(s:HSt):List Value:=[.int .i64 s.kind,.int .i64 s.a,.int .i64 s.b,.int .i64 s.c,.int .i64 s.sid]
theorem hst_of{fuel:Nat}{cs:List Value}{x:DataW H × List MemPlace}{sp:Nat->Bool}(hf:DataW.trod enc Tryz.prog w base sp true fuel 100 cs=some x):∃ a:HSt,cs=hstC a:=by
 obtain ⟨xs,n,rfl,_,hl,hxl,hx⟩:=DataW.trod_struct hstUnd hf
 rw [hstCellsOf] at hl
 have fld:=fldK hstFields rfl (by omega) (fun i f h=>(hx i f h).symm)
 match cs,hl with
 | [c0,c1,c2,c3,c4],_ =>
   obtain ⟨y0,h0⟩:=fld 0 3 0 rfl
   rw [kInt] at h0
   obtain ⟨y1,h1⟩:=fld 1 3 1 rfl
   rw [kInt] at h1
   obtain ⟨y2,h2⟩:=fld 2 3 2 rfl
   rw [kInt] at h2
   obtain ⟨y3,h3⟩:=fld 3 3 3 rfl
   rw [kInt] at h3
   obtain ⟨y4,h4⟩:=fld 4 3 4 rfl
   rw [kInt] at h4
   obtain ⟨n0,e0,_,w0⟩:=DataW.trod_int uIntK h0
   obtain ⟨n1,e1,_,w1⟩:=DataW.trod_int uIntK h1
   obtain ⟨n2,e2,_,w2⟩:=DataW.trod_int uIntK h2
   obtain ⟨n3,e3,_,w3⟩:=DataW.trod_int uIntK h3
   obtain ⟨n4,e4,_,w4⟩:=DataW.trod_int uIntK h4
   obtain rfl:c0=_:=by simpa using e0
   obtain rfl:c1=_:=by simpa using e1
   obtain rfl:c2=_:=by simpa using e2
   obtain rfl:c3=_:=by simpa using e3
   obtain rfl:c4=_:=by simpa using e4
   exact ⟨⟨n0,n1,n2,n3,n4⟩,rfl⟩
theorem uHst:Tryz.prog.underlying 92=some (.slice 100):=by kernel_rfl
theorem open_hst{b0:Nat}{v:Value}{d:DataW H}{p:List MemPlace}{sp:Nat->Bool}(hv:Value.okWide Tryz.prog w .any b0 92 v)(h:DataW.Trod enc Tryz.prog w base sp true 92 v d p) :
   ∃ A c L,v=.slice A (List.length L) c/\RV w 5 A c (L.map hstC):=by
 obtain ⟨A,c,L,rfl,hr,_⟩:=open_row (α:=HSt) hstC (fun _=>True) uHst hstCellsOf (by omega) (fun _=>rfl) (fun {_ cs _ _} _ hf=>by
   obtain ⟨a,e⟩:=hst_of hf;exact ⟨a,e,trivial⟩) hv h
 exact ⟨A,c,L,rfl,hr⟩
end
end
end Go.Proofs.YtaoijkhndakppaaGreat
