/- The walk of der.size,of any bytes. -/
import Derived.Test.YtaoijkhndakppaaGreatCA10
set_option maxRecDepth 100000
set_option maxHeartbeats 4000000
namespace Go.Proofs.YtaoijkhndakppaaGreat
section
open Go.RowKit Go.QT
def nD(n:Int):DVal:=.mk 0 0 n.toNat [] []
def bD(b:Bytes):DVal:=.mk 1 0 0 b []
def valL:Thing->List DVal
 | .ticket s b=>[bD s.data.toList,bD b]
 | .inside f K s a u r=>[nD f,bD (kl K),bD s.data.toList,nD a,nD u,nD r]
 | .reply f K n s a u r=>[nD f,bD (kl K),nD n,bD s.data.toList,nD a,nD u,nD r]
 | .authent s t q K b=>[bD s.data.toList,nD t,nD q,bD (kl K),bD b]
 | .stamp t q=>[nD t,nD q]
 | .fact n s f t=>[nD n,bD s.data.toList,nD f.toNat,nD t]
 | .plain b=>[bD b]
def tagTh:Thing->Nat
 | .ticket ..=>1
 | .inside ..=>2
 | .reply ..=>3
 | .authent ..=>4
 | .stamp ..=>5
 | .fact ..=>6
 | .plain ..=>7
/-- A thing as a value. -/
def valD(t:Thing):DVal:=.mk 2 (tagTh t) 0 [] (valL t)
def rightTh:Thing->Bool
 | .ticket s _=>rightM s []
 | .inside f _ s a u r=>rightM s [f,a,u,r]
 | .reply f _ n s a u r=>rightM s [f,n,a,u,r]
 | .authent s t q _ _=>rightM s [t,q]
 | .stamp t q=>rightM ⟨#[97]⟩ [t,q]
 | .fact n s _ t=>rightM s [n,t]
 | .plain _=>true
/-- tick.Pack. -/
def packB(t:Thing):Nat ⊕ Bytes:=if rightTh t=true then (if (wrV (valD t)).length<=4096 then .inr (wrV (valD t)) else .inl 20) else .inl 7
/-- tick.Unpack. -/
def unpB(b:Bytes):Nat ⊕ Thing:=
 match RdB b with
 | .inl e=>.inl e
 | .inr v=>match ofF v with
   | some t=>.inr t
   | none=>.inl 4
section
variable{r:List DVal}{b:Bool}{f:Int}{s:ByteArray}{K:Fin 16->UInt8}
theorem inN_nat(h:inN f=true):∃ n:Nat,f=n/\n<=1099511627776:=by
 unfold inN at h
 simp only [Bool.not_eq_true',Bool.or_eq_false_iff,decide_eq_false_iff_not] at h
 exact ⟨f.toNat,by omega,by omega⟩
theorem num_nD(h:inN f=true):numO (nD f::r,b)=f/\numT (nD f::r,b)=(r,b):=by
 obtain ⟨n,rfl,hn⟩:=inN_nat h
 have e:=nx_good (k:=0) (v:=nD (n:Int)) (r:=r) rfl rfl b
 unfold numO numT
 simp only [e.1,e.2]
 have e2:(nD (n:Int)).n=n:=rfl
 rw [e2,if_neg (by omega),decide_eq_false (by omega),Bool.or_false]
 exact ⟨rfl,rfl⟩
theorem name_bD(h:rightN s=true):nameO (bD s.data.toList::r,b)=s/\nameT (bD s.data.toList::r,b)=(r,b):=by
 have e:=nx_good (k:=1) (v:=bD s.data.toList) (r:=r) rfl rfl b
 have e2:nameO (bD s.data.toList::r,b)=s:=by
   unfold nameO
   simp only [e.1]
   rfl
 refine ⟨e2,?_⟩
 unfold nameT
 rw [e2,e.2,h]
 simp
theorem key_bD:keyO (bD (kl K)::r,b)=K/\keyT (bD (kl K)::r,b)=(r,b):=by
 have e:=nx_good (k:=1) (v:=bD (kl K)) (r:=r) rfl rfl b
 have h16:(bD (kl K)).b.length=16:=kl_len K
 constructor
 · apply kl_inj
   rw [kl_keyO]
   simp only [e.1]
   unfold keyF
   rw [if_pos h16];rfl
 unfold keyT
 simp only [e.1,e.2]
 rw [decide_eq_true h16]
 simp
theorem truth_nD(x:Bool):truthO (nD x.toNat::r,b)=x/\truthT (nD x.toNat::r,b)=(r,b):=by
 have e:=nx_good (k:=0) (v:=nD x.toNat) (r:=r) rfl rfl b
 unfold truthO truthT
 simp only [e.1,e.2]
 cases x <;> simp [nD,DVal.n]
theorem bytes_bD(c:Bytes):bytesO (bD c::r,b)=c/\bytesT (bD c::r,b)=(r,b):=by
 have e:=nx_good (k:=1) (v:=bD c) (r:=r) rfl rfl b
 unfold bytesO bytesT
 simp only [e.1,e.2]
 exact ⟨rfl,trivial⟩
end
theorem rightM_parts{s:ByteArray}{l:List Int}(h:rightM s l=true):(∀ x ∈ l,inN x=true)/\rightN s=true:=by
 unfold rightM at h
 rw [Bool.and_eq_true,List.all_eq_true] at h
 exact h
theorem of_val{t:Thing}(h:rightTh t=true):ofF (valD t)=some t:=by
 have key:ofTag (tagTh t) (valL t,false)=some (t,([],false)):=by
   cases t with
   | ticket s b =>
     obtain ⟨_,hs⟩:=rightM_parts h
     show some (ofTicket _)=_
     unfold ofTicket
     simp only [valL,name_bD hs,bytes_bD]
   | inside f K s a u r =>
     obtain ⟨hl,hs⟩:=rightM_parts h
     have h1:=hl f (by simp);have h2:=hl a (by simp);have h3:=hl u (by simp);have h4:=hl r (by simp)
     show some (ofInside _)=_
     unfold ofInside
     simp only [valL,name_bD hs,num_nD h1,num_nD h2,num_nD h3,num_nD h4,key_bD]
   | reply f K n s a u r =>
     obtain ⟨hl,hs⟩:=rightM_parts h
     have h1:=hl f (by simp);have h2:=hl a (by simp);have h3:=hl u (by simp);have h4:=hl r (by simp);have h5:=hl n (by simp)
     show some (ofReply _)=_
     unfold ofReply
     simp only [valL,name_bD hs,num_nD h1,num_nD h2,num_nD h3,num_nD h4,num_nD h5,key_bD]
   | authent s t q K b =>
     obtain ⟨hl,hs⟩:=rightM_parts h
     have h1:=hl t (by simp);have h2:=hl q (by simp)
     show some (ofAuthent _)=_
     unfold ofAuthent
     simp only [valL,name_bD hs,num_nD h1,num_nD h2,key_bD,bytes_bD]
   | stamp t q =>
     obtain ⟨hl,hs⟩:=rightM_parts h
     have h1:=hl t (by simp);have h2:=hl q (by simp)
     show some (ofStamp _)=_
     unfold ofStamp
     simp only [valL,num_nD h1,num_nD h2]
   | fact n s f t =>
     obtain ⟨hl,hs⟩:=rightM_parts h
     have h1:=hl n (by simp);have h2:=hl t (by simp)
     show some (ofFact _)=_
     unfold ofFact
     simp only [valL,name_bD hs,num_nD h1,num_nD h2,truth_nD]
   | plain b =>
     show some (ofPlain _)=_
     unfold ofPlain
     simp only [valL,bytes_bD]
 unfold ofF
 show ofEnd 2 (ofTag (tagTh t) (valL t,false))=_
 rw [key]
 rfl
theorem rightV_nD(n:Int):rightV (nD n) 2=true:=by unfold nD;rw [rightV];rfl
theorem rightV_bD(b:Bytes):rightV (bD b) 2=true:=by unfold bD;rw [rightV];rfl
theorem rightL_of{l:List DVal}(h:∀ v ∈ l,rightV v 2=true):rightL l 2=true:=rightL_all l 2 h
theorem valL_all(P:DVal->Prop)(hn:∀ n,P (nD n))(hb:∀ b,P (bD b))(t:Thing):∀ v ∈ valL t,P v:=by
 cases t <;> simp [valL,hn,hb]
theorem rightV_val(t:Thing):rightV (valD t) 1=true:=by
 unfold valD
 rw [rightV,rightL_of]
 · cases t <;> rfl
 exact valL_all _ rightV_nD rightV_bD t
theorem numV_nD{n:Int}(h:inN n=true):numV (nD n)=true:=by
 obtain ⟨m,rfl,hm⟩:=inN_nat h
 unfold nD
 rw [numV,decide_eq_true (by omega)];rfl
theorem numV_bD(b:Bytes):numV (bD b)=true:=by unfold bD;rw [numV];rfl
theorem numV_val{t:Thing}(h:rightTh t=true):numV (valD t)=true:=by
 unfold valD
 rw [numV,decide_eq_true (by omega),Bool.true_and]
 cases t with
 | ticket s b=>simp [valL,numL,numV_bD]
 | inside f K s a u r =>
   obtain ⟨hl,_⟩:=rightM_parts h
   simp [valL,numL,numV_bD,numV_nD (hl f (by simp)),numV_nD (hl a (by simp)),numV_nD (hl u (by simp)),numV_nD (hl r (by simp))]
 | reply f K n s a u r =>
   obtain ⟨hl,_⟩:=rightM_parts h
   simp [valL,numL,numV_bD,numV_nD (hl f (by simp)),numV_nD (hl a (by simp)),numV_nD (hl u (by simp)),numV_nD (hl r (by simp)),numV_nD (hl n (by simp))]
 | authent s t q K b =>
   obtain ⟨hl,_⟩:=rightM_parts h
   simp [valL,numL,numV_bD,numV_nD (hl t (by simp)),numV_nD (hl q (by simp))]
 | stamp t q =>
   obtain ⟨hl,_⟩:=rightM_parts h
   simp [valL,numL,numV_nD (hl t (by simp)),numV_nD (hl q (by simp))]
 | fact n s f t =>
   obtain ⟨hl,_⟩:=rightM_parts h
   have hf:numV (nD (f.toNat:Int))=true:=by cases f <;> (unfold nD;rw [numV];rfl)
   simp [valL,numL,numV_bD,numV_nD (hl n (by simp)),numV_nD (hl t (by simp)),hf]
 | plain b=>simp [valL,numL,numV_bD]
theorem unp_pack{t:Thing}{b:Bytes}(h:packB t=.inr b):unpB b=.inr t:=by
 unfold packB at h
 split at h
 · rename_i hr
   split at h
   · rename_i hl
     injection h with h;subst h
     unfold unpB
     rw [RdB_wr _ (rightV_val t) (numV_val hr) hl]
     simp only
     rw [of_val hr]
   cases h
 cases h
/-- The bytes of a value that was read are no longer than what was read. -/
def Lim(n:Nat)(v:DVal):Prop:=v.b.length<=n/\∀ u ∈ v.l,u.b.length<=n
theorem lsB_lim{rd:Bytes->Nat ⊕ (DVal × Nat)}(h:∀ l v k,rd l=.inr (v,k)->v.b.length<=l.length):∀ (f:Nat) (l:Bytes) (ts:List DVal),lsB rd f l=.inr ts->∀ u ∈ ts,u.b.length<=l.length
 | 0,_,_,hh=>by injection hh with hh;subst hh;simp
 | f+1,l,ts,hh=>by
   rw [lsB] at hh
   split at hh
   · injection hh with hh;subst hh;simp
   split at hh
   · cases hh
   rename_i v k hr
   split at hh
   · cases hh
   rename_i r hr2
   injection hh with hh;subst hh
   intro u hu
   rcases List.mem_cons.1 hu with rfl|hu
   · exact h l _ k hr
   have:=lsB_lim h f _ _ hr2 u hu
   rw [List.length_drop] at this;omega
theorem rdB_lim:∀ (m:Nat) (L:Bytes) (v:DVal) (k:Nat),rdB m L=.inr (v,k)->Lim L.length v
 | 0,_,_,_,h=>by cases h
 | m+1,L,v,k,h=>by
   rw [rdB] at h
   split at h
   · cases h
   split at h
   · cases h
   have hB:((L.take ((szB L).2.2+(szB L).2.1)).drop (szB L).2.2).length<=L.length:=by rw [List.length_drop,List.length_take];omega
   unfold ptB at h
   split at h
   · split at h
     · cases h
     injection h with h;injection h with h1 h2;subst h1;exact ⟨Nat.zero_le _,by simp [DVal.l]⟩
   split at h
   · injection h with h;injection h with h1 h2;subst h1;exact ⟨hB,by simp [DVal.l]⟩
   split at h
   · cases h
   rename_i ts hr
   injection h with h;injection h with h1 h2;subst h1
   exact ⟨Nat.zero_le _,fun u hu=>Nat.le_trans (lsB_lim (fun l v k hh=>(rdB_lim m l v k hh).1) _ _ _ hr u hu) hB⟩
theorem RdB_sm{L:Bytes}{v:DVal}(h:RdB L=.inr v):Sm v.l:=by
 unfold RdB at h
 split at h
 · cases h
 rename_i hl
 split at h
 · cases h
 rename_i u n hr
 split at h
 · cases h
 injection h with h;subst h
 intro x hx
 have:=(rdB_lim 8 L u n hr).2 x hx
 omega
end
section
open Go.Value renaming int->iV,slice->lV,string->sV,bool->bV,agg->aV
open Go.RowKit Go.QT
theorem x_tiRight0{F0:Nat->Prop}{w0 w:World}{ro rs:List Res}{o:Oper}{a:Act}(h:Hp F0 w0 w ro rs)(s:ByteArray)(hs:s.size<=1000000000)
   (hp:pureVal Tryz.prog (execOp a.eval o)=some (.enter 121 #[.string s,.slice none 0 0])) :
   OpTo Tryz.prog o a w (fun u w'=>u=.bool (rightM s [])/\Hp F0 w0 w' ro rs):=by
 refine OpTo.enter 121 [.string s,.slice none 0 0] hp (kright_any s hs [] none 0 w (by decide) ((Hp.nil (fun _=>False) w).addR _ ⟨Nat.le_refl _,by unfold maxLen;omega,by simp,fun h=>absurd rfl h⟩ (by simp))) fun e w' hq=>?_
 exact ⟨_,hq.1,rfl,h.below hq.2⟩
theorem vTicket_any(s:ByteArray)(hs:s.size<=1000000)(P:Option Addr)(k:Nat)(b:Bytes)(w:World)(hb:SB w (.slice P b.length k) b)(hl:b.length<=1000000):Calls Tryz.prog 99 #[.iface 39 (aV ([(sV s),(lV P b.length k)]).toArray)] w fun e w'=>∃ g A c C e2,e=.returned (.tuple #[.agg #[.int .i64 2,.int .i64 1,.int .u64 0,.slice none 0 0,.slice (some ⟨g,0,none⟩) 2 2],.bool (rightM s [])])/\Blk w' g 196 (rV (lV A s.data.toList.length c)++rV (lV C b.length e2))/\SB w' (lV A s.data.toList.length c) s.data.toList/\SB w' (lV C b.length e2) b/\w.heap.size<=g/\(∀ q,(lV A s.data.toList.length c).ownBlock=some q->w.heap.size<=q)/\(∀ q,(lV C b.length e2).ownBlock=some q->w.heap.size<=q)/\Below w.heap.size w w':=by
 have h0:=(Hp.nil (fun _=>False) w).addR (rSB _ b) hb (by simp)
 refine mE 180 ?_
 refine mN h0 196 ([zO,zO,(iV .u64 0),zN,zN]) fun g2 w2 h2=>?_
 refine mN h2 39 ([zE,zN]) fun g7 w7 h7=>?_
 refine mT (xSs h7 0 39 (.tmp 4) (.tmp 14) 0 ([(sV s),(lV P b.length k)]) ([(sV s),(lV P b.length k)])) fun _ w8 h8=>?_
 refine dG h8 13 12 (fun W=>(rBlk g7 39 ([(sV s),(lV P b.length k)])).Φ W/\True) (fun w10 h10=>⟨h10.at_ 0 rfl,trivial⟩) ?_
 intro w10 h10
 refine dP 10 [0,3,8] ?_
 refine dLs 7 [1,4,9] (fun W hW=>hW.1) ?_
 refine dT 2 (x_rawT h10 120 [(sV s)] (by kernel_rfl) (ktext_any s _ (by omega))) ?_
 rintro _ w11 ⟨A11,c11,rfl,h11,hn11⟩
 refine ⟨⟨h11.at_ 1 rfl,trivial⟩,?_⟩
 refine dT 5 (x_rawT h11 97 [(lV P b.length k)] (by kernel_rfl) (draw_any (lV P b.length k) b _ (h11.rd 0 rfl) (by omega))) ?_
 rintro _ w12 ⟨A12,c12,rfl,h12,hn12⟩
 refine ⟨⟨h12.at_ 2 rfl,trivial⟩,?_⟩
 refine dT 6 (x_bs h12 196 ([(zD 1),zO,(iV .u64 0),(lV A11 s.data.toList.length c11),zN,(zD 1),zO,(iV .u64 0),(lV A12 b.length c12),zN]) 2 (by kernel_rfl)) ?_
 rintro _ w13 ⟨g13,rfl,h13⟩
 refine ⟨⟨h13.at_ 3 rfl,trivial⟩,?_⟩
 refine dD 7 h13 [(zD 1),(lV (some ⟨g13,0,none⟩) 2 2)] (dseq_any 1 (some ⟨g13,0,none⟩) 2 2 _) (fun w14 h14=>⟨⟨h14.at_ 3 rfl,trivial⟩,?_⟩)
 refine dT 10 (x_tiRight0 h14 s (by omega) (by kernel_rfl)) ?_
 rintro _ w15 ⟨rfl,h15⟩
 refine ⟨⟨h15.at_ 3 rfl,trivial⟩,?_⟩
 refine dT 11 (xSs h15 4 196 (.tmp 2) (.tmp 22) 0 ([(zD 2),(zD 1),(iV .u64 0),zN,(lV (some ⟨g13,0,none⟩) 2 2)]) ([(zD 2),(zD 1),(iV .u64 0),zN,(lV (some ⟨g13,0,none⟩) 2 2)])) ?_
 rintro _ w16 h16
 refine ⟨⟨h16.at_ 3 rfl,trivial⟩,?_⟩
 refine dN 12 ?_
 refine dX ?_
 refine mF (post_2 (r:=.cell 2 196) (s:=.tmp 3) (by kernel_rfl) rfl (rce (h16.at_ 4 rfl)) (rtm (bV (rightM s []))) ?_)
 exact ⟨g13,_,_,_,_,rfl,h16.at_ 0 rfl,h16.at_ 2 rfl,h16.at_ 1 rfl,(h16.mine 0 _ rfl _ rfl).elim (fun h=>h.elim) id,fun q hq=>Nat.le_trans h10.below0.size (hn11 q hq),fun q hq=>Nat.le_trans h11.below0.size (hn12 q hq),h16.below0⟩
theorem vAuthent_any(t q:Int)(K:Fin 16->UInt8)(s:ByteArray)(hs:s.size<=1000000)(P:Option Addr)(k:Nat)(b:Bytes)(w:World)(hb:SB w (.slice P b.length k) b)(hl:b.length<=1000000):Calls Tryz.prog 99 #[.iface 71 (aV ([(sV s),(iV .i64 t),(iV .i64 q)]++vb (kl K)++[(lV P b.length k)]).toArray)] w fun e w'=>∃ g A c C e2 B d,e=.returned (.tuple #[.agg #[.int .i64 2,.int .i64 4,.int .u64 0,.slice none 0 0,.slice (some ⟨g,0,none⟩) 5 5],.bool (rightM s [t,q])])/\Blk w' g 196 (rV (lV A s.data.toList.length c)++nV t++nV q++rV (lV B (kl K).length d)++rV (lV C b.length e2))/\SB w' (lV A s.data.toList.length c) s.data.toList/\SB w' (lV C b.length e2) b/\SB w' (lV B (kl K).length d) (kl K)/\w.heap.size<=g/\(∀ q,(lV A s.data.toList.length c).ownBlock=some q->w.heap.size<=q)/\(∀ q,(lV C b.length e2).ownBlock=some q->w.heap.size<=q)/\(∀ q,(lV B (kl K).length d).ownBlock=some q->w.heap.size<=q)/\Below w.heap.size w w':=by
 have h0:=(Hp.nil (fun _=>False) w).addR (rSB _ b) hb (by simp)
 refine mE 180 ?_
 refine mN h0 196 ([zO,zO,(iV .u64 0),zN,zN]) fun g2 w2 h2=>?_
 refine mN h2 71 ([zE,zO,zO]++vb (List.replicate 16 0)++[zN]) fun g10 w10 h10=>?_
 refine mT (xSs h10 0 71 (.tmp 7) (.tmp 103) 0 ([(sV s),(zD t),(zD q)]++vb (kl K)++[(lV P b.length k)]) ([(sV s),(zD t),(zD q)]++vb (kl K)++[(lV P b.length k)])) fun _ w11 h11=>?_
 refine dG h11 27 26 (fun W=>(rBlk g10 71 ([(sV s),(zD t),(zD q)]++vb (kl K)++[(lV P b.length k)])).Φ W/\True) (fun w13 h13=>⟨h13.at_ 0 rfl,trivial⟩) ?_
 intro w13 h13
 refine dP 19 [0,3,6,9,12,17,19,21] ?_
 refine dLs 11 [1,4,7,10,13,18,20,22] (fun W hW=>hW.1) ?_
 refine dO 2 23 ?_ ?_
 ·
  refine oT (x_rawT h13 120 [(sV s)] (by kernel_rfl) (ktext_any s _ (by omega))) ?_
  rintro _ w14 ⟨A14,c14,rfl,h14,hn14⟩
  refine ⟨⟨h14.at_ 1 rfl,trivial⟩,?_⟩
  refine dO 5 23 ?_ ?_
  ·
   refine oD h14 [(zD t)] (knum_any t _) (fun w15 h15=>⟨⟨h15.at_ 1 rfl,trivial⟩,?_⟩)
   refine dO 8 23 ?_ ?_
   ·
    refine oD h15 [(zD q)] (knum_any q _) (fun w16 h16=>⟨⟨h16.at_ 1 rfl,trivial⟩,?_⟩)
    refine dO 11 23 ?_ ?_
    ·
     refine oT (x_rawT h16 123 [(aV (vb (kl K)).toArray)] (by kernel_rfl) (kkey_any K _)) ?_
     rintro _ w17 ⟨A17,c17,rfl,h17,hn17⟩
     refine ⟨⟨h17.at_ 2 rfl,trivial⟩,?_⟩
     refine dO 14 23 ?_ ?_
     ·
      refine oT (x_rawT h17 97 [(lV P b.length k)] (by kernel_rfl) (draw_any (lV P b.length k) b _ (h17.rd 0 rfl) (by omega))) ?_
      rintro _ w18 ⟨A18,c18,rfl,h18,hn18⟩
      refine ⟨⟨h18.at_ 3 rfl,trivial⟩,?_⟩
      refine dO 15 23 ?_ ?_
      ·
       refine oT (x_bs h18 196 ([(zD 1),zO,(iV .u64 0),(lV A14 s.data.toList.length c14),zN,zO,zO,(iV .u64 ((IntKind.u64.wrap t))),zN,zN,zO,zO,(iV .u64 ((IntKind.u64.wrap q))),zN,zN,(zD 1),zO,(iV .u64 0),(lV A17 ((kl K).length) c17),zN,(zD 1),zO,(iV .u64 0),(lV A18 b.length c18),zN]) 5 (by kernel_rfl)) ?_
       rintro _ w19 ⟨g19,rfl,h19⟩
       refine ⟨⟨h19.at_ 4 rfl,trivial⟩,?_⟩
       refine dO 16 23 ?_ ?_
       ·
        refine oD h19 [(zD 4),(lV (some ⟨g19,0,none⟩) 5 5)] (dseq_any 4 (some ⟨g19,0,none⟩) 5 5 _) (fun w20 h20=>⟨⟨h20.at_ 4 rfl,trivial⟩,?_⟩)
        refine dT 23 (x_bs h20 2 ([(zD t),(zD q)]) 2 (by kernel_rfl)) ?_
        rintro _ w21 ⟨g21,rfl,h21⟩
        refine ⟨⟨h21.at_ 5 rfl,trivial⟩,?_⟩
        refine dT 24 (x_tiRight h21 0 rfl s (by omega) [t,q] 2 rfl rfl (by decide) (by kernel_rfl)) ?_
        rintro _ w22 ⟨rfl,h22⟩
        refine ⟨⟨h22.at_ 5 rfl,trivial⟩,?_⟩
        refine dT 25 (xSs h22 6 196 (.tmp 2) (.tmp 120) 0 ([(zD 2),(zD 4),(iV .u64 0),zN,(lV (some ⟨g19,0,none⟩) 5 5)]) ([(zD 2),(zD 4),(iV .u64 0),zN,(lV (some ⟨g19,0,none⟩) 5 5)])) ?_
        rintro _ w23 h23
        refine ⟨⟨h23.at_ 5 rfl,trivial⟩,?_⟩
        refine dN 26 ?_
        refine dX ?_
        refine mF (post_2 (r:=.cell 2 196) (s:=.tmp 3) (by kernel_rfl) rfl (rce (h23.at_ 6 rfl)) (rtm (bV (rightM s [t,q]))) ?_)
        exact ⟨g19,_,_,_,_,_,_,rfl,h23.at_ 1 rfl,h23.at_ 4 rfl,h23.at_ 2 rfl,h23.at_ 3 rfl,(h23.mine 1 _ rfl _ rfl).elim (fun h=>h.elim) id,fun q hq=>Nat.le_trans h13.below0.size (hn14 q hq),fun q hq=>Nat.le_trans h17.below0.size (hn18 q hq),fun q hq=>Nat.le_trans h16.below0.size (hn17 q hq),h23.below0⟩
       refine oT (x_bs h19 2 ([(zD t),(zD q)]) 2 (by kernel_rfl)) ?_
       rintro _ w24 ⟨g24,rfl,h24⟩
       refine ⟨⟨h24.at_ 5 rfl,trivial⟩,?_⟩
       refine dD 16 h24 [(zD 4),(lV (some ⟨g19,0,none⟩) 5 5)] (dseq_any 4 (some ⟨g19,0,none⟩) 5 5 _) (fun w25 h25=>⟨⟨h25.at_ 5 rfl,trivial⟩,?_⟩)
       refine dT 24 (x_tiRight h25 0 rfl s (by omega) [t,q] 2 rfl rfl (by decide) (by kernel_rfl)) ?_
       rintro _ w26 ⟨rfl,h26⟩
       refine ⟨⟨h26.at_ 5 rfl,trivial⟩,?_⟩
       refine dT 25 (xSs h26 6 196 (.tmp 2) (.tmp 120) 0 ([(zD 2),(zD 4),(iV .u64 0),zN,(lV (some ⟨g19,0,none⟩) 5 5)]) ([(zD 2),(zD 4),(iV .u64 0),zN,(lV (some ⟨g19,0,none⟩) 5 5)])) ?_
       rintro _ w27 h27
       refine ⟨⟨h27.at_ 5 rfl,trivial⟩,?_⟩
       refine dN 26 ?_
       refine dX ?_
       refine mF (post_2 (r:=.cell 2 196) (s:=.tmp 3) (by kernel_rfl) rfl (rce (h27.at_ 6 rfl)) (rtm (bV (rightM s [t,q]))) ?_)
       exact ⟨g19,_,_,_,_,_,_,rfl,h27.at_ 1 rfl,h27.at_ 4 rfl,h27.at_ 2 rfl,h27.at_ 3 rfl,(h27.mine 1 _ rfl _ rfl).elim (fun h=>h.elim) id,fun q hq=>Nat.le_trans h13.below0.size (hn14 q hq),fun q hq=>Nat.le_trans h17.below0.size (hn18 q hq),fun q hq=>Nat.le_trans h16.below0.size (hn17 q hq),h27.below0⟩
      refine oT (x_bs h18 2 ([(zD t),(zD q)]) 2 (by kernel_rfl)) ?_
      rintro _ w28 ⟨g28,rfl,h28⟩
      refine ⟨⟨h28.at_ 4 rfl,trivial⟩,?_⟩
      refine dT 15 (x_bs h28 196 ([(zD 1),zO,(iV .u64 0),(lV A14 s.data.toList.length c14),zN,zO,zO,(iV .u64 ((IntKind.u64.wrap t))),zN,zN,zO,zO,(iV .u64 ((IntKind.u64.wrap q))),zN,zN,(zD 1),zO,(iV .u64 0),(lV A17 ((kl K).length) c17),zN,(zD 1),zO,(iV .u64 0),(lV A18 b.length c18),zN]) 5 (by kernel_rfl)) ?_
      rintro _ w29 ⟨g29,rfl,h29⟩
      refine ⟨⟨h29.at_ 5 rfl,trivial⟩,?_⟩
      refine dD 16 h29 [(zD 4),(lV (some ⟨g29,0,none⟩) 5 5)] (dseq_any 4 (some ⟨g29,0,none⟩) 5 5 _) (fun w30 h30=>⟨⟨h30.at_ 5 rfl,trivial⟩,?_⟩)
      refine dT 24 (x_tiRight h30 1 rfl s (by omega) [t,q] 2 rfl rfl (by decide) (by kernel_rfl)) ?_
      rintro _ w31 ⟨rfl,h31⟩
      refine ⟨⟨h31.at_ 5 rfl,trivial⟩,?_⟩
      refine dT 25 (xSs h31 6 196 (.tmp 2) (.tmp 120) 0 ([(zD 2),(zD 4),(iV .u64 0),zN,(lV (some ⟨g29,0,none⟩) 5 5)]) ([(zD 2),(zD 4),(iV .u64 0),zN,(lV (some ⟨g29,0,none⟩) 5 5)])) ?_
      rintro _ w32 h32
      refine ⟨⟨h32.at_ 5 rfl,trivial⟩,?_⟩
      refine dN 26 ?_
      refine dX ?_
      refine mF (post_2 (r:=.cell 2 196) (s:=.tmp 3) (by kernel_rfl) rfl (rce (h32.at_ 6 rfl)) (rtm (bV (rightM s [t,q]))) ?_)
      exact ⟨g29,_,_,_,_,_,_,rfl,h32.at_ 0 rfl,h32.at_ 4 rfl,h32.at_ 2 rfl,h32.at_ 3 rfl,(h32.mine 0 _ rfl _ rfl).elim (fun h=>h.elim) id,fun q hq=>Nat.le_trans h13.below0.size (hn14 q hq),fun q hq=>Nat.le_trans h17.below0.size (hn18 q hq),fun q hq=>Nat.le_trans h16.below0.size (hn17 q hq),h32.below0⟩
     refine oT (x_bs h17 2 ([(zD t),(zD q)]) 2 (by kernel_rfl)) ?_
     rintro _ w33 ⟨g33,rfl,h33⟩
     refine ⟨⟨h33.at_ 3 rfl,trivial⟩,?_⟩
     refine dT 14 (x_rawT h33 97 [(lV P b.length k)] (by kernel_rfl) (draw_any (lV P b.length k) b _ (h33.rd 0 rfl) (by omega))) ?_
     rintro _ w34 ⟨A34,c34,rfl,h34,hn34⟩
     refine ⟨⟨h34.at_ 4 rfl,trivial⟩,?_⟩
     refine dT 15 (x_bs h34 196 ([(zD 1),zO,(iV .u64 0),(lV A14 s.data.toList.length c14),zN,zO,zO,(iV .u64 ((IntKind.u64.wrap t))),zN,zN,zO,zO,(iV .u64 ((IntKind.u64.wrap q))),zN,zN,(zD 1),zO,(iV .u64 0),(lV A17 ((kl K).length) c17),zN,(zD 1),zO,(iV .u64 0),(lV A34 b.length c34),zN]) 5 (by kernel_rfl)) ?_
     rintro _ w35 ⟨g35,rfl,h35⟩
     refine ⟨⟨h35.at_ 5 rfl,trivial⟩,?_⟩
     refine dD 16 h35 [(zD 4),(lV (some ⟨g35,0,none⟩) 5 5)] (dseq_any 4 (some ⟨g35,0,none⟩) 5 5 _) (fun w36 h36=>⟨⟨h36.at_ 5 rfl,trivial⟩,?_⟩)
     refine dT 24 (x_tiRight h36 2 rfl s (by omega) [t,q] 2 rfl rfl (by decide) (by kernel_rfl)) ?_
     rintro _ w37 ⟨rfl,h37⟩
     refine ⟨⟨h37.at_ 5 rfl,trivial⟩,?_⟩
     refine dT 25 (xSs h37 6 196 (.tmp 2) (.tmp 120) 0 ([(zD 2),(zD 4),(iV .u64 0),zN,(lV (some ⟨g35,0,none⟩) 5 5)]) ([(zD 2),(zD 4),(iV .u64 0),zN,(lV (some ⟨g35,0,none⟩) 5 5)])) ?_
     rintro _ w38 h38
     refine ⟨⟨h38.at_ 5 rfl,trivial⟩,?_⟩
     refine dN 26 ?_
     refine dX ?_
     refine mF (post_2 (r:=.cell 2 196) (s:=.tmp 3) (by kernel_rfl) rfl (rce (h38.at_ 6 rfl)) (rtm (bV (rightM s [t,q]))) ?_)
     exact ⟨g35,_,_,_,_,_,_,rfl,h38.at_ 0 rfl,h38.at_ 4 rfl,h38.at_ 1 rfl,h38.at_ 3 rfl,(h38.mine 0 _ rfl _ rfl).elim (fun h=>h.elim) id,fun q hq=>Nat.le_trans h13.below0.size (hn14 q hq),fun q hq=>Nat.le_trans h33.below0.size (hn34 q hq),fun q hq=>Nat.le_trans h16.below0.size (hn17 q hq),h38.below0⟩
    refine oT (x_bs h16 2 ([(zD t),(zD q)]) 2 (by kernel_rfl)) ?_
    rintro _ w39 ⟨g39,rfl,h39⟩
    refine ⟨⟨h39.at_ 2 rfl,trivial⟩,?_⟩
    refine dT 11 (x_rawT h39 123 [(aV (vb (kl K)).toArray)] (by kernel_rfl) (kkey_any K _)) ?_
    rintro _ w40 ⟨A40,c40,rfl,h40,hn40⟩
    refine ⟨⟨h40.at_ 3 rfl,trivial⟩,?_⟩
    refine dT 14 (x_rawT h40 97 [(lV P b.length k)] (by kernel_rfl) (draw_any (lV P b.length k) b _ (h40.rd 0 rfl) (by omega))) ?_
    rintro _ w41 ⟨A41,c41,rfl,h41,hn41⟩
    refine ⟨⟨h41.at_ 4 rfl,trivial⟩,?_⟩
    refine dT 15 (x_bs h41 196 ([(zD 1),zO,(iV .u64 0),(lV A14 s.data.toList.length c14),zN,zO,zO,(iV .u64 ((IntKind.u64.wrap t))),zN,zN,zO,zO,(iV .u64 ((IntKind.u64.wrap q))),zN,zN,(zD 1),zO,(iV .u64 0),(lV A40 ((kl K).length) c40),zN,(zD 1),zO,(iV .u64 0),(lV A41 b.length c41),zN]) 5 (by kernel_rfl)) ?_
    rintro _ w42 ⟨g42,rfl,h42⟩
    refine ⟨⟨h42.at_ 5 rfl,trivial⟩,?_⟩
    refine dD 16 h42 [(zD 4),(lV (some ⟨g42,0,none⟩) 5 5)] (dseq_any 4 (some ⟨g42,0,none⟩) 5 5 _) (fun w43 h43=>⟨⟨h43.at_ 5 rfl,trivial⟩,?_⟩)
    refine dT 24 (x_tiRight h43 3 rfl s (by omega) [t,q] 2 rfl rfl (by decide) (by kernel_rfl)) ?_
    rintro _ w44 ⟨rfl,h44⟩
    refine ⟨⟨h44.at_ 5 rfl,trivial⟩,?_⟩
    refine dT 25 (xSs h44 6 196 (.tmp 2) (.tmp 120) 0 ([(zD 2),(zD 4),(iV .u64 0),zN,(lV (some ⟨g42,0,none⟩) 5 5)]) ([(zD 2),(zD 4),(iV .u64 0),zN,(lV (some ⟨g42,0,none⟩) 5 5)])) ?_
    rintro _ w45 h45
    refine ⟨⟨h45.at_ 5 rfl,trivial⟩,?_⟩
    refine dN 26 ?_
    refine dX ?_
    refine mF (post_2 (r:=.cell 2 196) (s:=.tmp 3) (by kernel_rfl) rfl (rce (h45.at_ 6 rfl)) (rtm (bV (rightM s [t,q]))) ?_)
    exact ⟨g42,_,_,_,_,_,_,rfl,h45.at_ 0 rfl,h45.at_ 4 rfl,h45.at_ 1 rfl,h45.at_ 2 rfl,(h45.mine 0 _ rfl _ rfl).elim (fun h=>h.elim) id,fun q hq=>Nat.le_trans h13.below0.size (hn14 q hq),fun q hq=>Nat.le_trans h40.below0.size (hn41 q hq),fun q hq=>Nat.le_trans h39.below0.size (hn40 q hq),h45.below0⟩
   refine oT (x_bs h15 2 ([(zD t),(zD q)]) 2 (by kernel_rfl)) ?_
   rintro _ w46 ⟨g46,rfl,h46⟩
   refine ⟨⟨h46.at_ 2 rfl,trivial⟩,?_⟩
   refine dD 8 h46 [(zD q)] (knum_any q _) (fun w47 h47=>⟨⟨h47.at_ 2 rfl,trivial⟩,?_⟩)
   refine dT 11 (x_rawT h47 123 [(aV (vb (kl K)).toArray)] (by kernel_rfl) (kkey_any K _)) ?_
   rintro _ w48 ⟨A48,c48,rfl,h48,hn48⟩
   refine ⟨⟨h48.at_ 3 rfl,trivial⟩,?_⟩
   refine dT 14 (x_rawT h48 97 [(lV P b.length k)] (by kernel_rfl) (draw_any (lV P b.length k) b _ (h48.rd 0 rfl) (by omega))) ?_
   rintro _ w49 ⟨A49,c49,rfl,h49,hn49⟩
   refine ⟨⟨h49.at_ 4 rfl,trivial⟩,?_⟩
   refine dT 15 (x_bs h49 196 ([(zD 1),zO,(iV .u64 0),(lV A14 s.data.toList.length c14),zN,zO,zO,(iV .u64 ((IntKind.u64.wrap t))),zN,zN,zO,zO,(iV .u64 ((IntKind.u64.wrap q))),zN,zN,(zD 1),zO,(iV .u64 0),(lV A48 ((kl K).length) c48),zN,(zD 1),zO,(iV .u64 0),(lV A49 b.length c49),zN]) 5 (by kernel_rfl)) ?_
   rintro _ w50 ⟨g50,rfl,h50⟩
   refine ⟨⟨h50.at_ 5 rfl,trivial⟩,?_⟩
   refine dD 16 h50 [(zD 4),(lV (some ⟨g50,0,none⟩) 5 5)] (dseq_any 4 (some ⟨g50,0,none⟩) 5 5 _) (fun w51 h51=>⟨⟨h51.at_ 5 rfl,trivial⟩,?_⟩)
   refine dT 24 (x_tiRight h51 3 rfl s (by omega) [t,q] 2 rfl rfl (by decide) (by kernel_rfl)) ?_
   rintro _ w52 ⟨rfl,h52⟩
   refine ⟨⟨h52.at_ 5 rfl,trivial⟩,?_⟩
   refine dT 25 (xSs h52 6 196 (.tmp 2) (.tmp 120) 0 ([(zD 2),(zD 4),(iV .u64 0),zN,(lV (some ⟨g50,0,none⟩) 5 5)]) ([(zD 2),(zD 4),(iV .u64 0),zN,(lV (some ⟨g50,0,none⟩) 5 5)])) ?_
   rintro _ w53 h53
   refine ⟨⟨h53.at_ 5 rfl,trivial⟩,?_⟩
   refine dN 26 ?_
   refine dX ?_
   refine mF (post_2 (r:=.cell 2 196) (s:=.tmp 3) (by kernel_rfl) rfl (rce (h53.at_ 6 rfl)) (rtm (bV (rightM s [t,q]))) ?_)
   exact ⟨g50,_,_,_,_,_,_,rfl,h53.at_ 0 rfl,h53.at_ 4 rfl,h53.at_ 1 rfl,h53.at_ 2 rfl,(h53.mine 0 _ rfl _ rfl).elim (fun h=>h.elim) id,fun q hq=>Nat.le_trans h13.below0.size (hn14 q hq),fun q hq=>Nat.le_trans h48.below0.size (hn49 q hq),fun q hq=>Nat.le_trans h47.below0.size (hn48 q hq),h53.below0⟩
  refine oT (x_bs h14 2 ([(zD t),(zD q)]) 2 (by kernel_rfl)) ?_
  rintro _ w54 ⟨g54,rfl,h54⟩
  refine ⟨⟨h54.at_ 2 rfl,trivial⟩,?_⟩
  refine dD 5 h54 [(zD t)] (knum_any t _) (fun w55 h55=>⟨⟨h55.at_ 2 rfl,trivial⟩,?_⟩)
  refine dD 8 h55 [(zD q)] (knum_any q _) (fun w56 h56=>⟨⟨h56.at_ 2 rfl,trivial⟩,?_⟩)
  refine dT 11 (x_rawT h56 123 [(aV (vb (kl K)).toArray)] (by kernel_rfl) (kkey_any K _)) ?_
  rintro _ w57 ⟨A57,c57,rfl,h57,hn57⟩
  refine ⟨⟨h57.at_ 3 rfl,trivial⟩,?_⟩
  refine dT 14 (x_rawT h57 97 [(lV P b.length k)] (by kernel_rfl) (draw_any (lV P b.length k) b _ (h57.rd 0 rfl) (by omega))) ?_
  rintro _ w58 ⟨A58,c58,rfl,h58,hn58⟩
  refine ⟨⟨h58.at_ 4 rfl,trivial⟩,?_⟩
  refine dT 15 (x_bs h58 196 ([(zD 1),zO,(iV .u64 0),(lV A14 s.data.toList.length c14),zN,zO,zO,(iV .u64 ((IntKind.u64.wrap t))),zN,zN,zO,zO,(iV .u64 ((IntKind.u64.wrap q))),zN,zN,(zD 1),zO,(iV .u64 0),(lV A57 ((kl K).length) c57),zN,(zD 1),zO,(iV .u64 0),(lV A58 b.length c58),zN]) 5 (by kernel_rfl)) ?_
  rintro _ w59 ⟨g59,rfl,h59⟩
  refine ⟨⟨h59.at_ 5 rfl,trivial⟩,?_⟩
  refine dD 16 h59 [(zD 4),(lV (some ⟨g59,0,none⟩) 5 5)] (dseq_any 4 (some ⟨g59,0,none⟩) 5 5 _) (fun w60 h60=>⟨⟨h60.at_ 5 rfl,trivial⟩,?_⟩)
  refine dT 24 (x_tiRight h60 3 rfl s (by omega) [t,q] 2 rfl rfl (by decide) (by kernel_rfl)) ?_
  rintro _ w61 ⟨rfl,h61⟩
  refine ⟨⟨h61.at_ 5 rfl,trivial⟩,?_⟩
  refine dT 25 (xSs h61 6 196 (.tmp 2) (.tmp 120) 0 ([(zD 2),(zD 4),(iV .u64 0),zN,(lV (some ⟨g59,0,none⟩) 5 5)]) ([(zD 2),(zD 4),(iV .u64 0),zN,(lV (some ⟨g59,0,none⟩) 5 5)])) ?_
  rintro _ w62 h62
  refine ⟨⟨h62.at_ 5 rfl,trivial⟩,?_⟩
  refine dN 26 ?_
  refine dX ?_
  refine mF (post_2 (r:=.cell 2 196) (s:=.tmp 3) (by kernel_rfl) rfl (rce (h62.at_ 6 rfl)) (rtm (bV (rightM s [t,q]))) ?_)
  exact ⟨g59,_,_,_,_,_,_,rfl,h62.at_ 0 rfl,h62.at_ 4 rfl,h62.at_ 1 rfl,h62.at_ 2 rfl,(h62.mine 0 _ rfl _ rfl).elim (fun h=>h.elim) id,fun q hq=>Nat.le_trans h13.below0.size (hn14 q hq),fun q hq=>Nat.le_trans h57.below0.size (hn58 q hq),fun q hq=>Nat.le_trans h56.below0.size (hn57 q hq),h62.below0⟩
 refine oT (x_bs h13 2 ([(zD t),(zD q)]) 2 (by kernel_rfl)) ?_
 rintro _ w63 ⟨g63,rfl,h63⟩
 refine ⟨⟨h63.at_ 1 rfl,trivial⟩,?_⟩
 refine dT 2 (x_rawT h63 120 [(sV s)] (by kernel_rfl) (ktext_any s _ (by omega))) ?_
 rintro _ w64 ⟨A64,c64,rfl,h64,hn64⟩
 refine ⟨⟨h64.at_ 2 rfl,trivial⟩,?_⟩
 refine dD 5 h64 [(zD t)] (knum_any t _) (fun w65 h65=>⟨⟨h65.at_ 2 rfl,trivial⟩,?_⟩)
 refine dD 8 h65 [(zD q)] (knum_any q _) (fun w66 h66=>⟨⟨h66.at_ 2 rfl,trivial⟩,?_⟩)
 refine dT 11 (x_rawT h66 123 [(aV (vb (kl K)).toArray)] (by kernel_rfl) (kkey_any K _)) ?_
 rintro _ w67 ⟨A67,c67,rfl,h67,hn67⟩
 refine ⟨⟨h67.at_ 3 rfl,trivial⟩,?_⟩
 refine dT 14 (x_rawT h67 97 [(lV P b.length k)] (by kernel_rfl) (draw_any (lV P b.length k) b _ (h67.rd 0 rfl) (by omega))) ?_
 rintro _ w68 ⟨A68,c68,rfl,h68,hn68⟩
 refine ⟨⟨h68.at_ 4 rfl,trivial⟩,?_⟩
 refine dT 15 (x_bs h68 196 ([(zD 1),zO,(iV .u64 0),(lV A64 s.data.toList.length c64),zN,zO,zO,(iV .u64 ((IntKind.u64.wrap t))),zN,zN,zO,zO,(iV .u64 ((IntKind.u64.wrap q))),zN,zN,(zD 1),zO,(iV .u64 0),(lV A67 ((kl K).length) c67),zN,(zD 1),zO,(iV .u64 0),(lV A68 b.length c68),zN]) 5 (by kernel_rfl)) ?_
 rintro _ w69 ⟨g69,rfl,h69⟩
 refine ⟨⟨h69.at_ 5 rfl,trivial⟩,?_⟩
 refine dD 16 h69 [(zD 4),(lV (some ⟨g69,0,none⟩) 5 5)] (dseq_any 4 (some ⟨g69,0,none⟩) 5 5 _) (fun w70 h70=>⟨⟨h70.at_ 5 rfl,trivial⟩,?_⟩)
 refine dT 24 (x_tiRight h70 4 rfl s (by omega) [t,q] 2 rfl rfl (by decide) (by kernel_rfl)) ?_
 rintro _ w71 ⟨rfl,h71⟩
 refine ⟨⟨h71.at_ 5 rfl,trivial⟩,?_⟩
 refine dT 25 (xSs h71 6 196 (.tmp 2) (.tmp 120) 0 ([(zD 2),(zD 4),(iV .u64 0),zN,(lV (some ⟨g69,0,none⟩) 5 5)]) ([(zD 2),(zD 4),(iV .u64 0),zN,(lV (some ⟨g69,0,none⟩) 5 5)])) ?_
 rintro _ w72 h72
 refine ⟨⟨h72.at_ 5 rfl,trivial⟩,?_⟩
 refine dN 26 ?_
 refine dX ?_
 refine mF (post_2 (r:=.cell 2 196) (s:=.tmp 3) (by kernel_rfl) rfl (rce (h72.at_ 6 rfl)) (rtm (bV (rightM s [t,q]))) ?_)
 exact ⟨g69,_,_,_,_,_,_,rfl,h72.at_ 0 rfl,h72.at_ 3 rfl,h72.at_ 1 rfl,h72.at_ 2 rfl,(h72.mine 0 _ rfl _ rfl).elim (fun h=>h.elim) id,fun q hq=>Nat.le_trans h63.below0.size (hn64 q hq),fun q hq=>Nat.le_trans h67.below0.size (hn68 q hq),fun q hq=>Nat.le_trans h66.below0.size (hn67 q hq),h72.below0⟩
end
section
open Go.RowKit Go.QT
section
variable{F:Nat->Prop}{w w':World}
theorem dvr_num{n:Int}(h:inN n=true):DVR F w (nV n) (nD n):=by
 obtain ⟨m,rfl,hm⟩:=inN_nat h
 have e:IntKind.u64.wrap (m:Int)=(m:Int):=by rw [IntKind.wrap_u64];omega
 unfold nV nD
 rw [e]
 exact .mk 0 0 m _ [] none 0 [] [] (by omega) (sbf_nil _ _) (rvf_nil _ _ _ _ (by unfold maxLen;omega) _) rfl (by simp)
theorem dvr_raw{v:Value}{b:Bytes}(h:SB w v b)(hF:∀ q,v.ownBlock=some q->F q):DVR F w (rV v) (bD b):=
 .mk 1 0 0 v b none 0 [] [] (by omega) ⟨h,fun _ q hq=>hF q hq⟩ (rvf_nil _ _ _ _ (by unfold maxLen;omega) _) rfl (by simp)
inductive DVLs (F:Nat->Prop) (w:World):List (List Value)->List DVal->Prop
 | nil:DVLs F w [] []
 | cons {x:List Value} {u:DVal} {xs:List (List Value)} {ts:List DVal}:DVR F w x u->DVLs F w xs ts->DVLs F w (x::xs) (u::ts)
theorem DVLs.len{xs:List (List Value)}{ts:List DVal}(h:DVLs F w xs ts):xs.length=ts.length:=by
 induction h with
 | nil=>rfl
 | cons _ _ ih=>simp [ih]
theorem DVLs.at_{xs:List (List Value)}{ts:List DVal}(h:DVLs F w xs ts):∀ (i:Nat) (x:List Value) (u:DVal),xs[i]?=some x->ts[i]?=some u->DVR F w x u:=by
 induction h with
 | nil=>intro i x u hx;simp at hx
 | cons h1 _ ih =>
   intro i x u hx hu
   cases i with
   | zero=>injection hx with hx;injection hu with hu;subst hx;subst hu;exact h1
   | succ i=>exact ih i x u (by simpa using hx) (by simpa using hu)
theorem DVR.len{x:List Value}{u:DVal}(h:DVR F w x u):x.length=5:=by cases h;rfl
theorem DVLs.len5{xs:List (List Value)}{ts:List DVal}(h:DVLs F w xs ts):∀ x ∈ xs,x.length=5:=by
 induction h with
 | nil=>simp
 | cons h1 _ ih =>
   intro x hx
   rcases List.mem_cons.1 hx with rfl|hx
   · exact h1.len
   exact ih x hx
theorem flat_get5:∀ (xs:List (List Value)),(∀ x ∈ xs,x.length=5)->∀ (i:Nat) (x:List Value),xs[i]?=some x->∀ (j:Nat) (u:Value),x[j]?=some u->xs.flatten[i*5+j]?=some u
 | [],_,i,x,hx=>by simp at hx
 | y::xs,h,i,x,hx=>by
   intro j u hu
   have hy:=h y (by simp)
   rw [List.flatten_cons]
   cases i with
   | zero =>
     injection hx with hx;subst hx
     have hj:=(List.getElem?_eq_some_iff.1 hu).1
     rw [List.getElem?_append_left (by omega)]
     simpa using hu
   | succ i =>
     rw [List.getElem?_append_right (by omega)]
     have:=flat_get5 xs (fun x hx=>h x (by simp [hx])) i x (by simpa using hx) j u hu
     rw [show (i+1)*5+j-y.length=i*5+j by omega]
     exact this
theorem dv_blk{g n tag:Nat}{cs:List Value}{xs:List (List Value)}{ts:List DVal}(hb:Blk w g 196 cs)(hc:cs=xs.flatten)(h:DVLs F w xs ts)(hn:ts.length=n)(hl:decide (n<=1000)=true)(hg:F g)(hlt:∀ q,F q->q<w.heap.size) :
   (rDV F [.int .i64 2,.int .i64 (tag:Int),.int .u64 0,.slice none 0 0,.slice (some ⟨g,0,none⟩) n n] (.mk 2 tag 0 [] ts)).Φ w:=by
 subst hc;subst hn
 have hl:=of_decide_eq_true hl
 refine dv_seq ⟨⟨by rw [h.len];exact Nat.le_refl _,by unfold maxLen;omega,h.len5,fun _=>⟨g,0,rfl,hb.lt,fun i x hx j u hu=>?_⟩⟩,fun _ q hq=>?_⟩ h.len ⟨hlt,h.at_⟩
 · rw [Nat.zero_add]
   exact (hb.cell _).trans (flat_get5 xs h.len5 i x hx j u hu)
 have:g=q:=by simpa [ownA] using hq
 subst this;exact hg
end
/-- How long names and bytes may be. -/
def limTh:Thing->Prop
 | .ticket s b=>s.size<=100000/\b.length<=100000
 | .inside _ _ s _ _ _=>s.size<=100000
 | .reply _ _ _ s _ _ _=>s.size<=100000
 | .authent s _ _ _ b=>s.size<=100000/\b.length<=100000
 | .stamp _ _=>True
 | .fact _ s _ _=>s.size<=100000
 | .plain b=>b.length<=100000
theorem le10{n:Nat}(h:n<=100000):n<=1000000:=Nat.le_trans h (by decide)
/-- What tick.Value leaves. -/
def ValPost(w:World)(t:Thing)(e:Ending)(w':World):Prop:=
 Below w.heap.size w w'/\∃ g n,e=.returned (.tuple #[.agg #[.int .i64 2,.int .i64 (tagTh t:Int),.int .u64 0,.slice none 0 0,.slice (some ⟨g,0,none⟩) n n],.bool (rightTh t)]) /\
   (rightTh t=true->∃ F,(rDV F [.int .i64 2,.int .i64 (tagTh t:Int),.int .u64 0,.slice none 0 0,.slice (some ⟨g,0,none⟩) n n] (valD t)).Φ w'/\∀ q,F q->w.heap.size<=q)
theorem size_toList(s:ByteArray):s.data.toList.length=s.size:=by simp
/-- Bytes as a value: what they own, if they are any. -/
theorem dvr_raw'{F:Nat->Prop}{w:World}{v:Value}{b:Bytes}(h:SB w v b)(hF:∀ q,(b≠[]/\v.ownBlock=some q)->F q):DVR F w (rV v) (bD b):=
 .mk 1 0 0 v b none 0 [] [] (by omega) ⟨h,fun hb q hq=>hF q ⟨hb,hq⟩⟩ (rvf_nil _ _ _ _ (by unfold maxLen;omega) _) rfl (by simp)
theorem val_any{G:Nat->Prop}{w:World}{u:Value}(t:Thing)(hu:ThR G w u t)(hl:limTh t):Calls Tryz.prog 99 #[u] w (ValPost w t):=by
 cases t with
 | stamp t q =>
   have hu:u=_:=hu
   subst hu
   refine (vStamp_any t q w).mono ?_
   rintro e w' ⟨g,rfl,hb,hg,hB⟩
   refine ⟨hB,g,2,rfl,fun hr=>⟨fun q=>q=g,?_,fun q hq=>hq ▸ hg⟩⟩
   obtain ⟨h1,_⟩:=rightM_parts hr
   exact dv_blk (xs:=[nV t,nV q]) hb rfl (.cons (dvr_num (h1 t (by simp))) (.cons (dvr_num (h1 q (by simp))) .nil)) rfl (by decide) rfl (fun q hq=>hq ▸ hb.lt)
 | plain b =>
   obtain ⟨A,c,rfl,_,hsb,_⟩:=hu
   refine (vPlain_any A c b w hsb (le10 hl)).mono ?_
   rintro e w' ⟨g,A1,c1,rfl,hb,h1,hg,ho,hB⟩
   refine ⟨hB,g,1,rfl,fun _=>⟨fun q=>q=g∨(rSB (.slice A1 b.length c1) b).F q,?_,fun q hq=>hq.elim (fun e=>e ▸ hg) (fun e=>ho q e.2)⟩⟩
   exact dv_blk (xs:=[rV (.slice A1 b.length c1)]) hb rfl (.cons (dvr_raw' h1 (fun q hq=>.inr hq)) .nil) rfl (by decide) (.inl rfl) (fun q hq=>hq.elim (fun e=>e ▸ hb.lt) ((rSB _ _).lt h1 q))
 | inside f K s a v r =>
   have hu:u=_:=hu
   subst hu
   refine (vInside_any f a v r s K (le10 hl) w).mono ?_
   rintro e w' ⟨g,A1,c1,B1,d1,rfl,hb,h1,h2,hg,ho1,ho2,hB⟩
   refine ⟨hB,g,6,rfl,fun hr=>⟨fun q=>q=g∨(rSB (.slice A1 s.data.toList.length c1) s.data.toList).F q∨(rSB (.slice B1 (kl K).length d1) (kl K)).F q,?_,fun q hq=>hq.elim (fun e=>e ▸ hg) (fun hq=>hq.elim (fun e=>ho1 q e.2) (fun e=>ho2 q e.2))⟩⟩
   obtain ⟨hl,_⟩:=rightM_parts hr
   exact dv_blk (xs:=[nV f,rV (.slice B1 (kl K).length d1),rV (.slice A1 s.data.toList.length c1),nV a,nV v,nV r]) hb rfl
     (.cons (dvr_num (hl f (by simp))) (.cons (dvr_raw' h2 (fun q hq=>.inr (.inr hq))) (.cons (dvr_raw' h1 (fun q hq=>.inr (.inl hq))) (.cons (dvr_num (hl a (by simp))) (.cons (dvr_num (hl v (by simp))) (.cons (dvr_num (hl r (by simp))) .nil))))))
     rfl (by decide) (.inl rfl) (fun q hq=>hq.elim (fun e=>e ▸ hb.lt) (fun hq=>hq.elim ((rSB _ _).lt h1 q) ((rSB _ _).lt h2 q)))
 | reply f K n s a v r =>
   have hu:u=_:=hu
   subst hu
   refine (vReply_any f n a v r s K (le10 hl) w).mono ?_
   rintro e w' ⟨g,A1,c1,B1,d1,rfl,hb,h1,h2,hg,ho1,ho2,hB⟩
   refine ⟨hB,g,7,rfl,fun hr=>⟨fun q=>q=g∨(rSB (.slice A1 s.data.toList.length c1) s.data.toList).F q∨(rSB (.slice B1 (kl K).length d1) (kl K)).F q,?_,fun q hq=>hq.elim (fun e=>e ▸ hg) (fun hq=>hq.elim (fun e=>ho1 q e.2) (fun e=>ho2 q e.2))⟩⟩
   obtain ⟨hl,_⟩:=rightM_parts hr
   exact dv_blk (xs:=[nV f,rV (.slice B1 (kl K).length d1),nV n,rV (.slice A1 s.data.toList.length c1),nV a,nV v,nV r]) hb rfl
     (.cons (dvr_num (hl f (by simp))) (.cons (dvr_raw' h2 (fun q hq=>.inr (.inr hq))) (.cons (dvr_num (hl n (by simp))) (.cons (dvr_raw' h1 (fun q hq=>.inr (.inl hq))) (.cons (dvr_num (hl a (by simp))) (.cons (dvr_num (hl v (by simp))) (.cons (dvr_num (hl r (by simp))) .nil)))))))
     rfl (by decide) (.inl rfl) (fun q hq=>hq.elim (fun e=>e ▸ hb.lt) (fun hq=>hq.elim ((rSB _ _).lt h1 q) ((rSB _ _).lt h2 q)))
 | fact n s b t =>
   have hu:u=_:=hu
   subst hu
   refine (vFact_any n t s b (le10 hl) w).mono ?_
   rintro e w' ⟨g,A1,c1,rfl,hb,h1,hg,ho1,hB⟩
   refine ⟨hB,g,4,rfl,fun hr=>⟨fun q=>q=g∨(rSB (.slice A1 s.data.toList.length c1) s.data.toList).F q,?_,fun q hq=>hq.elim (fun e=>e ▸ hg) (fun e=>ho1 q e.2)⟩⟩
   obtain ⟨hl,_⟩:=rightM_parts hr
   have hbn:inN (b.toNat:Int)=true:=by cases b <;> rfl
   exact dv_blk (xs:=[nV n,rV (.slice A1 s.data.toList.length c1),nV b.toNat,nV t]) hb rfl
     (.cons (dvr_num (hl n (by simp))) (.cons (dvr_raw' h1 (fun q hq=>.inr hq)) (.cons (dvr_num hbn) (.cons (dvr_num (hl t (by simp))) .nil))))
     rfl (by decide) (.inl rfl) (fun q hq=>hq.elim (fun e=>e ▸ hb.lt) ((rSB _ _).lt h1 q))
 | ticket s b =>
   obtain ⟨P,k,rfl,_,hsb,_⟩:=hu
   refine (vTicket_any s (le10 hl.1) P k b w hsb (le10 hl.2)).mono ?_
   rintro e w' ⟨g,A1,c1,C1,e1,rfl,hb,h1,h2,hg,ho1,ho2,hB⟩
   refine ⟨hB,g,2,rfl,fun hr=>⟨fun q=>q=g∨(rSB (.slice A1 s.data.toList.length c1) s.data.toList).F q∨(rSB (.slice C1 b.length e1) b).F q,?_,fun q hq=>hq.elim (fun e=>e ▸ hg) (fun hq=>hq.elim (fun e=>ho1 q e.2) (fun e=>ho2 q e.2))⟩⟩
   exact dv_blk (xs:=[rV (.slice A1 s.data.toList.length c1),rV (.slice C1 b.length e1)]) hb rfl
     (.cons (dvr_raw' h1 (fun q hq=>.inr (.inl hq))) (.cons (dvr_raw' h2 (fun q hq=>.inr (.inr hq))) .nil))
     rfl (by decide) (.inl rfl) (fun q hq=>hq.elim (fun e=>e ▸ hb.lt) (fun hq=>hq.elim ((rSB _ _).lt h1 q) ((rSB _ _).lt h2 q)))
 | authent s t q K b =>
   obtain ⟨P,k,rfl,_,hsb,_⟩:=hu
   refine (vAuthent_any t q K s (le10 hl.1) P k b w hsb (le10 hl.2)).mono ?_
   rintro e w' ⟨g,A1,c1,C1,e1,B1,d1,rfl,hb,h1,h2,h3,hg,ho1,ho2,ho3,hB⟩
   refine ⟨hB,g,5,rfl,fun hr=>⟨fun q=>q=g∨(rSB (.slice A1 s.data.toList.length c1) s.data.toList).F q∨(rSB (.slice C1 b.length e1) b).F q∨(rSB (.slice B1 (kl K).length d1) (kl K)).F q,?_,
     fun q hq=>hq.elim (fun e=>e ▸ hg) (fun hq=>hq.elim (fun e=>ho1 q e.2) (fun hq=>hq.elim (fun e=>ho2 q e.2) (fun e=>ho3 q e.2)))⟩⟩
   obtain ⟨hl,_⟩:=rightM_parts hr
   exact dv_blk (xs:=[rV (.slice A1 s.data.toList.length c1),nV t,nV q,rV (.slice B1 (kl K).length d1),rV (.slice C1 b.length e1)]) hb rfl
     (.cons (dvr_raw' h1 (fun q hq=>.inr (.inl hq))) (.cons (dvr_num (hl t (by simp))) (.cons (dvr_num (hl q (by simp))) (.cons (dvr_raw' h3 (fun q hq=>.inr (.inr (.inr hq)))) (.cons (dvr_raw' h2 (fun q hq=>.inr (.inr (.inl hq)))) .nil)))))
     rfl (by decide) (.inl rfl) (fun q hq=>hq.elim (fun e=>e ▸ hb.lt) (fun hq=>hq.elim ((rSB _ _).lt h1 q) (fun hq=>hq.elim ((rSB _ _).lt h2 q) ((rSB _ _).lt h3 q))))
end
section
open Go.RowKit Go.QT
theorem wrap_u64n{a:Int}{n:Nat}(h:a=(n:Int))(hn:n<18446744073709551616):Value.int .u64 (IntKind.u64.wrap a)=Value.int .u64 (n:Int):=by
 subst h;congr 1;rw [IntKind.wrap_u64];omega
theorem size_short(L:Bytes)(hs:L.length<2)(A:Option Addr)(c:Nat)(w:World)(hv:SB w (.slice A L.length c) L):Calls Tryz.prog 129 #[.slice A L.length c] w (DPost w (.tuple #[.int .i64 0,.int .i64 0,.int .i64 1])):=by
 have h0:=Hp.ro1 (rSB (.slice A L.length c) L) hv
 refine mE 61 ?_
 refine mX 10 (.bool true) (Value.bool (decide ((L.length:Int)<2))) (by simp;omega) ?_
 exact mQ h0
theorem size_over(L:Bytes)(m:Nat)(h1:nb (gb L 1)=m)(hm:m<128)(h2:2<=L.length)(hl:L.length<2+m)(hx:L.length<=1000000)(A:Option Addr)(c:Nat)(w:World)(hv:SB w (.slice A L.length c) L):Calls Tryz.prog 129 #[.slice A L.length c] w (DPost w (.tuple #[.int .i64 0,.int .i64 0,.int .i64 1])):=by
 have h0:=Hp.ro1 (rSB (.slice A L.length c) L) hv
 refine mE 61 ?_
 refine mX 10 (.bool false) (Value.bool (decide ((L.length:Int)<2))) (by simp;omega) ?_
 refine mW 12 (eIx (SB.rvn (h0.rd 0 rfl)).2 1 L.length (SB.rvn (h0.rd 0 rfl)).1 (by omega) 25 (.tmp 11) (.const (Value.int .i64 1)) .i64 5) ?_
 refine mW 13 (eEl (SB.rvn (h0.rd 0 rfl)).2 1 0 ([(Value.int .u8 (ub (gb (L) (1))))]) (bx_get _ _ (by omega)) 5 (.tmp 12) (Value.int .u8 (ub (gb (L) (1))))) ?_
 refine mX 14 (Value.int .u64 ((m:Int))) (Value.int .u64 (IntKind.u64.wrap (ub (gb (L) (1))))) (u64_ub _ h1) ?_
 refine mX 16 (.bool false) (Value.bool (decide ((m:Int) ≥ 128))) (by simp;omega) ?_
 refine mW 55 (exec_sub _ _ _ _ bO ((L.length:Int)) 2 (by kernel_rfl) (by kernel_rfl) ((((L.length)-2:Nat):Int)) (by omega) (by omega) (by omega) _) ?_
 refine mX 56 (Value.int .u64 (((L.length-(2):Nat):Int))) (Value.int .u64 (IntKind.u64.wrap ((((L.length)-2:Nat):Int)))) (wrap_u64n (n:=L.length-(2)) (by omega) (by omega)) ?_
 refine mX 57 (.bool true) (Value.bool (decide ((m:Int)>((L.length-(2):Nat):Int)))) (by simp;omega) ?_
 exact mQ h0
theorem size_k0(L:Bytes)(K:Nat)(h1:nb (gb L 1)=128+K)(h2:2<=L.length)(hK:K<1)(hx:L.length<=1000000)(A:Option Addr)(c:Nat)(w:World)(hv:SB w (.slice A L.length c) L):Calls Tryz.prog 129 #[.slice A L.length c] w (DPost w (.tuple #[.int .i64 0,.int .i64 0,.int .i64 3])):=by
 have h0:=Hp.ro1 (rSB (.slice A L.length c) L) hv
 refine mE 61 ?_
 refine mX 10 (.bool false) (Value.bool (decide ((L.length:Int)<2))) (by simp;omega) ?_
 refine mW 12 (eIx (SB.rvn (h0.rd 0 rfl)).2 1 L.length (SB.rvn (h0.rd 0 rfl)).1 (by omega) 25 (.tmp 11) (.const (Value.int .i64 1)) .i64 5) ?_
 refine mW 13 (eEl (SB.rvn (h0.rd 0 rfl)).2 1 0 ([(Value.int .u8 (ub (gb (L) (1))))]) (bx_get _ _ (by omega)) 5 (.tmp 12) (Value.int .u8 (ub (gb (L) (1))))) ?_
 refine mX 14 (Value.int .u64 (((128+K:Nat):Int))) (Value.int .u64 (IntKind.u64.wrap (ub (gb (L) (1))))) (u64_ub _ h1) ?_
 refine mX 16 (.bool true) (Value.bool (decide (((128+K:Nat):Int) ≥ 128))) (by simp;omega) ?_
 refine mX 18 (Value.int .u64 ((K:Int))) (Value.int .u64 (IntKind.u64.wrap (((128+K:Nat):Int)-128))) (u64_sub (m:=128+K) (n:=128) rfl (by omega)) ?_
 refine mX 19 (Value.int .i64 ((K:Int))) (Value.int .i64 (IntKind.i64.wrap ((K:Int)))) (i64_nat (by omega)) ?_
 refine mX 21 (.bool true) (Value.bool (decide ((K:Int)<1))) (by simp;omega) ?_
 exact mQ h0
theorem size_k3(L:Bytes)(K:Nat)(h1:nb (gb L 1)=128+K)(h2:2<=L.length)(hK:2<K)(hK2:K<128)(hx:L.length<=1000000)(A:Option Addr)(c:Nat)(w:World)(hv:SB w (.slice A L.length c) L):Calls Tryz.prog 129 #[.slice A L.length c] w (DPost w (.tuple #[.int .i64 0,.int .i64 0,.int .i64 3])):=by
 have h0:=Hp.ro1 (rSB (.slice A L.length c) L) hv
 refine mE 61 ?_
 refine mX 10 (.bool false) (Value.bool (decide ((L.length:Int)<2))) (by simp;omega) ?_
 refine mW 12 (eIx (SB.rvn (h0.rd 0 rfl)).2 1 L.length (SB.rvn (h0.rd 0 rfl)).1 (by omega) 25 (.tmp 11) (.const (Value.int .i64 1)) .i64 5) ?_
 refine mW 13 (eEl (SB.rvn (h0.rd 0 rfl)).2 1 0 ([(Value.int .u8 (ub (gb (L) (1))))]) (bx_get _ _ (by omega)) 5 (.tmp 12) (Value.int .u8 (ub (gb (L) (1))))) ?_
 refine mX 14 (Value.int .u64 (((128+K:Nat):Int))) (Value.int .u64 (IntKind.u64.wrap (ub (gb (L) (1))))) (u64_ub _ h1) ?_
 refine mX 16 (.bool true) (Value.bool (decide (((128+K:Nat):Int) ≥ 128))) (by simp;omega) ?_
 refine mX 18 (Value.int .u64 ((K:Int))) (Value.int .u64 (IntKind.u64.wrap (((128+K:Nat):Int)-128))) (u64_sub (m:=128+K) (n:=128) rfl (by omega)) ?_
 refine mX 19 (Value.int .i64 ((K:Int))) (Value.int .i64 (IntKind.i64.wrap ((K:Int)))) (i64_nat (by omega)) ?_
 refine mX 21 (.bool false) (Value.bool (decide ((K:Int)<1))) (by simp;omega) ?_
 refine mX 24 (.bool true) (Value.bool (decide ((K:Int)>2))) (by simp;omega) ?_
 exact mQ h0
theorem size_hshort(L:Bytes)(K:Nat)(h1:nb (gb L 1)=128+K)(h2:2<=L.length)(hK:K=1∨K=2)(hl:L.length<2+K)(hx:L.length<=1000000)(A:Option Addr)(c:Nat)(w:World)(hv:SB w (.slice A L.length c) L):Calls Tryz.prog 129 #[.slice A L.length c] w (DPost w (.tuple #[.int .i64 0,.int .i64 0,.int .i64 1])):=by
 have h0:=Hp.ro1 (rSB (.slice A L.length c) L) hv
 refine mE 61 ?_
 refine mX 10 (.bool false) (Value.bool (decide ((L.length:Int)<2))) (by simp;omega) ?_
 refine mW 12 (eIx (SB.rvn (h0.rd 0 rfl)).2 1 L.length (SB.rvn (h0.rd 0 rfl)).1 (by omega) 25 (.tmp 11) (.const (Value.int .i64 1)) .i64 5) ?_
 refine mW 13 (eEl (SB.rvn (h0.rd 0 rfl)).2 1 0 ([(Value.int .u8 (ub (gb (L) (1))))]) (bx_get _ _ (by omega)) 5 (.tmp 12) (Value.int .u8 (ub (gb (L) (1))))) ?_
 refine mX 14 (Value.int .u64 (((128+K:Nat):Int))) (Value.int .u64 (IntKind.u64.wrap (ub (gb (L) (1))))) (u64_ub _ h1) ?_
 refine mX 16 (.bool true) (Value.bool (decide (((128+K:Nat):Int) ≥ 128))) (by simp;omega) ?_
 refine mX 18 (Value.int .u64 ((K:Int))) (Value.int .u64 (IntKind.u64.wrap (((128+K:Nat):Int)-128))) (u64_sub (m:=128+K) (n:=128) rfl (by omega)) ?_
 refine mX 19 (Value.int .i64 ((K:Int))) (Value.int .i64 (IntKind.i64.wrap ((K:Int)))) (i64_nat (by omega)) ?_
 refine mX 21 (.bool false) (Value.bool (decide ((K:Int)<1))) (by simp;omega) ?_
 refine mX 24 (.bool false) (Value.bool (decide ((K:Int)>2))) (by simp;omega) ?_
 refine mW 29 (exec_add _ _ _ _ bO 2 ((K:Int)) (by kernel_rfl) (by kernel_rfl) (((2+K:Nat):Int)) (by omega) (by omega) (by omega) _) ?_
 refine mX 30 (.bool true) (Value.bool (decide ((L.length:Int)<((2+K:Nat):Int)))) (by simp;omega) ?_
 exact mQ h0
theorem size_small(L:Bytes)(S:Bytes)(m K:Nat)(h1:nb (gb L 1)=128+K)(hK:K=1∨K=2)(hc:(L.take (2+K)).drop 2=S)(hS:getN S=m)(hSl:S.length=K)(h2:2+K<=L.length)(hm:m<128)(hx:L.length<=1000000)(A:Option Addr)(c:Nat)(w:World)(hv:SB w (.slice A L.length c) L):Calls Tryz.prog 129 #[.slice A L.length c] w (DPost w (.tuple #[.int .i64 0,.int .i64 0,.int .i64 3])):=by
 have h0:=Hp.ro1 (rSB (.slice A L.length c) L) hv
 refine mE 61 ?_
 refine mX 10 (.bool false) (Value.bool (decide ((L.length:Int)<2))) (by simp;omega) ?_
 refine mW 12 (eIx (SB.rvn (h0.rd 0 rfl)).2 1 L.length (SB.rvn (h0.rd 0 rfl)).1 (by omega) 25 (.tmp 11) (.const (Value.int .i64 1)) .i64 5) ?_
 refine mW 13 (eEl (SB.rvn (h0.rd 0 rfl)).2 1 0 ([(Value.int .u8 (ub (gb (L) (1))))]) (bx_get _ _ (by omega)) 5 (.tmp 12) (Value.int .u8 (ub (gb (L) (1))))) ?_
 refine mX 14 (Value.int .u64 (((128+K:Nat):Int))) (Value.int .u64 (IntKind.u64.wrap (ub (gb (L) (1))))) (u64_ub _ h1) ?_
 refine mX 16 (.bool true) (Value.bool (decide (((128+K:Nat):Int) ≥ 128))) (by simp;omega) ?_
 refine mX 18 (Value.int .u64 ((K:Int))) (Value.int .u64 (IntKind.u64.wrap (((128+K:Nat):Int)-128))) (u64_sub (m:=128+K) (n:=128) rfl (by omega)) ?_
 refine mX 19 (Value.int .i64 ((K:Int))) (Value.int .i64 (IntKind.i64.wrap ((K:Int)))) (i64_nat (by omega)) ?_
 refine mX 21 (.bool false) (Value.bool (decide ((K:Int)<1))) (by simp;omega) ?_
 refine mX 24 (.bool false) (Value.bool (decide ((K:Int)>2))) (by simp;omega) ?_
 refine mW 29 (exec_add _ _ _ _ bO 2 ((K:Int)) (by kernel_rfl) (by kernel_rfl) (((2+K:Nat):Int)) (by omega) (by omega) (by omega) _) ?_
 refine mX 30 (.bool false) (Value.bool (decide ((L.length:Int)<((2+K:Nat):Int)))) (by simp;omega) ?_
 refine mW 34 (exec_add _ _ _ _ bO 2 ((K:Int)) (by kernel_rfl) (by kernel_rfl) (((2+K:Nat):Int)) (by omega) (by omega) (by omega) _) ?_
 refine mW 35 (e_cut_lh (h0.rd 0 rfl) (.tmp 32) (.const (Value.int .i64 2)) (.tmp 34) (by kernel_rfl) (by kernel_rfl) .i64 .i64 2 (((2+K))) (by kernel_rfl) (by kernel_rfl) (by omega) (by omega) _) ?_
 refine mT (x_getD h0 (((L).take (((2+K)))).drop 2) (cutS (Value.slice A L.length c) 2 (((2+K)))) (by kernel_rfl) (SB.cut (h0.rd 0 rfl) 2 (((2+K))) (by omega)) (by rw [hc];omega) (by rw [hc];omega) m (by rw [hc,hS])) ?_
 rintro _ w13 ⟨rfl,h13⟩
 refine mW 40 (exec_add _ _ _ _ bO 2 ((K:Int)) (by kernel_rfl) (by kernel_rfl) (((2+K:Nat):Int)) (by omega) (by omega) (by omega) _) ?_
 refine mX 42 (.bool true) (Value.bool (decide (((m:Nat):Int)<128))) (by simp;omega) ?_
 exact mQ h13
theorem size_small2(L:Bytes)(S:Bytes)(m K:Nat)(h1:nb (gb L 1)=128+K)(hc:(L.take (2+K)).drop 2=S)(hS:getN S=m)(hSl:S.length=K)(h2:2+K<=L.length)(hm:128<=m)(hKe:K=2)(hm2:m<256)(hx:L.length<=1000000)(A:Option Addr)(c:Nat)(w:World)(hv:SB w (.slice A L.length c) L):Calls Tryz.prog 129 #[.slice A L.length c] w (DPost w (.tuple #[.int .i64 0,.int .i64 0,.int .i64 3])):=by
 have h0:=Hp.ro1 (rSB (.slice A L.length c) L) hv
 refine mE 61 ?_
 refine mX 10 (.bool false) (Value.bool (decide ((L.length:Int)<2))) (by simp;omega) ?_
 refine mW 12 (eIx (SB.rvn (h0.rd 0 rfl)).2 1 L.length (SB.rvn (h0.rd 0 rfl)).1 (by omega) 25 (.tmp 11) (.const (Value.int .i64 1)) .i64 5) ?_
 refine mW 13 (eEl (SB.rvn (h0.rd 0 rfl)).2 1 0 ([(Value.int .u8 (ub (gb (L) (1))))]) (bx_get _ _ (by omega)) 5 (.tmp 12) (Value.int .u8 (ub (gb (L) (1))))) ?_
 refine mX 14 (Value.int .u64 (((128+K:Nat):Int))) (Value.int .u64 (IntKind.u64.wrap (ub (gb (L) (1))))) (u64_ub _ h1) ?_
 refine mX 16 (.bool true) (Value.bool (decide (((128+K:Nat):Int) ≥ 128))) (by simp;omega) ?_
 refine mX 18 (Value.int .u64 ((K:Int))) (Value.int .u64 (IntKind.u64.wrap (((128+K:Nat):Int)-128))) (u64_sub (m:=128+K) (n:=128) rfl (by omega)) ?_
 refine mX 19 (Value.int .i64 ((K:Int))) (Value.int .i64 (IntKind.i64.wrap ((K:Int)))) (i64_nat (by omega)) ?_
 refine mX 21 (.bool false) (Value.bool (decide ((K:Int)<1))) (by simp;omega) ?_
 refine mX 24 (.bool false) (Value.bool (decide ((K:Int)>2))) (by simp;omega) ?_
 refine mW 29 (exec_add _ _ _ _ bO 2 ((K:Int)) (by kernel_rfl) (by kernel_rfl) (((2+K:Nat):Int)) (by omega) (by omega) (by omega) _) ?_
 refine mX 30 (.bool false) (Value.bool (decide ((L.length:Int)<((2+K:Nat):Int)))) (by simp;omega) ?_
 refine mW 34 (exec_add _ _ _ _ bO 2 ((K:Int)) (by kernel_rfl) (by kernel_rfl) (((2+K:Nat):Int)) (by omega) (by omega) (by omega) _) ?_
 refine mW 35 (e_cut_lh (h0.rd 0 rfl) (.tmp 32) (.const (Value.int .i64 2)) (.tmp 34) (by kernel_rfl) (by kernel_rfl) .i64 .i64 2 (((2+K))) (by kernel_rfl) (by kernel_rfl) (by omega) (by omega) _) ?_
 refine mT (x_getD h0 (((L).take (((2+K)))).drop 2) (cutS (Value.slice A L.length c) 2 (((2+K)))) (by kernel_rfl) (SB.cut (h0.rd 0 rfl) 2 (((2+K))) (by omega)) (by rw [hc];omega) (by rw [hc];omega) m (by rw [hc,hS])) ?_
 rintro _ w13 ⟨rfl,h13⟩
 refine mW 40 (exec_add _ _ _ _ bO 2 ((K:Int)) (by kernel_rfl) (by kernel_rfl) (((2+K:Nat):Int)) (by omega) (by omega) (by omega) _) ?_
 refine mX 42 (.bool false) (Value.bool (decide (((m:Nat):Int)<128))) (by simp;omega) ?_
 refine mX 45 (.bool true) (Value.bool (((K:Int)) == 2)) (by rw [hKe];rfl) ?_
 refine mX 48 (.bool true) (Value.bool (decide (((m:Nat):Int)<256))) (by simp;omega) ?_
 exact mQ h13
theorem size_hover(L:Bytes)(S:Bytes)(m K:Nat)(h1:nb (gb L 1)=128+K)(hc:(L.take (2+K)).drop 2=S)(hS:getN S=m)(hSl:S.length=K)(h2:2+K<=L.length)(hm:128<=m)(hm6:m<65536)(hKm:(K=1/\m<256)∨(K=2/\256<=m))(hl:L.length<2+K+m)(hx:L.length<=1000000)(A:Option Addr)(c:Nat)(w:World)(hv:SB w (.slice A L.length c) L):Calls Tryz.prog 129 #[.slice A L.length c] w (DPost w (.tuple #[.int .i64 0,.int .i64 0,.int .i64 1])):=by
 have h0:=Hp.ro1 (rSB (.slice A L.length c) L) hv
 refine mE 61 ?_
 refine mX 10 (.bool false) (Value.bool (decide ((L.length:Int)<2))) (by simp;omega) ?_
 refine mW 12 (eIx (SB.rvn (h0.rd 0 rfl)).2 1 L.length (SB.rvn (h0.rd 0 rfl)).1 (by omega) 25 (.tmp 11) (.const (Value.int .i64 1)) .i64 5) ?_
 refine mW 13 (eEl (SB.rvn (h0.rd 0 rfl)).2 1 0 ([(Value.int .u8 (ub (gb (L) (1))))]) (bx_get _ _ (by omega)) 5 (.tmp 12) (Value.int .u8 (ub (gb (L) (1))))) ?_
 refine mX 14 (Value.int .u64 (((128+K:Nat):Int))) (Value.int .u64 (IntKind.u64.wrap (ub (gb (L) (1))))) (u64_ub _ h1) ?_
 refine mX 16 (.bool true) (Value.bool (decide (((128+K:Nat):Int) ≥ 128))) (by simp;omega) ?_
 refine mX 18 (Value.int .u64 ((K:Int))) (Value.int .u64 (IntKind.u64.wrap (((128+K:Nat):Int)-128))) (u64_sub (m:=128+K) (n:=128) rfl (by omega)) ?_
 refine mX 19 (Value.int .i64 ((K:Int))) (Value.int .i64 (IntKind.i64.wrap ((K:Int)))) (i64_nat (by omega)) ?_
 refine mX 21 (.bool false) (Value.bool (decide ((K:Int)<1))) (by simp;omega) ?_
 refine mX 24 (.bool false) (Value.bool (decide ((K:Int)>2))) (by simp;omega) ?_
 refine mW 29 (exec_add _ _ _ _ bO 2 ((K:Int)) (by kernel_rfl) (by kernel_rfl) (((2+K:Nat):Int)) (by omega) (by omega) (by omega) _) ?_
 refine mX 30 (.bool false) (Value.bool (decide ((L.length:Int)<((2+K:Nat):Int)))) (by simp;omega) ?_
 refine mW 34 (exec_add _ _ _ _ bO 2 ((K:Int)) (by kernel_rfl) (by kernel_rfl) (((2+K:Nat):Int)) (by omega) (by omega) (by omega) _) ?_
 refine mW 35 (e_cut_lh (h0.rd 0 rfl) (.tmp 32) (.const (Value.int .i64 2)) (.tmp 34) (by kernel_rfl) (by kernel_rfl) .i64 .i64 2 (((2+K))) (by kernel_rfl) (by kernel_rfl) (by omega) (by omega) _) ?_
 refine mT (x_getD h0 (((L).take (((2+K)))).drop 2) (cutS (Value.slice A L.length c) 2 (((2+K)))) (by kernel_rfl) (SB.cut (h0.rd 0 rfl) 2 (((2+K))) (by omega)) (by rw [hc];omega) (by rw [hc];omega) m (by rw [hc,hS])) ?_
 rintro _ w13 ⟨rfl,h13⟩
 refine mW 40 (exec_add _ _ _ _ bO 2 ((K:Int)) (by kernel_rfl) (by kernel_rfl) (((2+K:Nat):Int)) (by omega) (by omega) (by omega) _) ?_
 rcases hKm with ⟨hq1,hq2⟩|⟨hq1,hq2⟩
 ·
  refine mX 42 (.bool false) (Value.bool (decide (((m:Nat):Int)<128))) (by simp;omega) ?_
  refine mX 45 (.bool false) (Value.bool (((K:Int)) == 2)) (by rw [hq1];rfl) ?_
  refine mW 55 (exec_sub _ _ _ _ bO ((L.length:Int)) (((2+K:Nat):Int)) (by kernel_rfl) (by kernel_rfl) ((((L.length)-((2+K)):Nat):Int)) (by omega) (by omega) (by omega) _) ?_
  refine mX 56 (Value.int .u64 (((L.length-(2+K):Nat):Int))) (Value.int .u64 (IntKind.u64.wrap ((((L.length)-((2+K)):Nat):Int)))) (wrap_u64n (n:=L.length-(2+K)) (by omega) (by omega)) ?_
  refine mX 57 (.bool true) (Value.bool (decide (((m:Nat):Int)>((L.length-(2+K):Nat):Int)))) (by simp;omega) ?_
  exact mQ h13
 refine mX 42 (.bool false) (Value.bool (decide (((m:Nat):Int)<128))) (by simp;omega) ?_
 refine mX 45 (.bool true) (Value.bool (((K:Int)) == 2)) (by rw [hq1];rfl) ?_
 refine mX 48 (.bool false) (Value.bool (decide (((m:Nat):Int)<256))) (by simp;omega) ?_
 refine mW 55 (exec_sub _ _ _ _ bO ((L.length:Int)) (((2+K:Nat):Int)) (by kernel_rfl) (by kernel_rfl) ((((L.length)-((2+K)):Nat):Int)) (by omega) (by omega) (by omega) _) ?_
 refine mX 56 (Value.int .u64 (((L.length-(2+K):Nat):Int))) (Value.int .u64 (IntKind.u64.wrap ((((L.length)-((2+K)):Nat):Int)))) (wrap_u64n (n:=L.length-(2+K)) (by omega) (by omega)) ?_
 refine mX 57 (.bool true) (Value.bool (decide (((m:Nat):Int)>((L.length-(2+K):Nat):Int)))) (by simp;omega) ?_
 exact mQ h13
theorem size_all(L:Bytes)(hx:L.length<=900000)(A:Option Addr)(c:Nat)(w:World)(hv:SB w (.slice A L.length c) L):Calls Tryz.prog 129 #[.slice A L.length c] w (DPost w (.tuple #[.int .i64 ((szB L).2.1:Int),.int .i64 ((szB L).2.2:Int),.int .i64 ((szB L).1:Int)])):=by
 have h256:=nb_lt (gb L 1)
 unfold szB
 split
 · exact size_short L (by omega) A c w hv
 rename_i h1
 split
 · rename_i h2
   split
   · rename_i h3
     exact size_lo L _ rfl h2 h3 (by omega) A c w hv
   rename_i h3
   exact size_over L _ rfl h2 (by omega) (by omega) (by omega) A c w hv
 rename_i h2
 generalize hK:nb (gb L 1)-128=K
 have h3:nb (gb L 1)=128+K:=by omega
 split
 · rename_i h4
   rcases h4 with h4|h4
   · exact size_k0 L K h3 (by omega) h4 (by omega) A c w hv
   exact size_k3 L K h3 (by omega) h4 (by omega) (by omega) A c w hv
 rename_i h4
 have hK2:K=1∨K=2:=by omega
 split
 · rename_i h5
   exact size_hshort L K h3 (by omega) hK2 h5 (by omega) A c w hv
 rename_i h5
 have hSl:((L.take (2+K)).drop 2).length=K:=by rw [List.length_drop,List.length_take];omega
 have h65:getN ((L.take (2+K)).drop 2)<256 ^ K:=by
   have:=getN_lt ((L.take (2+K)).drop 2) ((L.take (2+K)).drop 2).length (Nat.le_refl _)
   rw [List.take_length,hSl] at this;exact this
 have h65':(K=1/\getN ((L.take (2+K)).drop 2)<256)∨(K=2/\getN ((L.take (2+K)).drop 2)<65536):=by
   rcases hK2 with e|e
   · left;refine ⟨e,?_⟩;rw [e] at h65 ⊢;simpa using h65
   right;refine ⟨e,?_⟩;rw [e] at h65 ⊢;simpa using h65
 generalize hc:(L.take (2+K)).drop 2=S at *
 generalize hS:getN S=m at *
 split
 · rename_i h6
   by_cases hm:m<128
   · exact size_small L S m K h3 hK2 hc hS hSl (by omega) hm (by omega) A c w hv
   exact size_small2 L S m K h3 hc hS hSl (by omega) (by omega) (by omega) (by omega) (by omega) A c w hv
 rename_i h6
 split
 · rename_i h7
   exact size_hi L S m K h3 (by omega) (by omega) hc hS hSl h7 (by omega) A c w hv
 rename_i h7
 exact size_hover L S m K h3 hc hS hSl (by omega) (by omega) (by omega) (by omega) (by omega) (by omega) A c w hv
end
end Go.Proofs.YtaoijkhndakppaaGreat
