/- The row of HandAgrees: for every input the law returns true and what came in reads as it did. -/
import Derived.ChangeMaps5
import Derived.Test.YtaoijkhndakppaaGreatCA15
set_option maxRecDepth 100000
set_option maxHeartbeats 4000000
namespace Go.Proofs.YtaoijkhndakppaaGreat
section
open Go.RowKit Go.QT
end
section
open Go.RowKit Go.QT
end
section
open Go.RowKit Go.QT
end
section
open Go.RowKit Go.QT
section
variable{t:STab}{K Ki K4:Fin 16->UInt8}{now ta q sid a u r:Int}{l au β:Bytes}{sl:List Sh}{me peer fr tn c1:ByteArray}
set_option maxRecDepth 100000
set_option maxHeartbeats 4000000
theorem finSd_s{s:STab}(h:now≠sid):Spec Tryz.prog ⟨39,2,[.c (offC peer sid K ta q),tI,aS me,.c [aS peer,aS me,aI now,.o 1 l.length]],[eT 0 s,eB 1 l],[],aI 16,[]⟩:=
 s1 [fA 1004 (neS peer),fA 1009 (neS me),fA 1016 (show Value.bool (now != sid)=.bool true by rw [bne_iff_ne.2 h])]
theorem finAuth_s{s:STab}(hs:TabOk s)(ho:openTh s (kl K) 12 l=.inl 13):Spec Tryz.prog ⟨39,2,[.c (offC peer sid K ta q),tI,aS me,.c [aS peer,aS me,aI sid,.o 1 l.length]],[eT 0 s,eB 1 l],[],aI 22,[]⟩:=
 s1 [fA 1004 (neS peer),fA 1009 (neS me),fA 1016 (neI sid),cTb 3005 (openStampN_s ho hs)]
end
/-! ### What is written may be turned -/
section
variable{f t sv:ByteArray}{sid:Int}{b au:Bytes}
end
/-! ### Who accepts what was not begun -/
section
variable{s1 t1:STab}
theorem numLof:∀ (l:List DVal),(∀ v ∈ l,numV v=true)->numL l=true
 | [],_=>rfl
 | x::r,h=>by rw [numL,h x (List.mem_cons_self ..),numLof r (fun v hv=>h v (List.mem_cons_of_mem _ hv))];rfl
theorem apqNum{f t s:ByteArray}{sid:Int}{b:Bytes}(h:inN sid=true)(hs:rightN s=true):numV (apqD f t sid (.ticket s b) [])=true:=by
 unfold apqD
 rw [numV,decide_eq_true (by decide),Bool.true_and]
 refine numLof _ fun v hv=>?_
 simp only [List.mem_cons,List.not_mem_nil,or_false] at hv
 rcases hv with rfl|rfl|rfl|rfl|rfl
 · exact numV_bD _
 · exact numV_bD _
 · exact numV_nD h
 · exact numV_val (t:=.ticket s b) (rightM_is hs (by simp))
 exact numV_bD _
theorem sumOther{s:STab}{β γ:Bytes}{m:Nat}(h:SK s β m)(hne:γ≠β):s.sumAt γ≠m:=by
 intro e
 have a:s.sums.findIdx (· = β)=m:=h.1
 have c:s.sums.findIdx (· = γ)=m:=e
 have h1:=List.findIdx_getElem (p:=fun x=>decide (x=β)) (xs:=s.sums) (w:=by rw [a];exact h.2)
 have h2:=List.findIdx_getElem (p:=fun x=>decide (x=γ)) (xs:=s.sums) (w:=by rw [c];exact h.2)
 simp only [decide_eq_true_eq] at h1 h2
 refine hne ?_
 rw [← h1,← h2]
 congr 1
 rw [a,c]
end
theorem bt_inj{s1 s2:Int}(h1:0<=s1/\s1<=1099511627776)(h2:0<=s2/\s2<=1099511627776)(h:bt8 s1=bt8 s2):s1=s2:=by
 have i1:=inN_is h1.1 h1.2
 have i2:=inN_is h2.1 h2.2
 have a:=RdB_wr _ (apqD_right (f:=bANN) (t:=bBOB) (sid:=s1) (s:=bBOB) (b:=mkB 98 8) (au:=[])) (apqNum i1 right_bob) (apqD_len (by decide) (by decide) (by decide) (by rw [mkB_len];decide) (by simp))
 have c:=RdB_wr _ (apqD_right (f:=bANN) (t:=bBOB) (sid:=s2) (s:=bBOB) (b:=mkB 98 8) (au:=[])) (apqNum i2 right_bob) (apqD_len (by decide) (by decide) (by decide) (by rw [mkB_len];decide) (by simp))
 have e:(Sum.inr (apqD bANN bBOB s1 (.ticket bBOB (mkB 98 8)) []):Nat ⊕ DVal)=Sum.inr (apqD bANN bBOB s2 (.ticket bBOB (mkB 98 8)) []):=by
   rw [← a,← c];exact congrArg RdB h
 have e2:=Sum.inr.inj e
 have e3:(nD s1).n=(nD s2).n:=congrArg (fun v:DVal=>match v with | .mk _ _ _ _ (_::_::x::_)=>x.n|_=>0) e2
 have e4:s1.toNat=s2.toNat:=e3
 omega
end
section
open Go.RowKit Go.QT
/-- A cell: a value, or a slice of bytes. -/
inductive Ce where
 | v (x:Value)
 | b (l:Bytes)
def ceOk(G:Nat->Prop)(w:World):Ce->Value->Prop
 | .v x,y=>y=x
 | .b l,y=>∃ A c,y=.slice A l.length c/\SBF G w y l
theorem ceOk.keep{G:Nat->Prop}{w w':World}{c:Ce}{y:Value}(h:ceOk G w c y)(hs:w.heap.size<=w'.heap.size)(hk:∀ q,G q->w'.heap[q]?=w.heap[q]?):ceOk G w' c y:=by
 cases c with
 | v x=>exact h
 | b l=>obtain ⟨A,c,h1,h2⟩:=h;exact ⟨A,c,h1,h2.keep hs hk⟩
theorem ceOk.mono{G G':Nat->Prop}{w:World}{c:Ce}{y:Value}(h:ceOk G w c y)(hG:∀ q,G q->G' q):ceOk G' w c y:=by
 cases c with
 | v x=>exact h
 | b l=>obtain ⟨A,c,h1,h2,h3⟩:=h;exact ⟨A,c,h1,h2,fun hl q hq=>hG q (h3 hl q hq)⟩
structure cesOk(G:Nat->Prop)(w:World)(cs:List Ce)(ds:List Value):Prop where
 len:ds.length=cs.length
 at_:∀ (p:Nat) (c:Ce) (y:Value),cs[p]?=some c->ds[p]?=some y->ceOk G w c y
/-- Such a row. -/
def rLs(T:TypeId)(sz:Nat)(v:Value)(n:Nat)(cs:List Ce)(G:Nat->Prop)(ds:List Value):Res where
 F:=fun q=>G q∨v.ownBlock=some q
 Φ:=fun w=>(∀ q,G q->q<w.heap.size/\v.ownBlock≠some q)/\w.ownsRow 0 T sz v n ds/\cesOk G w cs ds
 lt:=fun {w} h q hq=>by
   rcases hq with hq|hq
   · exact (h.1 q hq).1
   rcases h.2.1.2 with ⟨h1,_⟩|⟨g,cap,cur,h1,_,hg,_⟩
   · rw [h1] at hq;cases hq
   rw [h1] at hq;injection hq with hq;subst hq
   rcases Nat.lt_or_ge g w.heap.size with h' | h'
   · exact h'
   rw [Array.getElem?_eq_none h'] at hg;cases hg
 keep:=fun {w w'} h hs hk=>⟨fun q hq=>⟨Nat.lt_of_lt_of_le (h.1 q hq).1 hs,(h.1 q hq).2⟩,by
   refine ⟨h.2.1.1,?_⟩
   rcases h.2.1.2 with h1|⟨g,cap,cur,h1,hb,hg,r⟩
   · exact .inl h1
   exact .inr ⟨g,cap,cur,h1,hb,by rw [hk g (.inr (by rw [h1];rfl))];exact hg,r⟩,⟨h.2.2.len,fun p c y h1 h2=>(h.2.2.at_ p c y h1 h2).keep hs fun q hq=>hk q (.inl hq)⟩⟩
 W:=fun q=>v.ownBlock=some q
 hW:=fun _ h=>.inr h
def lsC(T:TypeId)(sz n:Nat)(cs:List Ce)(kv:Kv)(vs:List Value):Prop:=∃ G ds,kv.r=rLs T sz (.slice kv.a n kv.n) n cs G ds/\(0<n->∃ g,kv.a=some ⟨g,0,none⟩/\vs=[pt g 0])
/-- k: the row, j: its block. -/
abbrev eLn(k j:Nat)(T:TypeId)(sz n:Nat)(cs:List Ce):Ent:=.rel k [.p j 0] (lsC T sz n cs)
section
variable{F0:Ft}{w0 w w':World}{ro rest:List Res}
/-- One thing is turned, and looks at what is shared. -/
theorem HA.updS{r:Res}(h:HA F0 w0 w ro (r::rest))(hf:Fr r.W w w')(r':Res)(hr:r'.Φ w')(hW:∀ q,r'.W q->r.W q∨w.heap.size<=q)(hF:∀ q,r'.F q->r.F q∨(∃ s ∈ rest,(∀ p,¬ s.W p)/\s.F q)∨w.heap.size<=q):HA F0 w0 w' ro (r'::rest):=by
 have hd:=List.pairwise_cons.1 h.dis
 have keepS:∀ s ∈ rest,s.Φ w':=fun s hs=>s.keep (h.own s (List.mem_cons_of_mem _ hs)) hf.size fun q hq=>hf.block q (s.lt (h.own s (List.mem_cons_of_mem _ hs)) q hq) fun h2=>(hd.1 s hs).1 q h2 hq
 refine ⟨h.fr.trans hf (fun q hq=>h.mine r (List.mem_cons_self ..) q hq),fun s hs=>?_,fun s hs q hq=>?_,fun s hs q hq=>?_,List.pairwise_cons.2 ⟨fun s hs=>⟨fun q h1 h2=>?_,fun q h1 h2=>?_⟩,hd.2⟩,fun s hs=>?_,fun s hs u hu q h1 h2=>?_⟩
 · rcases List.mem_cons.1 hs with rfl|hs
   · exact hr
   exact keepS s hs
 · rcases List.mem_cons.1 hs with rfl|hs
   · rcases hW q hq with h1|h1
     · exact h.mine r (List.mem_cons_self ..) q h1
     exact .inr (Nat.le_trans h.fr.size h1)
   exact h.mine s (List.mem_cons_of_mem _ hs) q hq
 · rcases List.mem_cons.1 hs with rfl|hs
   · rcases hF q hq with h1|⟨t,ht,_,h1⟩|h1
     · exact h.look r (List.mem_cons_self ..) q h1
     · exact h.look t (List.mem_cons_of_mem _ ht) q h1
     exact .inr (Nat.le_trans h.fr.size h1)
   exact h.look s (List.mem_cons_of_mem _ hs) q hq
 · rcases hW q h1 with h3|h3
   · exact (hd.1 s hs).1 q h3 h2
   exact absurd (s.lt (h.own s (List.mem_cons_of_mem _ hs)) q h2) (Nat.not_lt.2 h3)
 · rcases hF q h2 with h3|⟨t,ht,htW,h3⟩|h3
   · exact (hd.1 s hs).2 q h1 h3
   · by_cases e:s=t
     · subst e;exact htW q h1
     obtain ⟨i,hi,rfl⟩:=List.mem_iff_getElem.1 hs
     obtain ⟨j,hj,rfl⟩:=List.mem_iff_getElem.1 ht
     have hp:=List.pairwise_iff_getElem.1 hd.2
     rcases Nat.lt_trichotomy i j with hlt|heq|hgt
     · exact (hp i j hi hj hlt).1 q h1 h3
     · subst heq;exact e rfl
     exact (hp j i hj hi hgt).2 q h1 h3
   exact absurd (s.lt (h.own s (List.mem_cons_of_mem _ hs)) q (s.hW q h1)) (Nat.not_lt.2 h3)
 · exact s.keep (h.red s hs) hf.size fun q hq=>hf.block q (s.lt (h.red s hs) q hq) fun h2=>h.rdis s hs r (List.mem_cons_self ..) q h2 hq
 rcases List.mem_cons.1 hu with rfl|hu
 · rcases hW q h1 with h3|h3
   · exact h.rdis s hs r (List.mem_cons_self ..) q h3 h2
   exact absurd (s.lt (h.red s hs) q h2) (Nat.not_lt.2 h3)
 exact h.rdis s hs u (List.mem_cons_of_mem _ hu) q h1 h2
/-- Something of what is held is told once more, by what only looks. -/
theorem HA.share{s:Res}(h:HA F0 w0 w ro rest)(hs:s ∈ rest)(r:Res)(hr:r.Φ w)(hW:∀ q,¬ r.W q)(hF:∀ q,r.F q->s.F q/\¬ s.W q):HA F0 w0 w ro (r::rest):=by
 have key:∀ t ∈ rest,∀ q,t.W q->¬ r.F q:=fun t ht q h1 h2=>by
   obtain ⟨h3,h4⟩:=hF q h2
   by_cases e:t=s
   · subst e;exact h4 h1
   obtain ⟨i,hi,rfl⟩:=List.mem_iff_getElem.1 ht
   obtain ⟨j,hj,rfl⟩:=List.mem_iff_getElem.1 hs
   have hp:=List.pairwise_iff_getElem.1 h.dis
   rcases Nat.lt_trichotomy i j with hlt|heq|hgt
   · exact (hp i j hi hj hlt).1 q h1 h3
   · subst heq;exact e rfl
   exact (hp j i hj hi hgt).2 q h1 h3
 refine ⟨h.fr,fun t ht=>?_,fun t ht q hq=>?_,fun t ht q hq=>?_,List.pairwise_cons.2 ⟨fun t ht=>⟨fun q h1 _=>absurd h1 (hW q),fun q h1 h2=>key t ht q h1 h2⟩,h.dis⟩,h.red,fun t ht u hu q h1 h2=>?_⟩
 · rcases List.mem_cons.1 ht with rfl|ht
   · exact hr
   exact h.own t ht
 · rcases List.mem_cons.1 ht with rfl|ht
   · exact absurd hq (hW q)
   exact h.mine t ht q hq
 · rcases List.mem_cons.1 ht with rfl|ht
   · exact h.look s hs q (hF q hq).1
   exact h.look t ht q hq
 rcases List.mem_cons.1 hu with rfl|hu
 · exact absurd h1 (hW q)
 exact h.rdis t ht u hu q h1 h2
end
/-! ### &x[i] -/
def relJ:Ent->Option Nat
 | .rel _ vs _=>match vs with
   | [x]=>match x with
     | .p j _=>some j
     | _=>none
   | _=>none
 | _=>none
/-- A slice's elements, and how many cells they have. -/
noncomputable def elB (t:TypeId) (T:TypeId) (sz:Nat):Bool:=match Tryz.prog.underlying t with
 | some (.slice E)=>match pureVal Tryz.prog (sizeOf E) with
   | some s=>Nat.beq E T && Nat.beq s sz
   | none=>false
 | _=>false
theorem elB_ok{t T:TypeId}{sz:Nat}(h:elB t T sz=true):Tryz.prog.underlying t=some (.slice T)/\pureVal Tryz.prog (sizeOf T)=some sz:=by
 unfold elB at h
 split at h
 · rename_i E hE
   split at h
   · rename_i s hs
     rw [Bool.and_eq_true] at h
     obtain rfl:=Nat.eq_of_beq_eq_true h.1
     obtain rfl:=Nat.eq_of_beq_eq_true h.2
     exact ⟨hE,hs⟩
   cases h
 cases h
noncomputable def ixLF (k:Nat) (T:TypeId) (sz n:Nat) (cs:List Ce) (i:Nat) (o:Oper) (ev:Operand->AV) (ro H:List Ent) (_:Nat):Option Out:=
 match o.op with
 | .indexAddr t x y=>match findK k (H++ro) with
   | some e=>match relJ e with
     | some j=>bif elB t T sz then some ⟨.p j (i*sz),H,[],[⟨Ent,e,eLn k j T sz n cs⟩,⟨AV,ev x,.o k n⟩,⟨AV,ev y,.v (.int .i64 (i:Int))⟩]⟩ else none
     | none=>none
   | none=>none
 | _=>none
theorem ls_at{T:TypeId}{sz n:Nat}{cs:List Ce}{κ:Kp}{k j:Nat}{w:World}(h1:((eLn k j T sz n cs).res κ).Φ w)(h2:(eLn k j T sz n cs).holds κ)(hn:0<n):∃ G ds g c rest,(κ k).r=rLs T sz (.slice (κ k).a n (κ k).n) n cs G ds/\(κ k).a=some ⟨g,0,none⟩/\(κ k).n=c/\(κ j).n=g/\Blk w g T (ds++rest)/\cesOk G w cs ds/\ds.length=n*sz/\(∀ q,G q->q<w.heap.size/\q≠g):=by
 obtain ⟨G,ds,e1,e2⟩:=h2
 obtain ⟨g,ha,hv⟩:=e2 hn
 have hv:pt (κ j).n 0=pt g 0:=by injection hv
 have hj:(κ j).n=g:=by
   unfold pt at hv;injection hv with hv;injection hv with hv;injection hv
 have h3:((κ k).r).Φ w:=h1
 rw [e1] at h3
 obtain ⟨hG,hown,hc⟩:=h3
 rw [ha] at hown hG
 rcases hown.2 with ⟨e,_⟩|⟨g',cap,cur,e,hb,hg,h4,h5,h6,h7⟩
 · cases e
 injection e with e3 e4 e5;injection e3 with e3;injection e3 with e3 e6 e7
 subst e3
 refine ⟨G,ds,g,_,cur.toList.drop (n*sz),e1,ha,rfl,hj,?_,hc,hown.1,fun q hq=>⟨(hG q hq).1,fun e=>(hG q hq).2 (by rw [e];rfl)⟩⟩
 rw [← h7,List.take_append_drop]
 unfold Blk;simpa using hg
noncomputable def ixL (key k:Nat) (T:TypeId) (sz n:Nat) (cs:List Ce) (i:Nat) (hi:i<n):Pl Tryz.prog:=⟨key,ixLF k T sz n cs i,by
 intro o ev ro H b u h hob
 unfold ixLF at h
 split at h
 · rename_i t x y ho
   split at h
   · rename_i e hf
     split at h
     · rename_i j hj
       rw [cond_some] at h
       obtain ⟨hc,h⟩:=h
       subst h
       obtain ⟨uT,hE⟩:=elB_ok hc
       have o1:e=eLn k j T sz n cs:=hob _ (List.mem_cons_self ..)
       have o2:ev x=.o k n:=hob _ (List.mem_cons_of_mem _ (List.mem_cons_self ..))
       have o3:ev y=.v (.int .i64 (i:Int)):=hob _ (List.mem_cons_of_mem _ (List.mem_cons_of_mem _ (List.mem_cons_self ..)))
       subst o1
       have hm:=(findK_mem hf).1
       refine ⟨fun {A κ a w w0 F0} hA hev hroA hH ha hh=>?_,fun {A} hev hroA hH=>⟨?_,fun e he=>Ent.ok_mono (fun _ h=>.inl h) (hH e he)⟩,fun e he _=>he⟩
       · obtain ⟨h1,h2⟩:=hh.ent hm
         obtain ⟨G,ds,g,c,rest,_,hka,hkn,hkj,_⟩:=ls_at h1 h2 (by omega)
         have hrun:(execOp a.eval o).run Tryz.prog w=.ok (.value (eAt (some ⟨g,0,none⟩) (i*sz))) w:=by
           have h1:(Instr.indexAt t (.slice (some ⟨g,0,none⟩) n c) (.int .i64 (i:Int))).run Tryz.prog w=.ok (eAt (some ⟨g,0,none⟩) (i*sz)) w:=by
             simp [Instr.indexAt,asIntOf,run_underlying uT,hi,pureVal_run hE,eAt]
           have hx:a.eval x=.slice (some ⟨g,0,none⟩) n c:=by rw [ha];simp only [o2,AV.den];rw [hka,hkn]
           have hy:a.eval y=.int .i64 (i:Int):=by rw [ha];simp only [o3,AV.den]
           unfold execOp
           simp only [ho,hx,hy,Sem.run_bind,h1,Result.andThen_ok,Sem.run_pure]
         refine OpTo.run _ hrun ⟨κ,AgR.refl _ _ _,?_,hh⟩
         show _=pt (κ j).n (i*sz)
         rw [hkj]
         simp only [eAt,Addr.add,Nat.zero_add,pt]
         by_cases h0:i*sz=0
         · rw [h0];rfl
         simp [h0]
       have hok:(eLn k j T sz n cs).ok A:=by
         rcases List.mem_append.1 hm with hm|hm
         · exact hH _ hm
         exact hroA _ hm
       exact .inl hok.2.1
     cases h
   cases h
 cases h⟩
/-! ### What stands there -/
/-- Cells as values under names; what is told of new names. -/
def ceA(b:Nat):List Ce->List AV × List Ent
 | []=>([],[])
 | .v x::r=>(.v x::(ceA b r).1,(ceA b r).2)
 | .b l::r=>(.o b l.length::(ceA (b+1) r).1,eB b l::(ceA (b+1) r).2)
set_option maxRecDepth 100000
/-- How many new names they take. -/
def ceN:List Ce->Nat
 | []=>0
 | .v _::r=>ceN r
 | .b _::r=>ceN r+1
theorem ceA_ok:∀ (it:List Ce) (b:Nat),AV.okL (fun k=>b<=k/\k<b+ceN it) (ceA b it).1/\∀ e ∈ (ceA b it).2,e.ok (fun k=>b<=k/\k<b+ceN it)
 | [],b=>⟨trivial,fun e he=>absurd he List.not_mem_nil⟩
 | .v x::r,b=>by
   obtain ⟨h1,h2⟩:=ceA_ok r b
   exact ⟨⟨trivial,h1⟩,h2⟩
 | .b l::r,b=>by
   obtain ⟨h1,h2⟩:=ceA_ok r (b+1)
   have hm:∀ k,(b+1<=k/\k<b+1+ceN r)->b<=k/\k<b+ceN (Ce.b l::r):=fun k hk=>⟨by omega,by rw [ceN];omega⟩
   refine ⟨⟨⟨Nat.le_refl _,by rw [ceN];omega⟩,okL_mono hm _ h1⟩,fun e he=>?_⟩
   rcases List.mem_cons.1 he with rfl|he
   · exact ⟨Nat.le_refl _,by rw [ceN];omega⟩
   exact Ent.ok_mono hm (h2 e he)
/-- Cells that are loaded are told under new names. -/
theorem ce_open{A:Nat->Prop}{F0:Ft}{w0 w:World}{κ:Kp}{ro H:List Ent}{G:Nat->Prop}{s:Res}(hG:∀ q,G q->s.F q/\¬ s.W q)(hro:∀ e ∈ ro,e.ok A)(hH:∀ e ∈ H,e.ok A)(hs:s ∈ H.map (Ent.res κ))(hh:HE F0 w0 w κ ro H) :
   ∀ (it:List Ce) (ys:List Value) (b:Nat),(∀ k,A k->¬ (b<=k/\k<b+ceN it))->ys.length=it.length->(∀ (p:Nat) (c:Ce) (y:Value),it[p]?=some c->ys[p]?=some y->ceOk G w c y) ->
     ∃ κ',AgR A [] κ κ'/\AV.denL κ' (ceA b it).1=ys/\HE F0 w0 w κ' ro ((ceA b it).2++H)
 | [],[],b,_,_,_=>⟨κ,AgR.refl _ _ _,rfl,hh⟩
 | [],_::_,_,_,h,_=>by cases h
 | _::_,[],_,_,h,_=>by cases h
 | .v x::r,y::q,b,hb,hl,hc=>by
   obtain ⟨κ',h1,h2,h3⟩:=ce_open hG hro hH hs hh r q b (fun k hk h=>hb k hk h) (by simpa using hl) (fun p c y h1 h2=>hc (p+1) c y (by simpa using h1) (by simpa using h2))
   have e:y=x:=hc 0 _ _ rfl rfl
   exact ⟨κ',h1,by show x::AV.denL κ' (ceA b r).1=_;rw [h2,e],h3⟩
 | .b l::r,y::q,b,hb,hl,hc=>by
   obtain ⟨κ1,h1,h2,h3⟩:=ce_open hG hro hH hs hh r q (b+1) (fun k hk h=>hb k hk ⟨by omega,by rw [ceN];omega⟩) (by simpa using hl) (fun p c y h1 h2=>hc (p+1) c y (by simpa using h1) (by simpa using h2))
   obtain ⟨A',c',hy,hsb⟩:=hc 0 _ _ rfl rfl
   have hAb:∀ k,A k->k≠b:=fun k hk e=>hb k hk ⟨by omega,by rw [ceN];omega⟩
   have hag:AgR (fun k=>k≠b) [] κ1 (upK κ1 b ⟨c',A',rFB y l⟩):=fun k hk=>by rw [upK_ne _ _ hk];exact ⟨rfl,rfl,fun _=>rfl⟩
   have hC:=ceA_ok r (b+1)
   have hm:∀ k,(b+1<=k/\k<b+1+ceN r)->k≠b:=fun k hk=>by omega
   have hL:∀ e ∈ (ceA (b+1) r).2++H,e.ok (fun k=>k≠b):=fun e he=>by
     rcases List.mem_append.1 he with he|he
     · exact Ent.ok_mono hm (hC.2 e he)
     exact Ent.ok_mono hAb (hH e he)
   have hR:∀ e ∈ ro,e.ok (fun k=>k≠b):=fun e he=>Ent.ok_mono hAb (hro e he)
   refine ⟨upK κ1 b ⟨c',A',rFB y l⟩,fun k hk=>?_,?_,?_,fun e he=>Ent.holds_agr hag (hR e he) List.not_mem_nil (h3.hr e he),fun e he=>?_⟩
   · rw [upK_ne _ _ (hAb k hk)];exact h1 k hk
   · show AV.den _ (.o b l.length)::AV.denL _ (ceA (b+1) r).1=_
     rw [denL_agr hag.agr _ (okL_mono hm _ hC.1),h2]
     simp only [AV.den];rw [upK_at,hy]
   · show HA F0 w0 w (ro.map _) (((upK κ1 b ⟨c',A',rFB y l⟩ b).r)::((ceA (b+1) r).2++H).map (Ent.res (upK κ1 b ⟨c',A',rFB y l⟩)))
     rw [upK_at,map_agr hag ro hR (fun _ _=>List.not_mem_nil),map_agr hag _ hL (fun _ _=>List.not_mem_nil)]
     refine h3.ha.share (s:=s) ?_ (rFB y l) hsb.1 (fun _ h=>h) fun p hp=>hG p (hsb.2 hp.1 p hp.2)
     rw [List.map_append,map_agr h1 H hH (fun _ _=>List.not_mem_nil)]
     exact List.mem_append_right _ hs
   rcases List.mem_cons.1 he with rfl|he
   · show sbC l (upK κ1 b _ b)
     rw [upK_at]
     show rFB y l=rFB (.slice A' l.length c') l
     rw [hy]
   exact Ent.holds_agr hag (hL e he) List.not_mem_nil (h3.hh e he)
noncomputable def isAg (t:TypeId):Bool:=match pureVal Tryz.prog (isAgg t) with|some false=>false|_=>true
/-- One cell that holds a value, or a struct's flat cells. -/
noncomputable def ldLF (k j:Nat) (T:TypeId) (sz n:Nat) (cs:List Ce) (off:Nat) (it:List Ce) (o:Oper) (ev:Operand->AV) (_ H:List Ent) (b:Nat):Option Out:=
 match o.op with
 | .load t y=>match findK k H with
   | some e=>bif Nat.ble (ceN it) 16 && (bif isAg t then rowB Tryz.prog t it.length else Nat.beq it.length 1) then
       some ⟨bif isAg t then .c (ceA b it).1 else (ceA b it).1.headD (.v undef),insKs (ceA b it).2 H,[],[⟨Ent,e,eLn k j T sz n cs⟩,⟨AV,ev y,.p j off⟩]⟩ else none
   | none=>none
 | _=>none
noncomputable def ldL (key k j:Nat) (T:TypeId) (sz n:Nat) (cs:List Ce) (off:Nat) (it:List Ce) (hn:0<n) (hit:(cs.drop off).take it.length=it) (hle:off+it.length<=cs.length):Pl Tryz.prog:=⟨key,ldLF k j T sz n cs off it,by
 intro o ev ro H b u h hob
 unfold ldLF at h
 split at h
 · rename_i t y ho
   split at h
   · rename_i e hf
     rw [cond_some] at h
     obtain ⟨hc,h⟩:=h
     subst h
     rw [Bool.and_eq_true] at hc
     have hl16:=Nat.le_of_ble_eq_true hc.1
     have o1:e=eLn k j T sz n cs:=hob _ (List.mem_cons_self ..)
     have o2:ev y=.p j off:=hob _ (List.mem_cons_of_mem _ (List.mem_cons_self ..))
     subst o1
     have hm:=(findK_mem hf).1
     have hCo:=ceA_ok it b
     have hIn:∀ k,(b<=k/\k<b+ceN it)->In8 b k:=fun k hk=>⟨hk.1,by omega⟩
     refine ⟨fun {A κ a w w0 F0} hA hev hroA hH ha hh=>?_,fun {A} hev hroA hH=>⟨?_,fun e he=>?_⟩,fun e he _=>(insKs_perm _ _).mem_iff.1 (List.mem_append_right _ he)⟩
     · obtain ⟨h1,h2⟩:=hh.ent (List.mem_append_left _ hm)
       obtain ⟨G,ds,g,c,rest,hres,hka,hkn,hkj,hb,hce,hdl,hG⟩:=ls_at h1 h2 hn
       have hdsl:ds.length=cs.length:=hce.len
       obtain ⟨ys,hys⟩:∃ ys,(ds.drop off).take it.length=ys:=⟨_,rfl⟩
       have hyl:ys.length=it.length:=by rw [← hys,List.length_take,List.length_drop];omega
       have hyc:∀ (p:Nat) (c:Ce) (y:Value),it[p]?=some c->ys[p]?=some y->ceOk G w c y:=fun p c y hp hy=>by
         have hpl:p<it.length:=(List.getElem?_eq_some_iff.1 hp).1
         rw [← hit,List.getElem?_take_of_lt hpl,List.getElem?_drop] at hp
         rw [← hys,List.getElem?_take_of_lt hpl,List.getElem?_drop] at hy
         exact hce.at_ _ c y hp hy
       have hsG:∀ q,G q->((κ k).r).F q/\¬ ((κ k).r).W q:=fun q hq=>by
         rw [hres]
         refine ⟨.inl hq,fun e=>(hG q hq).2 ?_⟩
         have e:(Value.slice (κ k).a n (κ k).n).ownBlock=some q:=e
         rw [hka] at e;injection e with e;exact e.symm
       obtain ⟨κ',hag',hden,hHE⟩:=ce_open hsG hroA hH (List.mem_map.2 ⟨_,hm,rfl⟩) hh it ys b (fun k hk h=>hA k hk (hIn k h)) hyl hyc
       have hx:a.eval y=pt g off:=by rw [ha];simp only [o2,AV.den];rw [hkj]
       have hcut:((ds++rest).drop off).take ys.length=ys:=by
         rw [List.drop_append_of_le_length (by omega),List.take_append_of_le_length (by rw [List.length_drop];omega),hyl,hys]
       cases hag:isAg t with
       | true =>
         rw [hag] at hc
         have hrun:=e_loads (P:=Tryz.prog) (o:=o) (a:=a) hb t y ho off ys hx hcut (by rw [hyl];exact hc.2)
         refine OpTo.run _ hrun ⟨κ',hag',?_,hHE.perm (insKs_perm _ _)⟩
         show _=Value.agg (AV.denL κ' (ceA b it).1).toArray
         rw [hden]
       | false =>
         rw [hag] at hc
         have h1:=Nat.eq_of_beq_eq_true (show Nat.beq it.length 1=true from hc.2)
         have hp:pureVal Tryz.prog (isAgg t)=some false:=by
           unfold isAg at hag
           split at hag
           · assumption
           cases hag
         obtain ⟨y0,hy0⟩:∃ y0,ys=[y0]:=List.length_eq_one_iff.1 (by omega)
         have hd0:(ds++rest)[off]?=some y0:=by
           have h2:ys[0]?=some y0:=by rw [hy0];rfl
           rw [← hys,List.getElem?_take_of_lt (by omega),List.getElem?_drop,Nat.add_zero] at h2
           rw [List.getElem?_append_left (by omega)];exact h2
         have hrun:=e_load (P:=Tryz.prog) (o:=o) (a:=a) hb t y ho off y0 hx hd0 hp
         refine OpTo.run _ hrun ⟨κ',hag',?_,hHE.perm (insKs_perm _ _)⟩
         show _=AV.den κ' ((ceA b it).1.headD (.v undef))
         cases hq:(ceA b it).1 with
         | nil=>rw [hq,hy0] at hden;cases hden
         | cons x r =>
           rw [hq,hy0] at hden
           injection hden with e1 _
           exact e1.symm
     · cases hag:isAg t with
       | true=>exact okL_mono (fun k hk=>.inr (hIn k hk)) _ hCo.1
       | false =>
         show ((ceA b it).1.headD (.v undef)).ok _
         cases hq:(ceA b it).1 with
         | nil=>trivial
         | cons x r =>
           have h3:=hCo.1
           rw [hq] at h3
           exact ok_mono (fun k hk=>.inr (hIn k hk)) _ h3.1
     rcases List.mem_append.1 ((insKs_perm _ _).mem_iff.2 he) with he|he
     · exact Ent.ok_mono (fun k hk=>.inr (hIn k hk)) (hCo.2 e he)
     exact Ent.ok_mono (fun _ h=>.inl h) (hH e he)
   cases h
 cases h⟩
/-! ### append(x,y) -/
noncomputable def ceIn1 (H:List Ent) (c:Ce) (y:AV):Option (List Ob):=
 match c with
 | .v x=>some [⟨AV,y,.v x⟩]
 | .b m=>match y with
   | .o j n=>match findK j H with
     | some e=>some [⟨Ent,e,eB j m⟩,⟨Nat,n,m.length⟩]
     | none=>none
   | _=>none
noncomputable def ceIn (H:List Ent):List Ce->List AV->Option (List Ob)
 | [],l=>match l with | []=>some [] | _=>none
 | c::r,l=>match l with
   | y::q=>match ceIn1 H c y with
     | some a=>match ceIn H r q with
       | some b=>some (a++b)
       | none=>none
     | none=>none
   | []=>none
theorem ceIn1_ok{F0:Ft}{w0 w:World}{κ:Kp}{ro H:List Ent}(hh:HE F0 w0 w κ ro H){c:Ce}{y:AV}{ob:List Ob}(h:ceIn1 H c y=some ob)(hob:obOk ob) :
   ∃ G:Nat->Prop,(∀ q,G q->∃ s ∈ H.map (Ent.res κ),(∀ p,¬ s.W p)/\s.F q)/\ceOk G w c (y.den κ):=by
 unfold ceIn1 at h
 split at h
 · injection h with h;subst h
   have e:y=.v _:=hob _ (List.mem_cons_self ..)
   exact ⟨fun _=>False,fun _ h=>h.elim,by rw [e];rfl⟩
 rename_i m
 split at h
 · rename_i j n
   split at h
   · rename_i e hf
     injection h with h;subst h
     have o1:e=eB j m:=hob _ (List.mem_cons_self ..)
     have o2:n=m.length:=hob _ (List.mem_cons_of_mem _ (List.mem_cons_self ..))
     subst o2
     have hm:=(findK_mem hf).1
     rw [o1] at hm
     have hsb:=sb_ent hh (List.mem_append_left _ hm)
     have hr0:(κ j).r=rFB (.slice (κ j).a m.length (κ j).n) m:=hh.hh _ hm
     exact ⟨(rFB (.slice (κ j).a m.length (κ j).n) m).F,fun p hp=>⟨(κ j).r,List.mem_map.2 ⟨_,hm,rfl⟩,fun p=>by rw [hr0];exact fun h=>h,by rw [hr0];exact hp⟩,⟨(κ j).a,(κ j).n,rfl,hsb,fun hl p hp=>⟨hl,hp⟩⟩⟩
   cases h
 cases h
/-- Cells that are stored: what they look at is shared. -/
theorem ceIn_ok{F0:Ft}{w0 w:World}{κ:Kp}{ro H:List Ent}(hh:HE F0 w0 w κ ro H):∀ (it:List Ce) (l:List AV) (ob:List Ob),ceIn H it l=some ob->obOk ob ->
   ∃ G:Nat->Prop,(∀ q,G q->∃ s ∈ H.map (Ent.res κ),(∀ p,¬ s.W p)/\s.F q)/\cesOk G w it (AV.denL κ l)
 | [],[],ob,h,_=>⟨fun _=>False,fun _ h=>h.elim,⟨rfl,fun p c y h=>by cases h⟩⟩
 | [],_::_,ob,h,_=>by cases h
 | _::_,[],ob,h,_=>by cases h
 | c::r,y::q,ob,h,hob=>by
   unfold ceIn at h
   simp only at h
   split at h
   · rename_i a h1
     split at h
     · rename_i b h2
       injection h with h;subst h
       obtain ⟨G1,hG1,hc1⟩:=ceIn1_ok hh h1 hob.app.1
       obtain ⟨G,hG,hc⟩:=ceIn_ok hh r q b h2 hob.app.2
       refine ⟨fun q=>G q∨G1 q,fun p hp=>hp.elim (hG p) (hG1 p),⟨by show (AV.den κ _::AV.denL κ q).length=_;rw [List.length_cons,List.length_cons,hc.len],fun p c u h1 h2=>?_⟩⟩
       cases p with
       | zero =>
         injection h1 with h1;subst h1
         injection h2 with h2;subst h2
         exact hc1.mono fun _ h=>.inr h
       | succ p=>exact (hc.at_ p c u (by simpa using h1) (by simpa [AV.denL] using h2)).mono fun _ h=>.inl h
     cases h
   cases h
theorem psL_tr{o:Oper}{ev:Operand->AV}{ro H r:List Ent}{b k j n sz bytes:Nat}{T u':TypeId}{cs it:List Ce}{news:List AV}{ob ob0:List Ob}{s x:Operand}{z:Value}(hf:takeK1 k H=some (eLn k j T sz n cs,r))(hX:apSrc sz (r++ro) (ev x)=some (1,news))(hci:ceIn r it news=some ob)(hob':obOk ob)
   (ho:o.op=.call ⟨.builtin .append,⟨[s,x]⟩,⟨[u',u']⟩⟩) (uT:Tryz.prog.underlying u'=some (.slice T)) (hinf:(Tryz.prog.info? T).map (fun i=>(i.zero,i.size,i.bytes))=some (some z,sz,bytes)) (hzs:z.cells.size=sz) (hsz:0<sz)
   (c4:news.all one1=true) (c5:(n+1)*bytes<=140737488355328) (c6:n+1<=1000000) (_c7:r.all (fun e=>!Nat.beq e.key k)=true) (_c8:ro.all (fun e=>!Nat.beq e.key k)=true) (o2:ev s=.o k n) :
   Tr Tryz.prog o ev ro H b ⟨.o b (n+1),insK (eLn b (b+1) T sz (n+1) (cs++it)) r,[k],ob0⟩:=by
 obtain ⟨hp,hk⟩:=takeK1_perm hf
 have nk:∀ {l:List Ent},l.all (fun e=>!Nat.beq e.key k)=true->∀ e ∈ l,e.key ∉ [k]:=fun {l} hl e he hm=>by
   have h1:=List.all_eq_true.1 hl e he
   rw [List.mem_singleton.1 hm,Nat.beq_refl] at h1
   cases h1
 obtain ⟨xa,xb⟩:=apSrc_reads hX
 refine ⟨fun {A κ a w w0 F0} hA hev hroA hH ha hh=>?_,fun {A} hev hroA hH=>⟨.inr ⟨Nat.le_refl _,by omega⟩,fun e he=>?_⟩,fun e he hne=>?_⟩
 · have h9:=hh.perm hp
   have hrA:∀ e ∈ r,e.ok A:=fun e he=>hH e (hp.mem_iff.2 (List.mem_cons_of_mem _ he))
   have hh2:HE F0 w0 w κ ro r:=⟨HA.dropL (pre:=[(eLn k j T sz n cs).res κ]) h9.ha,h9.hr,fun e he=>h9.hh e (List.mem_cons_of_mem _ he)⟩
   obtain ⟨G,ds,hres,hk0⟩:=h9.hh (eLn k j T sz n cs) (List.mem_cons_self ..)
   have hΦ:((κ k).r).Φ w:=h9.ha.own _ (List.mem_cons_self ..)
   have hd:=(List.pairwise_cons.1 h9.ha.dis).1
   have hW:((κ k).r).W=fun q=>(Value.slice (κ k).a n (κ k).n).ownBlock=some q:=by rw [hres];rfl
   have hF:∀ q,((κ k).r).F q↔(G q∨(Value.slice (κ k).a n (κ k).n).ownBlock=some q):=fun q=>by rw [hres];exact Iff.rfl
   rw [hres] at hΦ
   obtain ⟨hGl,hown,hcs⟩:=hΦ
   obtain ⟨G2,hG2,hcs2⟩:=ceIn_ok hh2 it news ob hci hob'
   obtain ⟨Ad,c,hxv,hrd⟩:=xa (κ:=κ) (w:=w) fun e he=>by
     rcases List.mem_append.1 he with he|he
     · exact hh2.ha.own _ (List.mem_map.2 ⟨e,he,rfl⟩)
     exact hh2.ha.red _ (List.mem_map.2 ⟨e,he,rfl⟩)
   obtain ⟨g,cap,w',hrun,h2,h3,h4⟩:=exec_append (P:=Tryz.prog) (o:=o) (a:=a) (w:=w) s x _ T ho sz bytes z uT hinf hzs hsz (.slice (κ k).a n (κ k).n) n ds (by rw [ha];simp only [o2,AV.den]) hown Ad 1 c (AV.denL κ news) (by rw [ha];exact hxv) hrd (fun v hv=>by
     rw [denL_map] at hv
     obtain ⟨y,hy,rfl⟩:=List.mem_map.1 hv
     exact (one1_den (List.all_eq_true.1 c4 y hy) κ).1) (by omega) c5 (by unfold maxLen;omega)
   obtain ⟨R,hR⟩:∃ R,rLs T sz (.slice (some ⟨g,0,none⟩) (n+1) cap) (n+1) (cs++it) (fun q=>G q∨G2 q) (ds++AV.denL κ news)=R:=⟨_,rfl⟩
   have hgo:∀ q,G q∨G2 q->q<w.heap.size/\q≠g:=fun q hq=>by
     have hlt:q<w.heap.size:=by
       rcases hq with hq|hq
       · exact (hGl q hq).1
       obtain ⟨s,hs,_,h5⟩:=hG2 q hq
       exact s.lt (hh2.ha.own s hs) q h5
     refine ⟨hlt,fun e=>?_⟩
     subst e
     rcases h4 with h4|h4
     · rcases hq with hq|hq
       · exact (hGl q hq).2 h4
       obtain ⟨s,hs,_,h5⟩:=hG2 q hq
       exact (hd s hs).1 q (by show ((κ k).r).W q;rw [hW];exact h4) h5
     omega
   have hGr:Fr ((κ k).r).W w w':=by rw [hW];exact Fr.of_grown h3 fun q hq=>.inl hq
   have hsame:∀ q,G q∨G2 q->w'.heap[q]?=w.heap[q]?:=fun q hq=>by
     refine hGr.block q (hgo q hq).1 fun hw=>?_
     rcases hq with hq|hq
     · rw [hW] at hw;exact (hGl q hq).2 hw
     obtain ⟨s,hs,_,h5⟩:=hG2 q hq
     exact (hd s hs).1 q hw h5
   have hRΦ:R.Φ w':=by
     rw [← hR]
     refine ⟨fun q hq=>⟨Nat.lt_of_lt_of_le (hgo q hq).1 hGr.size,fun e=>(hgo q hq).2 (by injection e with e;exact e.symm)⟩,h2,⟨by rw [List.length_append,List.length_append,hcs.len,hcs2.len],fun p c y h5 h6=>?_⟩⟩
     by_cases hpl:p<cs.length
     · rw [List.getElem?_append_left hpl] at h5
       rw [List.getElem?_append_left (by rw [hcs.len];exact hpl)] at h6
       exact ((hcs.at_ p c y h5 h6).mono fun q hq=>.inl hq).keep hGr.size hsame
     rw [List.getElem?_append_right (by omega)] at h5
     rw [List.getElem?_append_right (by rw [hcs.len];omega),hcs.len] at h6
     exact ((hcs2.at_ _ c y h5 h6).mono fun q hq=>.inr hq).keep hGr.size hsame
   have hb0:∀ q,A q->q≠b/\q≠b+1:=fun q hq=>⟨fun e=>hA q hq (by rw [e];exact ⟨Nat.le_refl _,by omega⟩),fun e=>hA q hq (by rw [e];exact ⟨by omega,by omega⟩)⟩
   obtain ⟨κ',hk1,hkb,hkb1⟩:∃ κ':Kp,(∀ q,q≠b->q≠b+1->κ' q=κ q)/\κ' b=⟨cap,some ⟨g,0,none⟩,R⟩/\κ' (b+1)=⟨g,none,Res.none_⟩:=
     ⟨upK (upK κ b ⟨cap,some ⟨g,0,none⟩,R⟩) (b+1) ⟨g,none,Res.none_⟩,fun q h5 h6=>by rw [upK_ne _ _ h6,upK_ne _ _ h5],by rw [upK_ne _ _ (by omega),upK_at],upK_at _ _ _⟩
   have hag:AgR A [] κ κ':=fun q hq=>by rw [hk1 q (hb0 q hq).1 (hb0 q hq).2];exact ⟨rfl,rfl,fun _=>rfl⟩
   refine OpTo.run _ hrun ⟨κ',hag.weak,?_,HE.perm (H:=eLn b (b+1) T sz (n+1) (cs++it)::r) ⟨?_,fun e he=>Ent.holds_agr hag (hroA e he) List.not_mem_nil (hh.hr e he),fun e he=>?_⟩ (insK_perm _ _)⟩
   · show _=Value.slice (κ' b).a (n+1) (κ' b).n
     rw [hkb]
   · rw [List.map_cons,map_agr hag ro hroA (fun _ _=>List.not_mem_nil),map_agr hag r hrA (fun _ _=>List.not_mem_nil)]
     show HA _ _ _ _ ((κ' b).r::_)
     rw [hkb]
     have h5:=h9.ha
     rw [List.map_cons] at h5
     refine h5.updS (r:=(κ k).r) hGr R hRΦ (fun q hq=>?_) (fun q hq=>?_)
     · rw [← hR] at hq
       have hq:some g=some q:=hq
       injection hq with hq;subst hq
       rcases h4 with h4|h4
       · left;rw [hW];exact h4
       right;omega
     rw [← hR] at hq
     rcases hq with (hq|hq)|hq
     · exact .inl ((hF q).2 (.inl hq))
     · exact .inr (.inl (hG2 q hq))
     have hq:some g=some q:=hq
     injection hq with hq;subst hq
     rcases h4 with h4|h4
     · exact .inl ((hF _).2 (.inr h4))
     right;right;omega
   rcases List.mem_cons.1 he with rfl|he
   · show lsC T sz (n+1) (cs++it) (κ' b) [(AV.p (b+1) 0).den κ']
     refine ⟨fun q=>G q∨G2 q,ds++AV.denL κ news,by rw [hkb];exact hR.symm,fun _=>⟨g,by rw [hkb],?_⟩⟩
     simp only [AV.den];rw [hkb1]
   exact Ent.holds_agr hag (hrA e he) List.not_mem_nil (h9.hh e (List.mem_cons_of_mem _ he))
 · rcases List.mem_cons.1 ((insK_perm _ _).mem_iff.2 he) with rfl|he
   · exact ⟨.inr ⟨Nat.le_refl _,by omega⟩,.inr ⟨by omega,by omega⟩,trivial⟩
   exact Ent.ok_mono (fun _ h=>.inl h) (hH e (hp.mem_iff.2 (List.mem_cons_of_mem _ he)))
 rcases List.mem_cons.1 (hp.mem_iff.1 he) with rfl|he
 · exact absurd (List.mem_singleton.2 hk) hne
 exact (insK_perm _ _).mem_iff.1 (List.mem_cons_of_mem _ he)
noncomputable def psLF (k:Nat) (T:TypeId) (sz n:Nat) (cs it:List Ce) (n':Nat) (cs':List Ce) (o:Oper) (ev:Operand->AV) (ro H:List Ent) (b:Nat):Option Out:=
 match o.op with
 | .call ⟨.builtin .append,⟨[s,x]⟩,⟨[t,u]⟩⟩=>match Tryz.prog.underlying t with
   | some (.slice E)=>match (Tryz.prog.info? E).map (fun i=>(i.zero,i.size,i.bytes)) with
     | some (some z,sz',bytes)=>match takeK1 k H with
       | some (e,r)=>match relJ e with
         | some j=>match apSrc sz (r++ro) (ev x) with
           | some (m,news)=>match ceIn r it news with
             | some ob=>bif Nat.beq E T && Nat.beq sz' sz && Nat.beq z.cells.size sz && Nat.blt 0 sz && Nat.ble bytes 1000 && Nat.beq u t && Nat.beq m 1 && news.all one1 && r.all (fun e=>!Nat.beq e.key k) && ro.all (fun e=>!Nat.beq e.key k)
               then some ⟨.o b n',insK (eLn b (b+1) T sz n' cs') r,[k],⟨Ent,e,eLn k j T sz n cs⟩::⟨AV,ev s,.o k n⟩::ob⟩ else none
             | none=>none
           | none=>none
         | none=>none
       | none=>none
     | _=>none
   | _=>none
 | _=>none
noncomputable def psL (key k:Nat) (T:TypeId) (sz n:Nat) (cs it:List Ce) (n':Nat) (cs':List Ce) (hlim:n<=100000) (hn':n+1=n') (hcs':cs++it=cs'):Pl Tryz.prog:=⟨key,psLF k T sz n cs it n' cs',by
 subst hn';subst hcs'
 intro o ev ro H b u h hob
 unfold psLF at h
 split at h
 · rename_i s x t u' ho
   split at h
   · rename_i E uT
     split at h
     · rename_i z sz' bytes hinf
       split at h
       · rename_i e r hf
         split at h
         · rename_i j hj
           split at h
           · rename_i m news hX
             split at h
             · rename_i ob hci
               rw [cond_some] at h
               obtain ⟨hc,h⟩:=h
               subst h
               simp only [Bool.and_eq_true] at hc
               obtain ⟨⟨⟨⟨⟨⟨⟨⟨⟨d1,d2⟩,d3⟩,d4⟩,d5⟩,c2⟩,c3⟩,c4⟩,c7⟩,c8⟩:=hc
               obtain rfl:=Nat.eq_of_beq_eq_true d1
               obtain rfl:=Nat.eq_of_beq_eq_true d2
               have hzs:=Nat.eq_of_beq_eq_true d3
               have hsz:0<sz':=by rw [Nat.blt_eq] at d4;exact d4
               have d5:=Nat.le_of_ble_eq_true d5
               obtain rfl:=Nat.eq_of_beq_eq_true c2
               obtain rfl:=Nat.eq_of_beq_eq_true c3
               have c5:(n+1)*bytes<=140737488355328:=Nat.le_trans (Nat.mul_le_mul (show n+1<=100001 by omega) d5) (by decide)
               have c6:n+1<=1000000:=by omega
               have o1:e=eLn k j E sz' n cs:=hob _ (List.mem_cons_self ..)
               have o2:ev s=.o k n:=hob _ (List.mem_cons_of_mem _ (List.mem_cons_self ..))
               have hob':obOk ob:=fun o ho=>hob o (List.mem_cons_of_mem _ (List.mem_cons_of_mem _ ho))
               subst o1
               exact psL_tr hf hX hci hob' ho uT hinf hzs hsz c4 c5 c6 c7 c8 o2
             cases h
           cases h
         cases h
       cases h
     cases h
   cases h
 cases h⟩
end
section
open Go.RowKit Go.QT
end
section
open Go.RowKit Go.QT
set_option maxRecDepth 100000
/-! ### A row of nothing -/
noncomputable def nlF (T:TypeId) (sz:Nat) (o:Oper) (ev:Operand->AV) (_ H:List Ent) (b:Nat):Option Out:=
 match nwA Tryz.prog o ev b with
 | some n=>some ⟨.o b 0,insK (eLn b (b+1) T sz 0 []) H,[],[obN Tryz.prog o ev b n,⟨Nw,n,⟨T,[],.s b 0 0 0⟩⟩]⟩
 | none=>none
noncomputable def nlL (key:Nat) (T:TypeId) (sz:Nat):Pl Tryz.prog:=⟨key,nlF T sz,by
 intro o ev ro H b u h hob
 unfold nlF at h
 split at h
 · rename_i n hn
   injection h with h;subst h
   have o1:(obN Tryz.prog o ev b n).x=(obN Tryz.prog o ev b n).y:=hob _ (List.mem_cons_self ..)
   have o2:n=⟨T,[],.s b 0 0 0⟩:=hob _ (List.mem_cons_of_mem _ (List.mem_cons_self ..))
   subst o2
   refine ⟨fun {A κ a w w0 F0} hA hev hroA hH ha hh=>?_,fun {A} hev hroA hH=>⟨.inr ⟨Nat.le_refl _,by omega⟩,fun e he=>?_⟩,fun e he _=>(insK_perm _ _).mem_iff.1 (List.mem_cons_of_mem _ he)⟩
   · have hrun:=obN_run o1 ha w
     have hv:(AV.s b 0 0 0).den (upK κ b ⟨w.heap.size,none,Res.none_⟩)=.slice (some ⟨w.heap.size,0,none⟩) 0 0:=by simp only [AV.den];rw [upK_at]
     rw [hv] at hrun
     have hb0:∀ q,A q->q≠b/\q≠b+1:=fun q hq=>⟨fun e=>hA q hq (by rw [e];exact ⟨Nat.le_refl _,by omega⟩),fun e=>hA q hq (by rw [e];exact ⟨by omega,by omega⟩)⟩
     obtain ⟨R,hR⟩:∃ R,rLs T sz (.slice (some ⟨w.heap.size,0,none⟩) 0 0) 0 [] (fun _=>False) []=R:=⟨_,rfl⟩
     obtain ⟨κ',hk1,hkb,hkb1⟩:∃ κ':Kp,(∀ q,q≠b->q≠b+1->κ' q=κ q)/\κ' b=⟨0,some ⟨w.heap.size,0,none⟩,R⟩/\κ' (b+1)=⟨w.heap.size,none,Res.none_⟩:=
       ⟨upK (upK κ b ⟨0,some ⟨w.heap.size,0,none⟩,R⟩) (b+1) ⟨w.heap.size,none,Res.none_⟩,fun q h5 h6=>by rw [upK_ne _ _ h6,upK_ne _ _ h5],by rw [upK_ne _ _ (by omega),upK_at],upK_at _ _ _⟩
     have hag:AgR A [] κ κ':=fun q hq=>by rw [hk1 q (hb0 q hq).1 (hb0 q hq).2];exact ⟨rfl,rfl,fun _=>rfl⟩
     refine OpTo.run _ hrun ⟨κ',hag,?_,HE.perm (H:=eLn b (b+1) T sz 0 []::H) ⟨?_,fun e he=>Ent.holds_agr hag (hroA e he) List.not_mem_nil (hh.hr e he),fun e he=>?_⟩ (insK_perm _ _)⟩
     · show _=Value.slice (κ' b).a 0 (κ' b).n
       rw [hkb]
     · rw [List.map_cons,map_agr hag ro hroA (fun _ _=>List.not_mem_nil),map_agr hag H hH (fun _ _=>List.not_mem_nil)]
       show HA _ _ _ _ ((κ' b).r::_)
       rw [hkb]
       have h0:(rBlk w.heap.size T []).Φ (w.alloc (.cells (AV.denL κ []).toArray T)):=(Hp.alloc (Hp.nil (fun _=>False) w) T []).own 0 _ rfl
       refine hh.ha.newS ((Below.refl _ _).alloc (Nat.le_refl _) _) R ?_ ?_
       · rw [← hR]
         refine ⟨fun q hq=>hq.elim,⟨by simp,.inr ⟨w.heap.size,0,#[],rfl,Nat.zero_le _,?_,Nat.le_refl _,by unfold maxLen;omega,by simp,by simp⟩⟩,⟨rfl,fun p c y h=>by cases h⟩⟩
         have h1:Blk (w.alloc (.cells (AV.denL κ []).toArray T)) w.heap.size T []:=h0
         unfold Blk at h1;simpa using h1
       intro q hq
       rw [← hR] at hq
       rcases hq with hq|hq
       · exact hq.elim
       have hq:some w.heap.size=some q:=hq
       injection hq with hq;omega
     rcases List.mem_cons.1 he with rfl|he
     · show lsC T sz 0 [] (κ' b) [(AV.p (b+1) 0).den κ']
       exact ⟨fun _=>False,[],by rw [hkb];exact hR.symm,fun h=>absurd h (Nat.lt_irrefl 0)⟩
     exact Ent.holds_agr hag (hH e he) List.not_mem_nil (hh.hh e he)
   rcases List.mem_cons.1 ((insK_perm _ _).mem_iff.2 he) with rfl|he
   · exact ⟨.inr ⟨Nat.le_refl _,by omega⟩,.inr ⟨by omega,by omega⟩,trivial⟩
   exact Ent.ok_mono (fun _ h=>.inl h) (hH e he)
 cases h⟩
/-! ### A row that came in -/
def rvC(sz:Nat)(A:Option Addr)(c:Nat)(xs:List (List Value))(kv:Kv):Prop:=kv.r=rRV sz A c xs
abbrev eV(k sz:Nat)(A:Option Addr)(c:Nat)(xs:List (List Value)):Ent:=.opq k (rvC sz A c xs)
noncomputable def ixVF (k sz:Nat) (A:Option Addr) (n c:Nat) (xs:List (List Value)) (i:Nat) (T:TypeId) (o:Oper) (ev:Operand->AV) (ro H:List Ent) (_:Nat):Option Out:=
 match o.op with
 | .indexAddr t x y=>match findK k (H++ro) with
   | some e=>bif elB t T sz then some ⟨.v (eAt A (i*sz)),H,[],[⟨Ent,e,eV k sz A c xs⟩,⟨AV,ev x,.v (.slice A n c)⟩,⟨AV,ev y,.v (.int .i64 (i:Int))⟩]⟩ else none
   | none=>none
 | _=>none
noncomputable def ixV (key k sz:Nat) (A:Option Addr) (n c:Nat) (xs:List (List Value)) (i:Nat) (T:TypeId) (hn:xs.length=n) (hi:i<n):Pl Tryz.prog:=⟨key,ixVF k sz A n c xs i T,by
 intro o ev ro H b u h hob
 unfold ixVF at h
 split at h
 · rename_i t x y ho
   split at h
   · rename_i e hf
     rw [cond_some] at h
     obtain ⟨hc,h⟩:=h
     subst h
     obtain ⟨uT,hE⟩:=elB_ok hc
     have o1:e=eV k sz A c xs:=hob _ (List.mem_cons_self ..)
     have o2:ev x=.v (.slice A n c):=hob _ (List.mem_cons_of_mem _ (List.mem_cons_self ..))
     have o3:ev y=.v (.int .i64 (i:Int)):=hob _ (List.mem_cons_of_mem _ (List.mem_cons_of_mem _ (List.mem_cons_self ..)))
     subst o1
     have hm:=(findK_mem hf).1
     refine ⟨fun {A' κ a w w0 F0} hA hev hroA hH ha hh=>?_,fun {A'} hev hroA hH=>⟨trivial,fun e he=>Ent.ok_mono (fun _ h=>.inl h) (hH e he)⟩,fun e he _=>he⟩
     obtain ⟨h1,h2⟩:=hh.ent hm
     have h2:(κ k).r=rRV sz A c xs:=h2
     have h1:((κ k).r).Φ w:=h1
     rw [h2] at h1
     have hrun:=e_idxN (P:=Tryz.prog) (o:=o) (a:=a) (show RV w sz A c xs from h1) i n hn hi t x y ho .i64 (by rw [ha];simp only [o2];rfl) (by rw [ha];simp only [o3];rfl) T uT hE w
     exact OpTo.run _ hrun ⟨κ,AgR.refl _ _ _,rfl,hh⟩
   cases h
 cases h⟩
noncomputable def ldVF (k sz:Nat) (A:Option Addr) (c:Nat) (xs:List (List Value)) (i:Nat) (ds:List Value) (o:Oper) (ev:Operand->AV) (ro H:List Ent) (_:Nat):Option Out:=
 match o.op with
 | .load t y=>match findK k (H++ro) with
   | some e=>bif rowB Tryz.prog t ds.length then some ⟨.c (rg ds),H,[],[⟨Ent,e,eV k sz A c xs⟩,⟨AV,ev y,.v (eAt A (i*sz))⟩]⟩ else none
   | none=>none
 | _=>none
theorem rg_ok{A:Nat->Prop}:∀ l:List Value,AV.okL A (rg l)
 | []=>trivial
 | _::l=>⟨trivial,rg_ok l⟩
noncomputable def ldV (key k sz:Nat) (A:Option Addr) (c:Nat) (xs:List (List Value)) (i:Nat) (ds:List Value) (hx:xs[i]?=some ds):Pl Tryz.prog:=⟨key,ldVF k sz A c xs i ds,by
 intro o ev ro H b u h hob
 unfold ldVF at h
 split at h
 · rename_i t y ho
   split at h
   · rename_i e hf
     rw [cond_some] at h
     obtain ⟨hc,h⟩:=h
     subst h
     have o1:e=eV k sz A c xs:=hob _ (List.mem_cons_self ..)
     have o2:ev y=.v (eAt A (i*sz)):=hob _ (List.mem_cons_of_mem _ (List.mem_cons_self ..))
     subst o1
     have hm:=(findK_mem hf).1
     refine ⟨fun {A' κ a w w0 F0} hA hev hroA hH ha hh=>?_,fun {A'} hev hroA hH=>⟨rg_ok ds,fun e he=>Ent.ok_mono (fun _ h=>.inl h) (hH e he)⟩,fun e he _=>he⟩
     obtain ⟨h1,h2⟩:=hh.ent hm
     have h2:(κ k).r=rRV sz A c xs:=h2
     have h1:((κ k).r).Φ w:=h1
     rw [h2] at h1
     obtain ⟨hi,hxe⟩:=List.getElem?_eq_some_iff.1 hx
     have hrun:=e_elems (P:=Tryz.prog) (o:=o) (a:=a) (show RV w sz A c xs from h1) i hi t y ho ds (by rw [ha];simp only [o2];rfl) hxe hc
     refine OpTo.run _ hrun ⟨κ,AgR.refl _ _ _,?_,hh⟩
     show _=(AV.c (rg ds)).den κ
     rw [AV.den,denL_rg]
   cases h
 cases h⟩
/-- A law to which a row comes in. -/
theorem law1_s{f:FuncId}{al:List AV}{args:Array Value}{sz:Nat}{A:Option Addr}{c:Nat}{xs:List (List Value)}(h:Spec Tryz.prog ⟨f,1,al,[eV 0 sz A c xs],[],aB true,[]⟩)(W:World)(hr:RV W sz A c xs)(ha:∀ κ,(AV.denL κ al).toArray=args):Calls Tryz.prog f args W (DPost W (.bool true)):=by
 obtain ⟨κ,hκ⟩:∃ κ:Kp,(κ 0).r=rRV sz A c xs:=⟨fun _=>⟨0,none,rRV sz A c xs⟩,rfl⟩
 have h0:=h.calls κ W ⟨by
   rw [foot_nil]
   refine ⟨Fr.refl _ _,fun r hr=>absurd hr List.not_mem_nil,fun r hr=>absurd hr List.not_mem_nil,fun r hr=>absurd hr List.not_mem_nil,.nil,fun r hr'=>?_,fun r _ s hs=>absurd hs List.not_mem_nil⟩
   obtain ⟨e,he,rfl⟩:=List.mem_map.1 hr'
   rw [List.mem_singleton.1 he]
   show ((κ 0).r).Φ W
   rw [hκ];exact hr,fun e he=>by rw [List.mem_singleton.1 he];exact hκ,fun e he=>absurd he List.not_mem_nil⟩
 rw [ha κ] at h0
 refine h0.mono fun e w' ⟨κ',_,e1,h1⟩=>⟨e1,?_⟩
 have h2:Hp (fun _=>False) W w' [] []:=⟨by have h3:=h1.ha.fr;rw [foot_nil] at h3;exact h3,by simp,by simp,by simp,by simp,by simp⟩
 exact h2.below0
/-! ### A number that is cut -/
noncomputable def rmF (p m i:Nat) (o:Oper) (ev:Operand->AV) (_ H:List Ent) (_:Nat):Option Out:=
 match o.op with
 | .binOp .rem _ x y _=>some ⟨.v (.int .i64 (i:Int)),H,[],[⟨AV,ev x,.v (.int .i64 (p:Int))⟩,⟨AV,ev y,.v (.int .i64 (m:Int))⟩]⟩
 | _=>none
noncomputable def rmA {P:Program} (key p m i:Nat) (hm:0<m) (hi:p % m=i):Pl P:=⟨key,rmF p m i,by
 intro o ev ro H b u h hob
 unfold rmF at h
 split at h
 · rename_i t x y t' ho
   injection h with h;subst h
   have o1:ev x=.v (.int .i64 (p:Int)):=hob _ (List.mem_cons_self ..)
   have o2:ev y=.v (.int .i64 (m:Int)):=hob _ (List.mem_cons_of_mem _ (List.mem_cons_self ..))
   subst hi
   exact pv_tr fun κ a w ha=>e_rem x y t t' ho p m (by rw [ha];simp only [o1];rfl) (by rw [ha];simp only [o2];rfl) hm w
 cases h⟩
/-! ### What stands at a place -/
theorem flatM_at{α β:Type}{f:α->List β}{sz:Nat}(hf:∀ x,(f x).length=sz):∀ (l:List α) (i:Nat) (x:α),l[i]?=some x->((l.flatMap f).drop (i*sz)).take sz=f x/\i*sz+sz<=(l.flatMap f).length
 | [],i,x,h=>by cases i <;> cases h
 | y::l,0,x,h=>by
   injection h with h;subst h
   rw [List.flatMap_cons,Nat.zero_mul,List.drop_zero,List.take_append_of_le_length (by rw [hf];exact Nat.le_refl _),List.take_of_length_le (by rw [hf];exact Nat.le_refl _),List.length_append,hf]
   exact ⟨rfl,by omega⟩
 | y::l,i+1,x,h=>by
   obtain ⟨h1,h2⟩:=flatM_at hf l i x (by simpa using h)
   have e:(i+1)*sz=(f y).length+i*sz:=by rw [hf,Nat.add_mul,Nat.one_mul,Nat.add_comm]
   rw [List.flatMap_cons,e,List.drop_append,List.length_append,hf,show sz+i*sz-sz=i*sz by omega,List.drop_of_length_le (by rw [hf];omega),List.nil_append]
   exact ⟨h1,by omega⟩
theorem flatM_sub{α β:Type}{f:α->List β}{sz:Nat}(hf:∀ x,(f x).length=sz){l:List α}{i:Nat}{x:α}(h:l[i]?=some x)(c:Nat)(it:List β)(hit:((f x).drop c).take it.length=it)(hc:c+it.length<=sz):((l.flatMap f).drop (i*sz+c)).take it.length=it/\i*sz+c+it.length<=(l.flatMap f).length:=by
 obtain ⟨h1,h2⟩:=flatM_at hf l i x h
 refine ⟨?_,by omega⟩
 rw [← List.drop_drop]
 rw [← h1] at hit
 rw [List.drop_take,List.take_take,Nat.min_eq_left (by omega)] at hit
 exact hit
end
section
open Go.RowKit Go.QT
/-- A session that was begun: its number, its key, when, by which number it was shown, in which box. -/
structure Bg where
 sid:Nat
 K:Fin 16->UInt8
 tm:Nat
 q:Nat
 n:Nat
def offE(g:Bg):List Ce:=([Value.string bBOB,.int .i64 (g.sid:Int)]++vb (kl g.K)++[Value.int .i64 (g.tm:Int),.int .i64 (g.q:Int)]).map .v
def begE(g:Bg):List Ce:=[.v (.string bANN),.v (.string bBOB),.v (.int .i64 (g.sid:Int)),.v (.string bBOB),.b (mkB 98 8),.b (mkB 98 g.n)]
def metE(p:Bg × Nat):List Ce:=([Value.string bANN,.int .i64 (p.1.sid:Int)]++vb (kl p.1.K)).map .v
def ansE(p:Bg × Nat):List Ce:=[.v (.string bBOB),.v (.string bANN),.v (.int .i64 (p.1.sid:Int)),.b (mkB 98 p.2)]
theorem offE_len(g:Bg):(offE g).length=20:=by simp [offE,vb,kl_len]
theorem begE_len(g:Bg):(begE g).length=6:=rfl
theorem metE_len(p:Bg × Nat):(metE p).length=18:=by simp [metE,vb,kl_len]
theorem ansE_len(p:Bg × Nat):(ansE p).length=4:=rfl
abbrev slM(M:List (Bg × Nat)):List Sh:=M.map fun p=>⟨bANN,(p.1.tm:Int),(p.1.q:Int)⟩
structure BgOk(K3:Fin 16->UInt8)(t:STab)(bx:List SSealed)(j:Nat)(g:Bg):Prop where
 k:kl g.K=mkB 107 (10+j)
 s:g.sid<=3
 t1:11<=g.tm
 t2:g.tm<=40
 q:g.q=2+j+1
 n:1<=g.n
 bx:∃ d,bx[g.n-1]?=some ⟨kl K3,11,d⟩/\packB (.authent bANN (g.tm:Int) (g.q:Int) g.K (mkB 100 (t.sumAt (bt8 (g.sid:Int))+1)))=.inr d
 sk:SK t (bt8 (g.sid:Int)) (t.sumAt (bt8 (g.sid:Int)))
structure MtOk(B:List Bg)(bx:List SSealed)(p:Bg × Nat):Prop where
 g:∃ j:Nat,B[j]?=some p.1
 n:1<=p.2
 bx:∃ d,bx[p.2-1]?=some ⟨kl p.1.K,12,d⟩/\packB (.stamp (p.1.tm:Int) (p.1.q:Int))=.inr d
/-- Behind i steps. -/
structure HgI(K2 K3:Fin 16->UInt8)(e1:Bytes)(N:Nat) where
 i:Nat
 t:STab
 B:List Bg
 m:Nat
 M:List (Bg × Nat)
 a:Nat
 bx:List SSealed
 le:i<=N
 n30:N<=30
 hm:B.length=m
 ha:M.length=a
 mi:m+a<=i
 T:TS t (9+m) bx knS
 bl:bx.length=9+m+a
 sm:t.sums.length<=1+m
 i7:bx[7]?=some ⟨kl K2,2,e1⟩
 hB:∀ j g,B[j]?=some g->BgOk K3 t bx j g
 hM:∀ p ∈ M,MtOk B bx p
 hd:M.Pairwise fun p p'=>p.1.q≠p'.1.q
theorem keep_all{M:List (Bg × Nat)}{now:Int}(h:∀ p ∈ M,now-(p.1.tm:Int)<=30):keptF now (slM M)=slM M:=by
 unfold keptF
 refine List.filter_eq_self.2 fun y hy=>?_
 obtain ⟨p,hp,rfl⟩:=List.mem_map.1 hy
 exact decide_eq_true (h p hp)
/-- The client, who has begun so many. -/
abbrev clQ(ka K1:Fin 16->UInt8)(m:Nat):Cl:={ clAm ka K1 with q:=((2+m:Nat):Int) }
section
variable{Kk ka kb K1 K2 K3:Fin 16->UInt8}{t:STab}{N:Nat}{bx:List SSealed}{b b1 c1 e1:Bytes}
theorem BgOk.seal{K3:Fin 16->UInt8}{t t':STab}{bx:List SSealed}{j:Nat}{g:Bg}{x:SSealed}(h:BgOk K3 t bx j g)(hsk:∀ {β n},SK t β n->SK t' β n):BgOk K3 t' (bx++[x]) j g:=by
 obtain ⟨d,h1,h2⟩:=h.bx
 have e:t'.sumAt (bt8 (g.sid:Int))=t.sumAt (bt8 (g.sid:Int)):=(hsk h.sk).1
 exact ⟨h.k,h.s,h.t1,h.t2,h.q,h.n,⟨d,gx h1,by rw [e];exact h2⟩,by rw [e];exact hsk h.sk⟩
/-! ### A session is begun -/
structure HgBeg(ka K1 K3:Fin 16->UInt8)(x:HgI K2 K3 e1 N)(sid:Nat)(K4:Fin 16->UInt8)(t':STab):Prop where
 a:Spec Tryz.prog ⟨37,5,[tI,.p 1 0,aS bANN,aI ((11+x.i:Nat):Int),aS bBOB,aI (sid:Int)],[eB 4 (mkB 98 8)],[eT 0 x.t,.blk 1 51 ((clQ ka K1 x.m).c 2),.blk 2 162 (st2 ((ck8 ka K1).at bKDC 3) ((ckm8 K3).at bBOB 4))],
     .t [.c [aS bANN,aS bBOB,aI (sid:Int),aS bBOB,.o 5 16,.o 6 16],.c (offC bBOB (sid:Int) K4 ((11+x.i:Nat):Int) (((2+x.m:Nat):Int)+1)),aI 0],[eT 0 t',.blk 1 51 ((clQ ka K1 (x.m+1)).c 2),.blk 2 162 (st2 ((ck8 ka K1).at bKDC 3) ((ckm8 K3).at bBOB 4)),eB 5 (mkB 98 8),eB 6 (mkB 98 (x.bx.length+1))]⟩
 n:∃ y:HgI K2 K3 e1 N,y.i=x.i+1/\y.t=t'/\y.B=x.B++[⟨sid,K4,11+x.i,2+x.m+1,x.bx.length+1⟩]/\y.m=x.m+1/\y.M=x.M/\y.a=x.a
theorem hgBeg(x:HgI K2 K3 e1 N)(hi:x.i<N){sid:Nat}(hs:sid<=3)(ka K1:Fin 16->UInt8):∃ K4 t',HgBeg ka K1 K3 x sid K4 t':=by
 obtain ⟨K4,hK4⟩:=ex_key (10+x.m)
 have hN:=x.n30
 have hmi:=x.mi
 have hbl:=x.bl
 have hle:=x.le
 obtain ⟨b,q0⟩:=pack_authent (s:=bANN) (t:=((11+x.i:Nat):Int)) (q:=((2+x.m:Nat):Int)+1) (K:=K4) (c:=mkB 100 ((x.t.add SFrom.fresh).sumAt (bt8 (sid:Int))+1)) (rightM_is right_ann (by intro z hz;simp only [List.mem_cons,List.not_mem_nil,or_false] at hz;apply inN_is <;> omega)) (by decide) (by rw [mkB_len];decide)
 have hen:¬ (ckm8 K3).en<=((11+x.i:Nat):Int):=by
   have e:uu8=210:=by decide
   show ¬ uu8<=_
   rw [e];omega
 have a:=begin18_s (s:=x.t) (K4:=K4) (now:=((11+x.i:Nat):Int)) (sid:=(sid:Int)) (nb:=x.bx.length) (me:=bANN) (β:=bt8 (sid:Int)) (clQ ka K1 x.m) (ck8 ka K1) (ckm8 K3) (x.T.room 9 (by omega) (by omega)) (Nat.le_trans x.sm (by omega)) ⟨right_ann,by decide⟩ (inN_is (by omega) (by omega)) (by rw [hK4,x.T.keys];congr 1;omega) (show (0:Int)<=((2+x.m:Nat):Int)/\((2+x.m:Nat):Int)<=1000000 by omega) hen (mkB_len _ _) rfl (by rw [x.T.boxes]) (show (3:Nat)<=1000 by decide) q0
 rw [show (ckm8 K3).m.length=16 from mkB_len _ _] at a
 obtain ⟨t',ht'⟩:∃ t',shS (x.t.add SFrom.fresh) (bt8 (sid:Int)) K3 11 b=t':=⟨_,rfl⟩
 have T1:TS t' (9+x.m+1) (x.bx++[⟨kl K3,11,b⟩]) knS:=by rw [← ht'];exact ((x.T.add (f:=SFrom.fresh) rfl).dig (bt8 (sid:Int))).seal rfl (pack_le6 q0)
 have hs1:t'.sums.length<=1+x.m+1:=by rw [← ht'];exact dig_len (s:=x.t.add SFrom.fresh) (β:=bt8 (sid:Int)) (n:=1+x.m) x.sm
 have hkeep:∀ {β n},SK x.t β n->SK t' β n:=fun {β n} h=>by rw [← ht'];exact sk_dig (s:=x.t.add SFrom.fresh) h
 have hnew:SK t' (bt8 (sid:Int)) ((x.t.add SFrom.fresh).sumAt (bt8 (sid:Int))):=by rw [← ht'];exact sk_new (s:=x.t.add SFrom.fresh)
 rw [ht'] at a
 have hbl2:(x.bx++[⟨kl K3,11,b⟩]:List SSealed).length=9+(x.m+1)+x.a:=by rw [List.length_append,hbl,List.length_singleton];omega
 refine ⟨K4,t',a,⟨⟨x.i+1,t',x.B++[⟨sid,K4,11+x.i,2+x.m+1,x.bx.length+1⟩],x.m+1,x.M,x.a,x.bx++[⟨kl K3,11,b⟩],hi,hN,by rw [List.length_append,x.hm];rfl,x.ha,by omega,T1,hbl2,by omega,gx x.i7,fun j g hj=>?_,fun p hp=>?_,x.hd⟩,rfl,rfl,rfl,rfl,rfl,rfl⟩⟩
 · by_cases hjl:j<x.B.length
   · rw [List.getElem?_append_left hjl] at hj
     exact (x.hB j g hj).seal hkeep
   rw [List.getElem?_append_right (by omega)] at hj
   have hj0:j-x.B.length=0:=by
     by_cases h0:j-x.B.length=0
     · exact h0
     rw [List.getElem?_eq_none (by simp;omega)] at hj;cases hj
   rw [hj0] at hj
   injection hj with hj;subst hj
   have hjm:j=x.m:=by have:=x.hm;omega
   subst hjm
   refine ⟨hK4,hs,by show 11<=11+x.i;omega,by show 11+x.i<=40;omega,rfl,by show 1<=x.bx.length+1;omega,⟨b,?_,?_⟩,?_⟩
   · show (x.bx++[_])[x.bx.length+1-1]?=_
     rw [Nat.add_sub_cancel];exact gl rfl
   · show packB (.authent bANN ((11+x.i:Nat):Int) (((2+x.m+1:Nat)):Int) K4 (mkB 100 (t'.sumAt (bt8 (sid:Int))+1)))=.inr b
     rw [hnew.1];exact q0
   show SK t' (bt8 (sid:Int)) (t'.sumAt (bt8 (sid:Int)))
   rw [hnew.1];exact hnew
 obtain ⟨⟨j,hj⟩,hn,d,h1,h2⟩:=x.hM p hp
 exact ⟨⟨j,by rw [List.getElem?_append_left (List.getElem?_eq_some_iff.1 hj).1];exact hj⟩,hn,d,gx h1,h2⟩
/-! ### A beginning comes -/
theorem hg_ac(x:HgI K2 K3 e1 N)(hv:packB (.inside 2 K3 bANN 10 uu8 0)=.inr e1){jb:Nat}{g:Bg}(hg:x.B[jb]?=some g){now:Int}(hnow:now<=60):AcOk x.t K2 K3 g.K now (mkB 98 8) (mkB 98 g.n) (bt8 (g.sid:Int)) bBOB bANN (g.sid:Int) 10 uu8 0 (g.tm:Int) (g.q:Int):=by
 have h:=x.hB jb g hg
 obtain ⟨d,h1,h2⟩:=h.bx
 have hN:=x.n30;have hmi:=x.mi;have hbl:=x.bl;have hle:=x.le;have hs:=h.s;have hn:=h.n
 have hlt:=(List.getElem?_eq_some_iff.1 h1).1
 have e8:uu8=210:=by decide
 have en:g.n-1+1=g.n:=by omega
 have ho:=x.T.opn (i:=g.n-1) h1 h2 (by omega)
 rw [en] at ho
 exact ⟨x.T.room 9 (by omega) (by omega),x.T.opn (i:=7) x.i7 hv (by decide),by rw [e8];omega,ho,⟨⟨right_ann,by decide⟩,⟨right_bob,by decide⟩,inN_is (by omega) (by omega)⟩,by rw [mkB_len];decide,Nat.le_trans x.sm (by omega),rfl⟩
/-- It stands in another message. -/
theorem hg_sum(x:HgI K2 K3 e1 N)(hv:packB (.inside 2 K3 bANN 10 uu8 0)=.inr e1){jb jc:Nat}{g g':Bg}(hg:x.B[jb]?=some g)(hg':x.B[jc]?=some g')(hne:g'.sid≠g.sid){now:Int}(hnow:now<=60) :
   Spec Tryz.prog ⟨38,4,[tI,aS bBOB,.c (aK K2),.p 1 0,aI now,.c [aS bANN,aS bBOB,aI (g'.sid:Int),aS bBOB,.o 2 16,.o 3 16]],[eC 1 (slM x.M),eB 2 (mkB 98 8),eB 3 (mkB 98 g.n)],[eT 0 x.t],.t [metNo,repNo,aI 17],[eT 0 x.t]⟩:=by
 have A:=hg_ac x hv hg hnow
 have h:=x.hB jb g hg
 have h':=x.hB jc g' hg'
 have hs:=h.s;have hs':=h'.s
 have hb:mkB 100 (x.t.sumAt (bt8 (g.sid:Int))+1)≠mkB 100 (x.t.sumAt (bt8 (g'.sid:Int))+1):=fun e=>by
   have h7:=x.sm;have hN:=x.n30;have hmi:=x.mi;have hle:=x.le
   have h8:x.t.sumAt (bt8 (g'.sid:Int))<=x.t.sums.length:=List.findIdx_le_length
   have h9:x.t.sumAt (bt8 (g.sid:Int))<=x.t.sums.length:=List.findIdx_le_length
   have h10:=mkB_inj (by omega) (by omega) e
   exact sumOther h.sk (fun e=>hne (by have:=bt_inj (s1:=(g'.sid:Int)) (s2:=(g.sid:Int)) (by omega) (by omega) e;omega)) (by omega)
 have k:=accSum_s (sl:=slM x.M) A.hr.ok A.ho A.hu A.h2 (sid:=(g'.sid:Int)) ⟨⟨right_ann,by decide⟩,⟨right_bob,by decide⟩,inN_is (by omega) (by omega)⟩ A.hl A.hsm rfl hb
 rw [mkB_len,mkB_len,show x.t.digest (qAp bANN bBOB (g'.sid:Int) bBOB (mkB 98 8))=x.t from dig_old h'.sk] at k
 exact k
theorem hg_near(x:HgI K2 K3 e1 N)(hi:x.i<N){jb:Nat}{g:Bg}(hg:x.B[jb]?=some g):nearF ((11+x.i:Nat):Int) (g.tm:Int)=true:=by
 have h:=x.hB jb g hg
 have h1:=h.t1;have h2:=h.t2;have hN:=x.n30
 unfold nearF
 exact decide_eq_true (by omega)
theorem hg_sl(x:HgI K2 K3 e1 N):∀ y ∈ slM x.M,0<=y.t/\y.t<=1099511627776:=fun y hy=>by
 obtain ⟨p,hp,rfl⟩:=List.mem_map.1 hy
 obtain ⟨⟨j,hj⟩,_⟩:=x.hM p hp
 have h:=(x.hB j _ hj).t2
 show (0:Int)<=(p.1.tm:Int)/\(p.1.tm:Int)<=1099511627776
 omega
/-- It was accepted before. -/
theorem hg_again(x:HgI K2 K3 e1 N)(hv:packB (.inside 2 K3 bANN 10 uu8 0)=.inr e1)(hi:x.i<N){jb:Nat}{g:Bg}(hg:x.B[jb]?=some g)(hm:∃ p ∈ x.M,p.1.q=g.q) :
   Spec Tryz.prog ⟨38,4,[tI,aS bBOB,.c (aK K2),.p 1 0,aI ((11+x.i:Nat):Int),.c [aS bANN,aS bBOB,aI (g.sid:Int),aS bBOB,.o 2 16,.o 3 16]],[eB 2 (mkB 98 8),eB 3 (mkB 98 g.n)],[eT 0 x.t,eC 1 (slM x.M)],.t [metNo,repNo,aI 14],[eT 0 x.t,eC 1 (slM x.M)]⟩:=by
 have hN:=x.n30;have hle:=x.le;have hmi:=x.mi
 have A:=hg_ac x hv hg (now:=((11+x.i:Nat):Int)) (by omega)
 have h:=x.hB jb g hg
 obtain ⟨p,hp,hq⟩:=hm
 obtain ⟨⟨j,hj⟩,_⟩:=x.hM p hp
 have hj2:=(x.hB j _ hj).q
 have hjb:=h.q
 have e:j=jb:=by omega
 subst e
 have e2:p.1=g:=Option.some.inj (hj.symm.trans hg)
 have k:=accAgain_s (sl:=slM x.M) A (hg_near x hi hg) (hg_sl x) (by rw [List.length_map,x.ha];omega) (List.mem_map.2 ⟨p,hp,by rw [e2]⟩)
 rw [mkB_len,mkB_len,show x.t.digest (bt8 (g.sid:Int))=x.t from dig_old h.sk] at k
 exact k
/-- It is accepted. -/
structure HgAcc(x:HgI K2 K3 e1 N)(g:Bg)(t':STab):Prop where
 a:Spec Tryz.prog ⟨38,4,[tI,aS bBOB,.c (aK K2),.p 1 0,aI ((11+x.i:Nat):Int),.c [aS bANN,aS bBOB,aI (g.sid:Int),aS bBOB,.o 2 16,.o 3 16]],[eB 2 (mkB 98 8),eB 3 (mkB 98 g.n)],[eT 0 x.t,eC 1 (slM x.M)],.t [.c ([aS bANN,aI (g.sid:Int)]++aK g.K),.c [aS bBOB,aS bANN,aI (g.sid:Int),.o 4 16],aI 0],[eT 0 t',eC 1 (slM (x.M++[(g,x.bx.length+1)])),eB 4 (mkB 98 (x.bx.length+1))]⟩
 n:∃ y:HgI K2 K3 e1 N,y.i=x.i+1/\y.t=t'/\y.B=x.B/\y.m=x.m/\y.M=x.M++[(g,x.bx.length+1)]/\y.a=x.a+1
theorem hgAcc(x:HgI K2 K3 e1 N)(hv:packB (.inside 2 K3 bANN 10 uu8 0)=.inr e1)(hi:x.i<N){jb:Nat}{g:Bg}(hg:x.B[jb]?=some g)(hm:¬ ∃ p ∈ x.M,p.1.q=g.q):∃ t',HgAcc x g t':=by
 have hN:=x.n30;have hle:=x.le;have hmi:=x.mi;have hbl:=x.bl
 have A:=hg_ac x hv hg (now:=((11+x.i:Nat):Int)) (by omega)
 have h:=x.hB jb g hg
 have h1:=h.t1;have h2:=h.t2;have hq:=h.q
 have hjl:=(List.getElem?_eq_some_iff.1 hg).1
 have hBm:=x.hm
 obtain ⟨d,p0⟩:=pack_stamp (t:=(g.tm:Int)) (q:=(g.q:Int)) (inN_is (by omega) (by omega)) (inN_is (by omega) (by omega))
 have k:=accOk_s (sl:=slM x.M) (nb:=x.bx.length) A (hg_near x hi hg) (hg_sl x) (by rw [List.length_map,x.ha];omega) (fun hin=>by
   obtain ⟨p,hp,he⟩:=List.mem_map.1 hin
   refine hm ⟨p,hp,?_⟩
   have he3:(p.1.q:Int)=(g.q:Int):=congrArg Sh.q he
   omega) (by rw [x.T.boxes]) p0
 rw [mkB_len,mkB_len,show x.t.digest (bt8 (g.sid:Int))=x.t from dig_old h.sk,keep_all (fun p hp=>by
   obtain ⟨⟨j,hj⟩,_⟩:=x.hM p hp
   have:=(x.hB j _ hj).t1
   omega),show slM x.M++[(⟨bANN,(g.tm:Int),(g.q:Int)⟩:Sh)]=slM (x.M++[(g,x.bx.length+1)]) from by simp] at k
 have T1:TS (x.t.seal (kl g.K) 12 d) (9+x.m) (x.bx++[⟨kl g.K,12,d⟩]) knS:=x.T.seal rfl (pack_le6 p0)
 refine ⟨_,k,⟨⟨x.i+1,x.t.seal (kl g.K) 12 d,x.B,x.m,x.M++[(g,x.bx.length+1)],x.a+1,x.bx++[⟨kl g.K,12,d⟩],hi,hN,x.hm,by rw [List.length_append,x.ha];rfl,by omega,T1,by rw [List.length_append,hbl,List.length_singleton];omega,x.sm,gx x.i7,fun j g' hj=>(x.hB j g' hj).seal fun {β n} hh=>hh,fun p hp=>?_,?_⟩,rfl,rfl,rfl,rfl,rfl,rfl⟩⟩
 · rcases List.mem_append.1 hp with hp|hp
   · obtain ⟨hj,hn,d',h3,h4⟩:=x.hM p hp
     exact ⟨hj,hn,d',gx h3,h4⟩
   rw [List.mem_singleton.1 hp]
   refine ⟨⟨jb,hg⟩,by show 1<=x.bx.length+1;omega,d,?_,p0⟩
   show (x.bx++[_])[x.bx.length+1-1]?=_
   rw [Nat.add_sub_cancel];exact gl rfl
 refine List.pairwise_append.2 ⟨x.hd,List.pairwise_singleton _ _,fun p hp p' hp' e=>?_⟩
 rw [List.mem_singleton.1 hp'] at e
 exact hm ⟨p,hp,e⟩
/-! ### An answer comes -/
theorem hg_key(x:HgI K2 K3 e1 N){j k:Nat}{g g':Bg}(hg:x.B[j]?=some g)(hg':x.B[k]?=some g')(hne:j≠k):kl g.K≠kl g'.K:=
 key_ne (x.hB j g hg).k (x.hB k g' hg').k (by omega) (by have:=(List.getElem?_eq_some_iff.1 hg).1;have:=x.hm;have:=x.mi;have:=x.le;have:=x.n30;omega) (by have:=(List.getElem?_eq_some_iff.1 hg').1;have:=x.hm;have:=x.mi;have:=x.le;have:=x.n30;omega)
abbrev FinS(t:STab)(g:Bg)(sid n:Nat)(e:Int):Prop:=Spec Tryz.prog ⟨39,2,[.c (offC bBOB (g.sid:Int) g.K (g.tm:Int) (g.q:Int)),tI,aS bANN,.c [aS bBOB,aS bANN,aI (sid:Int),.o 1 16]],[eT 0 t,eB 1 (mkB 98 n)],[],aI e,[]⟩
theorem hg_ok(x:HgI K2 K3 e1 N):TabOk x.t:=(x.T.room 9 (by have:=x.mi;have:=x.le;have:=x.n30;omega) (by have:=x.bl;have:=x.mi;have:=x.le;have:=x.n30;omega)).ok
/-- It is of another number. -/
theorem hg_f1(x:HgI K2 K3 e1 N){g:Bg}{sid n:Nat}(h:sid≠g.sid):FinS x.t g sid n 16:=by
 have k:=finSd_s (K:=g.K) (peer:=bBOB) (me:=bANN) (ta:=(g.tm:Int)) (q:=(g.q:Int)) (l:=mkB 98 n) (s:=x.t) (now:=(sid:Int)) (sid:=(g.sid:Int)) (by omega)
 rw [mkB_len] at k;exact k
/-- It answers another one. -/
theorem hg_f2(x:HgI K2 K3 e1 N){j:Nat}{g:Bg}(hg:x.B[j]?=some g){p:Bg × Nat}(hp:p ∈ x.M)(hne:p.1.q≠g.q):FinS x.t g g.sid p.2 22:=by
 obtain ⟨⟨j',hj'⟩,hn,d,h1,h2⟩:=x.hM p hp
 have hq:=(x.hB j g hg).q;have hq':=(x.hB j' _ hj').q
 have hlt:=(List.getElem?_eq_some_iff.1 h1).1
 have hN:=x.n30;have hle:=x.le;have hmi:=x.mi;have hbl:=x.bl
 have ho:=x.T.opnNo (k:=kl g.K) (u:=12) (i:=p.2-1) h1 (fun h=>hg_key x hj' hg (by omega) h.1) (by omega)
 rw [show p.2-1+1=p.2 by omega] at ho
 have k:=finAuth_s (K:=g.K) (peer:=bBOB) (me:=bANN) (sid:=(g.sid:Int)) (ta:=(g.tm:Int)) (q:=(g.q:Int)) (hg_ok x) ho
 rw [mkB_len] at k;exact k
/-- It is the answer. -/
theorem hg_f3(x:HgI K2 K3 e1 N){p:Bg × Nat}(hp:p ∈ x.M):FinS x.t p.1 p.1.sid p.2 0:=by
 obtain ⟨_,hn,d,h1,h2⟩:=x.hM p hp
 have hlt:=(List.getElem?_eq_some_iff.1 h1).1
 have hN:=x.n30;have hle:=x.le;have hmi:=x.mi;have hbl:=x.bl
 have ho:=x.T.opn (i:=p.2-1) h1 h2 (by omega)
 rw [show p.2-1+1=p.2 by omega] at ho
 have k:=finOk_s (K:=p.1.K) (peer:=bBOB) (me:=bANN) (sid:=(p.1.sid:Int)) (hg_ok x) ho
 rw [mkB_len] at k;exact k
end
end
section
open Go.RowKit Go.QT
abbrev Cl.cT(c:Cl)(tb st:Nat):List AV:=[.i 30 (.p tb 0),aS c.nm,.p st 0,aI c.q,aI c.ak,aI c.nn,aS c.wh]++aK c.K++[aI c.fn,aS c.fs,aB c.ff,aI c.ft]
abbrev hgS(A:Option Addr)(c:Nat)(L:List HSt):Sp:=⟨7,1,[.v (.slice A L.length c)],[eV 0 5 A c (L.map hstC)],[],aB true,[]⟩
section
variable(ka K1 K2 K3:Fin 16->UInt8)
abbrev hgE(t:STab)(m a:Nat)(B:List Bg)(M:List (Bg × Nat))(sl:List Sh):List Ent:=
 [eLn 16 17 115 4 a (M.flatMap ansE),eLn 14 15 113 18 a (M.flatMap metE),eLn 12 13 102 6 m (B.flatMap begE),eLn 10 11 106 20 m (B.flatMap offE),eB 9 (mkB 98 8),
  .blk 7 162 (st2 ((ck8 ka K1).at bKDC 8) ((ckm8 K3).at bBOB 9)),.blk 6 111 ([.p 1 0,.p 2 0,.p 3 0,.p 4 0]++aK K2++[.p 5 0]),eC 5 sl,.blk 3 51 ((clQ ka K1 m).cT 1 7),eT 1 t]
abbrev hgV(A:Option Addr)(c n m a i:Nat):List (Nat × AV):=[(3,.p 6 0),(4,.o 10 m),(5,.o 12 m),(6,.o 14 a),(7,.o 16 a),(39,.v (.slice A n c)),(40,aI (n:Int)),(41,aI (i:Int))]
noncomputable def J0 (e1:Bytes) (A:Option Addr) (c n:Nat):Fm (HgI K2 K3 e1 n):=⟨fun x=>hgV A c n x.m x.a x.i,fun x=>hgE ka K1 K2 K3 x.t x.m x.a x.B x.M (slM x.M),18⟩
end
section
variable{Kk ka kb K1 K2 K3:Fin 16->UInt8}{t:STab}{bx:List SSealed}{b1 c1 e1:Bytes}{A:Option Addr}{c:Nat}{L:List HSt}
theorem wI{x:Int}{n:Nat}(h:x=(n:Int))(hn:n<=1000000):Value.int .i64 (IntKind.i64.wrap x)=.int .i64 (n:Int):=by
 subst h;exact w64 (by omega) (by omega)
theorem eqT{x:Int}{y:Int}(h:x=y):Value.bool (x == y)=.bool true:=by subst h;simp
theorem eqF{x:Int}{y:Int}(h:x≠y):Value.bool (x == y)=.bool false:=by rw [beq_eq_false_iff_ne.2 h]
theorem nqF{x:Int}{y:Int}(h:x=y):Value.bool (x != y)=.bool false:=by subst h;simp
/-- What stands at a place, by a number that is cut. -/
theorem at_rem{α:Type}{l:List α}{m:Nat}(hm:l.length=m)(h0:0<m)(x:Int):∃ (p i:Nat) (g:α),Value.int .i64 (bits .and .i64 x ((31:Nat):Int))=.int .i64 (p:Int)/\p % m=i/\l[i]?=some g:=by
 obtain ⟨p,hp,_⟩:=and_mask x 31 (by decide)
 have hi:p % m<l.length:=by rw [hm];exact Nat.mod_lt _ h0
 exact ⟨p,p % m,l[p % m],by rw [hp],rfl,List.getElem?_eq_getElem hi⟩
/-- A step that turns nothing. -/
def HgI.skip{N:Nat}(x:HgI K2 K3 e1 N)(hi:x.i<N):HgI K2 K3 e1 N:=⟨x.i+1,x.t,x.B,x.m,x.M,x.a,x.bx,hi,x.n30,x.hm,x.ha,by have:=x.mi;omega,x.T,x.bl,x.sm,x.i7,x.hB,x.hM,x.hd⟩
/-- Up to what sort of step it is. -/
noncomputable abbrev pStep {N:Nat} (x:HgI K2 K3 e1 N) (s:HSt) (hN:N=L.length) (hi:x.i<N) (hs:L[x.i]?=some s):List (Pl Tryz.prog):=
 [ixV 12001 0 5 A N c (L.map hstC) x.i 100 (by rw [List.length_map];exact hN.symm) hi,ldV 12002 0 5 A c (L.map hstC) x.i (hstC s) (by rw [List.getElem?_map,hs];rfl),
  fA 13001 (wI (x:=11+(x.i:Int)) (n:=11+x.i) (by omega) (by have:=x.le;have:=x.n30;omega))]
noncomputable abbrev pInc {N:Nat} (x:HgI K2 K3 e1 N):Pl Tryz.prog:=fA 60000 (wI (x:=(x.i:Int)+1) (n:=x.i+1) (by omega) (by have:=x.le;have:=x.n30;omega))
set_option maxRecDepth 100000
set_option maxHeartbeats 4000000
noncomputable abbrev hgC (κ:Kp) (w:World) (A:Option Addr) (c:Nat) (L:List HSt):Cx Tryz.prog:=cx Tryz.prog (hgS A c L) κ w
/-- A count: how often what stands at tgt was met among the first y. -/
structure CnI(lim tgt:Nat) where
 y:Nat
 n:Nat
 le:y<=lim
 h:n=if tgt<y then 1 else 0
def CnI.zero(lim tgt:Nat):CnI lim tgt:=⟨0,0,Nat.zero_le _,by simp⟩
def CnI.hit{lim tgt:Nat}(i:CnI lim tgt)(hl:i.y<lim)(e:i.y=tgt):CnI lim tgt:=⟨i.y+1,i.n+1,hl,by have h1:=i.h;rw [if_neg (by omega)] at h1;rw [if_pos (by omega)];omega⟩
def CnI.pass{lim tgt:Nat}(i:CnI lim tgt)(hl:i.y<lim)(e:i.y≠tgt):CnI lim tgt:=⟨i.y+1,i.n,hl,by have h1:=i.h;by_cases h2:tgt<i.y;(· rw [if_pos h2] at h1;rw [if_pos (by omega)];omega);(· rw [if_neg h2] at h1;rw [if_neg (by omega)];omega)⟩
theorem CnI.all{lim tgt:Nat}(i:CnI lim tgt)(hl:¬ i.y<lim)(ht:tgt<lim):i.n=1:=by
 have h1:=i.h;have:=i.le;rw [if_pos (by omega)] at h1;exact h1
theorem CnI.le1{lim tgt:Nat}(i:CnI lim tgt):i.n<=1:=by
 have h1:=i.h;split at h1 <;> omega
structure LeI(lim:Nat) where
 y:Nat
 le:y<=lim
section
variable(ka K1 K2 K3:Fin 16->UInt8)
noncomputable def J1 (A:Option Addr) (c n xi:Nat) (t:STab) (m a:Nat) (B:List Bg) (M:List (Bg × Nat)) (sl:List Sh) (sid r:Nat) (K:Fin 16->UInt8) (tgt:Nat):Fm (CnI m tgt):=
 ⟨fun i=>hgV A c n m a xi++[(15,.p 18 0),(16,.p 19 0),(18,aI (i.n:Int)),(138,.o 10 m),(139,aI (m:Int)),(140,aI (i.y:Int))],fun _=>[eB 20 (mkB 98 r),.blk 19 115 [aS bBOB,aS bANN,aI (sid:Int),.o 20 16],.blk 18 113 ([aS bANN,aI (sid:Int)]++aK K)]++hgE ka K1 K2 K3 t m a B M sl,21⟩
noncomputable def J2 (A:Option Addr) (c n xi:Nat) (t:STab) (m a:Nat) (B:List Bg) (M:List (Bg × Nat)) (sl:List Sh) (sid r:Nat) (K:Fin 16->UInt8) (n0:Nat):Fm (LeI a):=
 ⟨fun i=>hgV A c n m a xi++[(15,.p 18 0),(16,.p 19 0),(18,aI (n0:Int)),(169,.o 14 a),(170,aI (a:Int)),(171,aI (i.y:Int))],fun _=>[eB 20 (mkB 98 r),.blk 19 115 [aS bBOB,aS bANN,aI (sid:Int),.o 20 16],.blk 18 113 ([aS bANN,aI (sid:Int)]++aK K)]++hgE ka K1 K2 K3 t m a B M sl,21⟩
noncomputable def J3 (A:Option Addr) (c n xi:Nat) (t:STab) (m a:Nat) (B:List Bg) (M:List (Bg × Nat)) (sl:List Sh) (sid r:Nat):Fm (LeI m):=
 ⟨fun i=>hgV A c n m a xi++[(23,.p 18 0),(216,.o 10 m),(217,aI (m:Int)),(218,aI (i.y:Int))],fun _=>[eB 19 (mkB 98 r),.blk 18 115 [aS bBOB,aS bANN,aI (sid:Int),.o 19 16]]++hgE ka K1 K2 K3 t m a B M sl,20⟩
noncomputable def J4 (A:Option Addr) (c n xi:Nat) (t:STab) (m a:Nat) (B:List Bg) (M:List (Bg × Nat)) (sl:List Sh) (sid r y:Nat) (g:Bg) (tgt:Nat):Fm (CnI a tgt):=
 ⟨fun i=>hgV A c n m a xi++[(23,.p 18 0),(216,.o 10 m),(217,aI (m:Int)),(218,aI (y:Int)),(25,.p 20 0),(26,aI (i.n:Int)),(231,.o 14 a),(232,aI (a:Int)),(233,aI (i.y:Int))],fun _=>[.blk 20 106 ([aS bBOB,aI (g.sid:Int)]++aK g.K++[aI (g.tm:Int),aI (g.q:Int)]),eB 19 (mkB 98 r),.blk 18 115 [aS bBOB,aS bANN,aI (sid:Int),.o 19 16]]++hgE ka K1 K2 K3 t m a B M sl,21⟩
end
/-- The stage, before the first step. -/
noncomputable def hg0 {Kk ka kb K1 K2 K3:Fin 16->UInt8} {t:STab} {bx:List SSealed} {b1 c1 e1:Bytes} (O:Op18 Kk ka kb K1 K2 K3 t b1 c1 e1 bx) (N:Nat) (hN:N<=30):HgI K2 K3 e1 N:=
 ⟨0,t,[],0,[],0,bx,Nat.zero_le _,hN,rfl,rfl,Nat.le_refl _,O.T,O.n9,O.sm,O.i7,fun j g h=>(by cases j <;> cases h),fun p h=>absurd h List.not_mem_nil,.nil⟩
theorem hg_go(A:Option Addr)(c:Nat)(L:List HSt)(hL:L.length<=30):Spec Tryz.prog (hgS A c L):=by
 obtain ⟨Kk,ka,kb,K1,K2,K3,t,b1,c1,e1,bx,O⟩:=op18
 refine sE (fun κ w=>?_)
 refine kL (C:=hgC κ w A c L) [cA 1000 alive18_s [],fA 3002 (isF (show ¬ (30:Int)<(L.length:Int) by omega)),cA 5000 O.a [],nlL 6000 106 20,nlL 7000 102 6,nlL 8000 113 18,nlL 9000 115 4] [] (J0 ka K1 K2 K3 e1 A c L.length) (fun x=>L.length-x.i) (hg0 O L.length hL) [] (fun Kp x y hKp=>?_) (fun x=>by kernel_rfl)
 refine kIf [] [] 42 ((x.i:Int)<(L.length:Int)) (fun hi=>?_) (fun _=>kEnd [])
 have hi:x.i<L.length:=by omega
 obtain ⟨s,hs⟩:∃ s,L[x.i]?=some s:=⟨_,List.getElem?_eq_getElem hi⟩
 by_cases k0:s.kind=0
 · obtain ⟨sid,hsid,hs3⟩:=and_mask s.sid 3 (by decide)
   obtain ⟨K4,t',R⟩:=hgBeg x hi (sid:=sid) (by omega) ka K1
   obtain ⟨z,h1,h2,h3,h4,h5,h6⟩:=R.n
   obtain ⟨zi,zt,zB,zm,zM,za,zbx,p1,p2,p3,p4,p5,p6,p7,p8,p9,p10,p11,p12⟩:=z
   simp only at h1 h2 h3 h4 h5 h6
   subst h1;subst h2;subst h3;subst h4;subst h5;subst h6
   have hmi:=x.mi
   exact kK (pStep (A:=A) (c:=c) x s rfl hi hs++[fA 15000 (eqT k0),fA 16012 (show Value.int .i64 (bits .and .i64 s.sid ((3:Nat):Int))=.int .i64 (sid:Int) by rw [hsid]),cA 16013 R.a [],
     psL 19003 10 106 20 x.m (x.B.flatMap offE) (offE ⟨sid,K4,11+x.i,2+x.m+1,x.bx.length+1⟩) (x.m+1) ((x.B++[(⟨sid,K4,11+x.i,2+x.m+1,x.bx.length+1⟩:Bg)]).flatMap offE) (by omega) rfl (by simp),
     psL 19007 12 102 6 x.m (x.B.flatMap begE) (begE ⟨sid,K4,11+x.i,2+x.m+1,x.bx.length+1⟩) (x.m+1) ((x.B++[(⟨sid,K4,11+x.i,2+x.m+1,x.bx.length+1⟩:Bg)]).flatMap begE) (by omega) rfl (by simp),pInc x])
     (⟨x.i+1,zt,x.B++[⟨sid,K4,11+x.i,2+x.m+1,x.bx.length+1⟩],x.m+1,x.M,x.a,zbx,p1,p2,p3,p4,p5,p6,p7,p8,p9,p10,p11,p12⟩:HgI K2 K3 e1 L.length) (fun a w' hin=>hKp _ a w' (show L.length-(x.i+1)<L.length-x.i by omega) hin)
 by_cases k1:s.kind=1
 · by_cases hm0:x.m=0
   · exact kK (pStep (A:=A) (c:=c) x s rfl hi hs++[fA 15000 (eqF k0),fA 20000 (eqT k1),fA 21002 (eqT (show (x.m:Int)=0 by omega)),pInc x]) (x.skip hi) (fun a w' hin=>hKp _ a w' (show L.length-(x.i+1)<L.length-x.i by omega) hin)
   obtain ⟨pa,ja,ga,ha1,ha2,hga⟩:=at_rem x.hm (by omega) s.a
   obtain ⟨pb,jb,gb,hb1,hb2,hgb⟩:=at_rem x.hm (by omega) s.b
   obtain ⟨pc,jc,gc,hc1,hc2,hgc⟩:=at_rem x.hm (by omega) s.c
   have hjl:∀ {j:Nat} {g:Bg},x.B[j]?=some g->j<x.m:=fun h=>by rw [← x.hm];exact (List.getElem?_eq_some_iff.1 h).1
   obtain ⟨la,la2⟩:=flatM_sub begE_len hga 0 (begE ga) rfl (by rw [begE_len];decide)
   obtain ⟨lb,lb2⟩:=flatM_sub begE_len hgb 5 [Ce.b (mkB 98 gb.n)] rfl (Nat.le_of_ble_eq_true rfl)
   by_cases hsd:gc.sid=gb.sid
   · obtain ⟨lc,lc2⟩:=flatM_sub begE_len hgc 2 [Ce.v (.int .i64 (gb.sid:Int))] (by rw [← hsd];rfl) (Nat.le_of_ble_eq_true rfl)
     by_cases hin:∃ p ∈ x.M,p.1.q=gb.q
     · have k:=hg_again x O.v1 hi hgb hin
       exact kK (pStep (A:=A) (c:=c) x s rfl hi hs++[fA 15000 (eqF k0),fA 20000 (eqT k1),fA 21002 (eqF (show (x.m:Int)≠0 by omega)),fA 22003 ha1,rmA 22006 pa x.m ja (by omega) ha2,ixL 22007 12 102 6 x.m (x.B.flatMap begE) ja (hjl hga),ldL 22008 12 13 102 6 x.m (x.B.flatMap begE) (ja*6) (begE ga) (by omega) la la2,
         fA 23003 hb1,rmA 23006 pb x.m jb (by omega) hb2,ixL 23007 12 102 6 x.m (x.B.flatMap begE) jb (hjl hgb),ldL 23009 12 13 102 6 x.m (x.B.flatMap begE) (jb*6+5) [Ce.b (mkB 98 gb.n)] (by omega) lb lb2,
         fA 23013 hc1,rmA 23016 pc x.m jc (by omega) hc2,ixL 23017 12 102 6 x.m (x.B.flatMap begE) jc (hjl hgc),ldL 23019 12 13 102 6 x.m (x.B.flatMap begE) (jc*6+2) [Ce.v (.int .i64 (gb.sid:Int))] (by omega) lc lc2,cA 24015 k [],pInc x]) (x.skip hi) (fun a w' hin=>hKp _ a w' (show L.length-(x.i+1)<L.length-x.i by omega) hin)
     obtain ⟨t',R⟩:=hgAcc x O.v1 hi hgb hin
     obtain ⟨z,h1,h2,h3,h4,h5,h6⟩:=R.n
     obtain ⟨zi,zt,zB,zm,zM,za,zbx,p1,p2,p3,p4,p5,p6,p7,p8,p9,p10,p11,p12⟩:=z
     simp only at h1 h2 h3 h4 h5 h6
     subst h1;subst h2;subst h3;subst h4;subst h5;subst h6
     have hmi:=x.mi
     have hn30:=x.n30
     have hle:=x.le
     have hjb:=hjl hgb
     refine kL (pStep (A:=A) (c:=c) x s rfl hi hs++[fA 15000 (eqF k0),fA 20000 (eqT k1),fA 21002 (eqF (show (x.m:Int)≠0 by omega)),fA 22003 ha1,rmA 22006 pa x.m ja (by omega) ha2,ixL 22007 12 102 6 x.m (x.B.flatMap begE) ja (hjl hga),ldL 22008 12 13 102 6 x.m (x.B.flatMap begE) (ja*6) (begE ga) (by omega) la la2,
       fA 23003 hb1,rmA 23006 pb x.m jb (by omega) hb2,ixL 23007 12 102 6 x.m (x.B.flatMap begE) jb (hjl hgb),ldL 23009 12 13 102 6 x.m (x.B.flatMap begE) (jb*6+5) [Ce.b (mkB 98 gb.n)] (by omega) lb lb2,
       fA 23013 hc1,rmA 23016 pc x.m jc (by omega) hc2,ixL 23017 12 102 6 x.m (x.B.flatMap begE) jc (hjl hgc),ldL 23019 12 13 102 6 x.m (x.B.flatMap begE) (jc*6+2) [Ce.v (.int .i64 (gb.sid:Int))] (by omega) lc lc2,cA 24015 R.a []]) []
       (J1 ka K1 K2 K3 A c L.length x.i zt x.m x.a x.B x.M (slM (x.M++[(gb,x.bx.length+1)])) gb.sid (x.bx.length+1) gb.K jb) (fun i=>x.m-i.y) (CnI.zero _ _) [] (fun KK i y2 hKK=>?_) (fun i=>by kernel_rfl)
     have hle1:=i.le;have hn1:=i.le1
     refine kIf [] [] 141 ((i.y:Int)<(x.m:Int)) (fun hy=>?_) (fun hy=>?_)
     · have hy:i.y<x.m:=by omega
       obtain ⟨g,hg⟩:∃ g,x.B[i.y]?=some g:=⟨_,List.getElem?_eq_getElem (by rw [x.hm];exact hy)⟩
       obtain ⟨lo,lo2⟩:=flatM_sub offE_len hg 0 (offE g) (by rw [List.drop_zero,List.take_of_length_le (Nat.le_refl _)]) (by rw [offE_len];decide)
       by_cases e:i.y=jb
       · have eg:g=gb:=by rw [e,hgb] at hg;exact (Option.some.inj hg).symm
         subst eg
         exact kK [ixL 29000 10 106 20 x.m (x.B.flatMap offE) i.y hy,ldL 29001 10 11 106 20 x.m (x.B.flatMap offE) (i.y*20) (offE g) (by omega) lo lo2,seA 30004 41 _ (selfKey g.K) kyG,fA 30010 (eqT (rfl:(g.sid:Int)=(g.sid:Int))),fA 31001 (wI (x:=(i.n:Int)+1) (n:=i.n+1) (by omega) (by omega)),fA 32000 (wI (x:=(i.y:Int)+1) (n:=i.y+1) (by omega) (by omega))]
           (i.hit hy e) (fun a w' hin=>hKK (i.hit hy e) a w' (show x.m-(i.y+1)<x.m-i.y by omega) hin)
       exact kK [ixL 29000 10 106 20 x.m (x.B.flatMap offE) i.y hy,ldL 29001 10 11 106 20 x.m (x.B.flatMap offE) (i.y*20) (offE g) (by omega) lo lo2,knA 30004 g.K gb.K (hg_key x hg hgb e),fA 32000 (wI (x:=(i.y:Int)+1) (n:=i.y+1) (by omega) (by omega))]
         (i.pass hy e) (fun a w' hin=>hKK (i.pass hy e) a w' (show x.m-(i.y+1)<x.m-i.y by omega) hin)
     have hn:=i.all (by omega) hjb
     refine kL [] [] (J2 ka K1 K2 K3 A c L.length x.i zt x.m x.a x.B x.M (slM (x.M++[(gb,x.bx.length+1)])) gb.sid (x.bx.length+1) gb.K i.n) (fun i=>x.a-i.y) ⟨0,Nat.zero_le _⟩ [] (fun KL u y3 hKL=>?_) (fun i=>by kernel_rfl)
     have hle2:=u.le
     refine kIf [] [] 172 ((u.y:Int)<(x.a:Int)) (fun hu=>?_) (fun hu=>?_)
     · have hu:u.y<x.a:=by omega
       obtain ⟨p,hp⟩:∃ p,x.M[u.y]?=some p:=⟨_,List.getElem?_eq_getElem (by rw [x.ha];exact hu)⟩
       obtain ⟨lo,lo2⟩:=flatM_sub metE_len hp 0 (metE p) (by rw [List.drop_zero,List.take_of_length_le (Nat.le_refl _)]) (by rw [metE_len];decide)
       have hpm:=List.mem_of_getElem? hp
       obtain ⟨⟨j',hj'⟩,_⟩:=x.hM p hpm
       have hne:j'≠jb:=fun e=>hin ⟨p,hpm,by rw [e,hgb] at hj';rw [← Option.some.inj hj']⟩
       exact kK [ixL 35000 14 113 18 x.a (x.M.flatMap metE) u.y hu,ldL 35001 14 15 113 18 x.a (x.M.flatMap metE) (u.y*18) (metE p) (by omega) lo lo2,knA 36004 p.1.K gb.K (hg_key x hj' hgb hne),fA 38000 (wI (x:=(u.y:Int)+1) (n:=u.y+1) (by omega) (by omega))]
         (⟨u.y+1,hu⟩:LeI x.a) (fun a w' hin=>hKL _ a w' (show x.a-(u.y+1)<x.a-u.y by omega) hin)
     exact kK [fA 39001 (nqF (show (i.n:Int)=1 by omega)),psL 41003 14 113 18 x.a (x.M.flatMap metE) (metE (gb,x.bx.length+1)) (x.a+1) ((x.M++[(gb,x.bx.length+1)]).flatMap metE) (by omega) rfl (by simp),
       psL 41007 16 115 4 x.a (x.M.flatMap ansE) (ansE (gb,x.bx.length+1)) (x.a+1) ((x.M++[(gb,x.bx.length+1)]).flatMap ansE) (by omega) rfl (by simp),pInc x]
       (⟨x.i+1,zt,x.B,x.m,x.M++[(gb,x.bx.length+1)],x.a+1,zbx,p1,p2,p3,p4,p5,p6,p7,p8,p9,p10,p11,p12⟩:HgI K2 K3 e1 L.length) (fun a w' hin=>hKp _ a w' (show L.length-(x.i+1)<L.length-x.i by omega) hin)
   obtain ⟨lc,lc2⟩:=flatM_sub begE_len hgc 2 [Ce.v (.int .i64 (gc.sid:Int))] rfl (Nat.le_of_ble_eq_true rfl)
   have k:=hg_sum x O.v1 hgb hgc hsd (now:=((11+x.i:Nat):Int)) (by have:=x.n30;omega)
   exact kK (pStep (A:=A) (c:=c) x s rfl hi hs++[fA 15000 (eqF k0),fA 20000 (eqT k1),fA 21002 (eqF (show (x.m:Int)≠0 by omega)),fA 22003 ha1,rmA 22006 pa x.m ja (by omega) ha2,ixL 22007 12 102 6 x.m (x.B.flatMap begE) ja (hjl hga),ldL 22008 12 13 102 6 x.m (x.B.flatMap begE) (ja*6) (begE ga) (by omega) la la2,
       fA 23003 hb1,rmA 23006 pb x.m jb (by omega) hb2,ixL 23007 12 102 6 x.m (x.B.flatMap begE) jb (hjl hgb),ldL 23009 12 13 102 6 x.m (x.B.flatMap begE) (jb*6+5) [Ce.b (mkB 98 gb.n)] (by omega) lb lb2,
       fA 23013 hc1,rmA 23016 pc x.m jc (by omega) hc2,ixL 23017 12 102 6 x.m (x.B.flatMap begE) jc (hjl hgc),ldL 23019 12 13 102 6 x.m (x.B.flatMap begE) (jc*6+2) [Ce.v (.int .i64 (gc.sid:Int))] (by omega) lc lc2,cA 24015 k [],pInc x]) (x.skip hi) (fun a w' hin=>hKp _ a w' (show L.length-(x.i+1)<L.length-x.i by omega) hin)
 by_cases k2:s.kind=2
 · by_cases ha0:x.a=0
   · exact kK (pStep (A:=A) (c:=c) x s rfl hi hs++[fA 15000 (eqF k0),fA 20000 (eqF k1),fA 42000 (eqT k2),fA 43002 (eqT (show (x.a:Int)=0 by omega)),pInc x]) (x.skip hi) (fun a w' hin=>hKp _ a w' (show L.length-(x.i+1)<L.length-x.i by omega) hin)
   obtain ⟨qa,ja,pa,ha1,ha2,hpa⟩:=at_rem x.ha (by omega) s.a
   obtain ⟨qb,jb,pb,hb1,hb2,hpb⟩:=at_rem x.ha (by omega) s.b
   have hjl:∀ {j:Nat} {p:Bg × Nat},x.M[j]?=some p->j<x.a:=fun h=>by rw [← x.ha];exact (List.getElem?_eq_some_iff.1 h).1
   obtain ⟨la,la2⟩:=flatM_sub ansE_len hpa 0 (ansE pa) rfl (by rw [ansE_len];decide)
   obtain ⟨lb,lb2⟩:=flatM_sub ansE_len hpb 2 [Ce.v (.int .i64 (pb.1.sid:Int))] rfl (Nat.le_of_ble_eq_true rfl)
   have hmi:=x.mi
   have hn30:=x.n30
   have hle:=x.le
   refine kL (pStep (A:=A) (c:=c) x s rfl hi hs++[fA 15000 (eqF k0),fA 20000 (eqF k1),fA 42000 (eqT k2),fA 43002 (eqF (show (x.a:Int)≠0 by omega)),fA 44003 ha1,rmA 44006 qa x.a ja (by omega) ha2,ixL 44007 16 115 4 x.a (x.M.flatMap ansE) ja (hjl hpa),ldL 44008 16 17 115 4 x.a (x.M.flatMap ansE) (ja*4) (ansE pa) (by omega) la la2,
       fA 45003 hb1,rmA 45006 qb x.a jb (by omega) hb2,ixL 45007 16 115 4 x.a (x.M.flatMap ansE) jb (hjl hpb),ldL 45009 16 17 115 4 x.a (x.M.flatMap ansE) (jb*4+2) [Ce.v (.int .i64 (pb.1.sid:Int))] (by omega) lb lb2]) []
     (J3 ka K1 K2 K3 A c L.length x.i x.t x.m x.a x.B x.M (slM x.M) pb.1.sid pa.2) (fun i=>x.m-i.y) ⟨0,Nat.zero_le _⟩ [] (fun KK i y2 hKK=>?_) (fun i=>by kernel_rfl)
   have hle1:=i.le
   refine kIf [] [] 219 ((i.y:Int)<(x.m:Int)) (fun hy=>?_) (fun hy=>?_)
   · have hy:i.y<x.m:=by omega
     obtain ⟨g,hg⟩:∃ g,x.B[i.y]?=some g:=⟨_,List.getElem?_eq_getElem (by rw [x.hm];exact hy)⟩
     have hlo:∀ g',g'=g->((x.B.flatMap offE).drop (i.y*20+0)).take (offE g').length=offE g'/\i.y*20+0+(offE g').length<=(x.B.flatMap offE).length:=fun g' e=>by
       subst e
       exact flatM_sub offE_len hg 0 (offE g') (by rw [List.drop_zero,List.take_of_length_le (Nat.le_refl _)]) (by rw [offE_len];decide)
     by_cases hsd:pb.1.sid=g.sid
     · have e':({ g with sid:=pb.1.sid }:Bg)=g:=by rw [hsd]
       by_cases hq:pa.1.q=g.q
       · have hpm:=List.mem_of_getElem? hpa
         obtain ⟨⟨j',hj'⟩,_⟩:=x.hM pa hpm
         have hjy:j'=i.y:=by have h1:=(x.hB j' _ hj').q;have h2:=(x.hB _ _ hg).q;omega
         have epg:pa.1=g:=by rw [hjy,hg] at hj';exact (Option.some.inj hj').symm
         obtain ⟨lo,lo2⟩:=hlo _ e'
         have hmem:(({ g with sid:=pb.1.sid }:Bg),pa.2) ∈ x.M:=by rw [e',← epg];exact hpm
         have k:=hg_f3 x hmem
         refine kL [ixL 48000 10 106 20 x.m (x.B.flatMap offE) i.y hy,ldL 48001 10 11 106 20 x.m (x.B.flatMap offE) (i.y*20) (offE { g with sid:=pb.1.sid }) (by omega) lo lo2,cA 49007 k []] []
           (J4 ka K1 K2 K3 A c L.length x.i x.t x.m x.a x.B x.M (slM x.M) pb.1.sid pa.2 i.y { g with sid:=pb.1.sid } ja) (fun i=>x.a-i.y) (CnI.zero _ _) [] (fun KL u y3 hKL=>?_) (fun i=>by kernel_rfl)
         have hle2:=u.le;have hn1:=u.le1
         refine kIf [] [] 234 ((u.y:Int)<(x.a:Int)) (fun hu=>?_) (fun hu=>?_)
         · have hu:u.y<x.a:=by omega
           obtain ⟨p,hp⟩:∃ p,x.M[u.y]?=some p:=⟨_,List.getElem?_eq_getElem (by rw [x.ha];exact hu)⟩
           have hmo:∀ p',p'=p->((x.M.flatMap metE).drop (u.y*18+0)).take (metE p').length=metE p'/\u.y*18+0+(metE p').length<=(x.M.flatMap metE).length:=fun p' e=>by
             subst e
             exact flatM_sub metE_len hp 0 (metE p') (by rw [List.drop_zero,List.take_of_length_le (Nat.le_refl _)]) (by rw [metE_len];decide)
           by_cases e:u.y=ja
           · have ep:(({ g with sid:=pb.1.sid }:Bg),pa.2)=p:=by
               rw [e,hpa] at hp
               rw [← Option.some.inj hp,e',← epg]
             obtain ⟨mo,mo2⟩:=hmo _ ep
             exact kK [ixL 53000 14 113 18 x.a (x.M.flatMap metE) u.y hu,ldL 53001 14 15 113 18 x.a (x.M.flatMap metE) (u.y*18) (metE (({ g with sid:=pb.1.sid }:Bg),pa.2)) (by omega) mo mo2,seA 54004 41 _ (selfKey g.K) kyG,fA 54010 (eqT (rfl:(pb.1.sid:Int)=(pb.1.sid:Int))),fA 55001 (wI (x:=(u.n:Int)+1) (n:=u.n+1) (by omega) (by omega)),fA 56000 (wI (x:=(u.y:Int)+1) (n:=u.y+1) (by omega) (by omega))]
               (u.hit hu e) (fun a w' hin=>hKL (u.hit hu e) a w' (show x.a-(u.y+1)<x.a-u.y by omega) hin)
           obtain ⟨mo,mo2⟩:=hmo _ rfl
           obtain ⟨⟨j2,hj2⟩,_⟩:=x.hM p (List.mem_of_getElem? hp)
           have hne:j2≠i.y:=fun e3=>by
             rw [e3,hg] at hj2
             have h3:=List.pairwise_iff_getElem.1 x.hd
             obtain ⟨hu1,hu2⟩:=List.getElem?_eq_some_iff.1 hp
             obtain ⟨ha3,ha4⟩:=List.getElem?_eq_some_iff.1 hpa
             have h4:p.1.q=pa.1.q:=by rw [← Option.some.inj hj2,epg]
             rcases Nat.lt_or_gt_of_ne e with hlt|hgt
             · exact h3 u.y ja hu1 ha3 hlt (by rw [hu2,ha4];exact h4)
             exact h3 ja u.y ha3 hu1 hgt (by rw [hu2,ha4];exact h4.symm)
           exact kK [ixL 53000 14 113 18 x.a (x.M.flatMap metE) u.y hu,ldL 53001 14 15 113 18 x.a (x.M.flatMap metE) (u.y*18) (metE p) (by omega) mo mo2,knA 54004 p.1.K g.K (hg_key x hj2 hg hne),fA 56000 (wI (x:=(u.y:Int)+1) (n:=u.y+1) (by omega) (by omega))]
             (u.pass hu e) (fun a w' hin=>hKL (u.pass hu e) a w' (show x.a-(u.y+1)<x.a-u.y by omega) hin)
         have hn:=u.all (by omega) (hjl hpa)
         exact kK [fA 57001 (nqF (show (u.n:Int)=1 by omega)),fA 59000 (wI (x:=(i.y:Int)+1) (n:=i.y+1) (by omega) (by omega))] (⟨i.y+1,hy⟩:LeI x.m) (fun a w' hin=>hKK _ a w' (show x.m-(i.y+1)<x.m-i.y by omega) hin)
       obtain ⟨lo,lo2⟩:=hlo _ e'
       have k:=hg_f2 x (g:={ g with sid:=pb.1.sid }) (by rw [e'];exact hg) (List.mem_of_getElem? hpa) hq
       exact kK [ixL 48000 10 106 20 x.m (x.B.flatMap offE) i.y hy,ldL 48001 10 11 106 20 x.m (x.B.flatMap offE) (i.y*20) (offE { g with sid:=pb.1.sid }) (by omega) lo lo2,cA 49007 k [],fA 59000 (wI (x:=(i.y:Int)+1) (n:=i.y+1) (by omega) (by omega))] (⟨i.y+1,hy⟩:LeI x.m) (fun a w' hin=>hKK _ a w' (show x.m-(i.y+1)<x.m-i.y by omega) hin)
     obtain ⟨lo,lo2⟩:=hlo _ rfl
     have k:=hg_f1 x (g:=g) (n:=pa.2) hsd
     exact kK [ixL 48000 10 106 20 x.m (x.B.flatMap offE) i.y hy,ldL 48001 10 11 106 20 x.m (x.B.flatMap offE) (i.y*20) (offE g) (by omega) lo lo2,cA 49007 k [],fA 59000 (wI (x:=(i.y:Int)+1) (n:=i.y+1) (by omega) (by omega))] (⟨i.y+1,hy⟩:LeI x.m) (fun a w' hin=>hKK _ a w' (show x.m-(i.y+1)<x.m-i.y by omega) hin)
   exact kK [pInc x] (x.skip hi) (fun a w' hin=>hKp _ a w' (show L.length-(x.i+1)<L.length-x.i by omega) hin)
 exact kK (pStep (A:=A) (c:=c) x s rfl hi hs++[fA 15000 (eqF k0),fA 20000 (eqF k1),fA 42000 (eqF k2),pInc x]) (x.skip hi) (fun a w' hin=>hKp _ a w' (show L.length-(x.i+1)<L.length-x.i by omega) hin)
end
end
section
open Go.RowKit Go.QT
set_option maxRecDepth 100000
set_option maxHeartbeats 4000000
theorem hg_long(A:Option Addr)(c:Nat)(L:List HSt)(hL:¬ L.length<=30):Spec Tryz.prog (hgS A c L):=s1 [cA 1000 alive18_s [],fA 3002 (isT (show (30:Int)<(L.length:Int) by omega))]
theorem handAgrees_all(A:Option Addr)(c:Nat)(L:List HSt)(W:World)(hr:RV W 5 A c (L.map hstC)):Calls Tryz.prog 7 #[.slice A L.length c] W (DPost W (.bool true)):=by
 by_cases h:L.length<=30
 · exact law1_s (hg_go A c L h) W hr fun _=>rfl
 exact law1_s (hg_long A c L h) W hr fun _=>rfl
end
section
open Go.ChangeShapes Go.WideShapes Go.ChangeAt Go.RowKit
theorem handAgrees_lifted(os:Os)(started:os.Started)(H:Type)(enc:TypeId × Value->H) :
   ReturnsInHanded {} Tryz.checked os 7 .any (Rows.handAgreesSpec.pre6 enc Tryz.prog Tryz.f7 Rows.handAgreesRow.domain false) (Rows.handAgreesSpec.post enc Tryz.prog Tryz.f7 false true false false):=by
 refine returnsInHanded_of_change (C:=Tryz.checked) Tryz.own started (by kernel_rfl) Tryz.func7
   (ChangeSpec.witness6 (enc:=enc) (C:=Tryz.checked) false ⟨#[],#[.slice none 0 0],[]⟩ 8 (by kernel_rfl) (by kernel_rfl) (by kernel_rfl) (by kernel_rfl)) ?_
 intro W base args ds gs before hval0 hW hcnd _
 have hval:∀ (j:Nat) t v,Tryz.f7.params[j]?=some t->args[j]?=some v->Value.okWide Tryz.prog W .any base t v:=hval0
 have hpost:∀ W',Below W.heap.size W W'->Rows.handAgreesSpec.post enc Tryz.prog Tryz.f7 false true false false W args (.bool true) W':=fun W' hb =>
   law_post Tryz.laidOut (by kernel_rfl) Tryz.underlying4 rfl rfl (fun ds hds=>by
     have hn:ds.length=1:=hds
     match ds,hn with
     | [_],_=>rfl) hW hb
 obtain ⟨p,q,hA0,hV,rfl,hfz,hnd⟩:=hW
 have hA:DataW.TrodAll enc Tryz.prog W 0 (fun _=>true) true Tryz.f7.params.toList args.toList ds p:=hA0
 rw [Tryz.params7] at hA hval
 clear hA0 hval0
 obtain ⟨v0,d0,rfl,rfl,h0⟩:=trodAll_one hA
 obtain ⟨A0,c0,L0,rfl,hr0⟩:=open_hst (hval 0 92 v0 rfl rfl) h0
 refine (handAgrees_all A0 c0 L0 W hr0).mono fun e W' ⟨he,hw⟩=>?_
 subst he
 exact ⟨_,rfl,hpost W' hw⟩
theorem handAgrees_holds:Rows.HandAgreesSaid:=
 OpenClaim.holds_of_wide 7 Tryz.f7 rfl rfl rfl rfl rfl rfl rfl ⟨rfl,rfl,rfl,rfl,rfl⟩ rfl rfl rfl rfl rfl (by kernel_rfl) Tryz.func7 (by kernel_rfl)
   (of_decide_eq_true (by kernel_rfl)) (by unfold Func.isWrapper;first|(rw [if_pos (by decide +kernel)];kernel_rfl)|(rw [if_neg (by decide +kernel)];exact ⟨rfl,rfl⟩))
   (fun os started H enc _=>handAgrees_lifted os started H enc)
end
end Go.Proofs.YtaoijkhndakppaaGreat
