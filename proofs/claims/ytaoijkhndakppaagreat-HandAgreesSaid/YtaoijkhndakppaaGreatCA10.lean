/- What was written is read as it: plain. -/
import Derived.Test.YtaoijkhndakppaaGreatCA9
set_option maxRecDepth 100000
set_option maxHeartbeats 4000000
namespace Go.Proofs.YtaoijkhndakppaaGreat
section
open Go.RowKit Go.QT
abbrev TkSt:=List DVal × Bool
def zDV:DVal:=.mk 0 0 0 [] []
def nxV(k:Nat):List DVal->DVal
 | []=>zDV
 | v::_=>if v.kind=k/\v.tag=0 then v else zDV
def nxT(k:Nat):TkSt->TkSt
 | ([],_)=>([],true)
 | (v::r,b)=>if v.kind=k/\v.tag=0 then (r,b) else ([],true)
theorem nx_bad{k:Nat}{v:DVal}{r:List DVal}(h:v.kind≠k∨v.tag≠0)(b:Bool):nxV k (v::r)=zDV/\nxT k (v::r,b)=([],true):=by
 have:¬ (v.kind=k/\v.tag=0):=fun hh=>h.elim (fun h=>h hh.1) (fun h=>h hh.2)
 exact ⟨if_neg this,if_neg this⟩
theorem nx_good{k:Nat}{v:DVal}{r:List DVal}(h:v.kind=k)(h2:v.tag=0)(b:Bool):nxV k (v::r)=v/\nxT k (v::r,b)=(r,b):=⟨if_pos ⟨h,h2⟩,if_pos ⟨h,h2⟩⟩
/-- A number that is taken, and what is left. -/
def numO(T:TkSt):Int:=if (nxV 0 T.1).n>1099511627776 then 0 else (nxV 0 T.1).n
def numT(T:TkSt):TkSt:=((nxT 0 T).1,(nxT 0 T).2 || decide ((nxV 0 T.1).n>1099511627776))
def nameO(T:TkSt):ByteArray:=⟨(nxV 1 T.1).b.toArray⟩
def nameT(T:TkSt):TkSt:=((nxT 1 T).1,(nxT 1 T).2 || !rightN (nameO T))
def keyF(b:Bytes):Bytes:=if b.length=16 then b else zKey
def keyO(T:TkSt):Fin 16->UInt8:=fun i=>gb (keyF (nxV 1 T.1).b) i.val
def keyT(T:TkSt):TkSt:=((nxT 1 T).1,(nxT 1 T).2 || !decide ((nxV 1 T.1).b.length=16))
def truthO(T:TkSt):Bool:=decide ((nxV 0 T.1).n=1)
def truthT(T:TkSt):TkSt:=((nxT 0 T).1,(nxT 0 T).2 || decide ((nxV 0 T.1).n>1))
def bytesO(T:TkSt):Bytes:=(nxV 1 T.1).b
def bytesT(T:TkSt):TkSt:=nxT 1 T
def doneO(T:TkSt):Bool:=!T.2 && decide (T.1.length=0)
/-- No bytes are very long. -/
def Sm(ts:List DVal):Prop:=∀ v ∈ ts,v.b.length<=1000000
theorem Sm.nxV{ts:List DVal}(h:Sm ts)(k:Nat):(nxV k ts).b.length<=1000000:=by
 cases ts with
 | nil=>exact Nat.zero_le _
 | cons v r =>
   by_cases hc:v.kind=k/\v.tag=0
   · rw [(nx_good (r:=r) hc.1 hc.2 true).1];exact h v (by simp)
   rw [Go.Proofs.YtaoijkhndakppaaGreat.nxV,if_neg hc];exact Nat.zero_le _
theorem Sm.nxT{T:TkSt}(h:Sm T.1)(k:Nat):Sm (nxT k T).1:=by
 obtain ⟨ts,b⟩:=T
 cases ts with
 | nil=>intro v hv;cases hv
 | cons v r =>
   by_cases hc:v.kind=k/\v.tag=0
   · rw [(nx_good (r:=r) hc.1 hc.2 b).2];exact fun u hu=>h u (by simp [hu])
   rw [Go.Proofs.YtaoijkhndakppaaGreat.nxT,if_neg hc];intro v hv;cases hv
/-- A list of values, all of which lies in the blocks G. -/
def rLst(G:Nat->Prop)(A:Option Addr)(c:Nat)(ts:List DVal):Res where
 F:=G
 Φ:=fun w=>(∀ q,G q->q<w.heap.size)/\∃ xs,RVF G w 5 A c xs/\xs.length=ts.length/\∀ (i:Nat) (x:List Value) (u:DVal),xs[i]?=some x->ts[i]?=some u->DVR G w x u
 lt:=fun h=>h.1
 keep:=fun h hs hk=>⟨fun q hq=>Nat.lt_of_lt_of_le (h.1 q hq) hs,by
   obtain ⟨_,xs,h1,h2,h3⟩:=h
   exact ⟨xs,h1.keep hs hk,h2,fun i x u hx hu=>(h3 i x u hx hu).keep hs hk⟩⟩
/-- Bytes that lie in the blocks G. -/
def rSG(G:Nat->Prop)(v:Value)(b:Bytes):Res where
 F:=G
 Φ:=fun w=>(∀ q,G q->q<w.heap.size)/\SBF G w v b
 lt:=fun h=>h.1
 keep:=fun h hs hk=>⟨fun q hq=>Nat.lt_of_lt_of_le (h.1 q hq) hs,h.2.keep hs hk⟩
theorem dv_lst{G:Nat->Prop}{w:World}{cs:List Value}{v:DVal}(h:(rDV G cs v).Φ w):∃ B d A c,cs=[.int .i64 (v.kind:Int),.int .i64 (v.tag:Int),.int .u64 (v.n:Int),.slice B v.b.length d,.slice A v.l.length c] /\
   (rSG G (.slice B v.b.length d) v.b).Φ w/\(rLst G A c v.l).Φ w/\v.n<18446744073709551616:=by
 obtain ⟨hF,h⟩:=h
 cases h with
 | mk k t n bv b A c xs ts hn hb hx hl hs =>
   obtain ⟨B,d,rfl,_⟩:=id hb.1
   exact ⟨B,d,A,c,rfl,⟨hF,hb⟩,⟨hF,xs,hx,hl,hs⟩,hn⟩
theorem lst_nil{G:Nat->Prop}{w:World}(hG:∀ q,G q->q<w.heap.size)(A:Option Addr)(c:Nat)(hc:c<=maxLen):(rLst G A c []).Φ w:=⟨hG,[],rvf_nil _ _ _ _ hc _,rfl,by simp⟩
theorem sg_nil{G:Nat->Prop}{w:World}(hG:∀ q,G q->q<w.heap.size):(rSG G (.slice none 0 0) []).Φ w:=⟨hG,sbf_nil _ _⟩
/-- Where a list goes on behind its first one. -/
def tlA(sz:Nat)(A:Option Addr)(c:Nat):Option Addr:=if c=1 then A else A.map (·.add (1*sz))
section
variable{P:Program}{w:World}{sz c:Nat}{A:Option Addr}{x:List Value}{xs:List (List Value)}{o:Oper}{a:Act}
theorem RV.tailA(h:RV w sz A c (x::xs)):RV w sz (tlA sz A c) (c-1) xs:=by
 have hle:=h.le
 rw [List.length_cons] at hle
 refine ⟨by omega,by have:=h.cap;omega,fun y hy=>h.len y (by simp [hy]),fun hne=>?_⟩
 obtain ⟨b,o,rfl,hb,hc⟩:=h.at_ (by simp)
 have hp:=List.length_pos_iff.2 hne
 refine ⟨b,o+sz,?_,hb,fun i y hy j u hu=>?_⟩
 · unfold tlA
   rw [if_neg (by omega)]
   simp [Addr.add]
 have:=hc (i+1) y (by simpa using hy) j u hu
 rw [Nat.add_mul,Nat.one_mul] at this
 rw [show o+sz+i*sz+j=o+(i*sz+sz)+j by omega]
 exact this
theorem tlA_own{q:Nat}(h:ownA (tlA sz A c)=some q):ownA A=some q:=by
 unfold tlA at h
 split at h
 · exact h
 cases A with
 | none=>exact h
 | some a=>rw [Option.map_some] at h;rw [← h];show some a.block=some (a.add (1*sz)).block;rw [block_of_add]
theorem RVF.tailA{G:Nat->Prop}(h:RVF G w sz A c (x::xs)):RVF G w sz (tlA sz A c) (c-1) xs:=⟨h.1.tailA,fun _ q hq=>h.2 (by simp) q (tlA_own hq)⟩
/-- v[1:]. -/
theorem e_tailA{n:Nat}(hn:0<n)(t:TypeId)(x lo:Operand)(ho:o.op=.slice t x (some lo) none none)(hx:a.eval x=.slice A n c)(k:IntKind)(hlo:a.eval lo=.int k 1)(ht:P.underlying t=some (.slice (P.elem t)))(hE:pureVal P (sizeOf (P.elem t))=some sz)(W:World) :
   (execOp a.eval o).run P W=.ok (.value (.slice (tlA sz A c) (n-1) (c-1))) W:=by
 have hsz:=pureVal_run hE W
 have hr:(Instr.sliceAt t (.slice A n c) (some (.int k 1)) none none).run P W=.ok (.slice (tlA sz A c) (n-1) (c-1)) W:=by
   rw [run_sliceAt_slice W t _ _ _ _ ht,run_slice_l W t A _ c ht k 1 (by omega) (by omega),hsz]
   rfl
 unfold execOp
 simp only [ho,hx,hlo,Option.map_some,Option.map_none,Sem.run_bind,hr,Result.andThen_ok,Sem.run_pure]
end
theorem lst_tail{G:Nat->Prop}{w:World}{A:Option Addr}{c:Nat}{v:DVal}{r:List DVal}(h:(rLst G A c (v::r)).Φ w):(rLst G (tlA 5 A c) (c-1) r).Φ w:=by
 obtain ⟨hG,xs,h1,h2,h3⟩:=h
 cases xs with
 | nil=>cases h2
 | cons x xs=>exact ⟨hG,xs,h1.tailA,by simpa using h2,fun i y u hy hu=>h3 (i+1) y u (by simpa using hy) (by simpa using hu)⟩
/-- The first one of a list. -/
theorem lst_head{G:Nat->Prop}{w:World}{A:Option Addr}{c:Nat}{v:DVal}{r:List DVal}(h:(rLst G A c (v::r)).Φ w):∃ xs cs,RV w 5 A c xs/\xs.length=(v::r).length/\xs[0]?=some cs/\(rDV G cs v).Φ w/\(∀ q,(rRV 5 A c xs).F q->G q):=by
 obtain ⟨hG,xs,h1,h2,h3⟩:=h
 cases xs with
 | nil=>cases h2
 | cons x xs=>exact ⟨x::xs,x,h1.1,h2,rfl,⟨hG,h3 0 x v rfl rfl⟩,fun q hq=>h1.2 hq.1 q hq.2⟩
/-- What a method of the taker leaves. -/
def TkPost(w:World)(tb:Nat)(G:Nat->Prop)(T:TkSt)(u:Value)(e:Ending)(w':World):Prop:=
 ∃ A c ts b,ts=T.1/\b=T.2/\e=.returned u/\Hp (fun q=>q=tb) w w' [rLst G A c ts] [rBlk tb 287 [.slice A ts.length c,.bool b]]
def BkPost(w:World)(tb:Nat)(G:Nat->Prop)(T:TkSt)(l:Bytes)(e:Ending)(w':World):Prop:=
 ∃ A c ts b B d,ts=T.1/\b=T.2/\e=.returned (.slice B l.length d)/\Hp (fun q=>q=tb) w w' [rLst G A c ts,rSG G (.slice B l.length d) l] [rBlk tb 287 [.slice A ts.length c,.bool b]]
def NxPost(w:World)(tb:Nat)(G:Nat->Prop)(T:TkSt)(v:DVal)(e:Ending)(w':World):Prop:=
 ∃ A c B d A2 c2 ts b,ts=T.1/\b=T.2/\e=.returned (.agg #[.int .i64 (v.kind:Int),.int .i64 (v.tag:Int),.int .u64 (v.n:Int),.slice B v.b.length d,.slice A2 v.l.length c2])/\v.n<18446744073709551616 /\
   Hp (fun q=>q=tb) w w' [rLst G A c ts,rSG G (.slice B v.b.length d) v.b,rLst G A2 c2 v.l] [rBlk tb 287 [.slice A ts.length c,.bool b]]
section
variable{o:Oper}{a:Act}{F0:Nat->Prop}{w0 w w':World}{ro rs:List Res}{tb:Nat}{G:Nat->Prop}{A:Option Addr}{c:Nat}{ts:List DVal}{b:Bool}
/-- What comes back from a call that was given one thing to turn, and what it read. -/
theorem Hp.callR{ro':List Res}(h:Hp F0 w0 w ro rs)(i:Nat){r r':Res}(hi:rs[i]?=some r)(k:Nat){s:Res}(hk:ro[k]?=some s)(hc:Hp r.F w w' ro' [r'])(hL:∀ t ∈ ro',∀ q,t.F q->s.F q):Hp F0 w0 w' (ro'++ro) (rs.set i r'):=by
 have hu:=h.upd i hi hc.fr r' (hc.own 0 _ rfl) (hc.mine 0 _ rfl)
 have hd:∀ t ∈ ro',∀ (j:Nat) (u:Res),(rs.set i r')[j]?=some u->t.dj u:=fun t ht j u hj q h1 h2=>by
   by_cases hij:j=i
   · subst hij
     rw [List.getElem?_set_self (List.getElem?_eq_some_iff.1 hi).1] at hj
     injection hj with hj;subst hj
     obtain ⟨m,hm,rfl⟩:=List.getElem_of_mem ht
     exact hc.rdis m 0 _ _ (List.getElem?_eq_getElem hm) rfl q h1 h2
   rw [List.getElem?_set_ne (by omega)] at hj
   exact h.rdis k j _ u hk hj q (hL t ht q h1) h2
 have hr:∀ t ∈ ro',t.Φ w':=fun t ht=>by
   obtain ⟨m,hm,rfl⟩:=List.getElem_of_mem ht
   exact hc.red m _ (List.getElem?_eq_getElem hm)
 clear hc hL
 induction ro' with
 | nil=>exact hu
 | cons t l ih=>exact (ih (fun t ht=>hd t (by simp [ht])) (fun t ht=>hr t (by simp [ht]))).addR t (hr t (by simp)) (hd t (by simp))
/-- The taker's methods, at their callers. -/
theorem x_tk(h:Hp F0 w0 w ro rs)(i:Nat){cs:List Value}(hi:rs[i]?=some (rBlk tb 287 cs))(k:Nat)(hk:ro[k]?=some (rLst G A c ts)){T:TkSt}{u:Value}(fn:FuncId)(al:List Value)(hp:pureVal Tryz.prog (execOp a.eval o)=some (.enter fn al.toArray))(hc:Calls Tryz.prog fn al.toArray w (TkPost w tb G T u)) :
   OpTo Tryz.prog o a w (fun u' w'=>∃ A c ts b,ts=T.1/\b=T.2/\u'=u/\Hp F0 w0 w' (rLst G A c ts::ro) (rs.set i (rBlk tb 287 [.slice A ts.length c,.bool b]))):=
 OpTo.enter fn al hp hc fun e w' ⟨A,c,ts,b,h1,h2,he,hh⟩=>⟨_,he,A,c,ts,b,h1,h2,rfl,h.callR i hi k hk (Hp.weaken hh (fun q hq=>hq ▸ rfl)) (by intro t ht;simp at ht;subst ht;exact fun q hq=>hq)⟩
theorem x_bk(h:Hp F0 w0 w ro rs)(i:Nat){cs:List Value}(hi:rs[i]?=some (rBlk tb 287 cs))(k:Nat)(hk:ro[k]?=some (rLst G A c ts)){T:TkSt}{l:Bytes}(fn:FuncId)(al:List Value)(hp:pureVal Tryz.prog (execOp a.eval o)=some (.enter fn al.toArray))(hc:Calls Tryz.prog fn al.toArray w (BkPost w tb G T l)) :
   OpTo Tryz.prog o a w (fun u' w'=>∃ A c ts b B d,ts=T.1/\b=T.2/\u'=.slice B l.length d/\Hp F0 w0 w' (rLst G A c ts::rSG G (.slice B l.length d) l::ro) (rs.set i (rBlk tb 287 [.slice A ts.length c,.bool b]))):=
 OpTo.enter fn al hp hc fun e w' ⟨A,c,ts,b,B,d,h1,h2,he,hh⟩=>⟨_,he,A,c,ts,b,B,d,h1,h2,rfl,h.callR i hi k hk (Hp.weaken hh (fun q hq=>hq ▸ rfl)) (by intro t ht;simp at ht;rcases ht with rfl|rfl <;> exact fun q hq=>hq)⟩
theorem x_nx(h:Hp F0 w0 w ro rs)(i:Nat){cs:List Value}(hi:rs[i]?=some (rBlk tb 287 cs))(k:Nat)(hk:ro[k]?=some (rLst G A c ts)){T:TkSt}{v:DVal}(fn:FuncId)(al:List Value)(hp:pureVal Tryz.prog (execOp a.eval o)=some (.enter fn al.toArray))(hc:Calls Tryz.prog fn al.toArray w (NxPost w tb G T v)) :
   OpTo Tryz.prog o a w (fun u' w'=>∃ A c B d A2 c2 ts b,ts=T.1/\b=T.2/\u'=.agg #[.int .i64 (v.kind:Int),.int .i64 (v.tag:Int),.int .u64 (v.n:Int),.slice B v.b.length d,.slice A2 v.l.length c2]/\v.n<18446744073709551616 /\
     Hp F0 w0 w' (rLst G A c ts::rSG G (.slice B v.b.length d) v.b::rLst G A2 c2 v.l::ro) (rs.set i (rBlk tb 287 [.slice A ts.length c,.bool b]))):=
 OpTo.enter fn al hp hc fun e w' ⟨A,c,B,d,A2,c2,ts,b,h1,h2,he,hn,hh⟩=>⟨_,he,A,c,B,d,A2,c2,ts,b,h1,h2,rfl,hn,h.callR i hi k hk (Hp.weaken hh (fun q hq=>hq ▸ rfl)) (by intro t ht;simp at ht;rcases ht with rfl|rfl|rfl <;> exact fun q hq=>hq)⟩
end
end
section
open Go.Value renaming int->iV,slice->lV,string->sV,bool->bV,agg->aV
open Go.RowKit Go.QT
theorem sel1{a s:Res}{j:Nat}(h:[a][j]?=some s):some a=some s:=by
 cases j with
 | zero=>exact h
 | succ j=>cases h
theorem len_pos0{v:DVal}{r:List DVal}:bV ((((v::r).length:Nat):Int) == 0)=bV false:=by
 congr 1
theorem next_nil{tb:Nat}{G:Nat->Prop}{A:Option Addr}{c:Nat}{bad:Bool}(k:Nat){w:World}(hL:(rLst G A c (([]:List DVal))).Φ w)(hb:Blk w tb 287 [.slice A (([]:List DVal)).length c,.bool bad])(hd:¬ G tb):Calls Tryz.prog 130 #[pt tb 0,.int .i64 (k:Int)] w (NxPost w tb G ([],true) zDV):=by
 have hdd:∀ (j:Nat) (s:Res),[rBlk tb 287 [.slice A 0 c,.bool bad]][j]?=some s->(rLst G A c (([]:List DVal))).dj s:=fun j s hj q h1 h2=>by
   have h3:=sel1 hj
   injection h3 with h3
   subst h3
   exact hd (by rw [show q=tb from h2] at h1;exact h1)
 have h0:=((Hp.one (rBlk tb 287 [.slice A 0 c,.bool bad]) hb).weaken (F:=fun q=>q=tb) (fun q hq=>hq)).addR (rLst G A c ([])) hL hdd
 refine mE 55 ?_
 refine mN h0 196 ([zO,zO,(iV .u64 0),zN,zN]) fun g2 w2 h2=>?_
 refine ma h2 1 ?_
 refine mT (xSt h2 1 4 (.tmp 36) (.const zI) 1 zI ([(lV A 0 c),zI])) fun _ w6 h6=>?_
 refine mT (xSt h6 1 194 (.tmp 38) (.const zN) 0 zN ([zN,zI])) fun _ w7 h7=>?_
 refine mT (xSs h7 0 196 (.tmp 4) (.tmp 39) 0 ([zO,zO,(iV .u64 0),zN,zN]) ([zO,zO,(iV .u64 0),zN,zN])) fun _ w9 h9=>?_
 refine mF (post_1 (r:=.cell 4 196) (by kernel_rfl) rfl (rce (h9.at_ 0 rfl)) ?_)
 exact ⟨none,0,none,0,none,0,[],true,rfl,rfl,rfl,by decide,(((h9.sel [1] [] rfl rfl rfl).addR (rLst G none 0 []) (lst_nil (fun q hq=>Nat.lt_of_lt_of_le (hL.1 q hq) h9.fr.size) _ _ (by unfold maxLen;omega)) (fun j s hj q h1 h2=>h9.rdis 0 1 _ s rfl (sel1 hj) q h1 h2)).addR (rSG G (.slice none 0 0) []) (sg_nil (fun q hq=>Nat.lt_of_lt_of_le (hL.1 q hq) h9.fr.size)) (fun j s hj q h1 h2=>h9.rdis 0 1 _ s rfl (sel1 hj) q h1 h2)).addR (rLst G none 0 []) (lst_nil (fun q hq=>Nat.lt_of_lt_of_le (hL.1 q hq) h9.fr.size) _ _ (by unfold maxLen;omega)) (fun j s hj q h1 h2=>h9.rdis 0 1 _ s rfl (sel1 hj) q h1 h2)⟩
theorem next_kind{tb:Nat}{G:Nat->Prop}{A:Option Addr}{c:Nat}{bad:Bool}(k:Nat){w:World}(v:DVal)(r:List DVal)(hk:v.kind≠k)(hL:(rLst G A c (v::r)).Φ w)(hb:Blk w tb 287 [.slice A (v::r).length c,.bool bad])(hd:¬ G tb):Calls Tryz.prog 130 #[pt tb 0,.int .i64 (k:Int)] w (NxPost w tb G ([],true) zDV):=by
 obtain ⟨xs,cs,hx,hll,hxi,hv,hxF⟩:=lst_head hL
 obtain ⟨B,d,A2,c2,rfl,hsg,hls,hn⟩:=dv_lst hv
 have hxx:=hxi
 have hdd:∀ (j:Nat) (s:Res),[rBlk tb 287 [.slice A (v::r).length c,.bool bad]][j]?=some s->(rLst G A c (v::r)).dj s:=fun j s hj q h1 h2=>by
   have h3:=sel1 hj
   injection h3 with h3
   subst h3
   exact hd (by rw [show q=tb from h2] at h1;exact h1)
 have h0:=((((((Hp.one (rBlk tb 287 [.slice A (v::r).length c,.bool bad]) hb).weaken (F:=fun q=>q=tb) (fun q hq=>hq)).addR (rLst G A c (v::r)) hL hdd).addR (rRV 5 A c xs) hx (fun j s hj q h1 h2=>hdd j s hj q (hxF q h1) h2)).addR (rLst G A2 c2 v.l) hls (fun j s hj=>hdd j s hj)).addR (rSG G (.slice B v.b.length d) v.b) hsg (fun j s hj=>hdd j s hj))
 refine mE 55 ?_
 refine mN h0 196 ([zO,zO,(iV .u64 0),zN,zN]) fun g2 w2 h2=>?_
 refine ma h2 1 ?_
 refine mX 11 zV (bV ((((v::r).length:Int)) == 0)) len_pos0 ?_
 refine ma h2 1 ?_
 refine mW 17 (eIx (RV.lenIs (n:=(v::r).length) (h2.rd 2 rfl) hll).2 0 ((v::r).length) (RV.lenIs (n:=(v::r).length) (h2.rd 2 rfl) hll).1 (by simp) 194 (.tmp 16) (.const zO) .i64 196) ?_
 refine mW 18 (e_fldN (RV.lenIs (n:=(v::r).length) (h2.rd 2 rfl) hll).2 0 0 0 ([(zD ((v.kind:Int))),(zD ((v.tag:Int))),(iV .u64 ((v.n:Int))),(lV B v.b.length d),(lV A2 v.l.length c2)]) hxi (.tmp 17) (by kernel_rfl) (fun _ _=>by kernel_rfl) (fun _=>by kernel_rfl) _) ?_
 refine mW 19 (eEl (RV.lenIs (n:=(v::r).length) (h2.rd 2 rfl) hll).2 0 0 ([(zD ((v.kind:Int))),(zD ((v.tag:Int))),(iV .u64 ((v.n:Int))),(lV B v.b.length d),(lV A2 v.l.length c2)]) hxi 3 (.tmp 18) (zD ((v.kind:Int)))) ?_
 refine mX 21 zI (bV (((v.kind:Int)) != ((k:Int)))) (ine hk) ?_
 refine mT (xSt h2 1 4 (.tmp 36) (.const zI) 1 zI ([(lV A ((v::r).length) c),zI])) fun _ w6 h6=>?_
 refine mT (xSt h6 1 194 (.tmp 38) (.const zN) 0 zN ([zN,zI])) fun _ w7 h7=>?_
 refine mT (xSs h7 0 196 (.tmp 4) (.tmp 39) 0 ([zO,zO,(iV .u64 0),zN,zN]) ([zO,zO,(iV .u64 0),zN,zN])) fun _ w9 h9=>?_
 refine mF (post_1 (r:=.cell 4 196) (by kernel_rfl) rfl (rce (h9.at_ 0 rfl)) ?_)
 exact ⟨none,0,none,0,none,0,[],true,rfl,rfl,rfl,by decide,(((h9.sel [1] [] rfl rfl rfl).addR (rLst G none 0 []) (lst_nil (fun q hq=>Nat.lt_of_lt_of_le (hL.1 q hq) h9.fr.size) _ _ (by unfold maxLen;omega)) (fun j s hj q h1 h2=>h9.rdis 3 1 _ s rfl (sel1 hj) q h1 h2)).addR (rSG G (.slice none 0 0) []) (sg_nil (fun q hq=>Nat.lt_of_lt_of_le (hL.1 q hq) h9.fr.size)) (fun j s hj q h1 h2=>h9.rdis 3 1 _ s rfl (sel1 hj) q h1 h2)).addR (rLst G none 0 []) (lst_nil (fun q hq=>Nat.lt_of_lt_of_le (hL.1 q hq) h9.fr.size) _ _ (by unfold maxLen;omega)) (fun j s hj q h1 h2=>h9.rdis 3 1 _ s rfl (sel1 hj) q h1 h2)⟩
theorem next_tag{tb:Nat}{G:Nat->Prop}{A:Option Addr}{c:Nat}{bad:Bool}(k:Nat){w:World}(v:DVal)(r:List DVal)(hk:v.kind=k)(ht:v.tag≠0)(hL:(rLst G A c (v::r)).Φ w)(hb:Blk w tb 287 [.slice A (v::r).length c,.bool bad])(hd:¬ G tb):Calls Tryz.prog 130 #[pt tb 0,.int .i64 (k:Int)] w (NxPost w tb G ([],true) zDV):=by
 obtain ⟨xs,cs,hx,hll,hxi,hv,hxF⟩:=lst_head hL
 obtain ⟨B,d,A2,c2,rfl,hsg,hls,hn⟩:=dv_lst hv
 have hxx:=hxi
 have hdd:∀ (j:Nat) (s:Res),[rBlk tb 287 [.slice A (v::r).length c,.bool bad]][j]?=some s->(rLst G A c (v::r)).dj s:=fun j s hj q h1 h2=>by
   have h3:=sel1 hj
   injection h3 with h3
   subst h3
   exact hd (by rw [show q=tb from h2] at h1;exact h1)
 have h0:=((((((Hp.one (rBlk tb 287 [.slice A (v::r).length c,.bool bad]) hb).weaken (F:=fun q=>q=tb) (fun q hq=>hq)).addR (rLst G A c (v::r)) hL hdd).addR (rRV 5 A c xs) hx (fun j s hj q h1 h2=>hdd j s hj q (hxF q h1) h2)).addR (rLst G A2 c2 v.l) hls (fun j s hj=>hdd j s hj)).addR (rSG G (.slice B v.b.length d) v.b) hsg (fun j s hj=>hdd j s hj))
 refine mE 55 ?_
 refine mN h0 196 ([zO,zO,(iV .u64 0),zN,zN]) fun g2 w2 h2=>?_
 refine ma h2 1 ?_
 refine mX 11 zV (bV ((((v::r).length:Int)) == 0)) len_pos0 ?_
 refine ma h2 1 ?_
 refine mW 17 (eIx (RV.lenIs (n:=(v::r).length) (h2.rd 2 rfl) hll).2 0 ((v::r).length) (RV.lenIs (n:=(v::r).length) (h2.rd 2 rfl) hll).1 (by simp) 194 (.tmp 16) (.const zO) .i64 196) ?_
 refine mW 18 (e_fldN (RV.lenIs (n:=(v::r).length) (h2.rd 2 rfl) hll).2 0 0 0 ([(zD ((v.kind:Int))),(zD ((v.tag:Int))),(iV .u64 ((v.n:Int))),(lV B v.b.length d),(lV A2 v.l.length c2)]) hxi (.tmp 17) (by kernel_rfl) (fun _ _=>by kernel_rfl) (fun _=>by kernel_rfl) _) ?_
 refine mW 19 (eEl (RV.lenIs (n:=(v::r).length) (h2.rd 2 rfl) hll).2 0 0 ([(zD ((v.kind:Int))),(zD ((v.tag:Int))),(iV .u64 ((v.n:Int))),(lV B v.b.length d),(lV A2 v.l.length c2)]) hxi 3 (.tmp 18) (zD ((v.kind:Int)))) ?_
 refine mX 21 zV (bV (((v.kind:Int)) != ((k:Int)))) (ieq hk) ?_
 refine ma h2 1 ?_
 refine mW 28 (eIx (RV.lenIs (n:=(v::r).length) (h2.rd 2 rfl) hll).2 0 ((v::r).length) (RV.lenIs (n:=(v::r).length) (h2.rd 2 rfl) hll).1 (by simp) 194 (.tmp 27) (.const zO) .i64 196) ?_
 refine mW 29 (e_fldN (RV.lenIs (n:=(v::r).length) (h2.rd 2 rfl) hll).2 0 0 1 ([(zD ((v.kind:Int))),(zD ((v.tag:Int))),(iV .u64 ((v.n:Int))),(lV B v.b.length d),(lV A2 v.l.length c2)]) hxi (.tmp 28) (by kernel_rfl) (fun _ _=>by kernel_rfl) (fun _=>by kernel_rfl) _) ?_
 refine mW 30 (eEl (RV.lenIs (n:=(v::r).length) (h2.rd 2 rfl) hll).2 0 1 ([(zD ((v.kind:Int))),(zD ((v.tag:Int))),(iV .u64 ((v.n:Int))),(lV B v.b.length d),(lV A2 v.l.length c2)]) hxi 3 (.tmp 29) (zD ((v.tag:Int)))) ?_
 refine mX 31 zI (bV (((v.tag:Int)) != 0)) (ine (b:=0) ht) ?_
 refine mT (xSt h2 1 4 (.tmp 36) (.const zI) 1 zI ([(lV A ((v::r).length) c),zI])) fun _ w6 h6=>?_
 refine mT (xSt h6 1 194 (.tmp 38) (.const zN) 0 zN ([zN,zI])) fun _ w7 h7=>?_
 refine mT (xSs h7 0 196 (.tmp 4) (.tmp 39) 0 ([zO,zO,(iV .u64 0),zN,zN]) ([zO,zO,(iV .u64 0),zN,zN])) fun _ w9 h9=>?_
 refine mF (post_1 (r:=.cell 4 196) (by kernel_rfl) rfl (rce (h9.at_ 0 rfl)) ?_)
 exact ⟨none,0,none,0,none,0,[],true,rfl,rfl,rfl,by decide,(((h9.sel [1] [] rfl rfl rfl).addR (rLst G none 0 []) (lst_nil (fun q hq=>Nat.lt_of_lt_of_le (hL.1 q hq) h9.fr.size) _ _ (by unfold maxLen;omega)) (fun j s hj q h1 h2=>h9.rdis 3 1 _ s rfl (sel1 hj) q h1 h2)).addR (rSG G (.slice none 0 0) []) (sg_nil (fun q hq=>Nat.lt_of_lt_of_le (hL.1 q hq) h9.fr.size)) (fun j s hj q h1 h2=>h9.rdis 3 1 _ s rfl (sel1 hj) q h1 h2)).addR (rLst G none 0 []) (lst_nil (fun q hq=>Nat.lt_of_lt_of_le (hL.1 q hq) h9.fr.size) _ _ (by unfold maxLen;omega)) (fun j s hj q h1 h2=>h9.rdis 3 1 _ s rfl (sel1 hj) q h1 h2)⟩
theorem next_good{tb:Nat}{G:Nat->Prop}{A:Option Addr}{c:Nat}{bad:Bool}(k:Nat){w:World}(v:DVal)(r:List DVal)(hk:v.kind=k)(ht:v.tag=0)(hL:(rLst G A c (v::r)).Φ w)(hb:Blk w tb 287 [.slice A (v::r).length c,.bool bad])(hd:¬ G tb):Calls Tryz.prog 130 #[pt tb 0,.int .i64 (k:Int)] w (NxPost w tb G (r,bad) v):=by
 obtain ⟨xs,cs,hx,hll,hxi,hv,hxF⟩:=lst_head hL
 obtain ⟨B,d,A2,c2,rfl,hsg,hls,hn⟩:=dv_lst hv
 have hxx:=hxi
 have hdd:∀ (j:Nat) (s:Res),[rBlk tb 287 [.slice A (v::r).length c,.bool bad]][j]?=some s->(rLst G A c (v::r)).dj s:=fun j s hj q h1 h2=>by
   have h3:=sel1 hj
   injection h3 with h3
   subst h3
   exact hd (by rw [show q=tb from h2] at h1;exact h1)
 have h0:=((((((Hp.one (rBlk tb 287 [.slice A (v::r).length c,.bool bad]) hb).weaken (F:=fun q=>q=tb) (fun q hq=>hq)).addR (rLst G A c (v::r)) hL hdd).addR (rRV 5 A c xs) hx (fun j s hj q h1 h2=>hdd j s hj q (hxF q h1) h2)).addR (rLst G A2 c2 v.l) hls (fun j s hj=>hdd j s hj)).addR (rSG G (.slice B v.b.length d) v.b) hsg (fun j s hj=>hdd j s hj))
 refine mE 55 ?_
 refine mN h0 196 ([zO,zO,(iV .u64 0),zN,zN]) fun g2 w2 h2=>?_
 refine ma h2 1 ?_
 refine mX 11 zV (bV ((((v::r).length:Int)) == 0)) len_pos0 ?_
 refine ma h2 1 ?_
 refine mW 17 (eIx (RV.lenIs (n:=(v::r).length) (h2.rd 2 rfl) hll).2 0 ((v::r).length) (RV.lenIs (n:=(v::r).length) (h2.rd 2 rfl) hll).1 (by simp) 194 (.tmp 16) (.const zO) .i64 196) ?_
 refine mW 18 (e_fldN (RV.lenIs (n:=(v::r).length) (h2.rd 2 rfl) hll).2 0 0 0 ([(zD ((v.kind:Int))),(zD ((v.tag:Int))),(iV .u64 ((v.n:Int))),(lV B v.b.length d),(lV A2 v.l.length c2)]) hxi (.tmp 17) (by kernel_rfl) (fun _ _=>by kernel_rfl) (fun _=>by kernel_rfl) _) ?_
 refine mW 19 (eEl (RV.lenIs (n:=(v::r).length) (h2.rd 2 rfl) hll).2 0 0 ([(zD ((v.kind:Int))),(zD ((v.tag:Int))),(iV .u64 ((v.n:Int))),(lV B v.b.length d),(lV A2 v.l.length c2)]) hxi 3 (.tmp 18) (zD ((v.kind:Int)))) ?_
 refine mX 21 zV (bV (((v.kind:Int)) != ((k:Int)))) (ieq hk) ?_
 refine ma h2 1 ?_
 refine mW 28 (eIx (RV.lenIs (n:=(v::r).length) (h2.rd 2 rfl) hll).2 0 ((v::r).length) (RV.lenIs (n:=(v::r).length) (h2.rd 2 rfl) hll).1 (by simp) 194 (.tmp 27) (.const zO) .i64 196) ?_
 refine mW 29 (e_fldN (RV.lenIs (n:=(v::r).length) (h2.rd 2 rfl) hll).2 0 0 1 ([(zD ((v.kind:Int))),(zD ((v.tag:Int))),(iV .u64 ((v.n:Int))),(lV B v.b.length d),(lV A2 v.l.length c2)]) hxi (.tmp 28) (by kernel_rfl) (fun _ _=>by kernel_rfl) (fun _=>by kernel_rfl) _) ?_
 refine mW 30 (eEl (RV.lenIs (n:=(v::r).length) (h2.rd 2 rfl) hll).2 0 1 ([(zD ((v.kind:Int))),(zD ((v.tag:Int))),(iV .u64 ((v.n:Int))),(lV B v.b.length d),(lV A2 v.l.length c2)]) hxi 3 (.tmp 29) (zD ((v.tag:Int)))) ?_
 refine mX 31 zV (bV (((v.tag:Int)) != 0)) (ieq (b:=0) ht) ?_
 refine ma h2 1 ?_
 refine mW 44 (eIx (RV.lenIs (n:=(v::r).length) (h2.rd 2 rfl) hll).2 0 ((v::r).length) (RV.lenIs (n:=(v::r).length) (h2.rd 2 rfl) hll).1 (by simp) 194 (.tmp 43) (.const zO) .i64 196) ?_
 refine mW 45 (e_elemsN (RV.lenIs (n:=(v::r).length) (h2.rd 2 rfl) hll).2 0 0 ([(zD ((v.kind:Int))),(zD ((v.tag:Int))),(iV .u64 ((v.n:Int))),(lV B v.b.length d),(lV A2 v.l.length c2)]) hxi 196 (.tmp 44) (by kernel_rfl) ([(zD ((v.kind:Int))),(zD ((v.tag:Int))),(iV .u64 ((v.n:Int))),(lV B v.b.length d),(lV A2 v.l.length c2)]) (by kernel_rfl) (by kernel_rfl) (by kernel_rfl)) ?_
 refine mN h2 196 ([zO,zO,(iV .u64 0),zN,zN]) fun g6 w6 h6=>?_
 refine mT (xSs h6 0 196 (.tmp 5) (.tmp 45) 0 ([(zD ((v.kind:Int))),(zD ((v.tag:Int))),(iV .u64 ((v.n:Int))),(lV B v.b.length d),(lV A2 v.l.length c2)]) ([(zD ((v.kind:Int))),(zD ((v.tag:Int))),(iV .u64 ((v.n:Int))),(lV B v.b.length d),(lV A2 v.l.length c2)])) fun _ w7 h7=>?_
 refine ma h7 2 ?_
 refine mW 51 (v:=(lV (tlA 5 A c) r.length ((c-1)))) (e_tailA (n:=(v::r).length) (by simp) 194 (.tmp 50) (.const (zD 1)) (by kernel_rfl) (by kernel_rfl) .i64 (by kernel_rfl) (by kernel_rfl) (by kernel_rfl) _) ?_
 refine mT (xSt h7 2 194 (.tmp 53) (.tmp 51) 0 (lV (tlA 5 A c) r.length ((c-1))) ([(lV (tlA 5 A c) r.length ((c-1))),(bV bad)])) fun _ w9 h9=>?_
 refine ma h9 0 ?_
 refine mT (xSs h9 1 196 (.tmp 4) (.tmp 54) 0 ([(zD ((v.kind:Int))),(zD ((v.tag:Int))),(iV .u64 ((v.n:Int))),(lV B v.b.length d),(lV A2 v.l.length c2)]) ([(zD ((v.kind:Int))),(zD ((v.tag:Int))),(iV .u64 ((v.n:Int))),(lV B v.b.length d),(lV A2 v.l.length c2)])) fun _ w11 h11=>?_
 refine mF (post_1 (r:=.cell 4 196) (by kernel_rfl) rfl (rce (h11.at_ 1 rfl)) ?_)
 exact ⟨_,_,_,_,_,_,r,bad,rfl,rfl,rfl,hn,(h11.sel [2] [0,1] rfl rfl rfl).addR (rLst G (tlA 5 A c) (c-1) r) (lst_tail (h11.rd 3 rfl)) (fun j s hj q h1 h2=>h11.rdis 3 2 _ s rfl (sel1 hj) q h1 h2)⟩
theorem next_any{tb:Nat}{G:Nat->Prop}{A:Option Addr}{c:Nat}{bad:Bool}{ts:List DVal}(k:Nat){w:World}(hL:(rLst G A c ts).Φ w)(hb:Blk w tb 287 [.slice A ts.length c,.bool bad])(hd:¬ G tb) :
   Calls Tryz.prog 130 #[pt tb 0,.int .i64 (k:Int)] w (NxPost w tb G (nxT k (ts,bad)) (nxV k ts)):=by
 cases ts with
 | nil=>exact next_nil k hL hb hd
 | cons v r =>
   by_cases hk:v.kind=k
   · by_cases ht:v.tag=0
     · rw [(nx_good (r:=r) hk ht bad).1,(nx_good hk ht bad).2];exact next_good k v r hk ht hL hb hd
     rw [(nx_bad (r:=r) (.inr ht:v.kind≠k∨v.tag≠0) bad).1,(nx_bad (.inr ht:v.kind≠k∨v.tag≠0) bad).2];exact next_tag k v r hk ht hL hb hd
   rw [(nx_bad (r:=r) (.inl hk:v.kind≠k∨v.tag≠0) bad).1,(nx_bad (.inl hk:v.kind≠k∨v.tag≠0) bad).2];exact next_kind k v r hk hL hb hd
end
section
open Go.RowKit Go.QT
theorem truth_eq(ts:List DVal)(b:Bool):(((nxV 0 ts).n:Int) == 1)=truthO (ts,b):=by
 show _=decide ((nxV 0 ts).n=1)
 rw [Bool.eq_iff_iff,beq_iff_eq,decide_eq_true_iff];omega
theorem len_eq0(ts:List DVal):((ts.length:Int) == 0)=decide (ts.length=0):=by
 rw [Bool.eq_iff_iff,beq_iff_eq,decide_eq_true_iff];omega
theorem i64_nat''{n:Nat}(h:n<=1099511627776):IntKind.i64.wrap ((n:Nat):Int)=(n:Int):=by have:=i64_nat (m:=n) (by omega);injection this
theorem kl_keyO(T:TkSt):kl (keyO T)=keyF (nxV 1 T.1).b:=by
 have h:(keyF (nxV 1 T.1).b).length=16:=by
   unfold keyF
   split
   · assumption
   rfl
 obtain ⟨K,hK⟩:=kl_of _ h
 unfold keyO
 rw [hK]
 congr 1
 funext i
 revert i;intro ⟨i,hi⟩
 unfold gb kl
 simp [-List.ofFn_succ,hi]
theorem tk_okey{w:World}{v:Value}{ts:List DVal}{bad:Bool}(h:SB w v (nxV 1 ts).b):Calls Tryz.prog 139 #[v] w (DPost w (.tuple #[.agg (vb (kl (keyO (ts,bad)))).toArray,.bool (decide ((nxV 1 ts).b.length=16))])):=by
 rw [kl_keyO]
 exact okey_any v _ w h
theorem name_sz{T:TkSt}(h:Sm T.1):(nameO T).size<=1000000000:=by
 have:=h.nxV 1
 show (nxV 1 T.1).b.toArray.size<=_
 rw [List.size_toArray];omega
theorem tkNum_any{tb:Nat}{G:Nat->Prop}{A:Option Addr}{c:Nat}{bad:Bool}{ts:List DVal}{w:World}(hL:(rLst G A c ts).Φ w)(hb:Blk w tb 287 [.slice A ts.length c,.bool bad])(hd:¬ G tb):Calls Tryz.prog 107 #[pt tb 0] w (TkPost w tb G (numT (ts,bad)) (.int .i64 (numO (ts,bad)))):=by
 have hdd:∀ (j:Nat) (s:Res),[rBlk tb 287 [.slice A ts.length c,.bool bad]][j]?=some s->(rLst G A c ts).dj s:=fun j s hj q h1 h2=>by
   have h3:=sel1 hj
   injection h3 with h3
   subst h3
   exact hd (by rw [show q=tb from h2] at h1;exact h1)
 have h0:=((Hp.one (rBlk tb 287 [.slice A ts.length c,.bool bad]) hb).weaken (F:=fun q=>q=tb) (fun q hq=>hq)).addR (rLst G A c ts) hL hdd
 refine mE 14 ?_
 refine mT (x_nx h0 0 rfl 0 rfl 130 [(pt tb 0),(Value.int .i64 0)] (by kernel_rfl) (next_any 0 (h0.rd 0 rfl) (h0.at_ 0 rfl) hd)) ?_
 rintro _ w3 ⟨A3,c3,B3,d3,C3,e3,ts3,b3,hts3,hb3,rfl,hn3,h3⟩
 refine mX 6 (Value.int .u64 (((nxV 0 ts).n:Int))) (Value.int .u64 (((nxV 0 ts).n:Int))) rfl ?_
 refine m_if 8 (((nxV 0 ts).n:Int)>1099511627776) (by kernel_rfl) (fun b6=>?_) (fun b6=>?_)
 ·
  refine mT (xSt h3 0 4 (.tmp 11) (.const (Value.bool true)) 1 (Value.bool true) ([(Value.slice A3 ts3.length c3),(Value.bool true)])) fun _ w8 h8=>?_
  refine mP (Value.int .i64 0) ?_
  exact ⟨A3,c3,ts3,true,hts3,(by simp [numT,show (nxV 0 ts).n>1099511627776 from by omega]),(by rw [numO,if_pos (show (nxV 0 ts).n>1099511627776 from by omega)]),h8.sel [0] [0] rfl rfl rfl⟩
 refine mX 13 (Value.int .i64 (((nxV 0 ts).n:Int))) (Value.int .i64 (IntKind.i64.wrap ((nxV 0 ts).n:Int))) (congrArg (Value.int .i64) (i64_nat'' (by omega))) ?_
 refine mP (Value.int .i64 (((nxV 0 ts).n:Int))) ?_
 exact ⟨A3,c3,ts3,b3,hts3,(by rw [hb3];simp [numT,show ¬ (nxV 0 ts).n>1099511627776 from by omega]),(by rw [numO,if_neg (show ¬ (nxV 0 ts).n>1099511627776 from by omega)]),h3.sel [0] [0] rfl rfl rfl⟩
theorem tkTruth_any{tb:Nat}{G:Nat->Prop}{A:Option Addr}{c:Nat}{bad:Bool}{ts:List DVal}{w:World}(hL:(rLst G A c ts).Φ w)(hb:Blk w tb 287 [.slice A ts.length c,.bool bad])(hd:¬ G tb):Calls Tryz.prog 110 #[pt tb 0] w (TkPost w tb G (truthT (ts,bad)) (.bool (truthO (ts,bad)))):=by
 have hdd:∀ (j:Nat) (s:Res),[rBlk tb 287 [.slice A ts.length c,.bool bad]][j]?=some s->(rLst G A c ts).dj s:=fun j s hj q h1 h2=>by
   have h3:=sel1 hj
   injection h3 with h3
   subst h3
   exact hd (by rw [show q=tb from h2] at h1;exact h1)
 have h0:=((Hp.one (rBlk tb 287 [.slice A ts.length c,.bool bad]) hb).weaken (F:=fun q=>q=tb) (fun q hq=>hq)).addR (rLst G A c ts) hL hdd
 refine mE 14 ?_
 refine mT (x_nx h0 0 rfl 0 rfl 130 [(pt tb 0),(Value.int .i64 0)] (by kernel_rfl) (next_any 0 (h0.rd 0 rfl) (h0.at_ 0 rfl) hd)) ?_
 rintro _ w3 ⟨A3,c3,B3,d3,C3,e3,ts3,b3,hts3,hb3,rfl,hn3,h3⟩
 refine mX 6 (Value.int .u64 (((nxV 0 ts).n:Int))) (Value.int .u64 (((nxV 0 ts).n:Int))) rfl ?_
 refine m_if 8 (((nxV 0 ts).n:Int)>1) (by kernel_rfl) (fun b6=>?_) (fun b6=>?_)
 ·
  refine mT (xSt h3 0 4 (.tmp 11) (.const (Value.bool true)) 1 (Value.bool true) ([(Value.slice A3 ts3.length c3),(Value.bool true)])) fun _ w7 h7=>?_
  refine mX 13 (Value.bool (truthO (ts,bad))) (Value.bool (((nxV 0 ts).n:Int) == 1)) (congrArg Value.bool (truth_eq _ _)) ?_
  refine mP (Value.bool (truthO (ts,bad))) ?_
  exact ⟨A3,c3,ts3,true,hts3,(by simp [truthT,show (nxV 0 ts).n>1 from by omega]),rfl,h7.sel [0] [0] rfl rfl rfl⟩
 refine mX 13 (Value.bool (truthO (ts,bad))) (Value.bool (((nxV 0 ts).n:Int) == 1)) (congrArg Value.bool (truth_eq _ _)) ?_
 refine mP (Value.bool (truthO (ts,bad))) ?_
 exact ⟨A3,c3,ts3,b3,hts3,(by rw [hb3];simp [truthT,show ¬ (nxV 0 ts).n>1 from by omega]),rfl,h3.sel [0] [0] rfl rfl rfl⟩
theorem tkName_any{tb:Nat}{G:Nat->Prop}{A:Option Addr}{c:Nat}{bad:Bool}{ts:List DVal}{w:World}(hL:(rLst G A c ts).Φ w)(hb:Blk w tb 287 [.slice A ts.length c,.bool bad])(hd:¬ G tb)(hsm:Sm ts):Calls Tryz.prog 106 #[pt tb 0] w (TkPost w tb G (nameT (ts,bad)) (.string (nameO (ts,bad)))):=by
 have hdd:∀ (j:Nat) (s:Res),[rBlk tb 287 [.slice A ts.length c,.bool bad]][j]?=some s->(rLst G A c ts).dj s:=fun j s hj q h1 h2=>by
   have h3:=sel1 hj
   injection h3 with h3
   subst h3
   exact hd (by rw [show q=tb from h2] at h1;exact h1)
 have h0:=((Hp.one (rBlk tb 287 [.slice A ts.length c,.bool bad]) hb).weaken (F:=fun q=>q=tb) (fun q hq=>hq)).addR (rLst G A c ts) hL hdd
 refine mE 15 ?_
 refine mT (x_nx h0 0 rfl 0 rfl 130 [(pt tb 0),(Value.int .i64 1)] (by kernel_rfl) (next_any 1 (h0.rd 0 rfl) (h0.at_ 0 rfl) hd)) ?_
 rintro _ w3 ⟨A3,c3,B3,d3,C3,e3,ts3,b3,hts3,hb3,rfl,hn3,h3⟩
 refine mX 6 (Value.slice B3 ((nxV 1 ts).b.length) d3) (Value.slice B3 ((nxV 1 ts).b.length) d3) rfl ?_
 have h4:=h3.sub 1 rfl (rSB (Value.slice B3 ((nxV 1 ts).b.length) d3) (nxV 1 ts).b) (h3.rd 1 rfl).2.1 (fun q hq=>(h3.rd 1 rfl).2.2 hq.1 q hq.2)
 refine mW 7 (v:=(Value.string (nameO (ts,bad)))) (exec_sb_conv (.tmp 6) (by kernel_rfl) _ (nxV 1 ts).b (by kernel_rfl) (h4.rd 0 rfl)) ?_
 refine mT (x_nright h4 (nameO (ts,bad)) (name_sz (T:=(ts,bad)) hsm) (by kernel_rfl)) ?_
 rintro _ w7 ⟨rfl,h7⟩
 refine m_split 10 (!(rightN (nameO (ts,bad)))) (by kernel_rfl) (fun b8=>?_) (fun b8=>?_)
 ·
  refine mT (xSt h7 0 4 (.tmp 13) (.const (Value.bool true)) 1 (Value.bool true) ([(Value.slice A3 ts3.length c3),(Value.bool true)])) fun _ w9 h9=>?_
  refine mP (Value.string (nameO (ts,bad))) ?_
  exact ⟨A3,c3,ts3,true,hts3,(by simp [nameT,show rightN (nameO (ts,bad))=false from by simpa using b8]),rfl,h9.sel [0] [1] rfl rfl rfl⟩
 refine mP (Value.string (nameO (ts,bad))) ?_
 exact ⟨A3,c3,ts3,b3,hts3,(by rw [hb3];simp [nameT,show rightN (nameO (ts,bad))=true from by simpa using b8]),rfl,h7.sel [0] [1] rfl rfl rfl⟩
theorem tkKey_any{tb:Nat}{G:Nat->Prop}{A:Option Addr}{c:Nat}{bad:Bool}{ts:List DVal}{w:World}(hL:(rLst G A c ts).Φ w)(hb:Blk w tb 287 [.slice A ts.length c,.bool bad])(hd:¬ G tb):Calls Tryz.prog 118 #[pt tb 0] w (TkPost w tb G (keyT (ts,bad)) (.agg (vb (kl (keyO (ts,bad)))).toArray)):=by
 have hdd:∀ (j:Nat) (s:Res),[rBlk tb 287 [.slice A ts.length c,.bool bad]][j]?=some s->(rLst G A c ts).dj s:=fun j s hj q h1 h2=>by
   have h3:=sel1 hj
   injection h3 with h3
   subst h3
   exact hd (by rw [show q=tb from h2] at h1;exact h1)
 have h0:=((Hp.one (rBlk tb 287 [.slice A ts.length c,.bool bad]) hb).weaken (F:=fun q=>q=tb) (fun q hq=>hq)).addR (rLst G A c ts) hL hdd
 refine mE 18 ?_
 refine mN h0 41 (vb (List.replicate 16 0)) fun g2 w2 h2=>?_
 refine mT (x_nx h2 1 rfl 0 rfl 130 [(pt tb 0),(Value.int .i64 1)] (by kernel_rfl) (next_any 1 (h2.rd 0 rfl) (h2.at_ 1 rfl) hd)) ?_
 rintro _ w4 ⟨A4,c4,B4,d4,C4,e4,ts4,b4,hts4,hb4,rfl,hn4,h4⟩
 refine mX 8 (Value.slice B4 ((nxV 1 ts).b.length) d4) (Value.slice B4 ((nxV 1 ts).b.length) d4) rfl ?_
 have h5:=h4.sub 1 rfl (rSB (Value.slice B4 ((nxV 1 ts).b.length) d4) (nxV 1 ts).b) (h4.rd 1 rfl).2.1 (fun q hq=>(h4.rd 1 rfl).2.2 hq.1 q hq.2)
 refine mD h5 [(Value.slice B4 ((nxV 1 ts).b.length) d4)] (tk_okey (bad:=bad) (h5.rd 0 rfl)) (fun w6 h6=>?_)
 refine mN h6 41 (vb (List.replicate 16 0)) fun g7 w7 h7=>?_
 refine mT (xSs h7 0 41 (.tmp 3) (.tmp 10) 0 (vb (kl (keyO (ts,bad)))) (vb (kl (keyO (ts,bad))))) fun _ w8 h8=>?_
 refine m_split 13 (!(decide ((nxV 1 ts).b.length=16))) (by kernel_rfl) (fun b11=>?_) (fun b11=>?_)
 ·
  refine mT (xSt h8 2 4 (.tmp 16) (.const (Value.bool true)) 1 (Value.bool true) ([(Value.slice A4 ts4.length c4),(Value.bool true)])) fun _ w12 h12=>?_
  refine ma h12 0 ?_
  refine mT (xSs h12 1 41 (.tmp 2) (.tmp 17) 0 (vb (kl (keyO (ts,bad)))) (vb (kl (keyO (ts,bad))))) fun _ w14 h14=>?_
  refine mF (post_1 (r:=.cell 2 41) (by kernel_rfl) rfl (rce (h14.at_ 1 rfl)) ?_)
  exact ⟨A4,c4,ts4,true,hts4,(by simp [keyT,show ¬ (nxV 1 ts).b.length=16 from by simpa using b11]),rfl,h14.sel [2] [1] rfl rfl rfl⟩
 refine ma h8 0 ?_
 refine mT (xSs h8 1 41 (.tmp 2) (.tmp 17) 0 (vb (kl (keyO (ts,bad)))) (vb (kl (keyO (ts,bad))))) fun _ w16 h16=>?_
 refine mF (post_1 (r:=.cell 2 41) (by kernel_rfl) rfl (rce (h16.at_ 1 rfl)) ?_)
 exact ⟨A4,c4,ts4,b4,hts4,(by rw [hb4];simp [keyT,show (nxV 1 ts).b.length=16 from by simpa using b11]),rfl,h16.sel [2] [1] rfl rfl rfl⟩
theorem tkBytes_any{tb:Nat}{G:Nat->Prop}{A:Option Addr}{c:Nat}{bad:Bool}{ts:List DVal}{w:World}(hL:(rLst G A c ts).Φ w)(hb:Blk w tb 287 [.slice A ts.length c,.bool bad])(hd:¬ G tb):Calls Tryz.prog 108 #[pt tb 0] w (BkPost w tb G (bytesT (ts,bad)) (bytesO (ts,bad))):=by
 have hdd:∀ (j:Nat) (s:Res),[rBlk tb 287 [.slice A ts.length c,.bool bad]][j]?=some s->(rLst G A c ts).dj s:=fun j s hj q h1 h2=>by
   have h3:=sel1 hj
   injection h3 with h3
   subst h3
   exact hd (by rw [show q=tb from h2] at h1;exact h1)
 have h0:=((Hp.one (rBlk tb 287 [.slice A ts.length c,.bool bad]) hb).weaken (F:=fun q=>q=tb) (fun q hq=>hq)).addR (rLst G A c ts) hL hdd
 refine mE 6 ?_
 refine mT (x_nx h0 0 rfl 0 rfl 130 [(pt tb 0),(Value.int .i64 1)] (by kernel_rfl) (next_any 1 (h0.rd 0 rfl) (h0.at_ 0 rfl) hd)) ?_
 rintro _ w3 ⟨A3,c3,B3,d3,C3,e3,ts3,b3,hts3,hb3,rfl,hn3,h3⟩
 refine mX 5 (Value.slice B3 ((nxV 1 ts).b.length) d3) (Value.slice B3 ((nxV 1 ts).b.length) d3) rfl ?_
 refine mP (Value.slice B3 ((nxV 1 ts).b.length) d3) ?_
 exact ⟨A3,c3,ts3,b3,B3,d3,hts3,hb3,rfl,h3.sel [0] [0,1] rfl rfl rfl⟩
theorem tkDone_any{tb:Nat}{A:Option Addr}{c:Nat}{bad:Bool}{ts:List DVal}{w:World}(hb:Blk w tb 287 [.slice A ts.length c,.bool bad]):Calls Tryz.prog 112 #[pt tb 0] w (DPost w (.bool (doneO (ts,bad)))):=by
 have h0:=Hp.ro1 (rBlk tb 287 [.slice A ts.length c,.bool bad]) hb
 refine mE 16 ?_
 by_cases b3:bad=true
 ·
  refine mr h0 0 ?_
  refine mX 7 (Value.bool false) (Value.bool (!bad)) (congrArg Value.bool (by simp [b3])) ?_
  exact mQe (Value.bool false) h0 (by simp [doneO,b3] )
 refine mr h0 0 ?_
 refine mX 7 (Value.bool true) (Value.bool (!bad)) (congrArg Value.bool (by simp [b3])) ?_
 refine mr h0 0 ?_
 refine mX 14 (Value.bool (decide (ts.length=0))) (Value.bool ((ts.length:Int) == 0)) (congrArg Value.bool (len_eq0 _)) ?_
 exact mQe (Value.bool (decide (ts.length=0))) h0 (by simp [doneO,b3] )
end
section
open Go.RowKit Go.QT
/-- What stands in boxes. -/
inductive Thing
 | ticket (s:ByteArray) (b:Bytes)
 | inside (f:Int) (K:Fin 16->UInt8) (s:ByteArray) (a u r:Int)
 | reply (f:Int) (K:Fin 16->UInt8) (n:Int) (s:ByteArray) (a u r:Int)
 | authent (s:ByteArray) (t q:Int) (K:Fin 16->UInt8) (b:Bytes)
 | stamp (t q:Int)
 | fact (n:Int) (s:ByteArray) (f:Bool) (t:Int)
 | plain (b:Bytes)
/-- Its cells. -/
def ThR(G:Nat->Prop)(w:World)(u:Value):Thing->Prop
 | .ticket s b=>∃ A c,u=.iface 39 (.agg #[.string s,.slice A b.length c])/\(rSG G (.slice A b.length c) b).Φ w
 | .inside f K s a e r=>u=.iface 187 (.agg ([Value.int .i64 f]++vb (kl K)++[Value.string s,.int .i64 a,.int .i64 e,.int .i64 r]).toArray)
 | .reply f K n s a e r=>u=.iface 211 (.agg ([Value.int .i64 f]++vb (kl K)++[Value.int .i64 n,.string s,.int .i64 a,.int .i64 e,.int .i64 r]).toArray)
 | .authent s t q K b=>∃ A c,u=.iface 71 (.agg ([Value.string s,.int .i64 t,.int .i64 q]++vb (kl K)++[Value.slice A b.length c]).toArray)/\(rSG G (.slice A b.length c) b).Φ w
 | .stamp t q=>u=.iface 104 (.agg #[.int .i64 t,.int .i64 q])
 | .fact n s f t=>u=.iface 49 (.agg #[.int .i64 n,.string s,.bool f,.int .i64 t])
 | .plain b=>∃ A c,u=.iface 276 (.agg #[.slice A b.length c])/\(rSG G (.slice A b.length c) b).Φ w
def ofTicket(T:TkSt):Thing × TkSt:=(.ticket (nameO T) (bytesO (nameT T)),bytesT (nameT T))
def ofInside(T:TkSt):Thing × TkSt:=
 (.inside (numO T) (keyO (numT T)) (nameO (keyT (numT T))) (numO (nameT (keyT (numT T)))) (numO (numT (nameT (keyT (numT T))))) (numO (numT (numT (nameT (keyT (numT T)))))),numT (numT (numT (nameT (keyT (numT T))))))
def ofReply(T:TkSt):Thing × TkSt:=
 (.reply (numO T) (keyO (numT T)) (numO (keyT (numT T))) (nameO (numT (keyT (numT T)))) (numO (nameT (numT (keyT (numT T))))) (numO (numT (nameT (numT (keyT (numT T)))))) (numO (numT (numT (nameT (numT (keyT (numT T))))))),numT (numT (numT (nameT (numT (keyT (numT T)))))))
def ofAuthent(T:TkSt):Thing × TkSt:=
 (.authent (nameO T) (numO (nameT T)) (numO (numT (nameT T))) (keyO (numT (numT (nameT T)))) (bytesO (keyT (numT (numT (nameT T))))),bytesT (keyT (numT (numT (nameT T)))))
def ofStamp(T:TkSt):Thing × TkSt:=(.stamp (numO T) (numO (numT T)),numT (numT T))
def ofFact(T:TkSt):Thing × TkSt:=(.fact (numO T) (nameO (numT T)) (truthO (nameT (numT T))) (numO (truthT (nameT (numT T)))),numT (truthT (nameT (numT T))))
def ofPlain(T:TkSt):Thing × TkSt:=(.plain (bytesO T),bytesT T)
/-- What a list of a tag would be, and what is left then. -/
def ofTag(t:Nat)(T:TkSt):Option (Thing × TkSt):=
 match t with
 | 1=>some (ofTicket T)
 | 2=>some (ofInside T)
 | 3=>some (ofReply T)
 | 4=>some (ofAuthent T)
 | 5=>some (ofStamp T)
 | 6=>some (ofFact T)
 | 7=>some (ofPlain T)
 | _=>none
def ofEnd(k:Nat)(r:Option (Thing × TkSt)):Option Thing:=
 match r with
 | some (t,T)=>if k=2/\doneO T=true then some t else none
 | none=>none
def ofF(v:DVal):Option Thing:=ofEnd v.kind (ofTag v.tag (v.l,false))
def OfPost(w:World)(G:Nat->Prop)(r:Option Thing)(e:Ending)(w':World):Prop:=
 Below w.heap.size w w'/\match r with
 | some t=>∃ u,e=.returned (.tuple #[u,.bool true])/\ThR G w' u t
 | none=>e=.returned (.tuple #[.nilIface,.bool false])
section
variable{o:Oper}{a:Act}{F0:Nat->Prop}{w0 w w':World}{ro rs:List Res}{tb:Nat}{G:Nat->Prop}{A:Option Addr}{c:Nat}{T:TkSt}
theorem Hp.offTk(h:Hp F0 w0 w ro rs)(i k:Nat){cs:List Value}(hi:rs[i]?=some (rBlk tb 287 cs)){ts:List DVal}(hk:ro[k]?=some (rLst G A c ts)):¬ G tb:=fun hg=>h.rdis k i _ _ hk hi tb hg rfl
theorem x_tkT(h:Hp F0 w0 w ro rs)(i:Nat)(hi:rs[i]?=some (rBlk tb 287 [.slice A T.1.length c,.bool T.2]))(k:Nat)(hk:ro[k]?=some (rLst G A c T.1)){T1:TkSt}{u:Value}(fn:FuncId)(al:List Value)(hp:pureVal Tryz.prog (execOp a.eval o)=some (.enter fn al.toArray))
   (hc:Calls Tryz.prog fn al.toArray w (TkPost w tb G T1 u)) :
   OpTo Tryz.prog o a w (fun u' w'=>∃ A c T',T'=T1/\u'=u/\Hp F0 w0 w' (rLst G A c T'.1::ro) (rs.set i (rBlk tb 287 [.slice A T'.1.length c,.bool T'.2]))):=by
 have:=x_tk h i hi k hk fn al hp hc
 refine ⟨fun next Q hh=>this.goes next Q fun v w' ⟨A,c,ts,b,h1,h2,h3,h4⟩=>hh v w' ⟨A,c,(ts,b),by rw [h1,h2],h3,h4⟩⟩
theorem x_bkT(h:Hp F0 w0 w ro rs)(i:Nat)(hi:rs[i]?=some (rBlk tb 287 [.slice A T.1.length c,.bool T.2]))(k:Nat)(hk:ro[k]?=some (rLst G A c T.1)){T1:TkSt}{l:Bytes}(fn:FuncId)(al:List Value)(hp:pureVal Tryz.prog (execOp a.eval o)=some (.enter fn al.toArray))
   (hc:Calls Tryz.prog fn al.toArray w (BkPost w tb G T1 l)) :
   OpTo Tryz.prog o a w (fun u' w'=>∃ A c T' B d,T'=T1/\u'=.slice B l.length d/\Hp F0 w0 w' (rLst G A c T'.1::rSG G (.slice B l.length d) l::ro) (rs.set i (rBlk tb 287 [.slice A T'.1.length c,.bool T'.2]))):=by
 have:=x_bk h i hi k hk fn al hp hc
 refine ⟨fun next Q hh=>this.goes next Q fun v w' ⟨A,c,ts,b,B,d,h1,h2,h3,h4⟩=>hh v w' ⟨A,c,(ts,b),B,d,by rw [h1,h2],h3,h4⟩⟩
def TakePost(w:World)(A:Option Addr)(n c:Nat)(e:Ending)(w':World):Prop:=∃ tb,e=.returned (pt tb 0)/\Hp (fun _=>False) w w' [] [rBlk tb 287 [.slice A n c,.bool false]]
theorem x_take{n:Nat}(h:Hp F0 w0 w ro rs)(al:List Value)(hp:pureVal Tryz.prog (execOp a.eval o)=some (.enter 105 al.toArray))(hc:Calls Tryz.prog 105 al.toArray w (TakePost w A n c)) :
   OpTo Tryz.prog o a w (fun u w'=>∃ tb,u=pt tb 0/\Hp F0 w0 w' ro (rBlk tb 287 [.slice A n c,.bool false]::rs)):=
 OpTo.enter 105 al hp hc fun _ _ ⟨tb,he,hh⟩=>⟨_,he,tb,rfl,h.call0 hh⟩
end
end
section
open Go.Value renaming int->iV,slice->lV,string->sV,bool->bV,agg->aV
open Go.RowKit Go.QT
theorem take_any(k t n:Nat)(B A:Option Addr)(m d p c:Nat)(w:World):Calls Tryz.prog 105 #[.agg #[.int .i64 (k:Int),.int .i64 (t:Int),.int .u64 (n:Int),.slice B m d,.slice A p c]] w (TakePost w A p c):=by
 have h0:=Hp.nil (fun _=>False) w
 refine mE 7 ?_
 refine mN h0 196 ([(zD ((k:Int))),(zD ((t:Int))),(iV .u64 ((n:Int))),(lV B m d),(lV A p c)]) fun g2 w2 h2=>?_
 refine ma h2 0 ?_
 refine mN h2 287 ([(lV A p c),zV]) fun g4 w4 h4=>?_
 refine mP (pt g4 0) ?_
 exact ⟨_,rfl,h4.sel [0] [] rfl rfl rfl⟩
theorem tag_eq{n k:Nat}(h:n=k):bV ((n:Int) == (k:Int))=bV true:=by subst h;simp
theorem tag_ne{n k j:Nat}(h:n=k)(hj:k≠j):bV ((n:Int) == (j:Int))=bV false:=by
 subst h;congr 1;rw [beq_eq_false_iff_ne];omega
theorem tag_none{n j:Nat}(h:n=0∨7<n)(h1:1<=j)(h2:j<=7):bV ((n:Int) == (j:Int))=bV false:=by
 congr 1;rw [beq_eq_false_iff_ne];omega
theorem of_no{v:DVal}{t:Thing}{T:TkSt}(h:ofTag v.tag (v.l,false)=some (t,T))(hn:¬ (v.kind=2/\doneO T=true)):ofF v=none:=by
 unfold ofF;rw [h];exact if_neg hn
theorem of_yes{v:DVal}{t:Thing}{T:TkSt}(h:ofTag v.tag (v.l,false)=some (t,T))(hk:v.kind=2)(hd:doneO T=true):ofF v=some t:=by
 unfold ofF;rw [h];exact if_pos ⟨hk,hd⟩
theorem ofpost_no{w w':World}{G:Nat->Prop}{r:Option Thing}(hr:r=none)(hb:Below w.heap.size w w'):OfPost w G r (.returned (.tuple #[.nilIface,.bool false])) w':=by
 subst hr;exact ⟨hb,rfl⟩
theorem ofpost_yes{w w':World}{G:Nat->Prop}{r:Option Thing}{t:Thing}{u:Value}(hr:r=some t)(hu:ThR G w' u t)(hb:Below w.heap.size w w'):OfPost w G r (.returned (.tuple #[u,.bool true])) w':=by
 subst hr;exact ⟨hb,u,rfl,hu⟩
theorem ofTag_none{t:Nat}(h:t=0∨7<t)(T:TkSt):ofTag t T=none:=by
 unfold ofTag
 split <;> first|omega|rfl
theorem of_cases(k:Nat)(b:Bool):k≠2∨(k=2/\b=false)∨(k=2/\b=true):=by
 cases b <;> simp <;> omega
theorem of_stamp{G:Nat->Prop}{B A:Option Addr}{d c:Nat}{v:DVal}{w:World}(hsm:Sm v.l)(hL:(rLst G A c v.l).Φ w)(ht:v.tag=5):Calls Tryz.prog 90 #[.agg #[.int .i64 (v.kind:Int),.int .i64 (v.tag:Int),.int .u64 (v.n:Int),.slice B v.b.length d,.slice A v.l.length c]] w (OfPost w G (ofF v)):=by
 have h0:=Hp.ro1 (rLst G A c v.l) hL
 refine mE 105 ?_
 refine mN h0 196 ([(zD ((v.kind:Int))),(zD ((v.tag:Int))),(iV .u64 ((v.n:Int))),(lV B v.b.length d),(lV A v.l.length c)]) fun g2 w2 h2=>?_
 refine ma h2 0 ?_
 refine mT (x_take h2 [(aV ([(zD ((v.kind:Int))),(zD ((v.tag:Int))),(iV .u64 ((v.n:Int))),(lV B v.b.length d),(lV A v.l.length c)]).toArray)] (by kernel_rfl) (take_any v.kind v.tag v.n B A v.b.length d v.l.length c _)) ?_
 rintro _ w4 ⟨tb,rfl,h4⟩
 obtain ⟨T0,hT0⟩:∃ T,T=((v.l,false):TkSt):=⟨_,rfl⟩
 have e1:v.l=T0.1:=by rw [hT0]
 have e2:false=T0.2:=by rw [hT0]
 have hsm0:Sm T0.1:=by rw [← e1];exact hsm
 have h5:=h4.below (Below.refl _ _)
 rw [e1,e2] at h5
 refine ma h5 1 ?_
 refine mX 11 zV (bV (((v.tag:Int)) == 1)) (tag_ne ht (by decide)) ?_
 refine mX 19 zV (bV (((v.tag:Int)) == 2)) (tag_ne ht (by decide)) ?_
 refine mX 35 zV (bV (((v.tag:Int)) == 3)) (tag_ne ht (by decide)) ?_
 refine mX 53 zV (bV (((v.tag:Int)) == 4)) (tag_ne ht (by decide)) ?_
 refine mX 67 zI (bV (((v.tag:Int)) == 5)) (tag_eq ht) ?_
 refine mT (x_tkT h5 0 rfl 0 rfl (T:=T0) (T1:=numT T0) (u:=.int .i64 (numO T0)) 107 [(pt tb 0)] (by kernel_rfl) (tkNum_any (h5.rd 0 rfl) (h5.at_ 0 rfl) (h5.offTk 0 0 rfl rfl))) ?_
 rintro _ w14 ⟨A14,c14,T14,hT14,rfl,h14⟩
 have hsm14:Sm T14.1:=by rw [hT14];exact Sm.nxT (T:=T0) hsm0 0
 refine mT (x_tkT h14 0 rfl 0 rfl (T:=T14) (T1:=numT T14) (u:=.int .i64 (numO T14)) 107 [(pt tb 0)] (by kernel_rfl) (tkNum_any (h14.rd 0 rfl) (h14.at_ 0 rfl) (h14.offTk 0 0 rfl rfl))) ?_
 rintro _ w15 ⟨A15,c15,T15,hT15,rfl,h15⟩
 have hsm15:Sm T15.1:=by rw [hT15];exact Sm.nxT (T:=T14) hsm14 0
 obtain hk|⟨hk,hdn⟩|⟨hk,hdn⟩:v.kind≠2∨(v.kind=2/\doneO T15=false)∨(v.kind=2/\doneO T15=true):=of_cases _ _
 ·
  refine ma h15 1 ?_
  refine mX 94 zI (bV (((v.kind:Int)) != 2)) (ine (b:=2) hk) ?_
  refine mP (Value.tuple #[Value.nilIface,zV]) ?_
  exact ofpost_no (of_no (by rw [ht];subst hT0 hT14 hT15;rfl:ofTag v.tag (v.l,false)=some (Thing.stamp (numO T0) (numO T14),T15)) (by rintro ⟨h1,h2⟩;first|exact hk h1|(rw [hdn] at h2;cases h2))) h15.below0
 ·
  refine ma h15 1 ?_
  refine mX 94 zV (bV (((v.kind:Int)) != 2)) (ieq (b:=2) hk) ?_
  refine mW 97 (v:=zV) (pureOp_run (by kernel_rfl) _) ?_
  refine mD h15 [(pt tb 0)] (tkDone_any (bad:=T15.2) (ts:=T15.1) (h15.at_ 0 rfl)) (fun w20 h20=>?_)
  refine mX 102 zI (bV (!(doneO T15))) (congrArg bV (by rw [hdn];rfl)) ?_
  refine mP (Value.tuple #[Value.nilIface,zV]) ?_
  exact ofpost_no (of_no (by rw [ht];subst hT0 hT14 hT15;rfl:ofTag v.tag (v.l,false)=some (Thing.stamp (numO T0) (numO T14),T15)) (by rintro ⟨h1,h2⟩;first|exact hk h1|(rw [hdn] at h2;cases h2))) h20.below0
 refine ma h15 1 ?_
 refine mX 94 zV (bV (((v.kind:Int)) != 2)) (ieq (b:=2) hk) ?_
 refine mW 97 (v:=zV) (pureOp_run (by kernel_rfl) _) ?_
 refine mD h15 [(pt tb 0)] (tkDone_any (bad:=T15.2) (ts:=T15.1) (h15.at_ 0 rfl)) (fun w22 h22=>?_)
 refine mX 102 zV (bV (!(doneO T15))) (congrArg bV (by rw [hdn];rfl)) ?_
 refine mP (Value.tuple #[(Value.iface 104 (aV ([(zD (numO T0)),(zD (numO T14))]).toArray)),zI]) ?_
 exact ofpost_yes (of_yes (by rw [ht];subst hT0 hT14 hT15;rfl:ofTag v.tag (v.l,false)=some (Thing.stamp (numO T0) (numO T14),T15)) hk hdn) (show ThR G _ _ (Thing.stamp (numO T0) (numO T14)) from rfl) h22.below0
theorem of_ticket{G:Nat->Prop}{B A:Option Addr}{d c:Nat}{v:DVal}{w:World}(hsm:Sm v.l)(hL:(rLst G A c v.l).Φ w)(ht:v.tag=1):Calls Tryz.prog 90 #[.agg #[.int .i64 (v.kind:Int),.int .i64 (v.tag:Int),.int .u64 (v.n:Int),.slice B v.b.length d,.slice A v.l.length c]] w (OfPost w G (ofF v)):=by
 have h0:=Hp.ro1 (rLst G A c v.l) hL
 refine mE 105 ?_
 refine mN h0 196 ([(zD ((v.kind:Int))),(zD ((v.tag:Int))),(iV .u64 ((v.n:Int))),(lV B v.b.length d),(lV A v.l.length c)]) fun g2 w2 h2=>?_
 refine ma h2 0 ?_
 refine mT (x_take h2 [(aV ([(zD ((v.kind:Int))),(zD ((v.tag:Int))),(iV .u64 ((v.n:Int))),(lV B v.b.length d),(lV A v.l.length c)]).toArray)] (by kernel_rfl) (take_any v.kind v.tag v.n B A v.b.length d v.l.length c _)) ?_
 rintro _ w4 ⟨tb,rfl,h4⟩
 obtain ⟨T0,hT0⟩:∃ T,T=((v.l,false):TkSt):=⟨_,rfl⟩
 have e1:v.l=T0.1:=by rw [hT0]
 have e2:false=T0.2:=by rw [hT0]
 have hsm0:Sm T0.1:=by rw [← e1];exact hsm
 have h5:=h4.below (Below.refl _ _)
 rw [e1,e2] at h5
 refine ma h5 1 ?_
 refine mX 11 zI (bV (((v.tag:Int)) == 1)) (tag_eq ht) ?_
 refine mT (x_tkT h5 0 rfl 0 rfl (T:=T0) (T1:=nameT T0) (u:=.string (nameO T0)) 106 [(pt tb 0)] (by kernel_rfl) (tkName_any (h5.rd 0 rfl) (h5.at_ 0 rfl) (h5.offTk 0 0 rfl rfl) hsm0)) ?_
 rintro _ w10 ⟨A10,c10,T10,hT10,rfl,h10⟩
 have hsm10:Sm T10.1:=by rw [hT10];exact Sm.nxT (T:=T0) hsm0 1
 refine mT (x_bkT h10 0 rfl 0 rfl (T:=T10) (T1:=bytesT T10) (l:=bytesO T10) 108 [(pt tb 0)] (by kernel_rfl) (tkBytes_any (h10.rd 0 rfl) (h10.at_ 0 rfl) (h10.offTk 0 0 rfl rfl))) ?_
 rintro _ w11 ⟨A11,c11,T11,B11,d11,hT11,rfl,h11⟩
 have hsm11:Sm T11.1:=by rw [hT11];exact Sm.nxT (T:=T10) hsm10 1
 obtain hk|⟨hk,hdn⟩|⟨hk,hdn⟩:v.kind≠2∨(v.kind=2/\doneO T11=false)∨(v.kind=2/\doneO T11=true):=of_cases _ _
 ·
  refine ma h11 1 ?_
  refine mX 94 zI (bV (((v.kind:Int)) != 2)) (ine (b:=2) hk) ?_
  refine mP (Value.tuple #[Value.nilIface,zV]) ?_
  exact ofpost_no (of_no (by rw [ht];subst hT0 hT10 hT11;rfl:ofTag v.tag (v.l,false)=some (Thing.ticket (nameO T0) (bytesO T10),T11)) (by rintro ⟨h1,h2⟩;first|exact hk h1|(rw [hdn] at h2;cases h2))) h11.below0
 ·
  refine ma h11 1 ?_
  refine mX 94 zV (bV (((v.kind:Int)) != 2)) (ieq (b:=2) hk) ?_
  refine mW 97 (v:=zV) (pureOp_run (by kernel_rfl) _) ?_
  refine mD h11 [(pt tb 0)] (tkDone_any (bad:=T11.2) (ts:=T11.1) (h11.at_ 0 rfl)) (fun w16 h16=>?_)
  refine mX 102 zI (bV (!(doneO T11))) (congrArg bV (by rw [hdn];rfl)) ?_
  refine mP (Value.tuple #[Value.nilIface,zV]) ?_
  exact ofpost_no (of_no (by rw [ht];subst hT0 hT10 hT11;rfl:ofTag v.tag (v.l,false)=some (Thing.ticket (nameO T0) (bytesO T10),T11)) (by rintro ⟨h1,h2⟩;first|exact hk h1|(rw [hdn] at h2;cases h2))) h16.below0
 refine ma h11 1 ?_
 refine mX 94 zV (bV (((v.kind:Int)) != 2)) (ieq (b:=2) hk) ?_
 refine mW 97 (v:=zV) (pureOp_run (by kernel_rfl) _) ?_
 refine mD h11 [(pt tb 0)] (tkDone_any (bad:=T11.2) (ts:=T11.1) (h11.at_ 0 rfl)) (fun w18 h18=>?_)
 refine mX 102 zV (bV (!(doneO T11))) (congrArg bV (by rw [hdn];rfl)) ?_
 refine mP (Value.tuple #[(Value.iface 39 (aV ([(sV (nameO T0)),(lV B11 ((bytesO T10).length) d11)]).toArray)),zI]) ?_
 exact ofpost_yes (of_yes (by rw [ht];subst hT0 hT10 hT11;rfl:ofTag v.tag (v.l,false)=some (Thing.ticket (nameO T0) (bytesO T10),T11)) hk hdn) (show ThR G _ _ (Thing.ticket (nameO T0) (bytesO T10)) from ⟨_,_,rfl,h18.rd 1 rfl⟩) h18.below0
theorem of_inside{G:Nat->Prop}{B A:Option Addr}{d c:Nat}{v:DVal}{w:World}(hsm:Sm v.l)(hL:(rLst G A c v.l).Φ w)(ht:v.tag=2):Calls Tryz.prog 90 #[.agg #[.int .i64 (v.kind:Int),.int .i64 (v.tag:Int),.int .u64 (v.n:Int),.slice B v.b.length d,.slice A v.l.length c]] w (OfPost w G (ofF v)):=by
 have h0:=Hp.ro1 (rLst G A c v.l) hL
 refine mE 105 ?_
 refine mN h0 196 ([(zD ((v.kind:Int))),(zD ((v.tag:Int))),(iV .u64 ((v.n:Int))),(lV B v.b.length d),(lV A v.l.length c)]) fun g2 w2 h2=>?_
 refine ma h2 0 ?_
 refine mT (x_take h2 [(aV ([(zD ((v.kind:Int))),(zD ((v.tag:Int))),(iV .u64 ((v.n:Int))),(lV B v.b.length d),(lV A v.l.length c)]).toArray)] (by kernel_rfl) (take_any v.kind v.tag v.n B A v.b.length d v.l.length c _)) ?_
 rintro _ w4 ⟨tb,rfl,h4⟩
 obtain ⟨T0,hT0⟩:∃ T,T=((v.l,false):TkSt):=⟨_,rfl⟩
 have e1:v.l=T0.1:=by rw [hT0]
 have e2:false=T0.2:=by rw [hT0]
 have hsm0:Sm T0.1:=by rw [← e1];exact hsm
 have h5:=h4.below (Below.refl _ _)
 rw [e1,e2] at h5
 refine ma h5 1 ?_
 refine mX 11 zV (bV (((v.tag:Int)) == 1)) (tag_ne ht (by decide)) ?_
 refine mX 19 zI (bV (((v.tag:Int)) == 2)) (tag_eq ht) ?_
 refine mT (x_tkT h5 0 rfl 0 rfl (T:=T0) (T1:=numT T0) (u:=.int .i64 (numO T0)) 107 [(pt tb 0)] (by kernel_rfl) (tkNum_any (h5.rd 0 rfl) (h5.at_ 0 rfl) (h5.offTk 0 0 rfl rfl))) ?_
 rintro _ w11 ⟨A11,c11,T11,hT11,rfl,h11⟩
 have hsm11:Sm T11.1:=by rw [hT11];exact Sm.nxT (T:=T0) hsm0 0
 refine mT (x_tkT h11 0 rfl 0 rfl (T:=T11) (T1:=keyT T11) (u:=.agg (vb (kl (keyO T11))).toArray) 118 [(pt tb 0)] (by kernel_rfl) (tkKey_any (h11.rd 0 rfl) (h11.at_ 0 rfl) (h11.offTk 0 0 rfl rfl))) ?_
 rintro _ w12 ⟨A12,c12,T12,hT12,rfl,h12⟩
 have hsm12:Sm T12.1:=by rw [hT12];exact Sm.nxT (T:=T11) hsm11 1
 refine mT (x_tkT h12 0 rfl 0 rfl (T:=T12) (T1:=nameT T12) (u:=.string (nameO T12)) 106 [(pt tb 0)] (by kernel_rfl) (tkName_any (h12.rd 0 rfl) (h12.at_ 0 rfl) (h12.offTk 0 0 rfl rfl) hsm12)) ?_
 rintro _ w13 ⟨A13,c13,T13,hT13,rfl,h13⟩
 have hsm13:Sm T13.1:=by rw [hT13];exact Sm.nxT (T:=T12) hsm12 1
 refine mT (x_tkT h13 0 rfl 0 rfl (T:=T13) (T1:=numT T13) (u:=.int .i64 (numO T13)) 107 [(pt tb 0)] (by kernel_rfl) (tkNum_any (h13.rd 0 rfl) (h13.at_ 0 rfl) (h13.offTk 0 0 rfl rfl))) ?_
 rintro _ w14 ⟨A14,c14,T14,hT14,rfl,h14⟩
 have hsm14:Sm T14.1:=by rw [hT14];exact Sm.nxT (T:=T13) hsm13 0
 refine mT (x_tkT h14 0 rfl 0 rfl (T:=T14) (T1:=numT T14) (u:=.int .i64 (numO T14)) 107 [(pt tb 0)] (by kernel_rfl) (tkNum_any (h14.rd 0 rfl) (h14.at_ 0 rfl) (h14.offTk 0 0 rfl rfl))) ?_
 rintro _ w15 ⟨A15,c15,T15,hT15,rfl,h15⟩
 have hsm15:Sm T15.1:=by rw [hT15];exact Sm.nxT (T:=T14) hsm14 0
 refine mT (x_tkT h15 0 rfl 0 rfl (T:=T15) (T1:=numT T15) (u:=.int .i64 (numO T15)) 107 [(pt tb 0)] (by kernel_rfl) (tkNum_any (h15.rd 0 rfl) (h15.at_ 0 rfl) (h15.offTk 0 0 rfl rfl))) ?_
 rintro _ w16 ⟨A16,c16,T16,hT16,rfl,h16⟩
 have hsm16:Sm T16.1:=by rw [hT16];exact Sm.nxT (T:=T15) hsm15 0
 obtain hk|⟨hk,hdn⟩|⟨hk,hdn⟩:v.kind≠2∨(v.kind=2/\doneO T16=false)∨(v.kind=2/\doneO T16=true):=of_cases _ _
 ·
  refine ma h16 1 ?_
  refine mX 94 zI (bV (((v.kind:Int)) != 2)) (ine (b:=2) hk) ?_
  refine mP (Value.tuple #[Value.nilIface,zV]) ?_
  exact ofpost_no (of_no (by rw [ht];subst hT0 hT11 hT12 hT13 hT14 hT15 hT16;rfl:ofTag v.tag (v.l,false)=some (Thing.inside (numO T0) (keyO T11) (nameO T12) (numO T13) (numO T14) (numO T15),T16)) (by rintro ⟨h1,h2⟩;first|exact hk h1|(rw [hdn] at h2;cases h2))) h16.below0
 ·
  refine ma h16 1 ?_
  refine mX 94 zV (bV (((v.kind:Int)) != 2)) (ieq (b:=2) hk) ?_
  refine mW 97 (v:=zV) (pureOp_run (by kernel_rfl) _) ?_
  refine mD h16 [(pt tb 0)] (tkDone_any (bad:=T16.2) (ts:=T16.1) (h16.at_ 0 rfl)) (fun w21 h21=>?_)
  refine mX 102 zI (bV (!(doneO T16))) (congrArg bV (by rw [hdn];rfl)) ?_
  refine mP (Value.tuple #[Value.nilIface,zV]) ?_
  exact ofpost_no (of_no (by rw [ht];subst hT0 hT11 hT12 hT13 hT14 hT15 hT16;rfl:ofTag v.tag (v.l,false)=some (Thing.inside (numO T0) (keyO T11) (nameO T12) (numO T13) (numO T14) (numO T15),T16)) (by rintro ⟨h1,h2⟩;first|exact hk h1|(rw [hdn] at h2;cases h2))) h21.below0
 refine ma h16 1 ?_
 refine mX 94 zV (bV (((v.kind:Int)) != 2)) (ieq (b:=2) hk) ?_
 refine mW 97 (v:=zV) (pureOp_run (by kernel_rfl) _) ?_
 refine mD h16 [(pt tb 0)] (tkDone_any (bad:=T16.2) (ts:=T16.1) (h16.at_ 0 rfl)) (fun w23 h23=>?_)
 refine mX 102 zV (bV (!(doneO T16))) (congrArg bV (by rw [hdn];rfl)) ?_
 refine mP (Value.tuple #[(Value.iface 187 (aV ([(zD (numO T0))]++vb (kl (keyO T11))++[(sV (nameO T12)),(zD (numO T13)),(zD (numO T14)),(zD (numO T15))]).toArray)),zI]) ?_
 exact ofpost_yes (of_yes (by rw [ht];subst hT0 hT11 hT12 hT13 hT14 hT15 hT16;rfl:ofTag v.tag (v.l,false)=some (Thing.inside (numO T0) (keyO T11) (nameO T12) (numO T13) (numO T14) (numO T15),T16)) hk hdn) (show ThR G _ _ (Thing.inside (numO T0) (keyO T11) (nameO T12) (numO T13) (numO T14) (numO T15)) from rfl) h23.below0
theorem of_reply{G:Nat->Prop}{B A:Option Addr}{d c:Nat}{v:DVal}{w:World}(hsm:Sm v.l)(hL:(rLst G A c v.l).Φ w)(ht:v.tag=3):Calls Tryz.prog 90 #[.agg #[.int .i64 (v.kind:Int),.int .i64 (v.tag:Int),.int .u64 (v.n:Int),.slice B v.b.length d,.slice A v.l.length c]] w (OfPost w G (ofF v)):=by
 have h0:=Hp.ro1 (rLst G A c v.l) hL
 refine mE 105 ?_
 refine mN h0 196 ([(zD ((v.kind:Int))),(zD ((v.tag:Int))),(iV .u64 ((v.n:Int))),(lV B v.b.length d),(lV A v.l.length c)]) fun g2 w2 h2=>?_
 refine ma h2 0 ?_
 refine mT (x_take h2 [(aV ([(zD ((v.kind:Int))),(zD ((v.tag:Int))),(iV .u64 ((v.n:Int))),(lV B v.b.length d),(lV A v.l.length c)]).toArray)] (by kernel_rfl) (take_any v.kind v.tag v.n B A v.b.length d v.l.length c _)) ?_
 rintro _ w4 ⟨tb,rfl,h4⟩
 obtain ⟨T0,hT0⟩:∃ T,T=((v.l,false):TkSt):=⟨_,rfl⟩
 have e1:v.l=T0.1:=by rw [hT0]
 have e2:false=T0.2:=by rw [hT0]
 have hsm0:Sm T0.1:=by rw [← e1];exact hsm
 have h5:=h4.below (Below.refl _ _)
 rw [e1,e2] at h5
 refine ma h5 1 ?_
 refine mX 11 zV (bV (((v.tag:Int)) == 1)) (tag_ne ht (by decide)) ?_
 refine mX 19 zV (bV (((v.tag:Int)) == 2)) (tag_ne ht (by decide)) ?_
 refine mX 35 zI (bV (((v.tag:Int)) == 3)) (tag_eq ht) ?_
 refine mT (x_tkT h5 0 rfl 0 rfl (T:=T0) (T1:=numT T0) (u:=.int .i64 (numO T0)) 107 [(pt tb 0)] (by kernel_rfl) (tkNum_any (h5.rd 0 rfl) (h5.at_ 0 rfl) (h5.offTk 0 0 rfl rfl))) ?_
 rintro _ w12 ⟨A12,c12,T12,hT12,rfl,h12⟩
 have hsm12:Sm T12.1:=by rw [hT12];exact Sm.nxT (T:=T0) hsm0 0
 refine mT (x_tkT h12 0 rfl 0 rfl (T:=T12) (T1:=keyT T12) (u:=.agg (vb (kl (keyO T12))).toArray) 118 [(pt tb 0)] (by kernel_rfl) (tkKey_any (h12.rd 0 rfl) (h12.at_ 0 rfl) (h12.offTk 0 0 rfl rfl))) ?_
 rintro _ w13 ⟨A13,c13,T13,hT13,rfl,h13⟩
 have hsm13:Sm T13.1:=by rw [hT13];exact Sm.nxT (T:=T12) hsm12 1
 refine mT (x_tkT h13 0 rfl 0 rfl (T:=T13) (T1:=numT T13) (u:=.int .i64 (numO T13)) 107 [(pt tb 0)] (by kernel_rfl) (tkNum_any (h13.rd 0 rfl) (h13.at_ 0 rfl) (h13.offTk 0 0 rfl rfl))) ?_
 rintro _ w14 ⟨A14,c14,T14,hT14,rfl,h14⟩
 have hsm14:Sm T14.1:=by rw [hT14];exact Sm.nxT (T:=T13) hsm13 0
 refine mT (x_tkT h14 0 rfl 0 rfl (T:=T14) (T1:=nameT T14) (u:=.string (nameO T14)) 106 [(pt tb 0)] (by kernel_rfl) (tkName_any (h14.rd 0 rfl) (h14.at_ 0 rfl) (h14.offTk 0 0 rfl rfl) hsm14)) ?_
 rintro _ w15 ⟨A15,c15,T15,hT15,rfl,h15⟩
 have hsm15:Sm T15.1:=by rw [hT15];exact Sm.nxT (T:=T14) hsm14 1
 refine mT (x_tkT h15 0 rfl 0 rfl (T:=T15) (T1:=numT T15) (u:=.int .i64 (numO T15)) 107 [(pt tb 0)] (by kernel_rfl) (tkNum_any (h15.rd 0 rfl) (h15.at_ 0 rfl) (h15.offTk 0 0 rfl rfl))) ?_
 rintro _ w16 ⟨A16,c16,T16,hT16,rfl,h16⟩
 have hsm16:Sm T16.1:=by rw [hT16];exact Sm.nxT (T:=T15) hsm15 0
 refine mT (x_tkT h16 0 rfl 0 rfl (T:=T16) (T1:=numT T16) (u:=.int .i64 (numO T16)) 107 [(pt tb 0)] (by kernel_rfl) (tkNum_any (h16.rd 0 rfl) (h16.at_ 0 rfl) (h16.offTk 0 0 rfl rfl))) ?_
 rintro _ w17 ⟨A17,c17,T17,hT17,rfl,h17⟩
 have hsm17:Sm T17.1:=by rw [hT17];exact Sm.nxT (T:=T16) hsm16 0
 refine mT (x_tkT h17 0 rfl 0 rfl (T:=T17) (T1:=numT T17) (u:=.int .i64 (numO T17)) 107 [(pt tb 0)] (by kernel_rfl) (tkNum_any (h17.rd 0 rfl) (h17.at_ 0 rfl) (h17.offTk 0 0 rfl rfl))) ?_
 rintro _ w18 ⟨A18,c18,T18,hT18,rfl,h18⟩
 have hsm18:Sm T18.1:=by rw [hT18];exact Sm.nxT (T:=T17) hsm17 0
 obtain hk|⟨hk,hdn⟩|⟨hk,hdn⟩:v.kind≠2∨(v.kind=2/\doneO T18=false)∨(v.kind=2/\doneO T18=true):=of_cases _ _
 ·
  refine ma h18 1 ?_
  refine mX 94 zI (bV (((v.kind:Int)) != 2)) (ine (b:=2) hk) ?_
  refine mP (Value.tuple #[Value.nilIface,zV]) ?_
  exact ofpost_no (of_no (by rw [ht];subst hT0 hT12 hT13 hT14 hT15 hT16 hT17 hT18;rfl:ofTag v.tag (v.l,false)=some (Thing.reply (numO T0) (keyO T12) (numO T13) (nameO T14) (numO T15) (numO T16) (numO T17),T18)) (by rintro ⟨h1,h2⟩;first|exact hk h1|(rw [hdn] at h2;cases h2))) h18.below0
 ·
  refine ma h18 1 ?_
  refine mX 94 zV (bV (((v.kind:Int)) != 2)) (ieq (b:=2) hk) ?_
  refine mW 97 (v:=zV) (pureOp_run (by kernel_rfl) _) ?_
  refine mD h18 [(pt tb 0)] (tkDone_any (bad:=T18.2) (ts:=T18.1) (h18.at_ 0 rfl)) (fun w23 h23=>?_)
  refine mX 102 zI (bV (!(doneO T18))) (congrArg bV (by rw [hdn];rfl)) ?_
  refine mP (Value.tuple #[Value.nilIface,zV]) ?_
  exact ofpost_no (of_no (by rw [ht];subst hT0 hT12 hT13 hT14 hT15 hT16 hT17 hT18;rfl:ofTag v.tag (v.l,false)=some (Thing.reply (numO T0) (keyO T12) (numO T13) (nameO T14) (numO T15) (numO T16) (numO T17),T18)) (by rintro ⟨h1,h2⟩;first|exact hk h1|(rw [hdn] at h2;cases h2))) h23.below0
 refine ma h18 1 ?_
 refine mX 94 zV (bV (((v.kind:Int)) != 2)) (ieq (b:=2) hk) ?_
 refine mW 97 (v:=zV) (pureOp_run (by kernel_rfl) _) ?_
 refine mD h18 [(pt tb 0)] (tkDone_any (bad:=T18.2) (ts:=T18.1) (h18.at_ 0 rfl)) (fun w25 h25=>?_)
 refine mX 102 zV (bV (!(doneO T18))) (congrArg bV (by rw [hdn];rfl)) ?_
 refine mP (Value.tuple #[(Value.iface 211 (aV ([(zD (numO T0))]++vb (kl (keyO T12))++[(zD (numO T13)),(sV (nameO T14)),(zD (numO T15)),(zD (numO T16)),(zD (numO T17))]).toArray)),zI]) ?_
 exact ofpost_yes (of_yes (by rw [ht];subst hT0 hT12 hT13 hT14 hT15 hT16 hT17 hT18;rfl:ofTag v.tag (v.l,false)=some (Thing.reply (numO T0) (keyO T12) (numO T13) (nameO T14) (numO T15) (numO T16) (numO T17),T18)) hk hdn) (show ThR G _ _ (Thing.reply (numO T0) (keyO T12) (numO T13) (nameO T14) (numO T15) (numO T16) (numO T17)) from rfl) h25.below0
theorem of_authent{G:Nat->Prop}{B A:Option Addr}{d c:Nat}{v:DVal}{w:World}(hsm:Sm v.l)(hL:(rLst G A c v.l).Φ w)(ht:v.tag=4):Calls Tryz.prog 90 #[.agg #[.int .i64 (v.kind:Int),.int .i64 (v.tag:Int),.int .u64 (v.n:Int),.slice B v.b.length d,.slice A v.l.length c]] w (OfPost w G (ofF v)):=by
 have h0:=Hp.ro1 (rLst G A c v.l) hL
 refine mE 105 ?_
 refine mN h0 196 ([(zD ((v.kind:Int))),(zD ((v.tag:Int))),(iV .u64 ((v.n:Int))),(lV B v.b.length d),(lV A v.l.length c)]) fun g2 w2 h2=>?_
 refine ma h2 0 ?_
 refine mT (x_take h2 [(aV ([(zD ((v.kind:Int))),(zD ((v.tag:Int))),(iV .u64 ((v.n:Int))),(lV B v.b.length d),(lV A v.l.length c)]).toArray)] (by kernel_rfl) (take_any v.kind v.tag v.n B A v.b.length d v.l.length c _)) ?_
 rintro _ w4 ⟨tb,rfl,h4⟩
 obtain ⟨T0,hT0⟩:∃ T,T=((v.l,false):TkSt):=⟨_,rfl⟩
 have e1:v.l=T0.1:=by rw [hT0]
 have e2:false=T0.2:=by rw [hT0]
 have hsm0:Sm T0.1:=by rw [← e1];exact hsm
 have h5:=h4.below (Below.refl _ _)
 rw [e1,e2] at h5
 refine ma h5 1 ?_
 refine mX 11 zV (bV (((v.tag:Int)) == 1)) (tag_ne ht (by decide)) ?_
 refine mX 19 zV (bV (((v.tag:Int)) == 2)) (tag_ne ht (by decide)) ?_
 refine mX 35 zV (bV (((v.tag:Int)) == 3)) (tag_ne ht (by decide)) ?_
 refine mX 53 zI (bV (((v.tag:Int)) == 4)) (tag_eq ht) ?_
 refine mT (x_tkT h5 0 rfl 0 rfl (T:=T0) (T1:=nameT T0) (u:=.string (nameO T0)) 106 [(pt tb 0)] (by kernel_rfl) (tkName_any (h5.rd 0 rfl) (h5.at_ 0 rfl) (h5.offTk 0 0 rfl rfl) hsm0)) ?_
 rintro _ w13 ⟨A13,c13,T13,hT13,rfl,h13⟩
 have hsm13:Sm T13.1:=by rw [hT13];exact Sm.nxT (T:=T0) hsm0 1
 refine mT (x_tkT h13 0 rfl 0 rfl (T:=T13) (T1:=numT T13) (u:=.int .i64 (numO T13)) 107 [(pt tb 0)] (by kernel_rfl) (tkNum_any (h13.rd 0 rfl) (h13.at_ 0 rfl) (h13.offTk 0 0 rfl rfl))) ?_
 rintro _ w14 ⟨A14,c14,T14,hT14,rfl,h14⟩
 have hsm14:Sm T14.1:=by rw [hT14];exact Sm.nxT (T:=T13) hsm13 0
 refine mT (x_tkT h14 0 rfl 0 rfl (T:=T14) (T1:=numT T14) (u:=.int .i64 (numO T14)) 107 [(pt tb 0)] (by kernel_rfl) (tkNum_any (h14.rd 0 rfl) (h14.at_ 0 rfl) (h14.offTk 0 0 rfl rfl))) ?_
 rintro _ w15 ⟨A15,c15,T15,hT15,rfl,h15⟩
 have hsm15:Sm T15.1:=by rw [hT15];exact Sm.nxT (T:=T14) hsm14 0
 refine mT (x_tkT h15 0 rfl 0 rfl (T:=T15) (T1:=keyT T15) (u:=.agg (vb (kl (keyO T15))).toArray) 118 [(pt tb 0)] (by kernel_rfl) (tkKey_any (h15.rd 0 rfl) (h15.at_ 0 rfl) (h15.offTk 0 0 rfl rfl))) ?_
 rintro _ w16 ⟨A16,c16,T16,hT16,rfl,h16⟩
 have hsm16:Sm T16.1:=by rw [hT16];exact Sm.nxT (T:=T15) hsm15 1
 refine mT (x_bkT h16 0 rfl 0 rfl (T:=T16) (T1:=bytesT T16) (l:=bytesO T16) 108 [(pt tb 0)] (by kernel_rfl) (tkBytes_any (h16.rd 0 rfl) (h16.at_ 0 rfl) (h16.offTk 0 0 rfl rfl))) ?_
 rintro _ w17 ⟨A17,c17,T17,B17,d17,hT17,rfl,h17⟩
 have hsm17:Sm T17.1:=by rw [hT17];exact Sm.nxT (T:=T16) hsm16 1
 obtain hk|⟨hk,hdn⟩|⟨hk,hdn⟩:v.kind≠2∨(v.kind=2/\doneO T17=false)∨(v.kind=2/\doneO T17=true):=of_cases _ _
 ·
  refine ma h17 1 ?_
  refine mX 94 zI (bV (((v.kind:Int)) != 2)) (ine (b:=2) hk) ?_
  refine mP (Value.tuple #[Value.nilIface,zV]) ?_
  exact ofpost_no (of_no (by rw [ht];subst hT0 hT13 hT14 hT15 hT16 hT17;rfl:ofTag v.tag (v.l,false)=some (Thing.authent (nameO T0) (numO T13) (numO T14) (keyO T15) (bytesO T16),T17)) (by rintro ⟨h1,h2⟩;first|exact hk h1|(rw [hdn] at h2;cases h2))) h17.below0
 ·
  refine ma h17 1 ?_
  refine mX 94 zV (bV (((v.kind:Int)) != 2)) (ieq (b:=2) hk) ?_
  refine mW 97 (v:=zV) (pureOp_run (by kernel_rfl) _) ?_
  refine mD h17 [(pt tb 0)] (tkDone_any (bad:=T17.2) (ts:=T17.1) (h17.at_ 0 rfl)) (fun w22 h22=>?_)
  refine mX 102 zI (bV (!(doneO T17))) (congrArg bV (by rw [hdn];rfl)) ?_
  refine mP (Value.tuple #[Value.nilIface,zV]) ?_
  exact ofpost_no (of_no (by rw [ht];subst hT0 hT13 hT14 hT15 hT16 hT17;rfl:ofTag v.tag (v.l,false)=some (Thing.authent (nameO T0) (numO T13) (numO T14) (keyO T15) (bytesO T16),T17)) (by rintro ⟨h1,h2⟩;first|exact hk h1|(rw [hdn] at h2;cases h2))) h22.below0
 refine ma h17 1 ?_
 refine mX 94 zV (bV (((v.kind:Int)) != 2)) (ieq (b:=2) hk) ?_
 refine mW 97 (v:=zV) (pureOp_run (by kernel_rfl) _) ?_
 refine mD h17 [(pt tb 0)] (tkDone_any (bad:=T17.2) (ts:=T17.1) (h17.at_ 0 rfl)) (fun w24 h24=>?_)
 refine mX 102 zV (bV (!(doneO T17))) (congrArg bV (by rw [hdn];rfl)) ?_
 refine mP (Value.tuple #[(Value.iface 71 (aV ([(sV (nameO T0)),(zD (numO T13)),(zD (numO T14))]++vb (kl (keyO T15))++[(lV B17 ((bytesO T16).length) d17)]).toArray)),zI]) ?_
 exact ofpost_yes (of_yes (by rw [ht];subst hT0 hT13 hT14 hT15 hT16 hT17;rfl:ofTag v.tag (v.l,false)=some (Thing.authent (nameO T0) (numO T13) (numO T14) (keyO T15) (bytesO T16),T17)) hk hdn) (show ThR G _ _ (Thing.authent (nameO T0) (numO T13) (numO T14) (keyO T15) (bytesO T16)) from ⟨_,_,rfl,h24.rd 1 rfl⟩) h24.below0
theorem of_fact{G:Nat->Prop}{B A:Option Addr}{d c:Nat}{v:DVal}{w:World}(hsm:Sm v.l)(hL:(rLst G A c v.l).Φ w)(ht:v.tag=6):Calls Tryz.prog 90 #[.agg #[.int .i64 (v.kind:Int),.int .i64 (v.tag:Int),.int .u64 (v.n:Int),.slice B v.b.length d,.slice A v.l.length c]] w (OfPost w G (ofF v)):=by
 have h0:=Hp.ro1 (rLst G A c v.l) hL
 refine mE 105 ?_
 refine mN h0 196 ([(zD ((v.kind:Int))),(zD ((v.tag:Int))),(iV .u64 ((v.n:Int))),(lV B v.b.length d),(lV A v.l.length c)]) fun g2 w2 h2=>?_
 refine ma h2 0 ?_
 refine mT (x_take h2 [(aV ([(zD ((v.kind:Int))),(zD ((v.tag:Int))),(iV .u64 ((v.n:Int))),(lV B v.b.length d),(lV A v.l.length c)]).toArray)] (by kernel_rfl) (take_any v.kind v.tag v.n B A v.b.length d v.l.length c _)) ?_
 rintro _ w4 ⟨tb,rfl,h4⟩
 obtain ⟨T0,hT0⟩:∃ T,T=((v.l,false):TkSt):=⟨_,rfl⟩
 have e1:v.l=T0.1:=by rw [hT0]
 have e2:false=T0.2:=by rw [hT0]
 have hsm0:Sm T0.1:=by rw [← e1];exact hsm
 have h5:=h4.below (Below.refl _ _)
 rw [e1,e2] at h5
 refine ma h5 1 ?_
 refine mX 11 zV (bV (((v.tag:Int)) == 1)) (tag_ne ht (by decide)) ?_
 refine mX 19 zV (bV (((v.tag:Int)) == 2)) (tag_ne ht (by decide)) ?_
 refine mX 35 zV (bV (((v.tag:Int)) == 3)) (tag_ne ht (by decide)) ?_
 refine mX 53 zV (bV (((v.tag:Int)) == 4)) (tag_ne ht (by decide)) ?_
 refine mX 67 zV (bV (((v.tag:Int)) == 5)) (tag_ne ht (by decide)) ?_
 refine mX 75 zI (bV (((v.tag:Int)) == 6)) (tag_eq ht) ?_
 refine mT (x_tkT h5 0 rfl 0 rfl (T:=T0) (T1:=numT T0) (u:=.int .i64 (numO T0)) 107 [(pt tb 0)] (by kernel_rfl) (tkNum_any (h5.rd 0 rfl) (h5.at_ 0 rfl) (h5.offTk 0 0 rfl rfl))) ?_
 rintro _ w15 ⟨A15,c15,T15,hT15,rfl,h15⟩
 have hsm15:Sm T15.1:=by rw [hT15];exact Sm.nxT (T:=T0) hsm0 0
 refine mT (x_tkT h15 0 rfl 0 rfl (T:=T15) (T1:=nameT T15) (u:=.string (nameO T15)) 106 [(pt tb 0)] (by kernel_rfl) (tkName_any (h15.rd 0 rfl) (h15.at_ 0 rfl) (h15.offTk 0 0 rfl rfl) hsm15)) ?_
 rintro _ w16 ⟨A16,c16,T16,hT16,rfl,h16⟩
 have hsm16:Sm T16.1:=by rw [hT16];exact Sm.nxT (T:=T15) hsm15 1
 refine mT (x_tkT h16 0 rfl 0 rfl (T:=T16) (T1:=truthT T16) (u:=.bool (truthO T16)) 110 [(pt tb 0)] (by kernel_rfl) (tkTruth_any (h16.rd 0 rfl) (h16.at_ 0 rfl) (h16.offTk 0 0 rfl rfl))) ?_
 rintro _ w17 ⟨A17,c17,T17,hT17,rfl,h17⟩
 have hsm17:Sm T17.1:=by rw [hT17];exact Sm.nxT (T:=T16) hsm16 0
 refine mT (x_tkT h17 0 rfl 0 rfl (T:=T17) (T1:=numT T17) (u:=.int .i64 (numO T17)) 107 [(pt tb 0)] (by kernel_rfl) (tkNum_any (h17.rd 0 rfl) (h17.at_ 0 rfl) (h17.offTk 0 0 rfl rfl))) ?_
 rintro _ w18 ⟨A18,c18,T18,hT18,rfl,h18⟩
 have hsm18:Sm T18.1:=by rw [hT18];exact Sm.nxT (T:=T17) hsm17 0
 obtain hk|⟨hk,hdn⟩|⟨hk,hdn⟩:v.kind≠2∨(v.kind=2/\doneO T18=false)∨(v.kind=2/\doneO T18=true):=of_cases _ _
 ·
  refine ma h18 1 ?_
  refine mX 94 zI (bV (((v.kind:Int)) != 2)) (ine (b:=2) hk) ?_
  refine mP (Value.tuple #[Value.nilIface,zV]) ?_
  exact ofpost_no (of_no (by rw [ht];subst hT0 hT15 hT16 hT17 hT18;rfl:ofTag v.tag (v.l,false)=some (Thing.fact (numO T0) (nameO T15) (truthO T16) (numO T17),T18)) (by rintro ⟨h1,h2⟩;first|exact hk h1|(rw [hdn] at h2;cases h2))) h18.below0
 ·
  refine ma h18 1 ?_
  refine mX 94 zV (bV (((v.kind:Int)) != 2)) (ieq (b:=2) hk) ?_
  refine mW 97 (v:=zV) (pureOp_run (by kernel_rfl) _) ?_
  refine mD h18 [(pt tb 0)] (tkDone_any (bad:=T18.2) (ts:=T18.1) (h18.at_ 0 rfl)) (fun w23 h23=>?_)
  refine mX 102 zI (bV (!(doneO T18))) (congrArg bV (by rw [hdn];rfl)) ?_
  refine mP (Value.tuple #[Value.nilIface,zV]) ?_
  exact ofpost_no (of_no (by rw [ht];subst hT0 hT15 hT16 hT17 hT18;rfl:ofTag v.tag (v.l,false)=some (Thing.fact (numO T0) (nameO T15) (truthO T16) (numO T17),T18)) (by rintro ⟨h1,h2⟩;first|exact hk h1|(rw [hdn] at h2;cases h2))) h23.below0
 refine ma h18 1 ?_
 refine mX 94 zV (bV (((v.kind:Int)) != 2)) (ieq (b:=2) hk) ?_
 refine mW 97 (v:=zV) (pureOp_run (by kernel_rfl) _) ?_
 refine mD h18 [(pt tb 0)] (tkDone_any (bad:=T18.2) (ts:=T18.1) (h18.at_ 0 rfl)) (fun w25 h25=>?_)
 refine mX 102 zV (bV (!(doneO T18))) (congrArg bV (by rw [hdn];rfl)) ?_
 refine mP (Value.tuple #[(Value.iface 49 (aV ([(zD (numO T0)),(sV (nameO T15)),(bV (truthO T16)),(zD (numO T17))]).toArray)),zI]) ?_
 exact ofpost_yes (of_yes (by rw [ht];subst hT0 hT15 hT16 hT17 hT18;rfl:ofTag v.tag (v.l,false)=some (Thing.fact (numO T0) (nameO T15) (truthO T16) (numO T17),T18)) hk hdn) (show ThR G _ _ (Thing.fact (numO T0) (nameO T15) (truthO T16) (numO T17)) from rfl) h25.below0
theorem of_plain{G:Nat->Prop}{B A:Option Addr}{d c:Nat}{v:DVal}{w:World}(hsm:Sm v.l)(hL:(rLst G A c v.l).Φ w)(ht:v.tag=7):Calls Tryz.prog 90 #[.agg #[.int .i64 (v.kind:Int),.int .i64 (v.tag:Int),.int .u64 (v.n:Int),.slice B v.b.length d,.slice A v.l.length c]] w (OfPost w G (ofF v)):=by
 have h0:=Hp.ro1 (rLst G A c v.l) hL
 refine mE 105 ?_
 refine mN h0 196 ([(zD ((v.kind:Int))),(zD ((v.tag:Int))),(iV .u64 ((v.n:Int))),(lV B v.b.length d),(lV A v.l.length c)]) fun g2 w2 h2=>?_
 refine ma h2 0 ?_
 refine mT (x_take h2 [(aV ([(zD ((v.kind:Int))),(zD ((v.tag:Int))),(iV .u64 ((v.n:Int))),(lV B v.b.length d),(lV A v.l.length c)]).toArray)] (by kernel_rfl) (take_any v.kind v.tag v.n B A v.b.length d v.l.length c _)) ?_
 rintro _ w4 ⟨tb,rfl,h4⟩
 obtain ⟨T0,hT0⟩:∃ T,T=((v.l,false):TkSt):=⟨_,rfl⟩
 have e1:v.l=T0.1:=by rw [hT0]
 have e2:false=T0.2:=by rw [hT0]
 have hsm0:Sm T0.1:=by rw [← e1];exact hsm
 have h5:=h4.below (Below.refl _ _)
 rw [e1,e2] at h5
 refine ma h5 1 ?_
 refine mX 11 zV (bV (((v.tag:Int)) == 1)) (tag_ne ht (by decide)) ?_
 refine mX 19 zV (bV (((v.tag:Int)) == 2)) (tag_ne ht (by decide)) ?_
 refine mX 35 zV (bV (((v.tag:Int)) == 3)) (tag_ne ht (by decide)) ?_
 refine mX 53 zV (bV (((v.tag:Int)) == 4)) (tag_ne ht (by decide)) ?_
 refine mX 67 zV (bV (((v.tag:Int)) == 5)) (tag_ne ht (by decide)) ?_
 refine mX 75 zV (bV (((v.tag:Int)) == 6)) (tag_ne ht (by decide)) ?_
 refine mX 87 zI (bV (((v.tag:Int)) == 7)) (tag_eq ht) ?_
 refine mT (x_bkT h5 0 rfl 0 rfl (T:=T0) (T1:=bytesT T0) (l:=bytesO T0) 108 [(pt tb 0)] (by kernel_rfl) (tkBytes_any (h5.rd 0 rfl) (h5.at_ 0 rfl) (h5.offTk 0 0 rfl rfl))) ?_
 rintro _ w16 ⟨A16,c16,T16,B16,d16,hT16,rfl,h16⟩
 have hsm16:Sm T16.1:=by rw [hT16];exact Sm.nxT (T:=T0) hsm0 1
 obtain hk|⟨hk,hdn⟩|⟨hk,hdn⟩:v.kind≠2∨(v.kind=2/\doneO T16=false)∨(v.kind=2/\doneO T16=true):=of_cases _ _
 ·
  refine ma h16 1 ?_
  refine mX 94 zI (bV (((v.kind:Int)) != 2)) (ine (b:=2) hk) ?_
  refine mP (Value.tuple #[Value.nilIface,zV]) ?_
  exact ofpost_no (of_no (by rw [ht];subst hT0 hT16;rfl:ofTag v.tag (v.l,false)=some (Thing.plain (bytesO T0),T16)) (by rintro ⟨h1,h2⟩;first|exact hk h1|(rw [hdn] at h2;cases h2))) h16.below0
 ·
  refine ma h16 1 ?_
  refine mX 94 zV (bV (((v.kind:Int)) != 2)) (ieq (b:=2) hk) ?_
  refine mW 97 (v:=zV) (pureOp_run (by kernel_rfl) _) ?_
  refine mD h16 [(pt tb 0)] (tkDone_any (bad:=T16.2) (ts:=T16.1) (h16.at_ 0 rfl)) (fun w21 h21=>?_)
  refine mX 102 zI (bV (!(doneO T16))) (congrArg bV (by rw [hdn];rfl)) ?_
  refine mP (Value.tuple #[Value.nilIface,zV]) ?_
  exact ofpost_no (of_no (by rw [ht];subst hT0 hT16;rfl:ofTag v.tag (v.l,false)=some (Thing.plain (bytesO T0),T16)) (by rintro ⟨h1,h2⟩;first|exact hk h1|(rw [hdn] at h2;cases h2))) h21.below0
 refine ma h16 1 ?_
 refine mX 94 zV (bV (((v.kind:Int)) != 2)) (ieq (b:=2) hk) ?_
 refine mW 97 (v:=zV) (pureOp_run (by kernel_rfl) _) ?_
 refine mD h16 [(pt tb 0)] (tkDone_any (bad:=T16.2) (ts:=T16.1) (h16.at_ 0 rfl)) (fun w23 h23=>?_)
 refine mX 102 zV (bV (!(doneO T16))) (congrArg bV (by rw [hdn];rfl)) ?_
 refine mP (Value.tuple #[(Value.iface 276 (aV ([(lV B16 ((bytesO T0).length) d16)]).toArray)),zI]) ?_
 exact ofpost_yes (of_yes (by rw [ht];subst hT0 hT16;rfl:ofTag v.tag (v.l,false)=some (Thing.plain (bytesO T0),T16)) hk hdn) (show ThR G _ _ (Thing.plain (bytesO T0)) from ⟨_,_,rfl,h23.rd 1 rfl⟩) h23.below0
theorem of_none{G:Nat->Prop}{B A:Option Addr}{d c:Nat}{v:DVal}{w:World}(hsm:Sm v.l)(hL:(rLst G A c v.l).Φ w)(ht:v.tag=0∨7<v.tag):Calls Tryz.prog 90 #[.agg #[.int .i64 (v.kind:Int),.int .i64 (v.tag:Int),.int .u64 (v.n:Int),.slice B v.b.length d,.slice A v.l.length c]] w (OfPost w G (ofF v)):=by
 have h0:=Hp.ro1 (rLst G A c v.l) hL
 refine mE 105 ?_
 refine mN h0 196 ([(zD ((v.kind:Int))),(zD ((v.tag:Int))),(iV .u64 ((v.n:Int))),(lV B v.b.length d),(lV A v.l.length c)]) fun g2 w2 h2=>?_
 refine ma h2 0 ?_
 refine mT (x_take h2 [(aV ([(zD ((v.kind:Int))),(zD ((v.tag:Int))),(iV .u64 ((v.n:Int))),(lV B v.b.length d),(lV A v.l.length c)]).toArray)] (by kernel_rfl) (take_any v.kind v.tag v.n B A v.b.length d v.l.length c _)) ?_
 rintro _ w4 ⟨tb,rfl,h4⟩
 obtain ⟨T0,hT0⟩:∃ T,T=((v.l,false):TkSt):=⟨_,rfl⟩
 have e1:v.l=T0.1:=by rw [hT0]
 have e2:false=T0.2:=by rw [hT0]
 have hsm0:Sm T0.1:=by rw [← e1];exact hsm
 have h5:=h4.below (Below.refl _ _)
 rw [e1,e2] at h5
 refine ma h5 1 ?_
 refine mX 11 zV (bV (((v.tag:Int)) == 1)) (tag_none ht (by decide) (by decide)) ?_
 refine mX 19 zV (bV (((v.tag:Int)) == 2)) (tag_none ht (by decide) (by decide)) ?_
 refine mX 35 zV (bV (((v.tag:Int)) == 3)) (tag_none ht (by decide) (by decide)) ?_
 refine mX 53 zV (bV (((v.tag:Int)) == 4)) (tag_none ht (by decide) (by decide)) ?_
 refine mX 67 zV (bV (((v.tag:Int)) == 5)) (tag_none ht (by decide) (by decide)) ?_
 refine mX 75 zV (bV (((v.tag:Int)) == 6)) (tag_none ht (by decide) (by decide)) ?_
 refine mX 87 zV (bV (((v.tag:Int)) == 7)) (tag_none ht (by decide) (by decide)) ?_
 rcases Classical.em (v.kind=2) with hk|hk
 ·
  refine ma h5 1 ?_
  refine mX 94 zV (bV (((v.kind:Int)) != 2)) (ieq (b:=2) hk) ?_
  refine mW 97 (v:=zI) (pureOp_run (by kernel_rfl) _) ?_
  refine mP (Value.tuple #[Value.nilIface,zV]) ?_
  exact ofpost_no (by unfold ofF;rw [ofTag_none ht];rfl) h5.below0
 refine ma h5 1 ?_
 refine mX 94 zI (bV (((v.kind:Int)) != 2)) (ine (b:=2) hk) ?_
 refine mP (Value.tuple #[Value.nilIface,zV]) ?_
 exact ofpost_no (by unfold ofF;rw [ofTag_none ht];rfl) h5.below0
theorem of_any{G:Nat->Prop}{cs:List Value}{v:DVal}{w:World}(hsm:Sm v.l)(hv:(rDV G cs v).Φ w):Calls Tryz.prog 90 #[.agg cs.toArray] w (OfPost w G (ofF v)):=by
 obtain ⟨B,d,A,c,rfl,hsg,hls,hn⟩:=dv_lst hv
 rcases Nat.lt_or_ge 7 v.tag with h7|h7
 · exact of_none hsm hls (.inr h7)
 rcases (by omega:v.tag=0∨v.tag=1∨v.tag=2∨v.tag=3∨v.tag=4∨v.tag=5∨v.tag=6∨v.tag=7) with h|h|h|h|h|h|h|h
 · exact of_none hsm hls (.inl h)
 · exact of_ticket hsm hls h
 · exact of_inside hsm hls h
 · exact of_reply hsm hls h
 · exact of_authent hsm hls h
 · exact of_stamp hsm hls h
 · exact of_fact hsm hls h
 exact of_plain hsm hls h
end
section
open Go.RowKit Go.QT
theorem szB_head(k t m:Nat)(r:Bytes)(hm:m<65536)(hr:m<=r.length):szB (headB k t m++r)=(0,m,(headB k t m).length):=by
 by_cases h:m<128
 · have hl:=head_loL k t h
   have h1:=head_lo1 k t h r
   unfold szB
   rw [h1,hl,if_neg (by rw [List.length_append,hl];omega),if_pos h,if_pos (by rw [List.length_append,hl];omega)]
 have hl:=head_hiL k t h
 have h1:=head_hi1 k t h r
 have h2:=short_two (m:=m) (by omega) hm
 have h3:=head_hi2 k t h r
 have h4:=getN_short (n:=m) (by omega)
 have hL:(headB k t m++r).length=2+(shortB m).length+r.length:=by rw [List.length_append,hl]
 unfold szB
 rw [h1,hl,show 128+(shortB m).length-128=(shortB m).length by omega,h3,h4,hL]
 rw [if_neg (by omega),if_neg (by omega),if_neg (by omega),if_neg (by omega),if_neg (by omega),if_pos (by omega)]
theorem rdB_wr(m:Nat):∀ (d:Nat),d+m=9->∀ (v:DVal) (r:Bytes),rightV v d=true->numV v=true->(wrV v).length<65536->rdB m (wrV v++r)=.inr (v,(wrV v).length):=by
 induction m with
 | zero=>intro d h v r hr;obtain ⟨k,t,n,b,ts⟩:=v;exact absurd (rightV_le hr).2.2 (by omega)
 | succ m ih =>
   intro d h v r hr hnum hb
   obtain ⟨k,t,n,b,ts⟩:=v
   obtain ⟨hk,ht,hd⟩:=rightV_le hr
   have hbl:=wrV_len (.mk k t n b ts)
   have ew:wrV (.mk k t n b ts)=headB k t (bodyV (.mk k t n b ts)).length++bodyV (.mk k t n b ts):=wrV_eq _
   have el:(wrV (.mk k t n b ts)).length=(headB k t (bodyV (.mk k t n b ts)).length).length+(bodyV (.mk k t n b ts)).length:=by rw [ew,List.length_append]
   have eL:wrV (.mk k t n b ts)++r=headB k t (bodyV (.mk k t n b ts)).length++(bodyV (.mk k t n b ts)++r):=by rw [ew,List.append_assoc]
   rw [numV,Bool.and_eq_true,decide_eq_true_eq] at hnum
   have h0:=head_0 k t (bodyV (.mk k t n b ts)).length hk ht (bodyV (.mk k t n b ts)++r)
   have hc:=cut_mid (headB k t (bodyV (.mk k t n b ts)).length) (bodyV (.mk k t n b ts)) r
   have hs:=szB_head k t (bodyV (.mk k t n b ts)).length (bodyV (.mk k t n b ts)++r) (by omega) (by rw [List.length_append];omega)
   rw [rdB,eL,hs,h0]
   simp only
   rw [if_neg (fun hh=>hh rfl),if_neg (by omega),hc,← el,show (k*64+t) / 64=k by omega,show (k*64+t) % 64=t by omega]
   rw [rightV] at hr
   simp only [Bool.and_eq_true] at hr
   have hr:=hr.2
   match k,hk with
   | 0,_ =>
     rw [if_pos rfl,Bool.and_eq_true,List.isEmpty_iff,List.isEmpty_iff] at hr
     obtain ⟨rfl,rfl⟩:=hr
     have hbd:bodyV (.mk 0 t n [] [])=shortB n:=rfl
     have hs1:=List.length_pos_iff.2 (shortB_ne n)
     have hs8:=shortB_len n
     rw [hbd,ptB,if_pos rfl,getN_short hnum.1]
     rw [if_neg (fun hh=>hh.elim (fun h=>by omega) (fun hh=>hh.elim (fun h=>by omega) (fun h=>short_lead n h.1 h.2)))]
   | 1,_ =>
     rw [if_neg (by decide),if_pos rfl,Bool.and_eq_true,decide_eq_true_eq,List.isEmpty_iff] at hr
     obtain ⟨rfl,rfl⟩:=hr
     rw [ptB,if_neg (by decide),if_pos rfl];rfl
   | 2,_ =>
     rw [if_neg (by decide),if_neg (by decide),if_pos rfl,Bool.and_eq_true,Bool.and_eq_true,decide_eq_true_eq,List.isEmpty_iff] at hr
     obtain ⟨⟨hr,rfl⟩,rfl⟩:=hr
     have hbd:bodyV (.mk 2 t 0 [] ts)=wrL ts:=rfl
     rw [hbd] at hbl ⊢
     rw [ptB,if_neg (by decide),if_neg (by decide)]
     have key:∀ (us:List DVal),(∀ u ∈ us,u ∈ ts)->∀ f,(wrL us).length<=f->lsB (rdB m) f (wrL us)=.inr us:=by
       intro us
       induction us with
       | nil=>intro _ f _;cases f with
         | zero=>rfl
         | succ f=>rw [lsB,wrL];rfl
       | cons u us ih2 =>
         intro hm f hf
         have hu:=wrV_pos u
         have e1:wrL (u::us)=wrV u++wrL us:=by rw [wrL]
         have hmu:=hm u (by simp)
         have hle:=wrL_mem hmu
         rw [e1,List.length_append] at hf
         obtain ⟨g,rfl⟩:∃ g,f=g+1:=⟨f-1,by omega⟩
         rw [lsB,e1,if_neg (by rw [List.length_append];omega),ih (d+1) (by omega) u (wrL us) (rightL_mem hr hmu) (numL_mem hnum.2 hmu) (by omega)]
         simp only
         rw [List.drop_left,ih2 (fun x hx=>hm x (by simp [hx])) g (by omega)]
     rw [key ts (fun _ h=>h) _ (Nat.le_refl _)]
/-- What der.Write wrote is read. -/
theorem RdB_wr(v:DVal)(hr:rightV v 1=true)(hn:numV v=true)(hl:(wrV v).length<=4096):RdB (wrV v)=.inr v:=by
 have h:=rdB_wr 8 1 rfl v [] hr hn (by omega)
 rw [List.append_nil] at h
 unfold RdB
 rw [if_neg (by omega),h]
 simp only
 rw [if_neg (by omega)]
end
end Go.Proofs.YtaoijkhndakppaaGreat
