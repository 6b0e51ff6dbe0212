/- The row of HandTurns: for every input the law returns true and what came in reads as it did. -/
import Derived.ChangeMaps5
import Derived.Test.YtaoijkhndakppaaGreatCA16
set_option maxRecDepth 100000
set_option maxHeartbeats 4000000
namespace Go.Proofs.YtaoijkhndakppaaGreat
section
open Go.RowKit Go.QT
/-- It is no message. -/
abbrev MNo(v:DVal):Prop:=Spec Tryz.prog ⟨75,3,[cDV v 1 2],[],[eRg 0 [cDV v 1 2] [.d v]],.t [.v .nilIface,aB false],[]⟩
section
variable{v:DVal}{ts:List DVal}{bad:Bool}{s:ByteArray}{l:Bytes}
set_option maxRecDepth 100000
set_option maxHeartbeats 4000000
theorem neC{n:Nat}{c:Int}(h:(n:Int)≠c):Value.bool ((n:Int) == c)=.bool false:=by rw [beq_eq_false_iff_ne.2 h]
theorem readNo_s{L:Bytes}{v:DVal}(hr:RdB L=.inr v)(h:MNo v):Spec Tryz.prog ⟨44,1,[.o 0 L.length],[eB 0 L],[],.t [.v .nilIface,aI 4],[]⟩:=
 s1 [cA 1001 (dRead_s hr) [],cA 4001 h [(0,51)]]
/-- No more tickets. -/
theorem extraN_s{u z:DVal}{m:Bytes}{T:TkSt}(hv:ptV 0 ts=z)(hT:ptT 0 (ts,bad)=T)(hz:z.l=[]):Spec Tryz.prog ⟨111,9,[.p 0 0],[],[.blk 0 258 [.p 1 0,aB true],.blk 1 287 [.o 5 ts.length,aB bad],eRg 2 [cDV v 3 4,.o 5 ts.length,cDV u 6 7,.o 8 m.length] [.d v,.l ts,.d u,.b m]],aN,
   [.blk 0 258 [.p 1 0,aB true]]⟩:=by
 obtain ⟨zk,zt,zn,zb,zl⟩:=z
 obtain rfl:zl=[]:=hz
 exact sE fun κ0 w0=>kL [cA 2004 (tkPart_s (bad:=bad) (i:=1) (vs:=[cDV v 2 3,.o 4 ts.length,cDV u 5 6,.o 7 m.length]) (fs:=[.d v,.l ts,.d u,.b m]) (x:=.o 4 ts.length) (nx:=8) 0 hv hT rfl rfl rfl rfl (by decide)) [(1,2)]] [] ⟨fun _:Unit=>[(0,.p 0 0),(3,aN),(16,aI 0),(17,aI 0)],fun _=>[.blk 0 258 [.p 1 0,aB true]],9⟩ (fun _=>0) () [(0,0)] (fun K i y hK=>kEnd []) (fun _=>by kernel_rfl)
theorem ofO1_s{t n:Nat}{b:Bytes}(ht:t<11∨22<t):MNo (.mk 1 t n b ts):=
 s1 [cA 1001 (take_s (v:=.mk 1 t n b ts) (a:=1) (b:=2) (i:=0) (vs:=[cDV (.mk 1 t n b ts) 1 2]) (fs:=[.d (.mk 1 t n b ts)]) (nx:=3) rfl rfl rfl rfl (by decide)) [(0,0)],
   fA 4000 (neC (c:=11) (n:=t) (by omega)),fA 6000 (neC (c:=12) (n:=t) (by omega)),fA 8000 (neC (c:=13) (n:=t) (by omega)),fA 10000 (neC (c:=14) (n:=t) (by omega)),fA 12000 (neC (c:=15) (n:=t) (by omega)),fA 14000 (neC (c:=16) (n:=t) (by omega)),fA 16000 (neC (c:=17) (n:=t) (by omega)),fA 18000 (neC (c:=18) (n:=t) (by omega)),fA 20000 (neC (c:=19) (n:=t) (by omega)),fA 22000 (neC (c:=20) (n:=t) (by omega)),fA 24000 (neC (c:=21) (n:=t) (by omega)),fA 26000 (neC (c:=22) (n:=t) (by omega))]
theorem ofO2_s{t n:Nat}{b:Bytes}(ht:t<11∨22<t):MNo (.mk 2 t n b ts):=
 s1 [cA 1001 (take_s (v:=.mk 2 t n b ts) (a:=1) (b:=2) (i:=0) (vs:=[cDV (.mk 2 t n b ts) 1 2]) (fs:=[.d (.mk 2 t n b ts)]) (nx:=3) rfl rfl rfl rfl (by decide)) [(0,0)],
   fA 4000 (neC (c:=11) (n:=t) (by omega)),fA 6000 (neC (c:=12) (n:=t) (by omega)),fA 8000 (neC (c:=13) (n:=t) (by omega)),fA 10000 (neC (c:=14) (n:=t) (by omega)),fA 12000 (neC (c:=15) (n:=t) (by omega)),fA 14000 (neC (c:=16) (n:=t) (by omega)),fA 16000 (neC (c:=17) (n:=t) (by omega)),fA 18000 (neC (c:=18) (n:=t) (by omega)),fA 20000 (neC (c:=19) (n:=t) (by omega)),fA 22000 (neC (c:=20) (n:=t) (by omega)),fA 24000 (neC (c:=21) (n:=t) (by omega)),fA 26000 (neC (c:=22) (n:=t) (by omega))]
end
end
section
open Go.RowKit Go.QT
/-! ### No bytes of what is read are long -/
theorem wr_body(v:DVal):(bodyV v).length<=(wrV v).length:=by rw [wrV_eq,List.length_append];omega
theorem wrL_le:∀ {l:List DVal} {u:DVal},u ∈ l->(wrV u).length<=(wrL l).length
 | [],u,h=>absurd h List.not_mem_nil
 | x::r,u,h=>by
   rw [wrL,List.length_append]
   rcases List.mem_cons.1 h with rfl|h
   · omega
   have:=wrL_le h;omega
/-- What is read holds nothing besides. -/
def NeatV:DVal->Prop
 | .mk k _ n b l=>(k=0->b=[]/\l=[])/\(k=1->n=0/\l=[])/\(k≠0->k≠1->k=2/\n=0/\b=[])
inductive Neat:DVal->Prop
 | mk {v:DVal} (h:NeatV v) (hl:∀ u ∈ v.l,Neat u):Neat v
theorem lsB_neat{rd:Bytes->Nat ⊕ (DVal × Nat)}(hr:∀ l v k,rd l=.inr (v,k)->Neat v):∀ (f:Nat) (l:Bytes) (ts:List DVal),lsB rd f l=.inr ts->∀ u ∈ ts,Neat u
 | 0,l,ts,h=>by injection h with h;subst h;intro u hu;cases hu
 | f+1,l,ts,h=>by
   rw [lsB] at h
   split at h
   · injection h with h;subst h;intro u hu;cases hu
   split at h
   · cases h
   rename_i v k hv
   split at h
   · cases h
   rename_i r hq
   injection h with h;subst h
   intro u hu
   rcases List.mem_cons.1 hu with rfl|hu
   · exact hr _ _ _ hv
   exact lsB_neat hr f _ _ hq u hu
theorem rdB_neat:∀ (m:Nat) (L:Bytes) (v:DVal) (k:Nat),rdB m L=.inr (v,k)->Neat v
 | 0,_,_,_,h=>by cases h
 | m+1,L,v,k,h=>by
   rw [rdB] at h
   split at h
   · cases h
   split at h
   · cases h
   unfold ptB at h
   split at h
   · split at h
     · cases h
     injection h with h;injection h with h _;subst h
     exact ⟨⟨fun _=>⟨rfl,rfl⟩,fun h=>absurd h (by decide),fun h=>absurd rfl h⟩,fun u hu=>absurd hu List.not_mem_nil⟩
   split at h
   · injection h with h;injection h with h _;subst h
     exact ⟨⟨fun h=>absurd h (by decide),fun _=>⟨rfl,rfl⟩,fun _ h=>absurd rfl h⟩,fun u hu=>absurd hu List.not_mem_nil⟩
   split at h
   · cases h
   rename_i ts hts
   injection h with h;injection h with h _;subst h
   exact ⟨⟨fun h=>absurd h (by decide),fun h=>absurd h (by decide),fun _ _=>⟨rfl,rfl,rfl⟩⟩,lsB_neat (rdB_neat m) _ _ _ hts⟩
theorem RdB_neat{L:Bytes}{v:DVal}(h:RdB L=.inr v):Neat v:=by
 unfold RdB at h
 split at h
 · cases h
 split at h
 · cases h
 rename_i v' n hr
 split at h
 · cases h
 injection h with h;subst h
 exact rdB_neat _ _ _ _ hr
theorem Neat.len{v:DVal}(h:Neat v):v.b.length<=(wrV v).length:=by
 obtain ⟨h,_⟩:=h
 obtain ⟨k,t,n,b,l⟩:=v
 obtain ⟨h0,h1,h2⟩:=h
 have hb:=wr_body (.mk k t n b l)
 show b.length<=_
 by_cases e0:k=0
 · rw [(h0 e0).1];exact Nat.zero_le _
 by_cases e1:k=1
 · subst e1
   have e:bodyV (.mk 1 t n b l)=b:=rfl
   rw [e] at hb;exact hb
 rw [(h2 e0 e1).2.2];exact Nat.zero_le _
theorem Neat.sm{v:DVal}(h:Neat v)(hl:(wrV v).length<=4096):Sm v.l:=by
 obtain ⟨h,hn⟩:=h
 obtain ⟨k,t,n,b,l⟩:=v
 obtain ⟨h0,h1,h2⟩:=h
 intro u hu
 have hw:=wr_body (.mk k t n b l)
 by_cases e0:k=0
 · rw [show l=[] from (h0 e0).2] at hu;cases hu
 by_cases e1:k=1
 · rw [show l=[] from (h1 e1).2] at hu;cases hu
 obtain rfl:=(h2 e0 e1).1
 have e:bodyV (.mk 2 t n b l)=wrL l:=rfl
 rw [e] at hw
 have h3:=wrL_le (show u ∈ l from hu)
 have h4:=(hn u hu).len
 omega
theorem Neat.smL{v:DVal}(h:Neat v)(hl:(wrV v).length<=4096):∀ u ∈ v.l,Neat u/\(wrV u).length<=4096:=by
 obtain ⟨h,hn⟩:=h
 obtain ⟨k,t,n,b,l⟩:=v
 obtain ⟨h0,h1,h2⟩:=h
 intro u hu
 refine ⟨hn u hu,?_⟩
 have hw:=wr_body (.mk k t n b l)
 by_cases e0:k=0
 · rw [show l=[] from (h0 e0).2] at hu;cases hu
 by_cases e1:k=1
 · rw [show l=[] from (h1 e1).2] at hu;cases hu
 obtain rfl:=(h2 e0 e1).1
 have e:bodyV (.mk 2 t n b l)=wrL l:=rfl
 rw [e] at hw
 have h3:=wrL_le (show u ∈ l from hu)
 omega
/-! ### What was taken stood there -/
theorem nx_inv{k:Nat}{T T':TkSt}(h:nxT k T=T')(hb:T'.2=false):∃ v,T=(v::T'.1,T'.2)/\v.kind=k/\v.tag=0/\nxV k T.1=v:=by
 obtain ⟨ts,b⟩:=T
 cases ts with
 | nil=>subst h;cases hb
 | cons v r =>
   by_cases hc:v.kind=k/\v.tag=0
   · rw [(nx_good (r:=r) hc.1 hc.2 b).2] at h
     subst h
     exact ⟨v,rfl,hc.1,hc.2,(nx_good (r:=r) hc.1 hc.2 true).1⟩
   have h1:nxT k (v::r,b)=([],true):=if_neg hc
   rw [h1] at h;subst h;cases hb
theorem or_f{a b:Bool}(h:(a || b)=false):a=false/\b=false:=by cases a <;> simp_all
theorem name_inv{T T':TkSt}(h:nameT T=T')(hb:T'.2=false):∃ v,T=(v::T'.1,false)/\v.kind=1/\v.tag=0/\nameO T=⟨v.b.toArray⟩/\rightN (nameO T)=true:=by
 subst h
 obtain ⟨h1,h2⟩:=or_f (show ((nxT 1 T).2 || !rightN (nameO T))=false from hb)
 obtain ⟨v,e1,e2,e3,e4⟩:=nx_inv (T:=T) (k:=1) rfl h1
 refine ⟨v,e1.trans (by rw [h1];rfl),e2,e3,?_,by simpa using h2⟩
 unfold nameO;rw [e4]
theorem num_inv{T T':TkSt}(h:numT T=T')(hb:T'.2=false):∃ v,T=(v::T'.1,false)/\v.kind=0/\v.tag=0/\numO T=v.n/\v.n<=1099511627776:=by
 subst h
 obtain ⟨h1,h2⟩:=or_f (show ((nxT 0 T).2 || decide ((nxV 0 T.1).n>1099511627776))=false from hb)
 obtain ⟨v,e1,e2,e3,e4⟩:=nx_inv (T:=T) (k:=0) rfl h1
 have h3:=of_decide_eq_false h2
 rw [e4] at h3
 refine ⟨v,e1.trans (by rw [h1];rfl),e2,e3,?_,by omega⟩
 unfold numO;rw [e4,if_neg h3]
theorem bytes_inv{T T':TkSt}(h:bytesT T=T')(hb:T'.2=false):∃ v,T=(v::T'.1,false)/\v.kind=1/\v.tag=0/\bytesO T=v.b:=by
 obtain ⟨v,e1,e2,e3,e4⟩:=nx_inv (T:=T) (k:=1) h hb
 refine ⟨v,by rw [e1,hb],e2,e3,?_⟩
 unfold bytesO;rw [e4]
theorem part_inv{k:Nat}{T T':TkSt}(h:ptT k T=T')(hb:T'.2=false):∃ v,T=(v::T'.1,false)/\v.kind=2/\v.tag=k/\ptV k T.1=v:=by
 obtain ⟨ts,b⟩:=T
 cases ts with
 | nil=>subst h;cases hb
 | cons v r =>
   by_cases hc:v.kind=2/\v.tag=k
   · rw [(prt_good (r:=r) hc.1 hc.2 b).2] at h
     subst h
     have hb:b=false:=hb
     subst hb
     exact ⟨v,rfl,hc.1,hc.2,(prt_good (r:=r) hc.1 hc.2 true).1⟩
   have h1:ptT k (v::r,b)=([],true):=if_neg hc
   rw [h1] at h;subst h;cases hb
theorem done_inv{T:TkSt}(h:doneO T=true):T=([],false):=by
 obtain ⟨ts,b⟩:=T
 unfold doneO at h
 rw [Bool.and_eq_true,Bool.not_eq_true',decide_eq_true_eq] at h
 obtain ⟨h1,h2⟩:=h
 rw [show ts=[] from List.length_eq_zero_iff.1 h2,show b=false from h1]
/-! ### As it is written -/
theorem wr_raw{v:DVal}(h:v.kind=1)(h2:v.tag=0):wrV v=wrV (bD v.b):=by
 obtain ⟨k,t,n,b,l⟩:=v
 obtain rfl:k=1:=h
 obtain rfl:t=0:=h2
 rfl
theorem wr_name{v:DVal}{s:ByteArray}(h:v.kind=1)(h2:v.tag=0)(hs:s=⟨v.b.toArray⟩):wrV v=wrV (bD s.data.toList):=by
 subst hs;exact wr_raw h h2
theorem wr_int{v:DVal}{x:Int}(h:v.kind=0)(h2:v.tag=0)(hx:x=v.n):wrV v=wrV (nD x):=by
 obtain ⟨k,t,n,b,l⟩:=v
 obtain rfl:k=0:=h
 obtain rfl:t=0:=h2
 subst hx
 rfl
theorem wr_seq{v:DVal}{t:Nat}{l:List DVal}(h:v.kind=2)(h2:v.tag=t)(hl:wrL v.l=wrL l):wrV v=wrV (.mk 2 t 0 [] l):=by
 obtain ⟨k,t',n,b,l'⟩:=v
 obtain rfl:k=2:=h
 obtain rfl:t'=t:=h2
 have hl:wrL l'=wrL l:=hl
 rw [wrV,wrV,if_neg (by decide),if_neg (by decide),if_neg (by decide),if_neg (by decide),hl]
theorem wr_ticket{u:DVal}{s:ByteArray}{l:Bytes}(h:u.kind=2)(h2:u.tag=1)(ho:ofF u=some (.ticket s l)):wrV u=wrV (valD (.ticket s l)):=by
 unfold ofF at ho
 rw [h,h2] at ho
 have ho:ofEnd 2 (some (ofTicket (u.l,false)))=some (.ticket s l):=ho
 unfold ofEnd ofTicket at ho
 simp only at ho
 split at ho
 · rename_i hc
   injection ho with ho
   injection ho with hs hl
   have hd:=done_inv hc.2
   generalize h4:bytesT (nameT (u.l,false))=T2 at hd
   subst hd
   obtain ⟨w2,e2,a2,b2,c2⟩:=bytes_inv h4 rfl
   generalize h5:nameT (u.l,false)=T1 at e2 hl c2
   subst e2
   obtain ⟨w1,e1,a1,b1,c1,_⟩:=name_inv h5 rfl
   have el:u.l=[w1,w2]:=congrArg Prod.fst e1
   refine wr_seq h h2 ?_
   rw [el]
   show wrL [w1,w2]=wrL [bD s.data.toList,bD l]
   have g1:=wr_name a1 b1 (hs.symm.trans c1)
   have g2:wrV w2=wrV (bD l):=by rw [wr_raw a2 b2,← hl];exact congrArg (fun x=>wrV (bD x)) c2.symm
   simp only [wrL]
   rw [g1,g2]
 cases ho
section
variable{ts:List DVal}{n:Nat}{b:Bytes}{u:DVal}{T1 T2 T3 T4 T5:TkSt}{s:ByteArray}{l:Bytes}
theorem wr_apq(h1:nameT (ts,false)=T1)(h2:nameT T1=T2)(h3:numT T2=T3)(hu:ptV 1 T3.1=u)(h4:ptT 1 T3=T4)(h5:bytesT T4=T5)(ho:ofF u=some (.ticket s l))(hd:doneO T5=true) :
   wrV (.mk 2 17 n b ts)=wrV (apqD (nameO (ts,false)) (nameO T1) (numO T2) (.ticket s l) (bytesO T4))/\0<=numO T2/\numO T2<=1099511627776:=by
 have hd:=done_inv hd
 subst hd
 obtain ⟨w5,e5,a5,b5,c5⟩:=bytes_inv h5 rfl
 obtain ⟨w4,e4,a4,b4,c4⟩:=part_inv h4 (by rw [e5])
 obtain ⟨w3,e3,a3,b3,c3,d3⟩:=num_inv h3 (by rw [e4])
 obtain ⟨w2,e2,a2,b2,c2,_⟩:=name_inv h2 (by rw [e3])
 obtain ⟨w1,e1,a1,b1,c1,_⟩:=name_inv h1 (by rw [e2])
 refine ⟨?_,by omega,by omega⟩
 have hu4:u=w4:=by rw [← hu,c4]
 subst hu4
 have el:ts=[w1,w2,w3,u,w5]:=by
   have h6:ts=w1::T1.1:=congrArg Prod.fst e1
   rw [h6,e2]
   show w1::w2::T2.1=_
   rw [e3]
   show w1::w2::w3::T3.1=_
   rw [e4]
   show w1::w2::w3::u::T4.1=_
   rw [e5]
 refine wr_seq rfl rfl ?_
 show wrL ts=wrL [bD (nameO (ts,false)).data.toList,bD (nameO T1).data.toList,nD (numO T2),valD (.ticket s l),bD (bytesO T4)]
 have g1:=wr_name a1 b1 c1
 have g2:=wr_name a2 b2 c2
 have g3:=wr_int a3 b3 c3
 have g4:=wr_ticket a4 b4 ho
 have g5:wrV w5=wrV (bD (bytesO T4)):=by rw [wr_raw a5 b5,c5]
 have el2:wrL ts=wrL [w1,w2,w3,u,w5]:=congrArg wrL el
 rw [el2]
 simp only [wrL]
 rw [g1,g2,g3,g4,g5]
theorem wr_apr(h1:nameT (ts,false)=T1)(h2:nameT T1=T2)(h3:numT T2=T3)(h5:bytesT T3=T5)(hd:doneO T5=true) :
   wrV (.mk 2 18 n b ts)=wrV (aprD (nameO (ts,false)) (nameO T1) (numO T2) (bytesO T3))/\0<=numO T2/\numO T2<=1099511627776:=by
 have hd:=done_inv hd
 subst hd
 obtain ⟨w5,e5,a5,b5,c5⟩:=bytes_inv h5 rfl
 obtain ⟨w3,e3,a3,b3,c3,d3⟩:=num_inv h3 (by rw [e5])
 obtain ⟨w2,e2,a2,b2,c2,_⟩:=name_inv h2 (by rw [e3])
 obtain ⟨w1,e1,a1,b1,c1,_⟩:=name_inv h1 (by rw [e2])
 refine ⟨?_,by omega,by omega⟩
 have el:ts=[w1,w2,w3,w5]:=by
   have h6:ts=w1::T1.1:=congrArg Prod.fst e1
   rw [h6,e2]
   show w1::w2::T2.1=_
   rw [e3]
   show w1::w2::w3::T3.1=_
   rw [e5]
 refine wr_seq rfl rfl ?_
 show wrL ts=wrL [bD (nameO (ts,false)).data.toList,bD (nameO T1).data.toList,nD (numO T2),bD (bytesO T3)]
 have g1:=wr_name a1 b1 c1
 have g2:=wr_name a2 b2 c2
 have g3:=wr_int a3 b3 c3
 have g5:wrV w5=wrV (bD (bytesO T3)):=by rw [wr_raw a5 b5,c5]
 have el2:wrL ts=wrL [w1,w2,w3,w5]:=congrArg wrL el
 rw [el2]
 simp only [wrL]
 rw [g1,g2,g3,g5]
end
end
section
open Go.RowKit Go.QT
/-- Bytes of the call's own; one of them pointed at. -/
def owC(l:Bytes)(kv:Kv):Prop:=kv.r=rOB (.slice kv.a l.length kv.n) l
abbrev eO(k:Nat)(l:Bytes):Ent:=.opq k (owC l)
def adC(l:Bytes)(i:Nat)(kv:Kv)(vs:List Value):Prop:=kv.r=rOB (.slice kv.a l.length kv.n) l/\vs=[eAt kv.a (i*1)]
section
variable{P:Program}
theorem one_tr{o:Oper}{ev:Operand->AV}{ro H:List Ent}{b:Nat}{k:Nat}{e e':Ent}{v:AV}{r:List Ent}{ob:List Ob}(hf:takeK1 k H=some (e,r))(hr:r.all (fun e=>!Nat.beq e.key k)=true)(hro:ro.all (fun e=>!Nat.beq e.key k)=true)
   (hv:∀ {A:Nat->Prop},A k->(∀ y,(ev y).ok A)->v.ok (fun k=>A k∨In8 b k)) (he:∀ {A:Nat->Prop},A k->e.ok A->e'.ok (fun k=>A k∨In8 b k))
   (h:∀ {A:Nat->Prop} {κ:Kp} {a:Act} {w w0:World} {F0:Nat->Prop},(∀ k,A k->¬ In8 b k)->A k->a.eval=(fun y=>(ev y).den κ)->e.holds κ->Hp F0 w0 w (ro.map (Ent.res κ)) (e.res κ::r.map (Ent.res κ))->OpTo P o a w (fun u w'=>∃ κ',AgR A [k] κ κ'/\u=v.den κ'/\e'.holds κ'/\Hp F0 w0 w' (ro.map (Ent.res κ)) (e'.res κ'::r.map (Ent.res κ)))):Tr P o ev ro H b ⟨v,insK e' r,[k],ob⟩:=by
 obtain ⟨hp,hk⟩:=takeK1_perm hf
 have nk:∀ {l:List Ent},l.all (fun e=>!Nat.beq e.key k)=true->∀ e ∈ l,e.key ∉ [k]:=fun {l} hl e he hm=>by
   have h1:=List.all_eq_true.1 hl e he
   rw [List.mem_singleton.1 hm,Nat.beq_refl] at h1
   cases h1
 refine ⟨fun {A κ a w w0 F0} hA hev hroA hH ha hh=>?_,fun {A} hev hroA hH=>?_,fun e0 h0 hne=>?_⟩
 · have h9:=hh.perm hp
   have hAk:A k:=by rw [← hk];exact Ent.ok_key (hH e (hp.mem_iff.2 (List.mem_cons_self ..)))
   refine (h hA hAk ha (h9.hh _ (List.mem_cons_self ..)) h9.ha.hp).mono fun u w' ⟨κ',hag,e1,e2,h2⟩=>?_
   have hrA:∀ e ∈ r,e.ok A:=fun e he=>hH e (hp.mem_iff.2 (List.mem_cons_of_mem _ he))
   refine ⟨κ',hag,e1,HE.perm (H:=e'::r) ⟨?_,fun e he=>Ent.holds_agr hag (hroA e he) (nk hro e he) (hh.hr e he),fun e he=>?_⟩ (insK_perm _ _)⟩
   · rw [List.map_cons,map_agr hag ro hroA (nk hro),map_agr hag r hrA (nk hr)]
     exact h2.ha
   rcases List.mem_cons.1 he with rfl|he
   · exact e2
   exact Ent.holds_agr hag (hrA e he) (nk hr e he) (h9.hh e (List.mem_cons_of_mem _ he))
 · have h1:=hH e (hp.mem_iff.2 (List.mem_cons_self ..))
   have hAk:A k:=by rw [← hk];exact Ent.ok_key h1
   refine ⟨hv hAk hev,fun e0 h0=>?_⟩
   rcases List.mem_cons.1 ((insK_perm _ _).mem_iff.2 h0) with rfl|h0
   · exact he hAk h1
   exact Ent.ok_mono (fun _ h=>.inl h) (hH e0 (hp.mem_iff.2 (List.mem_cons_of_mem _ h0)))
 rcases List.mem_cons.1 (hp.mem_iff.1 h0) with rfl|h0
 · exact absurd (List.mem_singleton.2 hk) hne
 exact (insK_perm _ _).mem_iff.1 (List.mem_cons_of_mem _ h0)
end
theorem ob_at{w:World}{A:Option Addr}{n c:Nat}{l:Bytes}(h:OB w 0 (.slice A n c) l)(h0:0<l.length):∃ g,A=some ⟨g,0,none⟩:=by
 rcases h.2 with ⟨_,h1⟩|⟨g,cap,cur,e,_⟩
 · omega
 injection e with e1 _ _;exact ⟨g,e1⟩
noncomputable def ixF (k:Nat) (l:Bytes) (i:Nat) (o:Oper) (ev:Operand->AV) (ro H:List Ent) (b:Nat):Option Out:=
 match o.op with
 | .indexAddr t x y=>match takeK1 k H with
   | some (e,r)=>bif Nat.beq t 25 && r.all (fun e=>!Nat.beq e.key k) && ro.all (fun e=>!Nat.beq e.key k) then some ⟨.p b i,insK (.rel k [.p b i] (adC l i)) r,[k],[⟨Ent,e,eO k l⟩,⟨AV,ev x,.o k l.length⟩,⟨AV,ev y,.v (.int .i64 (i:Int))⟩]⟩ else none
   | none=>none
 | _=>none
theorem eAt_pt(g i:Nat):eAt (some ⟨g,0,none⟩) (i*1)=pt g i:=by
 simp only [eAt,Addr.add,Nat.mul_one,Nat.zero_add,pt]
 by_cases h0:i=0
 · subst h0;rfl
 simp [h0]
theorem x_storeU{P:Program}{F0:Nat->Prop}{w0 w:World}{ro rs:List Res}{o:Oper}{a:Act}{A:Option Addr}{c:Nat}(h:Hp F0 w0 w ro rs)(i:Nat){n:Nat}{l:Bytes}(hi:rs[i]?=some (rOB (.slice A n c) l))(j:Nat)(hj:j<l.length)(t:TypeId)(x y:Operand)(ho:o.op=.store t x y)(bv:UInt8)(hx:a.eval x=eAt A (j*1))(hy:a.eval y=.int .u8 (ub bv))(hsz:(P.info? t).map (·.size)=some 1) :
   OpTo P o a w (fun v w'=>v=undef/\Hp F0 w0 w' ro (rs.set i (rOB (.slice A n c) (l.set j bv)))):=by
 have hv:OB w 0 (.slice A n c) l:=h.own i _ hi
 obtain ⟨h1,h2⟩:=id hv
 rcases h2 with ⟨e,h0⟩|⟨g,cap,cur,e,hg,hh,hn,hm,hs,ht⟩
 · omega
 injection e with e1 e2 e3
 subst e1;subst e2;subst e3
 have hb:Blk w g 5 cur.toList:=by unfold Blk;simpa using hh
 have hx':a.eval x=.pointer (some ⟨g,j,none⟩):=by rw [hx];exact eAt_pt g j
 have hl:j<cur.toList.length:=by simp;omega
 refine OpTo.runs (w':=w.setCell ⟨g,j,none⟩ (.int .u8 (ub bv))) (exec_storeCell t x y ho g j _ hx' hy 5 cur.toList hb hl hsz rfl rfl) ⟨rfl,?_⟩
 have hf:=Fr.setCell w g j (.int .u8 (ub bv))
 exact h.upd i hi ⟨hf.os,hf.tape,hf.output,hf.size,fun k hk hn=>hf.block k hk (fun e=>hn (by subst e;rfl))⟩ (rOB (.slice (some ⟨g,0,none⟩) l.length c) (l.set j bv)) (hv.set j bv) (fun q hq=>.inl hq)
/-- &b[i]. -/
noncomputable def ixO (key k:Nat) (l:Bytes) (i:Nat) (hi:i<l.length):Pl Tryz.prog:=⟨key,ixF k l i,by
 intro o ev ro H b u h hob
 unfold ixF at h
 split at h
 · rename_i t x y ho
   split at h
   · rename_i e r hf
     rw [cond_some] at h
     obtain ⟨hc,h⟩:=h
     subst h
     simp only [Bool.and_eq_true] at hc
     obtain ⟨⟨ht,hr⟩,hro⟩:=hc
     obtain rfl:=Nat.eq_of_beq_eq_true ht
     have o1:e=eO k l:=hob _ (List.mem_cons_self ..)
     have o2:ev x=.o k l.length:=hob _ (List.mem_cons_of_mem _ (List.mem_cons_self ..))
     have o3:ev y=.v (.int .i64 (i:Int)):=hob _ (List.mem_cons_of_mem _ (List.mem_cons_of_mem _ (List.mem_cons_self ..)))
     subst o1
     refine one_tr (e:=eO k l) hf hr hro (fun _ _=>.inr ⟨Nat.le_refl _,by omega⟩) (fun hA _=>⟨.inl hA,.inr ⟨Nat.le_refl _,by omega⟩,trivial⟩) fun {A κ a w w0 F0} hA hAk ha hC hp=>?_
     have hC:(κ k).r=rOB (.slice (κ k).a l.length (κ k).n) l:=hC
     have hv:(rOB (.slice (κ k).a l.length (κ k).n) l).Φ w:=by rw [← hC];exact hp.own 0 _ rfl
     have hv:OB w 0 (.slice (κ k).a l.length (κ k).n) l:=hv
     obtain ⟨g,hg⟩:=ob_at hv (by omega)
     have hrv:=(OB.sb hv).rv
     have hlen:(bx l).length=l.length:=by simp [bx]
     have hrun:=e_idxN (P:=Tryz.prog) (o:=o) (a:=a) hrv i l.length hlen hi 25 x y ho .i64 (by rw [ha];simp only [o2];rfl) (by rw [ha];simp only [o3];rfl) 5 (by kernel_rfl) (by kernel_rfl) w
     have hbk:k≠b:=fun e=>hA k hAk (by rw [e];exact ⟨Nat.le_refl _,by omega⟩)
     have hk0:upK κ b ⟨g,none,Res.none_⟩ k=κ k:=upK_ne _ _ hbk
     have hden:(AV.p b i).den (upK κ b ⟨g,none,Res.none_⟩)=eAt (κ k).a (i*1):=by
       rw [hg,eAt_pt];simp only [AV.den];rw [upK_at]
     refine OpTo.run _ hrun ⟨upK κ b ⟨g,none,Res.none_⟩,(upK_agr κ _ hA).weak,hden.symm,?_,?_⟩
     · show adC l i (upK κ b _ k) [(AV.p b i).den _]
       rw [hk0,hden];exact ⟨hC,rfl⟩
     show Hp F0 w0 w _ ((upK κ b _ k).r::_)
     rw [hk0];exact hp
   cases h
 cases h⟩
/-- It is loaded. -/
noncomputable def ldF (k:Nat) (l:Bytes) (i:Nat) (o:Oper) (ev:Operand->AV) (ro H:List Ent) (_:Nat):Option Out:=
 match o.op with
 | .load t x=>match ev x with
   | .p j _=>match takeK1 k H with
     | some (e,r)=>bif Nat.beq t 5 && r.all (fun e=>!Nat.beq e.key k) && ro.all (fun e=>!Nat.beq e.key k) then some ⟨.v (.int .u8 (ub (gb l i))),insK (eO k l) r,[k],[⟨Ent,e,.rel k [.p j i] (adC l i)⟩,⟨AV,ev x,.p j i⟩]⟩ else none
     | none=>none
   | _=>none
 | _=>none
noncomputable def ldO (key k:Nat) (l:Bytes) (i:Nat) (hi:i<l.length):Pl Tryz.prog:=⟨key,ldF k l i,by
 intro o ev ro H b u h hob
 unfold ldF at h
 split at h
 · rename_i t x ho
   split at h
   · rename_i j off hx
     split at h
     · rename_i e r hf
       rw [cond_some] at h
       obtain ⟨hc,h⟩:=h
       subst h
       simp only [Bool.and_eq_true] at hc
       obtain ⟨⟨ht,hr⟩,hro⟩:=hc
       obtain rfl:=Nat.eq_of_beq_eq_true ht
       have o1:e=.rel k [.p j i] (adC l i):=hob _ (List.mem_cons_self ..)
       have o2:ev x=.p j i:=hob _ (List.mem_cons_of_mem _ (List.mem_cons_self ..))
       subst o1
       refine one_tr (e:=.rel k [.p j i] (adC l i)) hf hr hro (fun _ _=>trivial) (fun hA _=>.inl hA) fun {A κ a w w0 F0} hA hAk ha hC hp=>?_
       obtain ⟨hC,hv⟩:=hC
       have hC:(κ k).r=rOB (.slice (κ k).a l.length (κ k).n) l:=hC
       have hv:(AV.p j i).den κ=eAt (κ k).a (i*1):=by injection hv
       have hp:Hp F0 w0 w (ro.map (Ent.res κ)) ((κ k).r::r.map (Ent.res κ)):=hp
       have hb:(rOB (.slice (κ k).a l.length (κ k).n) l).Φ w:=by rw [← hC];exact hp.own 0 _ rfl
       have hb:OB w 0 (.slice (κ k).a l.length (κ k).n) l:=hb
       have hrv:=(OB.sb hb).rv
       have hlen:(bx l).length=l.length:=by simp [bx]
       have hrun:=e_elem (P:=Tryz.prog) (o:=o) (a:=a) hrv i (by rw [hlen];exact hi) 5 x ho (.int .u8 (ub (gb l i))) (by rw [ha];simp only [o2];exact hv) (by simp [bx,gb,hi]) (by kernel_rfl)
       exact OpTo.run _ hrun ⟨κ,AgR.refl _ _ _,rfl,hC,hp⟩
     cases h
   cases h
 cases h⟩
/-- It is stored; from now on the bytes are only read. -/
noncomputable def stF (k:Nat) (l:Bytes) (i:Nat) (z:UInt8) (o:Oper) (ev:Operand->AV) (ro H:List Ent) (_:Nat):Option Out:=
 match o.op with
 | .store t x y=>match ev x with
   | .p j _=>match takeK1 k H with
     | some (e,r)=>bif Nat.beq t 5 && r.all (fun e=>!Nat.beq e.key k) && ro.all (fun e=>!Nat.beq e.key k) then some ⟨.v undef,insK (eB k (l.set i z)) r,[k],[⟨Ent,e,.rel k [.p j i] (adC l i)⟩,⟨AV,ev x,.p j i⟩,⟨AV,ev y,.v (.int .u8 (ub z))⟩]⟩ else none
     | none=>none
   | _=>none
 | _=>none
noncomputable def stO (key k:Nat) (l:Bytes) (i:Nat) (z:UInt8) (hi:i<l.length):Pl Tryz.prog:=⟨key,stF k l i z,by
 intro o ev ro H b u h hob
 unfold stF at h
 split at h
 · rename_i t x y ho
   split at h
   · rename_i j off hx
     split at h
     · rename_i e r hf
       rw [cond_some] at h
       obtain ⟨hc,h⟩:=h
       subst h
       simp only [Bool.and_eq_true] at hc
       obtain ⟨⟨ht,hr⟩,hro⟩:=hc
       obtain rfl:=Nat.eq_of_beq_eq_true ht
       have o1:e=.rel k [.p j i] (adC l i):=hob _ (List.mem_cons_self ..)
       have o2:ev x=.p j i:=hob _ (List.mem_cons_of_mem _ (List.mem_cons_self ..))
       have o3:ev y=.v (.int .u8 (ub z)):=hob _ (List.mem_cons_of_mem _ (List.mem_cons_of_mem _ (List.mem_cons_self ..)))
       subst o1
       refine one_tr (e:=.rel k [.p j i] (adC l i)) hf hr hro (fun _ _=>trivial) (fun hA _=>.inl hA) fun {A κ a w w0 F0} hA hAk ha hC hp=>?_
       obtain ⟨hC,hv⟩:=hC
       have hC:(κ k).r=rOB (.slice (κ k).a l.length (κ k).n) l:=hC
       have hv:(AV.p j i).den κ=eAt (κ k).a (i*1):=by injection hv
       have hp:Hp F0 w0 w (ro.map (Ent.res κ)) ((κ k).r::r.map (Ent.res κ)):=hp
       rw [hC] at hp
       refine (x_storeU (P:=Tryz.prog) (o:=o) (a:=a) hp 0 rfl i hi 5 x y ho z (by rw [ha];simp only [o2];exact hv) (by rw [ha];simp only [o3];rfl) (by kernel_rfl)).mono fun u w' ⟨hu,h2⟩=>?_
       have h3:=h2.own 0 _ rfl
       have h4:=h2.upd 0 rfl (Fr.refl _ _) (rSB (.slice (κ k).a (l.set i z).length (κ k).n) (l.set i z)) (by rw [List.length_set];exact OB.sb h3) (fun q hq=>by rw [List.length_set] at hq;exact .inl hq.2)
       refine ⟨upK κ k ⟨(κ k).n,(κ k).a,rSB (.slice (κ k).a (l.set i z).length (κ k).n) (l.set i z)⟩,fun q _=>?_,hu,?_,?_⟩
       · by_cases hq:q=k
         · subst hq;rw [upK_at];exact ⟨rfl,rfl,fun hn=>absurd (List.mem_singleton.2 rfl) hn⟩
         rw [upK_ne _ _ hq];exact ⟨rfl,rfl,fun _=>rfl⟩
       · show sbC _ (upK κ k _ k)
         rw [upK_at];rfl
       show Hp F0 w0 w' _ ((upK κ k _ k).r::_)
       rw [upK_at];exact h4
     cases h
   cases h
 cases h⟩
end
section
open Go.RowKit Go.QT
/-! ### What is only read may be told as one's own -/
theorem Spec.keepT{P:Program}{f:FuncId}{nx:Nat}{args:List AV}{C:Kv->Prop}{ro:List Ent}{v:AV}(hv:∀ κ κ':Kp,v.den κ=v.den κ')(h:Spec P ⟨f,nx,args,.opq 0 C::ro,[],v,[]⟩):Spec P ⟨f,nx,args,ro,[.opq 0 C],v,[.opq 0 C]⟩:=by
 refine ⟨fun κ w hh=>?_⟩
 have h0:=hh.ha
 have own0:((κ 0).r).Φ w:=h0.own _ (List.mem_singleton.2 rfl)
 have h1:HE (foot κ ([]:List Ent)) w w κ (.opq 0 C::ro) []:=by
   refine ⟨⟨Fr.refl _ _,fun r hr=>absurd hr List.not_mem_nil,fun r hr=>absurd hr List.not_mem_nil,.nil,fun r hr=>?_,fun r _ s hs=>absurd hs List.not_mem_nil⟩,fun e he=>?_,fun e he=>absurd he List.not_mem_nil⟩
   · rcases List.mem_cons.1 hr with rfl|hr
     · exact own0
     exact h0.red r hr
   rcases List.mem_cons.1 he with rfl|he
   · exact hh.hh _ (List.mem_singleton.2 rfl)
   exact hh.hr e he
 refine (h.calls κ w h1).mono fun e w' hq=>?_
 obtain ⟨κ',_,he,hp⟩:=hq.ex
 have hfr:Fr (fun _=>False) w w':=by
   have:=hp.ha.fr
   rw [foot_nil] at this;exact this
 refine ⟨⟨κ,fun _ _=>⟨rfl,rfl⟩,by rw [he,hv κ κ'],?_,fun e he=>absurd he List.not_mem_nil,fun e he=>?_⟩⟩
 · refine ⟨⟨hfr.os,hfr.tape,hfr.output,hfr.size,fun k hk _=>hfr.block k hk fun h=>h⟩,fun r hr=>?_,fun r hr q hq=>?_,List.pairwise_singleton _ _,fun r hr=>absurd hr List.not_mem_nil,fun r hr=>absurd hr List.not_mem_nil⟩
   · obtain rfl:=List.mem_singleton.1 hr
     exact ((κ 0).r).keep own0 hfr.size fun q hq=>hfr.block q (((κ 0).r).lt own0 q hq) fun h=>h
   exact .inl ⟨r,hr,hq⟩
 obtain rfl:=List.mem_singleton.1 he
 exact hh.hh _ (List.mem_singleton.2 rfl)
theorem open_inv{s:STab}{k l b:Bytes}{u:Int}(h:s.open_ k u l=some b):∃ i,s.boxes[i]?=some ⟨k,u,b⟩/\l=mkB 98 (i+1):=by
 unfold STab.open_ at h
 obtain ⟨sl,hs,hb⟩:=Option.bind_eq_some_iff.1 h
 obtain ⟨i,hi,hL⟩:=box_inv hs
 refine ⟨i,?_,hL⟩
 split at hb
 · rename_i hc
   injection hb with hb
   obtain ⟨k',u',b'⟩:=sl
   obtain ⟨h1,h2⟩:=hc
   have h1:k'=k:=h1
   have h2:u'=u:=h2
   have hb:b'=b:=hb
   subst h1;subst h2;subst hb
   exact hi
 cases hb
theorem openTh_no{s:STab}{k l:Bytes}{u:Int}(h:s.open_ k u l=none):openTh s k u l=.inl 13:=by
 unfold openTh;rw [h]
section
variable{t:STab}{K Ki K4:Fin 16->UInt8}{now ta q sid a u r:Int}{l au β:Bytes}{sl:List Sh}{me peer fr tn c1:ByteArray}
set_option maxRecDepth 100000
set_option maxHeartbeats 4000000
theorem accAuth_s(hs:TabOk t)(ho:openTh t (kl K) 2 l=.inr (.inside 2 Ki c1 a u r))(hu:¬ u<=now)(h2:t.open_ (kl Ki) 11 au=none){f:ByteArray}:AcS me K now (apC f me sid me l.length (.o 3 au.length)) [eT 0 t,eC 1 sl,eB 2 l,eB 3 au] [] (.t [metNo,repNo,aI 22]) []:=
 s1 [fA 1003 (neS me),fA 1009 (neS me),cTb 3005 (openInside_s ho hs),fA 8003 (isF hu),cTb 10005 (authN_s h2 hs)]
theorem finPe_s{s:STab}(h:fr≠peer):Spec Tryz.prog ⟨39,2,[.c (offC peer sid K ta q),tI,aS me,.c [aS fr,aS tn,aI now,.o 1 l.length]],[eT 0 s,eB 1 l],[],aI 16,[]⟩:=
 s1 [fA 1004 (tx_neT h)]
theorem finTo_s{s:STab}(h:tn≠me):Spec Tryz.prog ⟨39,2,[.c (offC peer sid K ta q),tI,aS me,.c [aS peer,aS tn,aI now,.o 1 l.length]],[eT 0 s,eB 1 l],[],aI 16,[]⟩:=
 s1 [fA 1004 (neS peer),fA 1009 (tx_neT h)]
theorem finSd_s{s:STab}(h:now≠sid):Spec Tryz.prog ⟨39,2,[.c (offC peer sid K ta q),tI,aS me,.c [aS peer,aS me,aI now,.o 1 l.length]],[eT 0 s,eB 1 l],[],aI 16,[]⟩:=
 s1 [fA 1004 (neS peer),fA 1009 (neS me),fA 1016 (show Value.bool (now != sid)=.bool true by rw [bne_iff_ne.2 h])]
theorem finAuth_s{s:STab}(hs:TabOk s)(ho:openTh s (kl K) 12 l=.inl 13):Spec Tryz.prog ⟨39,2,[.c (offC peer sid K ta q),tI,aS me,.c [aS peer,aS me,aI sid,.o 1 l.length]],[eT 0 s,eB 1 l],[],aI 22,[]⟩:=
 s1 [fA 1004 (neS peer),fA 1009 (neS me),fA 1016 (neI sid),cTb 3005 (openStampN_s ho hs)]
end
/-! ### What is written may be turned -/
section
variable{f t sv:ByteArray}{sid:Int}{b au:Bytes}
theorem wrApqO_s(h:Nm2 f t sid)(hs:rightN sv=true/\sv.size<=300)(hb:b.length<=300)(ha:au.length<=300){m:Nat}(hm:(wrV (apqD f t sid (.ticket sv b) au)).length=m):Spec Tryz.prog ⟨43,2,[.i 102 (.c [aS f,aS t,aI sid,aS sv,.o 0 b.length,.o 1 au.length])],[eB 0 b,eB 1 au],[],.t [.o 2 m,aI 0],[eO 2 (wrV (apqD f t sid (.ticket sv b) au))]⟩:=by
 subst hm
 refine mk1_s fun κ w hh=>(mwrite_any (mvApq h hs hb ha κ w hh) apqD_right (apqD_len h.hf.2 h.ht.2 hs.2 hb ha)).mono fun e w' ⟨A,c,e1,h1⟩=>⟨⟨c,A,rOB (.slice A (wrV (apqD f t sid (.ticket sv b) au)).length c) (wrV (apqD f t sid (.ticket sv b) au))⟩,?_,rfl,h1⟩
 rw [e1];simp only [AV.den,AV.denL,upK_at]
theorem wrAprO_s(h:Nm2 f t sid)(hb:b.length<=300){m:Nat}(hm:(wrV (aprD f t sid b)).length=m):Spec Tryz.prog ⟨43,1,[.i 115 (.c [aS f,aS t,aI sid,.o 0 b.length])],[eB 0 b],[],.t [.o 1 m,aI 0],[eO 1 (wrV (aprD f t sid b))]⟩:=by
 subst hm
 refine mk1_s fun κ w hh=>(mwrite_any (mvApr h hb κ w hh) aprD_right (aprD_len h.hf.2 h.ht.2 hb)).mono fun e w' ⟨A,c,e1,h1⟩=>⟨⟨c,A,rOB (.slice A (wrV (aprD f t sid b)).length c) (wrV (aprD f t sid b))⟩,?_,rfl,h1⟩
 rw [e1];simp only [AV.den,AV.denL,upK_at]
end
/-! ### Who accepts what was not begun -/
section
variable{s1 t1:STab}
theorem numLof:∀ (l:List DVal),(∀ v ∈ l,numV v=true)->numL l=true
 | [],_=>rfl
 | x::r,h=>by rw [numL,h x (List.mem_cons_self ..),numLof r (fun v hv=>h v (List.mem_cons_of_mem _ hv))];rfl
theorem apqNum{f t s:ByteArray}{sid:Int}{b:Bytes}(h:inN sid=true)(hs:rightN s=true):numV (apqD f t sid (.ticket s b) [])=true:=by
 unfold apqD
 rw [numV,decide_eq_true (by decide),Bool.true_and]
 refine numLof _ fun v hv=>?_
 simp only [List.mem_cons,List.not_mem_nil,or_false] at hv
 rcases hv with rfl|rfl|rfl|rfl|rfl
 · exact numV_bD _
 · exact numV_bD _
 · exact numV_nD h
 · exact numV_val (t:=.ticket s b) (rightM_is hs (by simp))
 exact numV_bD _
theorem sumOther{s:STab}{β γ:Bytes}{m:Nat}(h:SK s β m)(hne:γ≠β):s.sumAt γ≠m:=by
 intro e
 have a:s.sums.findIdx (· = β)=m:=h.1
 have c:s.sums.findIdx (· = γ)=m:=e
 have h1:=List.findIdx_getElem (p:=fun x=>decide (x=β)) (xs:=s.sums) (w:=by rw [a];exact h.2)
 have h2:=List.findIdx_getElem (p:=fun x=>decide (x=γ)) (xs:=s.sums) (w:=by rw [c];exact h.2)
 simp only [decide_eq_true_eq] at h1 h2
 refine hne ?_
 rw [← h1,← h2]
 congr 1
 rw [a,c]
theorem bg18s{Kk ka kb K1 K2 K3:Fin 16->UInt8}{t:STab}{sid now:Int}{bx:List SSealed}{b1 c1 e1:Bytes}(O:Op18 Kk ka kb K1 K2 K3 t b1 c1 e1 bx)(hsid:0<=sid/\sid<=65535)(hnow:10<=now/\now<210):∃ K4 t1 b,Bg18 ka K1 K3 K4 t t1 sid now bx b/\SK t1 (bt8 sid) (t1.sumAt (bt8 sid)):=by
 obtain ⟨K4,hK4⟩:=ex_key 10
 have T:=O.T
 obtain ⟨b,q0⟩:=pack_authent (s:=bANN) (t:=now) (q:=0+1+1+1) (K:=K4) (c:=mkB 100 ((t.add SFrom.fresh).sumAt (bt8 sid)+1)) (rightM_is right_ann (by intro z hz;simp only [List.mem_cons,List.not_mem_nil,or_false] at hz;apply inN_is <;> omega)) (by decide) (by rw [mkB_len];decide)
 have a:=begin18_s (s:=t) (K4:=K4) (now:=now) (sid:=sid) (nb:=9) (me:=bANN) (β:=bt8 sid) (clAm ka K1) (ck8 ka K1) (ckm8 K3) (T.room 9 (by decide) (by rw [O.n9];decide)) (Nat.le_trans O.sm (by decide)) ⟨right_ann,by decide⟩ (inN_is (by omega) (by omega)) (by rw [hK4,T.keys]) (show (0:Int)<=0+1+1/\(0:Int)+1+1<=1000000 by decide) (show ¬ min (min 900 (min 900 (10+300))) (min 900 (10+200))<=now by omega) (mkB_len _ _) rfl (by rw [T.boxes,O.n9]) (show (3:Nat)<=1000 by decide) q0
 rw [show (ckm8 K3).m.length=16 from mkB_len _ _] at a
 have T1:TS (shS (t.add SFrom.fresh) (bt8 sid) K3 11 b) 10 (bx++[⟨kl K3,11,b⟩]) knS:=((T.add (f:=SFrom.fresh) rfl).dig (bt8 sid)).seal rfl (pack_le6 q0)
 have hs1:(shS (t.add SFrom.fresh) (bt8 sid) K3 11 b).sums.length<=2:=dig_len (s:=t.add SFrom.fresh) (β:=bt8 sid) (n:=1) O.sm
 exact ⟨K4,_,b,⟨a,T1,hs1,hK4,by rw [sh_sumAt];exact q0⟩,by rw [sh_sumAt];exact sk_new (s:=t.add SFrom.fresh) (β:=bt8 sid)⟩
end
theorem bt_inj{s1 s2:Int}(h1:0<=s1/\s1<=1099511627776)(h2:0<=s2/\s2<=1099511627776)(h:bt8 s1=bt8 s2):s1=s2:=by
 have i1:=inN_is h1.1 h1.2
 have i2:=inN_is h2.1 h2.2
 have a:=RdB_wr _ (apqD_right (f:=bANN) (t:=bBOB) (sid:=s1) (s:=bBOB) (b:=mkB 98 8) (au:=[])) (apqNum i1 right_bob) (apqD_len (by decide) (by decide) (by decide) (by rw [mkB_len];decide) (by simp))
 have c:=RdB_wr _ (apqD_right (f:=bANN) (t:=bBOB) (sid:=s2) (s:=bBOB) (b:=mkB 98 8) (au:=[])) (apqNum i2 right_bob) (apqD_len (by decide) (by decide) (by decide) (by rw [mkB_len];decide) (by simp))
 have e:(Sum.inr (apqD bANN bBOB s1 (.ticket bBOB (mkB 98 8)) []):Nat ⊕ DVal)=Sum.inr (apqD bANN bBOB s2 (.ticket bBOB (mkB 98 8)) []):=by
   rw [← a,← c];exact congrArg RdB h
 have e2:=Sum.inr.inj e
 have e3:(nD s1).n=(nD s2).n:=congrArg (fun v:DVal=>match v with | .mk _ _ _ _ (_::_::x::_)=>x.n|_=>0) e2
 have e4:s1.toNat=s2.toNat:=e3
 omega
theorem by_at{bx:List SSealed}{L:List (Bytes × Int)}(h:bx.map (fun x=>(x.by_,x.usage))=L){i:Nat}{k b:Bytes}{u:Int}(hi:bx[i]?=some ⟨k,u,b⟩):L[i]?=some (k,u):=by
 rw [← h,List.getElem?_map,hi];rfl
section
variable{Kk ka kb K1 K2 K3 K4:Fin 16->UInt8}{t t1:STab}{bx:List SSealed}{b b1 c1 e1:Bytes}
abbrev AcX(K:Fin 16->UInt8)(t t':STab)(f tn sv:ByteArray)(sid:Int)(l au:Bytes)(e:Nat):Prop:=Spec Tryz.prog ⟨38,4,[tI,aS bBOB,.c (aK K),.p 1 0,aI 21,apC f tn sid sv l.length (.o 3 au.length)],[eC 1 [],eB 2 l,eB 3 au],[eT 0 t],.t [metNo,repNo,aI (e:Int)],[eT 0 t']⟩
theorem ht_box(O:Op18 Kk ka kb K1 K2 K3 t b1 c1 e1 bx){i:Nat}{d:Bytes}(hi:(bx++[⟨kl K3,11,b⟩])[i]?=some ⟨kl K2,2,d⟩):i=7:=by
 have h:=by_at (L:=[(kl ka,1),(kl Kk,2),(kl ka,3),(kl kb,1),(kl Kk,2),(kl kb,3),(kl K1,7),(kl K2,2),(kl K1,8),(kl K3,11)]) (by rw [List.map_append,O.kx];rfl) hi
 have n1:=key_ne O.kk O.k2 (by decide) (by decide) (by decide)
 rcases i with _|_|_|_|_|_|_|_|_|_|i
 all_goals first|rfl|(exfalso;simp only [List.getElem?_cons_succ,List.getElem?_cons_zero,List.getElem?_nil,Option.some.injEq,Prod.mk.injEq] at h;first|exact n1 h.1|exact absurd h.2 (by decide)|exact absurd h (by simp))
theorem ht_au(O:Op18 Kk ka kb K1 K2 K3 t b1 c1 e1 bx){i:Nat}{d:Bytes}(hi:(bx++[⟨kl K3,11,b⟩])[i]?=some ⟨kl K3,11,d⟩):i=9:=by
 have h:=by_at (L:=[(kl ka,1),(kl Kk,2),(kl ka,3),(kl kb,1),(kl Kk,2),(kl kb,3),(kl K1,7),(kl K2,2),(kl K1,8),(kl K3,11)]) (by rw [List.map_append,O.kx];rfl) hi
 rcases i with _|_|_|_|_|_|_|_|_|_|i
 all_goals first|rfl|(exfalso;simp only [List.getElem?_cons_succ,List.getElem?_cons_zero,List.getElem?_nil,Option.some.injEq,Prod.mk.injEq] at h;first|exact absurd h.2 (by decide)|exact absurd h (by simp))
theorem ht_rep(O:Op18 Kk ka kb K1 K2 K3 t b1 c1 e1 bx){i:Nat}{d c:Bytes}(hi:(bx++[⟨kl K3,11,b⟩]++[⟨kl K4,12,c⟩])[i]?=some ⟨kl K4,12,d⟩):i=10:=by
 have h:=by_at (L:=[(kl ka,1),(kl Kk,2),(kl ka,3),(kl kb,1),(kl Kk,2),(kl kb,3),(kl K1,7),(kl K2,2),(kl K1,8),(kl K3,11),(kl K4,12)]) (by rw [List.map_append,List.map_append,O.kx];rfl) hi
 rcases i with _|_|_|_|_|_|_|_|_|_|_|i
 all_goals first|rfl|(exfalso;simp only [List.getElem?_cons_succ,List.getElem?_cons_zero,List.getElem?_nil,Option.some.injEq,Prod.mk.injEq] at h;first|exact absurd h.2 (by decide)|exact absurd h (by simp))
theorem ht_acc(O:Op18 Kk ka kb K1 K2 K3 t b1 c1 e1 bx)(B:Bg18 ka K1 K3 K4 t t1 9 20 bx b)(hsk:SK t1 (bt8 9) (t1.sumAt (bt8 9))){f tn sv:ByteArray}{sid:Int}{l au:Bytes}(hs:0<=sid/\sid<=1099511627776)
   (hne:¬ (f=bANN/\tn=bBOB/\sid=9/\sv=bBOB/\l=mkB 98 8/\au=mkB 98 10)):∃ e t',e≠0/\AcX K2 t1 t' f tn sv sid l au e:=by
 have r1:=B.T.room 9 (by decide) (by rw [List.length_append,O.n9,List.length_singleton];decide)
 by_cases h1:tn=bBOB
 · subst h1
   by_cases h2:sv=bBOB
   · subst h2
     cases h3:t1.open_ (kl K2) 2 l with
     | none=>exact ⟨13,t1,by decide,Spec.keepT (fun _ _=>rfl) (accSeal_s r1.ok (openTh_no h3) (by decide))⟩
     | some d =>
       obtain ⟨i,hi,hl⟩:=open_inv h3
       rw [B.T.boxes] at hi
       obtain rfl:=ht_box O hi
       subst hl
       have ho:=B.T.opn (i:=7) (gx O.i7) O.v1 (by decide)
       cases h4:t1.open_ (kl K3) 11 au with
       | none=>exact ⟨22,t1,by decide,Spec.keepT (fun _ _=>rfl) (accAuth_s r1.ok ho (by decide) h4)⟩
       | some d2 =>
         obtain ⟨j,hj,hau⟩:=open_inv h4
         rw [B.T.boxes] at hj
         obtain rfl:=ht_au O hj
         subst hau
         have ho2:=B.T.opn (i:=9) (gl O.n9) B.q (by decide)
         by_cases h5:f=bANN
         · subst h5
           have h6:sid≠9:=fun h=>hne ⟨rfl,rfl,h,rfl,rfl,rfl⟩
           have hb:mkB 100 (t1.sumAt (bt8 9)+1)≠mkB 100 (t1.sumAt (bt8 sid)+1):=fun e=>by
             have h7:=B.sm
             have h8:t1.sumAt (bt8 sid)<=t1.sums.length:=List.findIdx_le_length
             have h9:t1.sumAt (bt8 9)<=t1.sums.length:=List.findIdx_le_length
             have h10:=mkB_inj (by omega) (by omega) e
             exact sumOther hsk (fun e=>h6 (bt_inj hs (by decide) e)) (by omega)
           exact ⟨17,_,by decide,accSum_s (sl:=[]) r1.ok ho (by decide) ho2 ⟨⟨right_ann,by decide⟩,⟨right_bob,by decide⟩,inN_is hs.1 hs.2⟩ (by rw [mkB_len];decide) (Nat.le_trans B.sm (by decide)) rfl hb⟩
         exact ⟨17,t1,by decide,Spec.keepT (fun _ _=>rfl) (accFrom_s r1.ok ho (by decide) ho2 h5)⟩
   exact ⟨17,t1,by decide,Spec.keepT (fun _ _=>rfl) (accSv_s h2)⟩
 exact ⟨17,t1,by decide,Spec.keepT (fun _ _=>rfl) (accTo_s h1)⟩
theorem ht_fin(O:Op18 Kk ka kb K1 K2 K3 t b1 c1 e1 bx){s:STab}{c:Bytes}{n:Nat}(T:TS s n (bx++[⟨kl K3,11,b⟩]++[⟨kl K4,12,c⟩]) knS)(hn:n<=20){fr tn:ByteArray}{sid:Int}{l:Bytes}
   (hne:¬ (fr=bBOB/\tn=bANN/\sid=9/\l=mkB 98 11)):∃ e:Nat,e≠0/\Spec Tryz.prog ⟨39,2,[.c (offC bBOB 9 K4 20 (0+1+1+1)),tI,aS bANN,.c [aS fr,aS tn,aI sid,.o 1 l.length]],[eT 0 s,eB 1 l],[],aI (e:Int),[]⟩:=by
 have r1:=T.room 9 (by omega) (by rw [List.length_append,List.length_append,O.n9,List.length_singleton,List.length_singleton];decide)
 by_cases h1:fr=bBOB
 · subst h1
   by_cases h2:tn=bANN
   · subst h2
     by_cases h3:sid=9
     · subst h3
       cases h5:s.open_ (kl K4) 12 l with
       | none=>exact ⟨22,by decide,finAuth_s r1.ok (openTh_no h5)⟩
       | some d =>
         obtain ⟨i,hi,hl⟩:=open_inv h5
         rw [T.boxes] at hi
         obtain rfl:=ht_rep O hi
         exact absurd ⟨rfl,rfl,rfl,hl⟩ hne
     exact ⟨16,by decide,finSd_s h3⟩
   exact ⟨16,by decide,finTo_s h2⟩
 exact ⟨16,by decide,finPe_s h1⟩
end
end
section
open Go.RowKit Go.QT
section
variable{v:DVal}{ts:List DVal}{bad:Bool}{s:ByteArray}{l:Bytes}
set_option maxRecDepth 100000
set_option maxHeartbeats 4000000
theorem of11K_s{n:Nat}{b:Bytes}{T1 T2 T3 T4:TkSt}(h1:nameT (ts,false)=T1)(sm0:Sm ts)(h2:numT T1=T2)(h3:numT T2=T3)(h4:bytesT T3=T4):MNo (.mk 1 11 n b ts):=
 s1 [cA 1001 (take_s (v:=(.mk 1 11 n b ts)) (a:=1) (b:=2) (i:=0) (vs:=[cDV (.mk 1 11 n b ts) 1 2]) (fs:=[.d (.mk 1 11 n b ts)]) (nx:=3) rfl rfl rfl rfl (by decide)) [(0,0)],
   cA 5004 (tkName_s (bad:=false) (i:=1) (vs:=[cDV (.mk 1 11 n b ts) 2 3,.o 3 ts.length]) (fs:=[.d (.mk 1 11 n b ts),.l ts]) (x:=.o 3 ts.length) (nx:=4) h1 sm0 rfl rfl rfl (by decide)) [(1,0)],
   cA 5009 (tkNum_s (bad:=T1.2) (i:=1) (vs:=[cDV (.mk 1 11 n b ts) 2 3,.o 4 T1.1.length]) (fs:=[.d (.mk 1 11 n b ts),.l T1.1]) (x:=.o 4 T1.1.length) (nx:=5) h2 rfl rfl rfl (by decide)) [(1,0)],
   cA 5014 (tkNum_s (bad:=T2.2) (i:=1) (vs:=[cDV (.mk 1 11 n b ts) 2 3,.o 4 T2.1.length]) (fs:=[.d (.mk 1 11 n b ts),.l T2.1]) (x:=.o 4 T2.1.length) (nx:=5) h3 rfl rfl rfl (by decide)) [(1,0)],
   cA 5019 (tkBytes_s (bad:=T3.2) (i:=1) (vs:=[cDV (.mk 1 11 n b ts) 2 3,.o 4 T3.1.length]) (fs:=[.d (.mk 1 11 n b ts),.l T3.1]) (x:=.o 4 T3.1.length) (nx:=5) h4 rfl rfl rfl rfl (by decide)) [(1,0)]]
theorem of11D_s{n:Nat}{b:Bytes}{T1 T2 T3 T4:TkSt}(h1:nameT (ts,false)=T1)(sm0:Sm ts)(h2:numT T1=T2)(h3:numT T2=T3)(h4:bytesT T3=T4)(hd:doneO T4=false):MNo (.mk 2 11 n b ts):=
 s1 [cA 1001 (take_s (v:=(.mk 2 11 n b ts)) (a:=1) (b:=2) (i:=0) (vs:=[cDV (.mk 2 11 n b ts) 1 2]) (fs:=[.d (.mk 2 11 n b ts)]) (nx:=3) rfl rfl rfl rfl (by decide)) [(0,0)],
   cA 5004 (tkName_s (bad:=false) (i:=1) (vs:=[cDV (.mk 2 11 n b ts) 2 3,.o 3 ts.length]) (fs:=[.d (.mk 2 11 n b ts),.l ts]) (x:=.o 3 ts.length) (nx:=4) h1 sm0 rfl rfl rfl (by decide)) [(1,0)],
   cA 5009 (tkNum_s (bad:=T1.2) (i:=1) (vs:=[cDV (.mk 2 11 n b ts) 2 3,.o 4 T1.1.length]) (fs:=[.d (.mk 2 11 n b ts),.l T1.1]) (x:=.o 4 T1.1.length) (nx:=5) h2 rfl rfl rfl (by decide)) [(1,0)],
   cA 5014 (tkNum_s (bad:=T2.2) (i:=1) (vs:=[cDV (.mk 2 11 n b ts) 2 3,.o 4 T2.1.length]) (fs:=[.d (.mk 2 11 n b ts),.l T2.1]) (x:=.o 4 T2.1.length) (nx:=5) h3 rfl rfl rfl (by decide)) [(1,0)],
   cA 5019 (tkBytes_s (bad:=T3.2) (i:=1) (vs:=[cDV (.mk 2 11 n b ts) 2 3,.o 4 T3.1.length]) (fs:=[.d (.mk 2 11 n b ts),.l T3.1]) (x:=.o 4 T3.1.length) (nx:=5) h4 rfl rfl rfl rfl (by decide)) [(1,0)],
   cA 28018 (tkDone_s (bad:=T4.2) (i:=1) (vs:=[cDV (.mk 2 11 n b ts) 2 3,.o 4 T4.1.length,.o 5 (bytesO T3).length]) (fs:=[.d (.mk 2 11 n b ts),.l T4.1,.b (bytesO T3)]) (x:=.o 4 T4.1.length) (nx:=6) hd rfl rfl rfl (by decide)) [(1,0)]]
theorem of12K_s{n:Nat}{b:Bytes}{u:DVal}{T1 T2 T3:TkSt}(h1:nameT (ts,false)=T1)(sm0:Sm ts)(hu:ptV 1 T1.1=u)(h2:ptT 1 T1=T2)(h3:bytesT T2=T3)(ho:ofF u=none)(hsm:Sm u.l):MNo (.mk 1 12 n b ts):=
 s1 [cA 1001 (take_s (v:=(.mk 1 12 n b ts)) (a:=1) (b:=2) (i:=0) (vs:=[cDV (.mk 1 12 n b ts) 1 2]) (fs:=[.d (.mk 1 12 n b ts)]) (nx:=3) rfl rfl rfl rfl (by decide)) [(0,0)],
   cA 7004 (tkName_s (bad:=false) (i:=1) (vs:=[cDV (.mk 1 12 n b ts) 2 3,.o 3 ts.length]) (fs:=[.d (.mk 1 12 n b ts),.l ts]) (x:=.o 3 ts.length) (nx:=4) h1 sm0 rfl rfl rfl (by decide)) [(1,0)],
   cA 7006 (ticketN_s (v:=(.mk 1 12 n b ts)) (bad:=T1.2) hu h2 ho hsm) [(2,0)],
   cA 7011 (tkBytes_s (bad:=T2.2) (i:=1) (vs:=[cDV (.mk 1 12 n b ts) 2 3,.o 4 T2.1.length,cDV u 5 6]) (fs:=[.d (.mk 1 12 n b ts),.l T2.1,.d u]) (x:=.o 4 T2.1.length) (nx:=7) h3 rfl rfl rfl rfl (by decide)) [(1,0)]]
theorem of12T_s{n:Nat}{b:Bytes}{u:DVal}{T1 T2 T3:TkSt}(h1:nameT (ts,false)=T1)(sm0:Sm ts)(hu:ptV 1 T1.1=u)(h2:ptT 1 T1=T2)(h3:bytesT T2=T3)(ho:ofF u=none)(hsm:Sm u.l):MNo (.mk 2 12 n b ts):=
 s1 [cA 1001 (take_s (v:=(.mk 2 12 n b ts)) (a:=1) (b:=2) (i:=0) (vs:=[cDV (.mk 2 12 n b ts) 1 2]) (fs:=[.d (.mk 2 12 n b ts)]) (nx:=3) rfl rfl rfl rfl (by decide)) [(0,0)],
   cA 7004 (tkName_s (bad:=false) (i:=1) (vs:=[cDV (.mk 2 12 n b ts) 2 3,.o 3 ts.length]) (fs:=[.d (.mk 2 12 n b ts),.l ts]) (x:=.o 3 ts.length) (nx:=4) h1 sm0 rfl rfl rfl (by decide)) [(1,0)],
   cA 7006 (ticketN_s (v:=(.mk 2 12 n b ts)) (bad:=T1.2) hu h2 ho hsm) [(2,0)],
   cA 7011 (tkBytes_s (bad:=T2.2) (i:=1) (vs:=[cDV (.mk 2 12 n b ts) 2 3,.o 4 T2.1.length,cDV u 5 6]) (fs:=[.d (.mk 2 12 n b ts),.l T2.1,.d u]) (x:=.o 4 T2.1.length) (nx:=7) h3 rfl rfl rfl rfl (by decide)) [(1,0)]]
theorem of13K_s{n:Nat}{b:Bytes}{u:DVal}{z:DVal}{T1 T2 T3 T4 T5 T6 T7 T8:TkSt}(h1:nameT (ts,false)=T1)(sm0:Sm ts)(h2:numT T1=T2)(h3:numT T2=T3)(h4:truthT T3=T4)(h5:truthT T4=T5)(hu:ptV 1 T5.1=u)(h6:ptT 1 T5=T6)(h7:bytesT T6=T7)(hv:ptV 0 T7.1=z)(h8:ptT 0 T7=T8)(hz:z.l=[])(ho:ofF u=none)(hsm:Sm u.l):MNo (.mk 1 13 n b ts):=
 s1 [cA 1001 (take_s (v:=(.mk 1 13 n b ts)) (a:=1) (b:=2) (i:=0) (vs:=[cDV (.mk 1 13 n b ts) 1 2]) (fs:=[.d (.mk 1 13 n b ts)]) (nx:=3) rfl rfl rfl rfl (by decide)) [(0,0)],
   cA 9004 (tkName_s (bad:=false) (i:=1) (vs:=[cDV (.mk 1 13 n b ts) 2 3,.o 3 ts.length]) (fs:=[.d (.mk 1 13 n b ts),.l ts]) (x:=.o 3 ts.length) (nx:=4) h1 sm0 rfl rfl rfl (by decide)) [(1,0)],
   cA 9009 (tkNum_s (bad:=T1.2) (i:=1) (vs:=[cDV (.mk 1 13 n b ts) 2 3,.o 4 T1.1.length]) (fs:=[.d (.mk 1 13 n b ts),.l T1.1]) (x:=.o 4 T1.1.length) (nx:=5) h2 rfl rfl rfl (by decide)) [(1,0)],
   cA 9014 (tkNum_s (bad:=T2.2) (i:=1) (vs:=[cDV (.mk 1 13 n b ts) 2 3,.o 4 T2.1.length]) (fs:=[.d (.mk 1 13 n b ts),.l T2.1]) (x:=.o 4 T2.1.length) (nx:=5) h3 rfl rfl rfl (by decide)) [(1,0)],
   cA 9019 (tkTruth_s (bad:=T3.2) (i:=1) (vs:=[cDV (.mk 1 13 n b ts) 2 3,.o 4 T3.1.length]) (fs:=[.d (.mk 1 13 n b ts),.l T3.1]) (x:=.o 4 T3.1.length) (nx:=5) h4 rfl rfl rfl (by decide)) [(1,0)],
   cA 9024 (tkTruth_s (bad:=T4.2) (i:=1) (vs:=[cDV (.mk 1 13 n b ts) 2 3,.o 4 T4.1.length]) (fs:=[.d (.mk 1 13 n b ts),.l T4.1]) (x:=.o 4 T4.1.length) (nx:=5) h5 rfl rfl rfl (by decide)) [(1,0)],
   cA 9026 (ticketN_s (v:=(.mk 1 13 n b ts)) (bad:=T5.2) hu h6 ho hsm) [(2,0)],
   cA 9031 (tkBytes_s (bad:=T6.2) (i:=1) (vs:=[cDV (.mk 1 13 n b ts) 2 3,.o 4 T6.1.length,cDV u 5 6]) (fs:=[.d (.mk 1 13 n b ts),.l T6.1,.d u]) (x:=.o 4 T6.1.length) (nx:=7) h7 rfl rfl rfl rfl (by decide)) [(1,0)],
   cA 9033 (extraN_s (v:=(.mk 1 13 n b ts)) (bad:=T7.2) (u:=u) (m:=bytesO T6) hv h8 hz) [(2,0)]]
theorem of13T_s{n:Nat}{b:Bytes}{u:DVal}{z:DVal}{T1 T2 T3 T4 T5 T6 T7 T8:TkSt}(h1:nameT (ts,false)=T1)(sm0:Sm ts)(h2:numT T1=T2)(h3:numT T2=T3)(h4:truthT T3=T4)(h5:truthT T4=T5)(hu:ptV 1 T5.1=u)(h6:ptT 1 T5=T6)(h7:bytesT T6=T7)(hv:ptV 0 T7.1=z)(h8:ptT 0 T7=T8)(hz:z.l=[])(ho:ofF u=none)(hsm:Sm u.l):MNo (.mk 2 13 n b ts):=
 s1 [cA 1001 (take_s (v:=(.mk 2 13 n b ts)) (a:=1) (b:=2) (i:=0) (vs:=[cDV (.mk 2 13 n b ts) 1 2]) (fs:=[.d (.mk 2 13 n b ts)]) (nx:=3) rfl rfl rfl rfl (by decide)) [(0,0)],
   cA 9004 (tkName_s (bad:=false) (i:=1) (vs:=[cDV (.mk 2 13 n b ts) 2 3,.o 3 ts.length]) (fs:=[.d (.mk 2 13 n b ts),.l ts]) (x:=.o 3 ts.length) (nx:=4) h1 sm0 rfl rfl rfl (by decide)) [(1,0)],
   cA 9009 (tkNum_s (bad:=T1.2) (i:=1) (vs:=[cDV (.mk 2 13 n b ts) 2 3,.o 4 T1.1.length]) (fs:=[.d (.mk 2 13 n b ts),.l T1.1]) (x:=.o 4 T1.1.length) (nx:=5) h2 rfl rfl rfl (by decide)) [(1,0)],
   cA 9014 (tkNum_s (bad:=T2.2) (i:=1) (vs:=[cDV (.mk 2 13 n b ts) 2 3,.o 4 T2.1.length]) (fs:=[.d (.mk 2 13 n b ts),.l T2.1]) (x:=.o 4 T2.1.length) (nx:=5) h3 rfl rfl rfl (by decide)) [(1,0)],
   cA 9019 (tkTruth_s (bad:=T3.2) (i:=1) (vs:=[cDV (.mk 2 13 n b ts) 2 3,.o 4 T3.1.length]) (fs:=[.d (.mk 2 13 n b ts),.l T3.1]) (x:=.o 4 T3.1.length) (nx:=5) h4 rfl rfl rfl (by decide)) [(1,0)],
   cA 9024 (tkTruth_s (bad:=T4.2) (i:=1) (vs:=[cDV (.mk 2 13 n b ts) 2 3,.o 4 T4.1.length]) (fs:=[.d (.mk 2 13 n b ts),.l T4.1]) (x:=.o 4 T4.1.length) (nx:=5) h5 rfl rfl rfl (by decide)) [(1,0)],
   cA 9026 (ticketN_s (v:=(.mk 2 13 n b ts)) (bad:=T5.2) hu h6 ho hsm) [(2,0)],
   cA 9031 (tkBytes_s (bad:=T6.2) (i:=1) (vs:=[cDV (.mk 2 13 n b ts) 2 3,.o 4 T6.1.length,cDV u 5 6]) (fs:=[.d (.mk 2 13 n b ts),.l T6.1,.d u]) (x:=.o 4 T6.1.length) (nx:=7) h7 rfl rfl rfl rfl (by decide)) [(1,0)],
   cA 9033 (extraN_s (v:=(.mk 2 13 n b ts)) (bad:=T7.2) (u:=u) (m:=bytesO T6) hv h8 hz) [(2,0)]]
end
end
section
open Go.RowKit Go.QT
section
variable{v:DVal}{ts:List DVal}{bad:Bool}{s:ByteArray}{l:Bytes}
set_option maxRecDepth 100000
set_option maxHeartbeats 4000000
theorem of14K_s{n:Nat}{b:Bytes}{u:DVal}{T1 T2 T3:TkSt}(h1:nameT (ts,false)=T1)(sm0:Sm ts)(hu:ptV 1 T1.1=u)(h2:ptT 1 T1=T2)(h3:bytesT T2=T3)(ho:ofF u=none)(hsm:Sm u.l):MNo (.mk 1 14 n b ts):=
 s1 [cA 1001 (take_s (v:=(.mk 1 14 n b ts)) (a:=1) (b:=2) (i:=0) (vs:=[cDV (.mk 1 14 n b ts) 1 2]) (fs:=[.d (.mk 1 14 n b ts)]) (nx:=3) rfl rfl rfl rfl (by decide)) [(0,0)],
   cA 11004 (tkName_s (bad:=false) (i:=1) (vs:=[cDV (.mk 1 14 n b ts) 2 3,.o 3 ts.length]) (fs:=[.d (.mk 1 14 n b ts),.l ts]) (x:=.o 3 ts.length) (nx:=4) h1 sm0 rfl rfl rfl (by decide)) [(1,0)],
   cA 11006 (ticketN_s (v:=(.mk 1 14 n b ts)) (bad:=T1.2) hu h2 ho hsm) [(2,0)],
   cA 11011 (tkBytes_s (bad:=T2.2) (i:=1) (vs:=[cDV (.mk 1 14 n b ts) 2 3,.o 4 T2.1.length,cDV u 5 6]) (fs:=[.d (.mk 1 14 n b ts),.l T2.1,.d u]) (x:=.o 4 T2.1.length) (nx:=7) h3 rfl rfl rfl rfl (by decide)) [(1,0)]]
theorem of14T_s{n:Nat}{b:Bytes}{u:DVal}{T1 T2 T3:TkSt}(h1:nameT (ts,false)=T1)(sm0:Sm ts)(hu:ptV 1 T1.1=u)(h2:ptT 1 T1=T2)(h3:bytesT T2=T3)(ho:ofF u=none)(hsm:Sm u.l):MNo (.mk 2 14 n b ts):=
 s1 [cA 1001 (take_s (v:=(.mk 2 14 n b ts)) (a:=1) (b:=2) (i:=0) (vs:=[cDV (.mk 2 14 n b ts) 1 2]) (fs:=[.d (.mk 2 14 n b ts)]) (nx:=3) rfl rfl rfl rfl (by decide)) [(0,0)],
   cA 11004 (tkName_s (bad:=false) (i:=1) (vs:=[cDV (.mk 2 14 n b ts) 2 3,.o 3 ts.length]) (fs:=[.d (.mk 2 14 n b ts),.l ts]) (x:=.o 3 ts.length) (nx:=4) h1 sm0 rfl rfl rfl (by decide)) [(1,0)],
   cA 11006 (ticketN_s (v:=(.mk 2 14 n b ts)) (bad:=T1.2) hu h2 ho hsm) [(2,0)],
   cA 11011 (tkBytes_s (bad:=T2.2) (i:=1) (vs:=[cDV (.mk 2 14 n b ts) 2 3,.o 4 T2.1.length,cDV u 5 6]) (fs:=[.d (.mk 2 14 n b ts),.l T2.1,.d u]) (x:=.o 4 T2.1.length) (nx:=7) h3 rfl rfl rfl rfl (by decide)) [(1,0)]]
theorem of15K_s{n:Nat}{b:Bytes}{T1 T2 T3:TkSt}(h1:nameT (ts,false)=T1)(sm0:Sm ts)(h2:nameT T1=T2)(sm1:Sm T1.1)(h3:numT T2=T3):MNo (.mk 1 15 n b ts):=
 s1 [cA 1001 (take_s (v:=(.mk 1 15 n b ts)) (a:=1) (b:=2) (i:=0) (vs:=[cDV (.mk 1 15 n b ts) 1 2]) (fs:=[.d (.mk 1 15 n b ts)]) (nx:=3) rfl rfl rfl rfl (by decide)) [(0,0)],
   cA 13004 (tkName_s (bad:=false) (i:=1) (vs:=[cDV (.mk 1 15 n b ts) 2 3,.o 3 ts.length]) (fs:=[.d (.mk 1 15 n b ts),.l ts]) (x:=.o 3 ts.length) (nx:=4) h1 sm0 rfl rfl rfl (by decide)) [(1,0)],
   cA 13009 (tkName_s (bad:=T1.2) (i:=1) (vs:=[cDV (.mk 1 15 n b ts) 2 3,.o 4 T1.1.length]) (fs:=[.d (.mk 1 15 n b ts),.l T1.1]) (x:=.o 4 T1.1.length) (nx:=5) h2 sm1 rfl rfl rfl (by decide)) [(1,0)],
   cA 13014 (tkNum_s (bad:=T2.2) (i:=1) (vs:=[cDV (.mk 1 15 n b ts) 2 3,.o 4 T2.1.length]) (fs:=[.d (.mk 1 15 n b ts),.l T2.1]) (x:=.o 4 T2.1.length) (nx:=5) h3 rfl rfl rfl (by decide)) [(1,0)]]
theorem of15D_s{n:Nat}{b:Bytes}{T1 T2 T3:TkSt}(h1:nameT (ts,false)=T1)(sm0:Sm ts)(h2:nameT T1=T2)(sm1:Sm T1.1)(h3:numT T2=T3)(hd:doneO T3=false):MNo (.mk 2 15 n b ts):=
 s1 [cA 1001 (take_s (v:=(.mk 2 15 n b ts)) (a:=1) (b:=2) (i:=0) (vs:=[cDV (.mk 2 15 n b ts) 1 2]) (fs:=[.d (.mk 2 15 n b ts)]) (nx:=3) rfl rfl rfl rfl (by decide)) [(0,0)],
   cA 13004 (tkName_s (bad:=false) (i:=1) (vs:=[cDV (.mk 2 15 n b ts) 2 3,.o 3 ts.length]) (fs:=[.d (.mk 2 15 n b ts),.l ts]) (x:=.o 3 ts.length) (nx:=4) h1 sm0 rfl rfl rfl (by decide)) [(1,0)],
   cA 13009 (tkName_s (bad:=T1.2) (i:=1) (vs:=[cDV (.mk 2 15 n b ts) 2 3,.o 4 T1.1.length]) (fs:=[.d (.mk 2 15 n b ts),.l T1.1]) (x:=.o 4 T1.1.length) (nx:=5) h2 sm1 rfl rfl rfl (by decide)) [(1,0)],
   cA 13014 (tkNum_s (bad:=T2.2) (i:=1) (vs:=[cDV (.mk 2 15 n b ts) 2 3,.o 4 T2.1.length]) (fs:=[.d (.mk 2 15 n b ts),.l T2.1]) (x:=.o 4 T2.1.length) (nx:=5) h3 rfl rfl rfl (by decide)) [(1,0)],
   cA 28018 (tkDone_s (bad:=T3.2) (i:=1) (vs:=[cDV (.mk 2 15 n b ts) 2 3,.o 4 T3.1.length]) (fs:=[.d (.mk 2 15 n b ts),.l T3.1]) (x:=.o 4 T3.1.length) (nx:=5) hd rfl rfl rfl (by decide)) [(1,0)]]
theorem of16K_s{n:Nat}{b:Bytes}{u:DVal}{T1 T2 T3 T4:TkSt}(h1:nameT (ts,false)=T1)(sm0:Sm ts)(h2:nameT T1=T2)(sm1:Sm T1.1)(h3:numT T2=T3)(hu:ptV 1 T3.1=u)(h4:ptT 1 T3=T4)(ho:ofF u=none)(hsm:Sm u.l):MNo (.mk 1 16 n b ts):=
 s1 [cA 1001 (take_s (v:=(.mk 1 16 n b ts)) (a:=1) (b:=2) (i:=0) (vs:=[cDV (.mk 1 16 n b ts) 1 2]) (fs:=[.d (.mk 1 16 n b ts)]) (nx:=3) rfl rfl rfl rfl (by decide)) [(0,0)],
   cA 15004 (tkName_s (bad:=false) (i:=1) (vs:=[cDV (.mk 1 16 n b ts) 2 3,.o 3 ts.length]) (fs:=[.d (.mk 1 16 n b ts),.l ts]) (x:=.o 3 ts.length) (nx:=4) h1 sm0 rfl rfl rfl (by decide)) [(1,0)],
   cA 15009 (tkName_s (bad:=T1.2) (i:=1) (vs:=[cDV (.mk 1 16 n b ts) 2 3,.o 4 T1.1.length]) (fs:=[.d (.mk 1 16 n b ts),.l T1.1]) (x:=.o 4 T1.1.length) (nx:=5) h2 sm1 rfl rfl rfl (by decide)) [(1,0)],
   cA 15014 (tkNum_s (bad:=T2.2) (i:=1) (vs:=[cDV (.mk 1 16 n b ts) 2 3,.o 4 T2.1.length]) (fs:=[.d (.mk 1 16 n b ts),.l T2.1]) (x:=.o 4 T2.1.length) (nx:=5) h3 rfl rfl rfl (by decide)) [(1,0)],
   cA 15016 (ticketN_s (v:=(.mk 1 16 n b ts)) (bad:=T3.2) hu h4 ho hsm) [(2,0)]]
theorem of16T_s{n:Nat}{b:Bytes}{u:DVal}{T1 T2 T3 T4:TkSt}(h1:nameT (ts,false)=T1)(sm0:Sm ts)(h2:nameT T1=T2)(sm1:Sm T1.1)(h3:numT T2=T3)(hu:ptV 1 T3.1=u)(h4:ptT 1 T3=T4)(ho:ofF u=none)(hsm:Sm u.l):MNo (.mk 2 16 n b ts):=
 s1 [cA 1001 (take_s (v:=(.mk 2 16 n b ts)) (a:=1) (b:=2) (i:=0) (vs:=[cDV (.mk 2 16 n b ts) 1 2]) (fs:=[.d (.mk 2 16 n b ts)]) (nx:=3) rfl rfl rfl rfl (by decide)) [(0,0)],
   cA 15004 (tkName_s (bad:=false) (i:=1) (vs:=[cDV (.mk 2 16 n b ts) 2 3,.o 3 ts.length]) (fs:=[.d (.mk 2 16 n b ts),.l ts]) (x:=.o 3 ts.length) (nx:=4) h1 sm0 rfl rfl rfl (by decide)) [(1,0)],
   cA 15009 (tkName_s (bad:=T1.2) (i:=1) (vs:=[cDV (.mk 2 16 n b ts) 2 3,.o 4 T1.1.length]) (fs:=[.d (.mk 2 16 n b ts),.l T1.1]) (x:=.o 4 T1.1.length) (nx:=5) h2 sm1 rfl rfl rfl (by decide)) [(1,0)],
   cA 15014 (tkNum_s (bad:=T2.2) (i:=1) (vs:=[cDV (.mk 2 16 n b ts) 2 3,.o 4 T2.1.length]) (fs:=[.d (.mk 2 16 n b ts),.l T2.1]) (x:=.o 4 T2.1.length) (nx:=5) h3 rfl rfl rfl (by decide)) [(1,0)],
   cA 15016 (ticketN_s (v:=(.mk 2 16 n b ts)) (bad:=T3.2) hu h4 ho hsm) [(2,0)]]
theorem of16D_s{n:Nat}{b:Bytes}{u:DVal}{T1 T2 T3 T4:TkSt}(h1:nameT (ts,false)=T1)(sm0:Sm ts)(h2:nameT T1=T2)(sm1:Sm T1.1)(h3:numT T2=T3)(hu:ptV 1 T3.1=u)(h4:ptT 1 T3=T4)(ho:ofF u=some (.ticket s l))(hsm:Sm u.l)(hd:doneO T4=false):MNo (.mk 2 16 n b ts):=
 s1 [cA 1001 (take_s (v:=(.mk 2 16 n b ts)) (a:=1) (b:=2) (i:=0) (vs:=[cDV (.mk 2 16 n b ts) 1 2]) (fs:=[.d (.mk 2 16 n b ts)]) (nx:=3) rfl rfl rfl rfl (by decide)) [(0,0)],
   cA 15004 (tkName_s (bad:=false) (i:=1) (vs:=[cDV (.mk 2 16 n b ts) 2 3,.o 3 ts.length]) (fs:=[.d (.mk 2 16 n b ts),.l ts]) (x:=.o 3 ts.length) (nx:=4) h1 sm0 rfl rfl rfl (by decide)) [(1,0)],
   cA 15009 (tkName_s (bad:=T1.2) (i:=1) (vs:=[cDV (.mk 2 16 n b ts) 2 3,.o 4 T1.1.length]) (fs:=[.d (.mk 2 16 n b ts),.l T1.1]) (x:=.o 4 T1.1.length) (nx:=5) h2 sm1 rfl rfl rfl (by decide)) [(1,0)],
   cA 15014 (tkNum_s (bad:=T2.2) (i:=1) (vs:=[cDV (.mk 2 16 n b ts) 2 3,.o 4 T2.1.length]) (fs:=[.d (.mk 2 16 n b ts),.l T2.1]) (x:=.o 4 T2.1.length) (nx:=5) h3 rfl rfl rfl (by decide)) [(1,0)],
   cA 15016 (ticketY_s (v:=(.mk 2 16 n b ts)) (bad:=T3.2) hu h4 ho hsm) [(2,0)],
   cA 28018 (tkDone_s (bad:=T4.2) (i:=1) (vs:=[cDV (.mk 2 16 n b ts) 2 3,.o 4 T4.1.length,cDV u 5 6,.o 7 l.length]) (fs:=[.d (.mk 2 16 n b ts),.l T4.1,.d u,.b l]) (x:=.o 4 T4.1.length) (nx:=8) hd rfl rfl rfl (by decide)) [(1,0)]]
theorem of17K_s{n:Nat}{b:Bytes}{u:DVal}{T1 T2 T3 T4 T5:TkSt}(h1:nameT (ts,false)=T1)(sm0:Sm ts)(h2:nameT T1=T2)(sm1:Sm T1.1)(h3:numT T2=T3)(hu:ptV 1 T3.1=u)(h4:ptT 1 T3=T4)(h5:bytesT T4=T5)(ho:ofF u=none)(hsm:Sm u.l):MNo (.mk 1 17 n b ts):=
 s1 [cA 1001 (take_s (v:=(.mk 1 17 n b ts)) (a:=1) (b:=2) (i:=0) (vs:=[cDV (.mk 1 17 n b ts) 1 2]) (fs:=[.d (.mk 1 17 n b ts)]) (nx:=3) rfl rfl rfl rfl (by decide)) [(0,0)],
   cA 17004 (tkName_s (bad:=false) (i:=1) (vs:=[cDV (.mk 1 17 n b ts) 2 3,.o 3 ts.length]) (fs:=[.d (.mk 1 17 n b ts),.l ts]) (x:=.o 3 ts.length) (nx:=4) h1 sm0 rfl rfl rfl (by decide)) [(1,0)],
   cA 17009 (tkName_s (bad:=T1.2) (i:=1) (vs:=[cDV (.mk 1 17 n b ts) 2 3,.o 4 T1.1.length]) (fs:=[.d (.mk 1 17 n b ts),.l T1.1]) (x:=.o 4 T1.1.length) (nx:=5) h2 sm1 rfl rfl rfl (by decide)) [(1,0)],
   cA 17014 (tkNum_s (bad:=T2.2) (i:=1) (vs:=[cDV (.mk 1 17 n b ts) 2 3,.o 4 T2.1.length]) (fs:=[.d (.mk 1 17 n b ts),.l T2.1]) (x:=.o 4 T2.1.length) (nx:=5) h3 rfl rfl rfl (by decide)) [(1,0)],
   cA 17016 (ticketN_s (v:=(.mk 1 17 n b ts)) (bad:=T3.2) hu h4 ho hsm) [(2,0)],
   cA 17021 (tkBytes_s (bad:=T4.2) (i:=1) (vs:=[cDV (.mk 1 17 n b ts) 2 3,.o 4 T4.1.length,cDV u 5 6]) (fs:=[.d (.mk 1 17 n b ts),.l T4.1,.d u]) (x:=.o 4 T4.1.length) (nx:=7) h5 rfl rfl rfl rfl (by decide)) [(1,0)]]
end
end
section
open Go.RowKit Go.QT
section
variable{v:DVal}{ts:List DVal}{bad:Bool}{s:ByteArray}{l:Bytes}
set_option maxRecDepth 100000
set_option maxHeartbeats 4000000
theorem of18K_s{n:Nat}{b:Bytes}{T1 T2 T3 T4:TkSt}(h1:nameT (ts,false)=T1)(sm0:Sm ts)(h2:nameT T1=T2)(sm1:Sm T1.1)(h3:numT T2=T3)(h4:bytesT T3=T4):MNo (.mk 1 18 n b ts):=
 s1 [cA 1001 (take_s (v:=(.mk 1 18 n b ts)) (a:=1) (b:=2) (i:=0) (vs:=[cDV (.mk 1 18 n b ts) 1 2]) (fs:=[.d (.mk 1 18 n b ts)]) (nx:=3) rfl rfl rfl rfl (by decide)) [(0,0)],
   cA 19004 (tkName_s (bad:=false) (i:=1) (vs:=[cDV (.mk 1 18 n b ts) 2 3,.o 3 ts.length]) (fs:=[.d (.mk 1 18 n b ts),.l ts]) (x:=.o 3 ts.length) (nx:=4) h1 sm0 rfl rfl rfl (by decide)) [(1,0)],
   cA 19009 (tkName_s (bad:=T1.2) (i:=1) (vs:=[cDV (.mk 1 18 n b ts) 2 3,.o 4 T1.1.length]) (fs:=[.d (.mk 1 18 n b ts),.l T1.1]) (x:=.o 4 T1.1.length) (nx:=5) h2 sm1 rfl rfl rfl (by decide)) [(1,0)],
   cA 19014 (tkNum_s (bad:=T2.2) (i:=1) (vs:=[cDV (.mk 1 18 n b ts) 2 3,.o 4 T2.1.length]) (fs:=[.d (.mk 1 18 n b ts),.l T2.1]) (x:=.o 4 T2.1.length) (nx:=5) h3 rfl rfl rfl (by decide)) [(1,0)],
   cA 19019 (tkBytes_s (bad:=T3.2) (i:=1) (vs:=[cDV (.mk 1 18 n b ts) 2 3,.o 4 T3.1.length]) (fs:=[.d (.mk 1 18 n b ts),.l T3.1]) (x:=.o 4 T3.1.length) (nx:=5) h4 rfl rfl rfl rfl (by decide)) [(1,0)]]
theorem of19K_s{n:Nat}{b:Bytes}{T1 T2 T3 T4 T5 T6:TkSt}(h1:nameT (ts,false)=T1)(sm0:Sm ts)(h2:nameT T1=T2)(sm1:Sm T1.1)(h3:numT T2=T3)(h4:numT T3=T4)(h5:numT T4=T5)(h6:bytesT T5=T6):MNo (.mk 1 19 n b ts):=
 s1 [cA 1001 (take_s (v:=(.mk 1 19 n b ts)) (a:=1) (b:=2) (i:=0) (vs:=[cDV (.mk 1 19 n b ts) 1 2]) (fs:=[.d (.mk 1 19 n b ts)]) (nx:=3) rfl rfl rfl rfl (by decide)) [(0,0)],
   cA 21004 (tkName_s (bad:=false) (i:=1) (vs:=[cDV (.mk 1 19 n b ts) 2 3,.o 3 ts.length]) (fs:=[.d (.mk 1 19 n b ts),.l ts]) (x:=.o 3 ts.length) (nx:=4) h1 sm0 rfl rfl rfl (by decide)) [(1,0)],
   cA 21009 (tkName_s (bad:=T1.2) (i:=1) (vs:=[cDV (.mk 1 19 n b ts) 2 3,.o 4 T1.1.length]) (fs:=[.d (.mk 1 19 n b ts),.l T1.1]) (x:=.o 4 T1.1.length) (nx:=5) h2 sm1 rfl rfl rfl (by decide)) [(1,0)],
   cA 21014 (tkNum_s (bad:=T2.2) (i:=1) (vs:=[cDV (.mk 1 19 n b ts) 2 3,.o 4 T2.1.length]) (fs:=[.d (.mk 1 19 n b ts),.l T2.1]) (x:=.o 4 T2.1.length) (nx:=5) h3 rfl rfl rfl (by decide)) [(1,0)],
   cA 21019 (tkNum_s (bad:=T3.2) (i:=1) (vs:=[cDV (.mk 1 19 n b ts) 2 3,.o 4 T3.1.length]) (fs:=[.d (.mk 1 19 n b ts),.l T3.1]) (x:=.o 4 T3.1.length) (nx:=5) h4 rfl rfl rfl (by decide)) [(1,0)],
   cA 21024 (tkNum_s (bad:=T4.2) (i:=1) (vs:=[cDV (.mk 1 19 n b ts) 2 3,.o 4 T4.1.length]) (fs:=[.d (.mk 1 19 n b ts),.l T4.1]) (x:=.o 4 T4.1.length) (nx:=5) h5 rfl rfl rfl (by decide)) [(1,0)],
   cA 21029 (tkBytes_s (bad:=T5.2) (i:=1) (vs:=[cDV (.mk 1 19 n b ts) 2 3,.o 4 T5.1.length]) (fs:=[.d (.mk 1 19 n b ts),.l T5.1]) (x:=.o 4 T5.1.length) (nx:=5) h6 rfl rfl rfl rfl (by decide)) [(1,0)]]
theorem of19D_s{n:Nat}{b:Bytes}{T1 T2 T3 T4 T5 T6:TkSt}(h1:nameT (ts,false)=T1)(sm0:Sm ts)(h2:nameT T1=T2)(sm1:Sm T1.1)(h3:numT T2=T3)(h4:numT T3=T4)(h5:numT T4=T5)(h6:bytesT T5=T6)(hd:doneO T6=false):MNo (.mk 2 19 n b ts):=
 s1 [cA 1001 (take_s (v:=(.mk 2 19 n b ts)) (a:=1) (b:=2) (i:=0) (vs:=[cDV (.mk 2 19 n b ts) 1 2]) (fs:=[.d (.mk 2 19 n b ts)]) (nx:=3) rfl rfl rfl rfl (by decide)) [(0,0)],
   cA 21004 (tkName_s (bad:=false) (i:=1) (vs:=[cDV (.mk 2 19 n b ts) 2 3,.o 3 ts.length]) (fs:=[.d (.mk 2 19 n b ts),.l ts]) (x:=.o 3 ts.length) (nx:=4) h1 sm0 rfl rfl rfl (by decide)) [(1,0)],
   cA 21009 (tkName_s (bad:=T1.2) (i:=1) (vs:=[cDV (.mk 2 19 n b ts) 2 3,.o 4 T1.1.length]) (fs:=[.d (.mk 2 19 n b ts),.l T1.1]) (x:=.o 4 T1.1.length) (nx:=5) h2 sm1 rfl rfl rfl (by decide)) [(1,0)],
   cA 21014 (tkNum_s (bad:=T2.2) (i:=1) (vs:=[cDV (.mk 2 19 n b ts) 2 3,.o 4 T2.1.length]) (fs:=[.d (.mk 2 19 n b ts),.l T2.1]) (x:=.o 4 T2.1.length) (nx:=5) h3 rfl rfl rfl (by decide)) [(1,0)],
   cA 21019 (tkNum_s (bad:=T3.2) (i:=1) (vs:=[cDV (.mk 2 19 n b ts) 2 3,.o 4 T3.1.length]) (fs:=[.d (.mk 2 19 n b ts),.l T3.1]) (x:=.o 4 T3.1.length) (nx:=5) h4 rfl rfl rfl (by decide)) [(1,0)],
   cA 21024 (tkNum_s (bad:=T4.2) (i:=1) (vs:=[cDV (.mk 2 19 n b ts) 2 3,.o 4 T4.1.length]) (fs:=[.d (.mk 2 19 n b ts),.l T4.1]) (x:=.o 4 T4.1.length) (nx:=5) h5 rfl rfl rfl (by decide)) [(1,0)],
   cA 21029 (tkBytes_s (bad:=T5.2) (i:=1) (vs:=[cDV (.mk 2 19 n b ts) 2 3,.o 4 T5.1.length]) (fs:=[.d (.mk 2 19 n b ts),.l T5.1]) (x:=.o 4 T5.1.length) (nx:=5) h6 rfl rfl rfl rfl (by decide)) [(1,0)],
   cA 28018 (tkDone_s (bad:=T6.2) (i:=1) (vs:=[cDV (.mk 2 19 n b ts) 2 3,.o 4 T6.1.length,.o 5 (bytesO T5).length]) (fs:=[.d (.mk 2 19 n b ts),.l T6.1,.b (bytesO T5)]) (x:=.o 4 T6.1.length) (nx:=6) hd rfl rfl rfl (by decide)) [(1,0)]]
theorem of20K_s{n:Nat}{b:Bytes}{u:DVal}{T1 T2 T3 T4 T5 T6:TkSt}(h1:nameT (ts,false)=T1)(sm0:Sm ts)(h2:numT T1=T2)(h3:numT T2=T3)(h4:truthT T3=T4)(hu:ptV 1 T4.1=u)(h5:ptT 1 T4=T5)(h6:bytesT T5=T6)(ho:ofF u=none)(hsm:Sm u.l):MNo (.mk 1 20 n b ts):=
 s1 [cA 1001 (take_s (v:=(.mk 1 20 n b ts)) (a:=1) (b:=2) (i:=0) (vs:=[cDV (.mk 1 20 n b ts) 1 2]) (fs:=[.d (.mk 1 20 n b ts)]) (nx:=3) rfl rfl rfl rfl (by decide)) [(0,0)],
   cA 23004 (tkName_s (bad:=false) (i:=1) (vs:=[cDV (.mk 1 20 n b ts) 2 3,.o 3 ts.length]) (fs:=[.d (.mk 1 20 n b ts),.l ts]) (x:=.o 3 ts.length) (nx:=4) h1 sm0 rfl rfl rfl (by decide)) [(1,0)],
   cA 23009 (tkNum_s (bad:=T1.2) (i:=1) (vs:=[cDV (.mk 1 20 n b ts) 2 3,.o 4 T1.1.length]) (fs:=[.d (.mk 1 20 n b ts),.l T1.1]) (x:=.o 4 T1.1.length) (nx:=5) h2 rfl rfl rfl (by decide)) [(1,0)],
   cA 23014 (tkNum_s (bad:=T2.2) (i:=1) (vs:=[cDV (.mk 1 20 n b ts) 2 3,.o 4 T2.1.length]) (fs:=[.d (.mk 1 20 n b ts),.l T2.1]) (x:=.o 4 T2.1.length) (nx:=5) h3 rfl rfl rfl (by decide)) [(1,0)],
   cA 23019 (tkTruth_s (bad:=T3.2) (i:=1) (vs:=[cDV (.mk 1 20 n b ts) 2 3,.o 4 T3.1.length]) (fs:=[.d (.mk 1 20 n b ts),.l T3.1]) (x:=.o 4 T3.1.length) (nx:=5) h4 rfl rfl rfl (by decide)) [(1,0)],
   cA 23021 (ticketN_s (v:=(.mk 1 20 n b ts)) (bad:=T4.2) hu h5 ho hsm) [(2,0)],
   cA 23026 (tkBytes_s (bad:=T5.2) (i:=1) (vs:=[cDV (.mk 1 20 n b ts) 2 3,.o 4 T5.1.length,cDV u 5 6]) (fs:=[.d (.mk 1 20 n b ts),.l T5.1,.d u]) (x:=.o 4 T5.1.length) (nx:=7) h6 rfl rfl rfl rfl (by decide)) [(1,0)]]
theorem of20T_s{n:Nat}{b:Bytes}{u:DVal}{T1 T2 T3 T4 T5 T6:TkSt}(h1:nameT (ts,false)=T1)(sm0:Sm ts)(h2:numT T1=T2)(h3:numT T2=T3)(h4:truthT T3=T4)(hu:ptV 1 T4.1=u)(h5:ptT 1 T4=T5)(h6:bytesT T5=T6)(ho:ofF u=none)(hsm:Sm u.l):MNo (.mk 2 20 n b ts):=
 s1 [cA 1001 (take_s (v:=(.mk 2 20 n b ts)) (a:=1) (b:=2) (i:=0) (vs:=[cDV (.mk 2 20 n b ts) 1 2]) (fs:=[.d (.mk 2 20 n b ts)]) (nx:=3) rfl rfl rfl rfl (by decide)) [(0,0)],
   cA 23004 (tkName_s (bad:=false) (i:=1) (vs:=[cDV (.mk 2 20 n b ts) 2 3,.o 3 ts.length]) (fs:=[.d (.mk 2 20 n b ts),.l ts]) (x:=.o 3 ts.length) (nx:=4) h1 sm0 rfl rfl rfl (by decide)) [(1,0)],
   cA 23009 (tkNum_s (bad:=T1.2) (i:=1) (vs:=[cDV (.mk 2 20 n b ts) 2 3,.o 4 T1.1.length]) (fs:=[.d (.mk 2 20 n b ts),.l T1.1]) (x:=.o 4 T1.1.length) (nx:=5) h2 rfl rfl rfl (by decide)) [(1,0)],
   cA 23014 (tkNum_s (bad:=T2.2) (i:=1) (vs:=[cDV (.mk 2 20 n b ts) 2 3,.o 4 T2.1.length]) (fs:=[.d (.mk 2 20 n b ts),.l T2.1]) (x:=.o 4 T2.1.length) (nx:=5) h3 rfl rfl rfl (by decide)) [(1,0)],
   cA 23019 (tkTruth_s (bad:=T3.2) (i:=1) (vs:=[cDV (.mk 2 20 n b ts) 2 3,.o 4 T3.1.length]) (fs:=[.d (.mk 2 20 n b ts),.l T3.1]) (x:=.o 4 T3.1.length) (nx:=5) h4 rfl rfl rfl (by decide)) [(1,0)],
   cA 23021 (ticketN_s (v:=(.mk 2 20 n b ts)) (bad:=T4.2) hu h5 ho hsm) [(2,0)],
   cA 23026 (tkBytes_s (bad:=T5.2) (i:=1) (vs:=[cDV (.mk 2 20 n b ts) 2 3,.o 4 T5.1.length,cDV u 5 6]) (fs:=[.d (.mk 2 20 n b ts),.l T5.1,.d u]) (x:=.o 4 T5.1.length) (nx:=7) h6 rfl rfl rfl rfl (by decide)) [(1,0)]]
theorem of21K_s{n:Nat}{b:Bytes}{T1 T2:TkSt}(h1:nameT (ts,false)=T1)(sm0:Sm ts)(h2:bytesT T1=T2):MNo (.mk 1 21 n b ts):=
 s1 [cA 1001 (take_s (v:=(.mk 1 21 n b ts)) (a:=1) (b:=2) (i:=0) (vs:=[cDV (.mk 1 21 n b ts) 1 2]) (fs:=[.d (.mk 1 21 n b ts)]) (nx:=3) rfl rfl rfl rfl (by decide)) [(0,0)],
   cA 25004 (tkName_s (bad:=false) (i:=1) (vs:=[cDV (.mk 1 21 n b ts) 2 3,.o 3 ts.length]) (fs:=[.d (.mk 1 21 n b ts),.l ts]) (x:=.o 3 ts.length) (nx:=4) h1 sm0 rfl rfl rfl (by decide)) [(1,0)],
   cA 25009 (tkBytes_s (bad:=T1.2) (i:=1) (vs:=[cDV (.mk 1 21 n b ts) 2 3,.o 4 T1.1.length]) (fs:=[.d (.mk 1 21 n b ts),.l T1.1]) (x:=.o 4 T1.1.length) (nx:=5) h2 rfl rfl rfl rfl (by decide)) [(1,0)]]
theorem of21D_s{n:Nat}{b:Bytes}{T1 T2:TkSt}(h1:nameT (ts,false)=T1)(sm0:Sm ts)(h2:bytesT T1=T2)(hd:doneO T2=false):MNo (.mk 2 21 n b ts):=
 s1 [cA 1001 (take_s (v:=(.mk 2 21 n b ts)) (a:=1) (b:=2) (i:=0) (vs:=[cDV (.mk 2 21 n b ts) 1 2]) (fs:=[.d (.mk 2 21 n b ts)]) (nx:=3) rfl rfl rfl rfl (by decide)) [(0,0)],
   cA 25004 (tkName_s (bad:=false) (i:=1) (vs:=[cDV (.mk 2 21 n b ts) 2 3,.o 3 ts.length]) (fs:=[.d (.mk 2 21 n b ts),.l ts]) (x:=.o 3 ts.length) (nx:=4) h1 sm0 rfl rfl rfl (by decide)) [(1,0)],
   cA 25009 (tkBytes_s (bad:=T1.2) (i:=1) (vs:=[cDV (.mk 2 21 n b ts) 2 3,.o 4 T1.1.length]) (fs:=[.d (.mk 2 21 n b ts),.l T1.1]) (x:=.o 4 T1.1.length) (nx:=5) h2 rfl rfl rfl rfl (by decide)) [(1,0)],
   cA 28018 (tkDone_s (bad:=T2.2) (i:=1) (vs:=[cDV (.mk 2 21 n b ts) 2 3,.o 4 T2.1.length,.o 5 (bytesO T1).length]) (fs:=[.d (.mk 2 21 n b ts),.l T2.1,.b (bytesO T1)]) (x:=.o 4 T2.1.length) (nx:=6) hd rfl rfl rfl (by decide)) [(1,0)]]
theorem of22K_s{n:Nat}{b:Bytes}{T1 T2 T3:TkSt}(h1:nameT (ts,false)=T1)(sm0:Sm ts)(h2:numT T1=T2)(h3:numT T2=T3):MNo (.mk 1 22 n b ts):=
 s1 [cA 1001 (take_s (v:=(.mk 1 22 n b ts)) (a:=1) (b:=2) (i:=0) (vs:=[cDV (.mk 1 22 n b ts) 1 2]) (fs:=[.d (.mk 1 22 n b ts)]) (nx:=3) rfl rfl rfl rfl (by decide)) [(0,0)],
   cA 27004 (tkName_s (bad:=false) (i:=1) (vs:=[cDV (.mk 1 22 n b ts) 2 3,.o 3 ts.length]) (fs:=[.d (.mk 1 22 n b ts),.l ts]) (x:=.o 3 ts.length) (nx:=4) h1 sm0 rfl rfl rfl (by decide)) [(1,0)],
   cA 27009 (tkNum_s (bad:=T1.2) (i:=1) (vs:=[cDV (.mk 1 22 n b ts) 2 3,.o 4 T1.1.length]) (fs:=[.d (.mk 1 22 n b ts),.l T1.1]) (x:=.o 4 T1.1.length) (nx:=5) h2 rfl rfl rfl (by decide)) [(1,0)],
   cA 27014 (tkNum_s (bad:=T2.2) (i:=1) (vs:=[cDV (.mk 1 22 n b ts) 2 3,.o 4 T2.1.length]) (fs:=[.d (.mk 1 22 n b ts),.l T2.1]) (x:=.o 4 T2.1.length) (nx:=5) h3 rfl rfl rfl (by decide)) [(1,0)]]
theorem of22D_s{n:Nat}{b:Bytes}{T1 T2 T3:TkSt}(h1:nameT (ts,false)=T1)(sm0:Sm ts)(h2:numT T1=T2)(h3:numT T2=T3)(hd:doneO T3=false):MNo (.mk 2 22 n b ts):=
 s1 [cA 1001 (take_s (v:=(.mk 2 22 n b ts)) (a:=1) (b:=2) (i:=0) (vs:=[cDV (.mk 2 22 n b ts) 1 2]) (fs:=[.d (.mk 2 22 n b ts)]) (nx:=3) rfl rfl rfl rfl (by decide)) [(0,0)],
   cA 27004 (tkName_s (bad:=false) (i:=1) (vs:=[cDV (.mk 2 22 n b ts) 2 3,.o 3 ts.length]) (fs:=[.d (.mk 2 22 n b ts),.l ts]) (x:=.o 3 ts.length) (nx:=4) h1 sm0 rfl rfl rfl (by decide)) [(1,0)],
   cA 27009 (tkNum_s (bad:=T1.2) (i:=1) (vs:=[cDV (.mk 2 22 n b ts) 2 3,.o 4 T1.1.length]) (fs:=[.d (.mk 2 22 n b ts),.l T1.1]) (x:=.o 4 T1.1.length) (nx:=5) h2 rfl rfl rfl (by decide)) [(1,0)],
   cA 27014 (tkNum_s (bad:=T2.2) (i:=1) (vs:=[cDV (.mk 2 22 n b ts) 2 3,.o 4 T2.1.length]) (fs:=[.d (.mk 2 22 n b ts),.l T2.1]) (x:=.o 4 T2.1.length) (nx:=5) h3 rfl rfl rfl (by decide)) [(1,0)],
   cA 28018 (tkDone_s (bad:=T3.2) (i:=1) (vs:=[cDV (.mk 2 22 n b ts) 2 3,.o 4 T3.1.length]) (fs:=[.d (.mk 2 22 n b ts),.l T3.1]) (x:=.o 4 T3.1.length) (nx:=5) hd rfl rfl rfl (by decide)) [(1,0)]]
end
end
section
open Go.RowKit Go.QT
theorem smC{l:List DVal}(h:l.all (fun v=>Nat.ble v.b.length 1000000)=true):Sm l:=fun v hv=>Nat.le_of_ble_eq_true (List.all_eq_true.1 h v hv)
abbrev tsQ:List DVal:=[bD bANN.data.toList,bD bBOB.data.toList,nD 9,valD (.ticket bBOB (mkB 98 8)),bD (mkB 98 10)]
abbrev tsP:List DVal:=[bD bBOB.data.toList,bD bANN.data.toList,nD 9,bD (mkB 98 11)]
set_option maxRecDepth 100000
theorem no1_11{n:Nat}{b:Bytes}:MNo (.mk 1 11 n b []):=of11K_s (ts:=[]) (n:=n) (b:=b) rfl (smC (by kernel_rfl)) rfl rfl rfl
theorem no1_12{n:Nat}{b:Bytes}:MNo (.mk 1 12 n b []):=of12K_s (ts:=[]) (n:=n) (b:=b) rfl (smC (by kernel_rfl)) rfl rfl rfl (by kernel_rfl) (smC (by kernel_rfl))
theorem no1_13{n:Nat}{b:Bytes}:MNo (.mk 1 13 n b []):=of13K_s (ts:=[]) (n:=n) (b:=b) rfl (smC (by kernel_rfl)) rfl rfl rfl rfl rfl rfl rfl rfl rfl (by kernel_rfl) (by kernel_rfl) (smC (by kernel_rfl))
theorem no1_14{n:Nat}{b:Bytes}:MNo (.mk 1 14 n b []):=of14K_s (ts:=[]) (n:=n) (b:=b) rfl (smC (by kernel_rfl)) rfl rfl rfl (by kernel_rfl) (smC (by kernel_rfl))
theorem no1_15{n:Nat}{b:Bytes}:MNo (.mk 1 15 n b []):=of15K_s (ts:=[]) (n:=n) (b:=b) rfl (smC (by kernel_rfl)) rfl (smC (by kernel_rfl)) rfl
theorem no1_16{n:Nat}{b:Bytes}:MNo (.mk 1 16 n b []):=of16K_s (ts:=[]) (n:=n) (b:=b) rfl (smC (by kernel_rfl)) rfl (smC (by kernel_rfl)) rfl rfl rfl (by kernel_rfl) (smC (by kernel_rfl))
theorem no1_17{n:Nat}{b:Bytes}:MNo (.mk 1 17 n b []):=of17K_s (ts:=[]) (n:=n) (b:=b) rfl (smC (by kernel_rfl)) rfl (smC (by kernel_rfl)) rfl rfl rfl rfl (by kernel_rfl) (smC (by kernel_rfl))
theorem no1_18{n:Nat}{b:Bytes}:MNo (.mk 1 18 n b []):=of18K_s (ts:=[]) (n:=n) (b:=b) rfl (smC (by kernel_rfl)) rfl (smC (by kernel_rfl)) rfl rfl
theorem no1_19{n:Nat}{b:Bytes}:MNo (.mk 1 19 n b []):=of19K_s (ts:=[]) (n:=n) (b:=b) rfl (smC (by kernel_rfl)) rfl (smC (by kernel_rfl)) rfl rfl rfl rfl
theorem no1_20{n:Nat}{b:Bytes}:MNo (.mk 1 20 n b []):=of20K_s (ts:=[]) (n:=n) (b:=b) rfl (smC (by kernel_rfl)) rfl rfl rfl rfl rfl rfl (by kernel_rfl) (smC (by kernel_rfl))
theorem no1_21{n:Nat}{b:Bytes}:MNo (.mk 1 21 n b []):=of21K_s (ts:=[]) (n:=n) (b:=b) rfl (smC (by kernel_rfl)) rfl
theorem no1_22{n:Nat}{b:Bytes}:MNo (.mk 1 22 n b []):=of22K_s (ts:=[]) (n:=n) (b:=b) rfl (smC (by kernel_rfl)) rfl rfl
theorem noQ_11:MNo (.mk 2 11 0 [] tsQ):=of11D_s (ts:=tsQ) (n:=0) (b:=[]) rfl (smC (by kernel_rfl)) rfl rfl rfl (by kernel_rfl)
theorem noQ_12:MNo (.mk 2 12 0 [] tsQ):=of12T_s (ts:=tsQ) (n:=0) (b:=[]) rfl (smC (by kernel_rfl)) rfl rfl rfl (by kernel_rfl) (smC (by kernel_rfl))
theorem noQ_13:MNo (.mk 2 13 0 [] tsQ):=of13T_s (ts:=tsQ) (n:=0) (b:=[]) rfl (smC (by kernel_rfl)) rfl rfl rfl rfl rfl rfl rfl rfl rfl (by kernel_rfl) (by kernel_rfl) (smC (by kernel_rfl))
theorem noQ_14:MNo (.mk 2 14 0 [] tsQ):=of14T_s (ts:=tsQ) (n:=0) (b:=[]) rfl (smC (by kernel_rfl)) rfl rfl rfl (by kernel_rfl) (smC (by kernel_rfl))
theorem noQ_15:MNo (.mk 2 15 0 [] tsQ):=of15D_s (ts:=tsQ) (n:=0) (b:=[]) rfl (smC (by kernel_rfl)) rfl (smC (by kernel_rfl)) rfl (by kernel_rfl)
theorem noQ_16:MNo (.mk 2 16 0 [] tsQ):=of16D_s (ts:=tsQ) (n:=0) (b:=[]) (s:=bBOB) (l:=mkB 98 8) rfl (smC (by kernel_rfl)) rfl (smC (by kernel_rfl)) rfl rfl rfl (by kernel_rfl) (smC (by kernel_rfl)) (by kernel_rfl)
theorem noQ_18:MNo (.mk 2 18 0 [] tsQ):=of18D_s (ts:=tsQ) (n:=0) (b:=[]) rfl rfl rfl rfl (smC (by kernel_rfl)) (smC (by kernel_rfl)) (by kernel_rfl)
theorem noQ_19:MNo (.mk 2 19 0 [] tsQ):=of19D_s (ts:=tsQ) (n:=0) (b:=[]) rfl (smC (by kernel_rfl)) rfl (smC (by kernel_rfl)) rfl rfl rfl rfl (by kernel_rfl)
theorem noQ_20:MNo (.mk 2 20 0 [] tsQ):=of20T_s (ts:=tsQ) (n:=0) (b:=[]) rfl (smC (by kernel_rfl)) rfl rfl rfl rfl rfl rfl (by kernel_rfl) (smC (by kernel_rfl))
theorem noQ_21:MNo (.mk 2 21 0 [] tsQ):=of21D_s (ts:=tsQ) (n:=0) (b:=[]) rfl (smC (by kernel_rfl)) rfl (by kernel_rfl)
theorem noQ_22:MNo (.mk 2 22 0 [] tsQ):=of22D_s (ts:=tsQ) (n:=0) (b:=[]) rfl (smC (by kernel_rfl)) rfl rfl (by kernel_rfl)
theorem noP_11:MNo (.mk 2 11 0 [] tsP):=of11D_s (ts:=tsP) (n:=0) (b:=[]) rfl (smC (by kernel_rfl)) rfl rfl rfl (by kernel_rfl)
theorem noP_12:MNo (.mk 2 12 0 [] tsP):=of12T_s (ts:=tsP) (n:=0) (b:=[]) rfl (smC (by kernel_rfl)) rfl rfl rfl (by kernel_rfl) (smC (by kernel_rfl))
theorem noP_13:MNo (.mk 2 13 0 [] tsP):=of13T_s (ts:=tsP) (n:=0) (b:=[]) rfl (smC (by kernel_rfl)) rfl rfl rfl rfl rfl rfl rfl rfl rfl (by kernel_rfl) (by kernel_rfl) (smC (by kernel_rfl))
theorem noP_14:MNo (.mk 2 14 0 [] tsP):=of14T_s (ts:=tsP) (n:=0) (b:=[]) rfl (smC (by kernel_rfl)) rfl rfl rfl (by kernel_rfl) (smC (by kernel_rfl))
theorem noP_15:MNo (.mk 2 15 0 [] tsP):=of15D_s (ts:=tsP) (n:=0) (b:=[]) rfl (smC (by kernel_rfl)) rfl (smC (by kernel_rfl)) rfl (by kernel_rfl)
theorem noP_16:MNo (.mk 2 16 0 [] tsP):=of16T_s (ts:=tsP) (n:=0) (b:=[]) rfl (smC (by kernel_rfl)) rfl (smC (by kernel_rfl)) rfl rfl rfl (by kernel_rfl) (smC (by kernel_rfl))
theorem noP_17:MNo (.mk 2 17 0 [] tsP):=of17T_s (ts:=tsP) (n:=0) (b:=[]) rfl rfl rfl rfl rfl rfl (smC (by kernel_rfl)) (smC (by kernel_rfl)) (by kernel_rfl) (smC (by kernel_rfl))
theorem noP_19:MNo (.mk 2 19 0 [] tsP):=of19D_s (ts:=tsP) (n:=0) (b:=[]) rfl (smC (by kernel_rfl)) rfl (smC (by kernel_rfl)) rfl rfl rfl rfl (by kernel_rfl)
theorem noP_20:MNo (.mk 2 20 0 [] tsP):=of20T_s (ts:=tsP) (n:=0) (b:=[]) rfl (smC (by kernel_rfl)) rfl rfl rfl rfl rfl rfl (by kernel_rfl) (smC (by kernel_rfl))
theorem noP_21:MNo (.mk 2 21 0 [] tsP):=of21D_s (ts:=tsP) (n:=0) (b:=[]) rfl (smC (by kernel_rfl)) rfl (by kernel_rfl)
theorem noP_22:MNo (.mk 2 22 0 [] tsP):=of22D_s (ts:=tsP) (n:=0) (b:=[]) rfl (smC (by kernel_rfl)) rfl rfl (by kernel_rfl)
theorem no1{t n:Nat}{b:Bytes}(ht:t<=30):MNo (.mk 1 t n b []):=by
 rcases t with _|_|_|_|_|_|_|_|_|_|_|_|_|_|_|_|_|_|_|_|_|_|_|_|_|_|_|_|_|_|_|t
 · exact ofO1_s (by decide)
 · exact ofO1_s (by decide)
 · exact ofO1_s (by decide)
 · exact ofO1_s (by decide)
 · exact ofO1_s (by decide)
 · exact ofO1_s (by decide)
 · exact ofO1_s (by decide)
 · exact ofO1_s (by decide)
 · exact ofO1_s (by decide)
 · exact ofO1_s (by decide)
 · exact ofO1_s (by decide)
 · exact no1_11
 · exact no1_12
 · exact no1_13
 · exact no1_14
 · exact no1_15
 · exact no1_16
 · exact no1_17
 · exact no1_18
 · exact no1_19
 · exact no1_20
 · exact no1_21
 · exact no1_22
 · exact ofO1_s (by decide)
 · exact ofO1_s (by decide)
 · exact ofO1_s (by decide)
 · exact ofO1_s (by decide)
 · exact ofO1_s (by decide)
 · exact ofO1_s (by decide)
 · exact ofO1_s (by decide)
 · exact ofO1_s (by decide)
 omega
theorem noQ{t:Nat}(ht:t<=30)(hne:t≠17):MNo (.mk 2 t 0 [] tsQ):=by
 rcases t with _|_|_|_|_|_|_|_|_|_|_|_|_|_|_|_|_|_|_|_|_|_|_|_|_|_|_|_|_|_|_|t
 · exact ofO2_s (by decide)
 · exact ofO2_s (by decide)
 · exact ofO2_s (by decide)
 · exact ofO2_s (by decide)
 · exact ofO2_s (by decide)
 · exact ofO2_s (by decide)
 · exact ofO2_s (by decide)
 · exact ofO2_s (by decide)
 · exact ofO2_s (by decide)
 · exact ofO2_s (by decide)
 · exact ofO2_s (by decide)
 · exact noQ_11
 · exact noQ_12
 · exact noQ_13
 · exact noQ_14
 · exact noQ_15
 · exact noQ_16
 · exact absurd rfl hne
 · exact noQ_18
 · exact noQ_19
 · exact noQ_20
 · exact noQ_21
 · exact noQ_22
 · exact ofO2_s (by decide)
 · exact ofO2_s (by decide)
 · exact ofO2_s (by decide)
 · exact ofO2_s (by decide)
 · exact ofO2_s (by decide)
 · exact ofO2_s (by decide)
 · exact ofO2_s (by decide)
 · exact ofO2_s (by decide)
 omega
theorem noP{t:Nat}(ht:t<=30)(hne:t≠18):MNo (.mk 2 t 0 [] tsP):=by
 rcases t with _|_|_|_|_|_|_|_|_|_|_|_|_|_|_|_|_|_|_|_|_|_|_|_|_|_|_|_|_|_|_|t
 · exact ofO2_s (by decide)
 · exact ofO2_s (by decide)
 · exact ofO2_s (by decide)
 · exact ofO2_s (by decide)
 · exact ofO2_s (by decide)
 · exact ofO2_s (by decide)
 · exact ofO2_s (by decide)
 · exact ofO2_s (by decide)
 · exact ofO2_s (by decide)
 · exact ofO2_s (by decide)
 · exact ofO2_s (by decide)
 · exact noP_11
 · exact noP_12
 · exact noP_13
 · exact noP_14
 · exact noP_15
 · exact noP_16
 · exact noP_17
 · exact absurd rfl hne
 · exact noP_19
 · exact noP_20
 · exact noP_21
 · exact noP_22
 · exact ofO2_s (by decide)
 · exact ofO2_s (by decide)
 · exact ofO2_s (by decide)
 · exact ofO2_s (by decide)
 · exact ofO2_s (by decide)
 · exact ofO2_s (by decide)
 · exact ofO2_s (by decide)
 · exact ofO2_s (by decide)
 omega
/-- What is read where the first byte is another one. -/
theorem rd_head{z:UInt8}{r:Bytes}{m:Nat}{ts:List DVal}{v:DVal}(hs:szB (z::r)=(0,m,2))(hl:r.length=1+m)(hm:8<m)(hts:lsB (rdB 7) m (r.drop 1)=.inr ts)(h:RdB (z::r)=.inr v) :
   (v=.mk 1 (nb z % 64) 0 (r.drop 1) []∨v=.mk 2 (nb z % 64) 0 [] ts)/\nb z % 64<=30:=by
 have g0:gb (z::r) 0=z:=rfl
 have hB:((z::r).take (2+m)).drop 2=r.drop 1:=by
   rw [List.take_of_length_le (by rw [List.length_cons];omega)];rfl
 have hBl:(r.drop 1).length=m:=by rw [List.length_drop];omega
 unfold RdB at h
 split at h
 · cases h
 rw [rdB,hs,g0] at h
 simp only at h
 rw [if_neg (fun hh=>hh rfl),hB] at h
 by_cases h1:2<nb z / 64∨30<nb z % 64
 · rw [if_pos h1] at h;cases h
 rw [if_neg h1] at h
 refine ⟨?_,by omega⟩
 unfold ptB at h
 rw [hBl,hts] at h
 by_cases h2:nb z / 64=0
 · rw [if_pos h2,if_pos (.inr (.inl hm))] at h;cases h
 rw [if_neg h2] at h
 by_cases h3:nb z / 64=1
 · rw [if_pos h3] at h
   simp only at h
   split at h
   · cases h
   injection h with h;exact .inl h.symm
 rw [if_neg h3] at h
 simp only at h
 split at h
 · cases h
 injection h with h;exact .inr h.symm
end
section
open Go.RowKit Go.QT
/-- A law that holds nothing. -/
theorem law_s{f:FuncId}{al:List AV}{args:Array Value}(h:Spec Tryz.prog ⟨f,0,al,[],[],aB true,[]⟩)(W:World)(ha:∀ κ,(AV.denL κ al).toArray=args):Calls Tryz.prog f args W (DPost W (.bool true)):=by
 have κ:Kp:=fun _=>⟨0,none,rSB (.slice none 0 0) []⟩
 have h0:=h.calls κ W ⟨by rw [foot_nil];exact (Hp.nil _ W).ha,fun e he=>absurd he List.not_mem_nil,fun e he=>absurd he List.not_mem_nil⟩
 rw [ha κ] at h0
 refine h0.mono fun e w' ⟨κ',_,e1,h1⟩=>⟨e1,?_⟩
 have h2:=h1.ha.hp
 rw [foot_nil] at h2
 exact h2.below0
section
variable{pw:ByteArray}{now x y:Int}
set_option maxRecDepth 100000
set_option maxHeartbeats 4000000
end
end
section
open Go.RowKit Go.QT
abbrev aU(z:UInt8):AV:=.v (.int .u8 (ub z))
abbrev HtS(at_:Int)(y:UInt8)(an:Bool):Prop:=Spec Tryz.prog ⟨9,0,[aI at_,aU y,aB an],[],[],aB true,[]⟩
noncomputable abbrev LQ:Bytes:=wrV (apqD bANN bBOB 9 (.ticket bBOB (mkB 98 8)) (mkB 98 10))
noncomputable abbrev LP:Bytes:=wrV (aprD bBOB bANN 9 (mkB 98 11))
theorem LQ_len:LQ.length=58:=by kernel_rfl
theorem LP_len:LP.length=33:=by kernel_rfl
theorem LQ_tl:LQ=145::LQ.tail:=by kernel_rfl
theorem LP_tl:LP=146::LP.tail:=by kernel_rfl
theorem RdQ_is:RdB LQ=.inr (.mk 2 17 0 [] tsQ):=by kernel_rfl
theorem RdP_is:RdB LP=.inr (.mk 2 18 0 [] tsP):=by kernel_rfl
theorem szQ(z:UInt8):szB (z::LQ.tail)=(0,56,2):=by kernel_rfl
theorem szP(z:UInt8):szB (z::LP.tail)=(0,31,2):=by kernel_rfl
theorem lsQ:lsB (rdB 7) 56 (LQ.tail.drop 1)=.inr tsQ:=by kernel_rfl
theorem lsP:lsB (rdB 7) 31 (LP.tail.drop 1)=.inr tsP:=by kernel_rfl
/-- Where a byte of the first message is turned, and what is read then has not its tag, it is no message. -/
theorem turnQ{i:Nat}{z:UInt8}{v:DVal}(h:RdB (LQ.set i z)=.inr v):MNo v∨(v.kind=2/\v.tag=17):=by
 by_cases h1:v.kind=2/\v.tag=17
 · exact .inr h1
 left
 cases i with
 | succ i =>
   obtain ⟨h2,h3⟩:=RdB_kt h
   have e:gb (LQ.set (i+1) z) 0=145:=by rw [LQ_tl,List.set_cons_succ];rfl
   have e1:nb 145=145:=by kernel_rfl
   rw [e,e1] at h2 h3
   exact absurd ⟨h2.symm,h3.symm⟩ h1
 | zero =>
   have e:LQ.set 0 z=z::LQ.tail:=by rw [LQ_tl];rfl
   rw [e] at h
   obtain ⟨h2,h3⟩:=rd_head (szQ z) (by kernel_rfl) (by decide) lsQ h
   rcases h2 with rfl|rfl
   · exact no1 h3
   exact noQ h3 fun e=>h1 ⟨rfl,e⟩
theorem turnP{i:Nat}{z:UInt8}{v:DVal}(h:RdB (LP.set i z)=.inr v):MNo v∨(v.kind=2/\v.tag=18):=by
 by_cases h1:v.kind=2/\v.tag=18
 · exact .inr h1
 left
 cases i with
 | succ i =>
   obtain ⟨h2,h3⟩:=RdB_kt h
   have e:gb (LP.set (i+1) z) 0=146:=by rw [LP_tl,List.set_cons_succ];rfl
   have e1:nb 146=146:=by kernel_rfl
   rw [e,e1] at h2 h3
   exact absurd ⟨h2.symm,h3.symm⟩ h1
 | zero =>
   have e:LP.set 0 z=z::LP.tail:=by rw [LP_tl];rfl
   rw [e] at h
   obtain ⟨h2,h3⟩:=rd_head (szP z) (by kernel_rfl) (by decide) lsP h
   rcases h2 with rfl|rfl
   · exact no1 h3
   exact noP h3 fun e=>h1 ⟨rfl,e⟩
theorem set_turn{L:Bytes}{i:Nat}{y:UInt8}(hi:i<L.length):L.set i (gb L i ^^^ y)=L↔y=0:=by
 constructor
 · intro h
   have h1:(L.set i (gb L i ^^^ y))[i]?=L[i]?:=by rw [h]
   rw [List.getElem?_set_self hi,List.getElem?_eq_getElem hi] at h1
   injection h1 with h1
   have h2:gb L i=L[i]:=by simp [gb,hi]
   rw [← h2] at h1
   have h3:gb L i ^^^ (gb L i ^^^ y)=gb L i ^^^ gb L i:=by rw [h1]
   rw [← UInt8.xor_assoc,UInt8.xor_self,UInt8.zero_xor] at h3
   exact h3
 rintro rfl
 rw [UInt8.xor_zero]
 have h2:gb L i=L[i]:=by simp [gb,hi]
 rw [h2,List.set_getElem_self]
/-- A part is a ticket, or nothing. -/
theorem isTk_pt{l:List DVal}{t:Thing}(h:ofF (ptV 1 l)=some t):∃ s b,t=.ticket s b:=by
 have key:∀ v:DVal,v.tag=1->ofF v=some t->∃ s b,t=.ticket s b:=by
   intro v hv h
   unfold ofF at h
   rw [hv] at h
   have h:ofEnd v.kind (some (ofTicket (v.l,false)))=some t:=h
   unfold ofEnd ofTicket at h
   simp only at h
   split at h
   · injection h with h;exact ⟨_,_,h.symm⟩
   cases h
 cases l with
 | nil=>cases h
 | cons v r =>
   by_cases hc:v.kind=2/\v.tag=1
   · rw [(prt_good (r:=r) hc.1 hc.2 true).1] at h
     exact key v hc.2 h
   have e:ptV 1 (v::r)=zDV:=if_neg hc
   rw [e] at h;cases h
theorem nx_sub{k:Nat}{T:TkSt}{x:DVal}(h:x ∈ (nxT k T).1):x ∈ T.1:=by
 obtain ⟨ts,b⟩:=T
 cases ts with
 | nil=>exact h
 | cons v r =>
   by_cases hc:v.kind=k/\v.tag=0
   · rw [(nx_good (r:=r) hc.1 hc.2 b).2] at h;exact List.mem_cons_of_mem _ h
   have e:nxT k (v::r,b)=([],true):=if_neg hc
   rw [e] at h;cases h
theorem ptV_mem{k:Nat}{l:List DVal}:ptV k l=zDV∨ptV k l ∈ l:=by
 cases l with
 | nil=>exact .inl rfl
 | cons v r =>
   by_cases hc:v.kind=2/\v.tag=k
   · rw [(prt_good (r:=r) hc.1 hc.2 true).1];exact .inr (List.mem_cons_self ..)
   exact .inl (if_neg hc)
/-- What came in, as the law reads it. -/
structure HtG(at_:Int)(m k i:Nat):Prop where
 ha:Value.int .i64 (bits .and .i64 at_ ((1023:Nat):Int))=.int .i64 (k:Int)
 hr:Value.int .i64 (Int.tmod (k:Int) (m:Int))=.int .i64 (i:Int)
 hi:i<m
theorem htG(at_:Int)(m:Nat)(hm:0<m):∃ k i,HtG at_ m k i:=by
 obtain ⟨k,ha,hk⟩:=and_mask at_ 1023 (by decide)
 exact ⟨k,k % m,⟨by rw [ha],by rw [Int.ofNat_tmod],Nat.mod_lt _ hm⟩⟩
theorem xorB{a y:UInt8}:Value.int .u8 (bits .xor .u8 (ub a) (ub y))=.int .u8 (ub (a ^^^ y)):=by rw [bits_xor8]
theorem yNe{y:UInt8}(h:y≠0):Value.bool (ub y != (0:Int))=.bool true:=by
 have h1:ub y≠0:=fun e=>h (UInt8.toNat_inj.1 (by unfold ub at e;simpa using e))
 rw [bne_iff_ne.2 h1]
theorem yEq{y:UInt8}(h:y≠0):Value.bool (ub y == (0:Int))=.bool false:=by
 have h1:ub y≠0:=fun e=>h (UInt8.toNat_inj.1 (by unfold ub at e;simpa using e))
 rw [beq_eq_false_iff_ne.2 h1]
theorem ro_same{P:Program}{f:FuncId}{nx:Nat}{args:List AV}{ro ro' pre post:List Ent}{v:AV}(h:Spec P ⟨f,nx,args,ro,pre,v,post⟩)(hr:∀ e ∈ ro,e ∈ ro'):Spec P ⟨f,nx,args,ro',pre,v,post⟩:=
 ⟨fun κ w hh=>(h.calls κ w ⟨hh.ha.reRo (fun r hr'=>by obtain ⟨e,he,rfl⟩:=List.mem_map.1 hr';exact List.mem_map.2 ⟨e,hr e he,rfl⟩),fun e he=>hh.hr e (hr e he),hh.hh⟩).mono fun e w' hq=>⟨hq.ex⟩⟩
section
variable{Kk ka kb K1 K2 K3 K4:Fin 16->UInt8}{t t1:STab}{at_:Int}{y:UInt8}{k i:Nat}{bx:List SSealed}{b b1 c1 e1:Bytes}
/-- Up to what is read. -/
noncomputable abbrev pQ (O:Op18 Kk ka kb K1 K2 K3 t b1 c1 e1 bx) (B:Bg18 ka K1 K3 K4 t t1 9 20 bx b) (g:HtG at_ 58 k i) (y:UInt8) (KN:Nat):List (Pl Tryz.prog):=
 [cA 1000 alive18_s [],cA 3000 O.a [],cA 4009 B.a [],cA 8002 (wrApqO_s (f:=bANN) (t:=bBOB) (sid:=9) (sv:=bBOB) (b:=mkB 98 8) (au:=mkB 98 10) ⟨⟨right_ann,by decide⟩,⟨right_bob,by decide⟩,inN_is (by decide) (by decide)⟩ ⟨right_bob,by decide⟩ (by rw [mkB_len];decide) (by rw [mkB_len];decide) LQ_len) [],
  fA 9001 g.ha,fA 9004 g.hr,ixO 10002 KN LQ i (by rw [LQ_len];exact g.hi),ldO 10003 KN LQ i (by rw [LQ_len];exact g.hi),fA 10005 (xorB (a:=gb LQ i) (y:=y)),ixO 10006 KN LQ i (by rw [LQ_len];exact g.hi),stO 10007 KN LQ i (gb LQ i ^^^ y) (by rw [LQ_len];exact g.hi)]
set_option maxRecDepth 100000
set_option maxHeartbeats 4000000
theorem ht_e(O:Op18 Kk ka kb K1 K2 K3 t b1 c1 e1 bx)(B:Bg18 ka K1 K3 K4 t t1 9 20 bx b)(g:HtG at_ 58 k i)(hy:y≠0){c:Nat}(hr:RdB (LQ.set i (gb LQ i ^^^ y))=.inl c)(hc:c≠0):HtS at_ y false:=by
 have r:=readE_s hr hc
 rw [List.length_set,LQ_len] at r
 exact s1 (pQ O B g y 480++[cA 11001 r [],fA 14001 (yNe hy)])
theorem ht_n(O:Op18 Kk ka kb K1 K2 K3 t b1 c1 e1 bx)(B:Bg18 ka K1 K3 K4 t t1 9 20 bx b)(g:HtG at_ 58 k i)(hy:y≠0)(r:Spec Tryz.prog ⟨44,1,[.o 0 (LQ.set i (gb LQ i ^^^ y)).length],[eB 0 (LQ.set i (gb LQ i ^^^ y))],[],.t [.v .nilIface,aI 4],[]⟩):HtS at_ y false:=by
 rw [List.length_set,LQ_len] at r
 exact s1 (pQ O B g y 480++[cA 11001 r [],fA 14001 (yNe hy)])
/-- What is read lies in a region, as the call asks for it. -/
theorem accR{t t':STab}{f tn sv:ByteArray}{sid:Int}{l au:Bytes}{e:Nat}{v u:DVal}{ts:List DVal}(h:AcX K2 t t' f tn sv sid l au e):Spec Tryz.prog ⟨38,10,[tI,aS bBOB,.c (aK K2),.p 1 0,aI 21,apC f tn sid sv l.length (.o 3 au.length)],[eRg 4 [cDV v 5 6,.o 7 ts.length,cDV u 8 9,.o 2 l.length,.o 3 au.length] [.d v,.l ts,.d u,.b l,.b au],eC 1 []],[eT 0 t],.t [metNo,repNo,aI (e:Int)],[eT 0 t']⟩:=by
 have h1:=(Spec.up h 6).vwG 4 [cDV v 5 6,.o 7 ts.length,cDV u 8 9,.o 2 l.length,.o 3 au.length] [.d v,.l ts,.d u,.b l,.b au] 3 2 l [eC 1 [],eB 3 au] (by intro x hx;simp only [List.mem_cons,List.not_mem_nil,or_false] at hx ⊢;rcases hx with rfl|rfl|rfl <;> simp) rfl rfl rfl
 have h2:=h1.vwG 4 [cDV v 5 6,.o 7 ts.length,cDV u 8 9,.o 2 l.length,.o 3 au.length] [.d v,.l ts,.d u,.b l,.b au] 4 3 au [eRg 4 [cDV v 5 6,.o 7 ts.length,cDV u 8 9,.o 2 l.length,.o 3 au.length] [.d v,.l ts,.d u,.b l,.b au],eC 1 []] (by intro x hx;simp only [List.mem_cons,List.not_mem_nil,or_false] at hx ⊢;rcases hx with rfl|rfl|rfl <;> simp) rfl rfl rfl
 exact ro_same h2 (by intro x hx;simp only [List.mem_cons,List.not_mem_nil,or_false] at hx ⊢;rcases hx with rfl|rfl|rfl <;> simp)
theorem ht_x(O:Op18 Kk ka kb K1 K2 K3 t b1 c1 e1 bx)(B:Bg18 ka K1 K3 K4 t t1 9 20 bx b)(g:HtG at_ 58 k i)(hy:y≠0){n e:Nat}{B':Bytes}{ts:List DVal}{T1 T2 T3 T4 T5:TkSt}{u:DVal}{s:ByteArray}{l:Bytes}{t':STab}
   (hr:RdB (LQ.set i (gb LQ i ^^^ y))=.inr (v17 n B' ts)) (h1:nameT (ts,false)=T1) (h2:nameT T1=T2) (h3:numT T2=T3) (hu:ptV 1 T3.1=u) (h4:ptT 1 T3=T4) (h5:bytesT T4=T5) (sm0:Sm ts) (sm1:Sm T1.1)
   (ho:ofF u=some (.ticket s l)) (hsm:Sm u.l) (hd:doneO T5=true) (he:e≠0) (ha:AcX K2 t1 t' (nameO (ts,false)) (nameO T1) s (numO T2) l (bytesO T4) e):HtS at_ y false:=by
 have r:=read17_s hr h1 h2 h3 hu h4 h5 sm0 sm1 ho hsm hd
 rw [List.length_set,LQ_len] at r
 generalize nameO (ts,false)=f at *
 generalize nameO T1=tn at *
 generalize numO T2=sid at *
 generalize bytesO T4=au at *
 exact s1 (pQ O B g y 480++[cA 11001 r [],cA 15014 (accR (v:=v17 n B' ts) (u:=u) (ts:=T5.1) ha) [(4,818)],fA 16001 (show Value.bool ((e:Int) == 0)=.bool false by rw [beq_eq_false_iff_ne.2 (by omega)]),fA 16003 (yEq hy)])
theorem accRY{t t':STab}{f tn sv:ByteArray}{sid:Int}{l au c:Bytes}{x:AV}{sl:List Sh}{v u:DVal}{ts:List DVal}(h:Spec Tryz.prog ⟨38,4,[tI,aS bBOB,.c (aK K2),.p 1 0,aI 21,apC f tn sid sv l.length (.o 3 au.length)],[eB 2 l,eB 3 au],[eT 0 t,eC 1 []],.t [x,.c [aS bBOB,aS bANN,aI sid,.o 4 16],aI 0],[eT 0 t',eC 1 sl,eB 4 c]⟩):Spec Tryz.prog ⟨38,10,[tI,aS bBOB,.c (aK K2),.p 1 0,aI 21,apC f tn sid sv l.length (.o 3 au.length)],[eRg 4 [cDV v 5 6,.o 7 ts.length,cDV u 8 9,.o 2 l.length,.o 3 au.length] [.d v,.l ts,.d u,.b l,.b au]],[eT 0 t,eC 1 []],.t [x.ren (upN 4 6),.c [aS bBOB,aS bANN,aI sid,.o 10 16],aI 0],[eT 0 t',eC 1 sl,eB 10 c]⟩:=by
 have h1:=(Spec.up h 6).vwG 4 [cDV v 5 6,.o 7 ts.length,cDV u 8 9,.o 2 l.length,.o 3 au.length] [.d v,.l ts,.d u,.b l,.b au] 3 2 l [eB 3 au] (by intro x hx;simp only [List.mem_cons,List.not_mem_nil,or_false] at hx ⊢;rcases hx with rfl|rfl <;> simp) rfl rfl rfl
 have h2:=h1.vwG 4 [cDV v 5 6,.o 7 ts.length,cDV u 8 9,.o 2 l.length,.o 3 au.length] [.d v,.l ts,.d u,.b l,.b au] 4 3 au [eRg 4 [cDV v 5 6,.o 7 ts.length,cDV u 8 9,.o 2 l.length,.o 3 au.length] [.d v,.l ts,.d u,.b l,.b au]] (by intro x hx;simp only [List.mem_cons,List.not_mem_nil,or_false] at hx ⊢;rcases hx with rfl|rfl <;> simp) rfl rfl rfl
 exact ro_same h2 (by intro x hx;simp only [List.mem_cons,List.not_mem_nil,or_false] at hx ⊢;rcases hx with rfl|rfl <;> simp)
theorem readQ0:Spec Tryz.prog ⟨44,1,[.o 0 58],[eB 0 LQ],[],.t [.i 102 (.c [aS bANN,aS bBOB,aI 9,aS bBOB,.o 1 16,.o 2 16]),aI 0],
   [eRg 3 [cDV (v17 0 [] tsQ) 4 5,.o 6 0,cDV (valD (.ticket bBOB (mkB 98 8))) 7 8,.o 1 16,.o 2 16] [.d (v17 0 [] tsQ),.l [],.d (valD (.ticket bBOB (mkB 98 8))),.b (mkB 98 8),.b (mkB 98 10)]]⟩:=
 read17_s (L:=LQ) (n:=0) (b:=[]) (ts:=tsQ) (u:=valD (.ticket bBOB (mkB 98 8))) (T1:=(tsQ.drop 1,false)) (T2:=(tsQ.drop 2,false)) (T3:=(tsQ.drop 3,false)) (T4:=(tsQ.drop 4,false)) (T5:=([],false)) (s:=bBOB) (l:=mkB 98 8) RdQ_is (by kernel_rfl) (by kernel_rfl) (by kernel_rfl) (by kernel_rfl) (by kernel_rfl) (by kernel_rfl) (smC (by kernel_rfl)) (smC (by kernel_rfl)) (by kernel_rfl) (smC (by kernel_rfl)) (by kernel_rfl)
theorem ht_0(O:Op18 Kk ka kb K1 K2 K3 t b1 c1 e1 bx)(B:Bg18 ka K1 K3 K4 t t1 9 20 bx b)(g:HtG at_ 58 k i):HtS at_ 0 false:=by
 have A1:=ac18 O B (wn:=21) (by decide) (by decide)
 obtain ⟨d,p0⟩:=pack_stamp (t:=20) (q:=0+1+1+1) (by decide) (by decide)
 have k1:=accRY (v:=v17 0 [] tsQ) (u:=valD (.ticket bBOB (mkB 98 8))) (ts:=[]) (accOk_s (sl:=[]) (nb:=10) A1 (by decide) (by simp) (by decide) (by simp) (by rw [B.T.boxes,List.length_append,O.n9];rfl) p0)
 have r:=readQ0
 have e:LQ.set i (gb LQ i ^^^ 0)=LQ:=(set_turn (by rw [LQ_len];exact g.hi)).2 rfl
 rw [← e] at r
 exact s1 (pQ O B g 0 480++[cA 11001 r [],cA 15014 k1 [(4,818)]])
end
end
section
open Go.RowKit Go.QT
section
variable{Kk ka kb K1 K2 K3 K4:Fin 16->UInt8}{t t1:STab}{at_:Int}{y:UInt8}{k i:Nat}{bx:List SSealed}{b b1 c1 e1:Bytes}
/-- It was accepted. -/
structure HtA(K2 K3 K4:Fin 16->UInt8)(t1:STab)(bx:List SSealed)(b d:Bytes)(t':STab):Prop where
 a:Spec Tryz.prog ⟨38,4,[tI,aS bBOB,.c (aK K2),.p 1 0,aI 21,apC bANN bBOB 9 bBOB 16 (.o 3 16)],[eB 2 (mkB 98 8),eB 3 (mkB 98 10)],[eT 0 t1,eC 1 []],.t [.c ([aS bANN,aI 9]++aK K4),.c [aS bBOB,aS bANN,aI 9,.o 4 16],aI 0],[eT 0 t',eC 1 (keptF 21 []++[⟨bANN,20,0+1+1+1⟩]),eB 4 (mkB 98 11)]⟩
 T:TS t' 10 (bx++[⟨kl K3,11,b⟩]++[⟨kl K4,12,d⟩]) knS
 p:packB (.stamp 20 (0+1+1+1))=.inr d
theorem htA(O:Op18 Kk ka kb K1 K2 K3 t b1 c1 e1 bx)(B:Bg18 ka K1 K3 K4 t t1 9 20 bx b):∃ d t',HtA K2 K3 K4 t1 bx b d t':=by
 have A1:=ac18 O B (wn:=21) (by decide) (by decide)
 obtain ⟨d,p0⟩:=pack_stamp (t:=20) (q:=0+1+1+1) (by decide) (by decide)
 have k1:=accOk_s (sl:=[]) (nb:=10) A1 (by decide) (by simp) (by decide) (by simp) (by rw [B.T.boxes,List.length_append,O.n9];rfl) p0
 rw [mkB_len,mkB_len] at k1
 exact ⟨d,_,k1,(B.T.dig _).seal rfl (pack_le6 p0),p0⟩
/-- Up to what is read. -/
noncomputable abbrev pP {d:Bytes} {t':STab} (O:Op18 Kk ka kb K1 K2 K3 t b1 c1 e1 bx) (B:Bg18 ka K1 K3 K4 t t1 9 20 bx b) (A:HtA K2 K3 K4 t1 bx b d t') (g:HtG at_ 33 k i) (y:UInt8) (KN:Nat):List (Pl Tryz.prog):=
 [cA 1000 alive18_s [],cA 3000 O.a [],cA 4009 B.a [],cA 17014 A.a [],cA 18002 (wrAprO_s (f:=bBOB) (t:=bANN) (sid:=9) (b:=mkB 98 11) ⟨⟨right_bob,by decide⟩,⟨right_ann,by decide⟩,inN_is (by decide) (by decide)⟩ (by rw [mkB_len];decide) LP_len) [],
  fA 19001 g.ha,fA 19004 g.hr,ixO 20002 KN LP i (by rw [LP_len];exact g.hi),ldO 20003 KN LP i (by rw [LP_len];exact g.hi),fA 20005 (xorB (a:=gb LP i) (y:=y)),ixO 20006 KN LP i (by rw [LP_len];exact g.hi),stO 20007 KN LP i (gb LP i ^^^ y) (by rw [LP_len];exact g.hi)]
set_option maxRecDepth 100000
set_option maxHeartbeats 4000000
theorem hp_e{d:Bytes}{t':STab}(O:Op18 Kk ka kb K1 K2 K3 t b1 c1 e1 bx)(B:Bg18 ka K1 K3 K4 t t1 9 20 bx b)(A:HtA K2 K3 K4 t1 bx b d t')(g:HtG at_ 33 k i)(hy:y≠0){c:Nat}(hr:RdB (LP.set i (gb LP i ^^^ y))=.inl c)(hc:c≠0):HtS at_ y true:=by
 have r:=readE_s hr hc
 rw [List.length_set,LP_len] at r
 exact s1 (pP O B A g y 864++[cA 21001 r [],fA 24004 (yNe hy)])
theorem hp_n{d:Bytes}{t':STab}(O:Op18 Kk ka kb K1 K2 K3 t b1 c1 e1 bx)(B:Bg18 ka K1 K3 K4 t t1 9 20 bx b)(A:HtA K2 K3 K4 t1 bx b d t')(g:HtG at_ 33 k i)(hy:y≠0)(r:Spec Tryz.prog ⟨44,1,[.o 0 (LP.set i (gb LP i ^^^ y)).length],[eB 0 (LP.set i (gb LP i ^^^ y))],[],.t [.v .nilIface,aI 4],[]⟩):HtS at_ y true:=by
 rw [List.length_set,LP_len] at r
 exact s1 (pP O B A g y 864++[cA 21001 r [],fA 24004 (yNe hy)])
/-- What is read lies in a region, as the call asks for it. -/
theorem finR{s:STab}{args:List AV}{l:Bytes}{v:DVal}{ts:List DVal}{r:AV}(h:Spec Tryz.prog ⟨39,2,args,[eT 0 s,eB 1 l],[],r,[]⟩):Spec Tryz.prog ⟨39,6,args,[eRg 2 [cDV v 3 4,.o 5 ts.length,.o 1 l.length] [.d v,.l ts,.b l],eT 0 s],[],r.ren (upN 2 4),[]⟩:=
 (Spec.up h 4).vwG 2 [cDV v 3 4,.o 5 ts.length,.o 1 l.length] [.d v,.l ts,.b l] 2 1 l [eT 0 s] (by intro x hx;simp only [List.mem_cons,List.not_mem_nil,or_false] at hx ⊢;rcases hx with rfl|rfl <;> simp) rfl rfl rfl
theorem hp_x{d:Bytes}{t':STab}(O:Op18 Kk ka kb K1 K2 K3 t b1 c1 e1 bx)(B:Bg18 ka K1 K3 K4 t t1 9 20 bx b)(A:HtA K2 K3 K4 t1 bx b d t')(g:HtG at_ 33 k i)(hy:y≠0){n e:Nat}{B':Bytes}{ts:List DVal}{T1 T2 T3 T5:TkSt}
   (hr:RdB (LP.set i (gb LP i ^^^ y))=.inr (v18 n B' ts)) (h1:nameT (ts,false)=T1) (h2:nameT T1=T2) (h3:numT T2=T3) (h5:bytesT T3=T5) (sm0:Sm ts) (sm1:Sm T1.1) (hd:doneO T5=true) (he:e≠0)
   (ha:Spec Tryz.prog ⟨39,2,[.c (offC bBOB 9 K4 20 (0+1+1+1)),tI,aS bANN,.c [aS (nameO (ts,false)),aS (nameO T1),aI (numO T2),.o 1 (bytesO T3).length]],[eT 0 t',eB 1 (bytesO T3)],[],aI (e:Int),[]⟩):HtS at_ y true:=by
 have r:=read18_s hr h1 h2 h3 h5 sm0 sm1 hd
 rw [List.length_set,LP_len] at r
 generalize nameO (ts,false)=f at *
 generalize nameO T1=tn at *
 generalize numO T2=sid at *
 generalize bytesO T3=au at *
 exact s1 (pP O B A g y 864++[cA 21001 r [],cA 25007 (finR (v:=v18 n B' ts) (ts:=T5.1) ha) [(2,1202)],fA 25008 (show Value.bool ((e:Int) == 0)=.bool false by rw [beq_eq_false_iff_ne.2 (by omega)]),fA 25010 (yEq hy)])
theorem readP0:Spec Tryz.prog ⟨44,1,[.o 0 33],[eB 0 LP],[],.t [.i 115 (.c [aS bBOB,aS bANN,aI 9,.o 1 16]),aI 0],
   [eRg 3 [cDV (v18 0 [] tsP) 4 5,.o 6 0,.o 1 16] [.d (v18 0 [] tsP),.l [],.b (mkB 98 11)]]⟩:=
 read18_s (L:=LP) (n:=0) (b:=[]) (ts:=tsP) (T1:=(tsP.drop 1,false)) (T2:=(tsP.drop 2,false)) (T3:=(tsP.drop 3,false)) (T5:=([],false)) RdP_is (by kernel_rfl) (by kernel_rfl) (by kernel_rfl) (by kernel_rfl) (smC (by kernel_rfl)) (smC (by kernel_rfl)) (by kernel_rfl)
theorem hp_0{d:Bytes}{t':STab}(O:Op18 Kk ka kb K1 K2 K3 t b1 c1 e1 bx)(B:Bg18 ka K1 K3 K4 t t1 9 20 bx b)(A:HtA K2 K3 K4 t1 bx b d t')(g:HtG at_ 33 k i):HtS at_ 0 true:=by
 have hl2:(bx++[⟨kl K3,11,b⟩]:List SSealed).length=10:=by rw [List.length_append,O.n9];rfl
 have f:=finR (v:=v18 0 [] tsP) (ts:=[]) (finOk_s (K:=K4) (peer:=bBOB) (me:=bANN) (sid:=9) (A.T.room 9 (by decide) (by rw [List.length_append,hl2,List.length_singleton];decide)).ok (A.T.opn (i:=10) (gl hl2) A.p (by decide)))
 have r:=readP0
 have e:LP.set i (gb LP i ^^^ 0)=LP:=(set_turn (by rw [LP_len];exact g.hi)).2 rfl
 rw [← e] at r
 exact s1 (pP O B A g 0 864++[cA 21001 r [],cA 25007 f [(2,1202)]])
end
/-! ### For every input -/
theorem handTurns_f(at_:Int)(y:UInt8):HtS at_ y false:=by
 obtain ⟨Kk,ka,kb,K1,K2,K3,t,b1,c1,e1,bx,O⟩:=op18
 obtain ⟨K4,t1,b,B,hsk⟩:=bg18s O (sid:=9) (now:=20) (by decide) (by decide)
 obtain ⟨k,i,g⟩:=htG at_ 58 (by decide)
 by_cases hy:y=0
 · subst hy;exact ht_0 O B g
 have hL:i<LQ.length:=by rw [LQ_len];exact g.hi
 have hne:LQ.set i (gb LQ i ^^^ y)≠LQ:=fun h=>hy ((set_turn hL).1 h)
 cases hr:RdB (LQ.set i (gb LQ i ^^^ y)) with
 | inl c=>exact ht_e O B g hy hr (RdB_er hr)
 | inr v =>
   rcases turnQ hr with hm|⟨hk,ht⟩
   · exact ht_n O B g hy (readNo_s hr hm)
   obtain ⟨kd,tg,n,B',ts⟩:=v
   obtain rfl:kd=2:=hk
   obtain rfl:tg=17:=ht
   obtain ⟨hw,h4⟩:=RdB_is hr
   have hn:=RdB_neat hr
   have hwl:(wrV (.mk 2 17 n B' ts)).length<=4096:=by rw [hw];exact h4
   have sm0:Sm ts:=hn.sm hwl
   have hsl:=hn.smL hwl
   obtain ⟨T1,h1⟩:∃ T,nameT (ts,false)=T:=⟨_,rfl⟩
   obtain ⟨T2,h2⟩:∃ T,nameT T1=T:=⟨_,rfl⟩
   obtain ⟨T3,h3⟩:∃ T,numT T2=T:=⟨_,rfl⟩
   obtain ⟨u,hu⟩:∃ u,ptV 1 T3.1=u:=⟨_,rfl⟩
   obtain ⟨T4,h5⟩:∃ T,ptT 1 T3=T:=⟨_,rfl⟩
   obtain ⟨T5,h6⟩:∃ T,bytesT T4=T:=⟨_,rfl⟩
   have sub1:∀ x ∈ T1.1,x ∈ ts:=fun x hx=>by rw [← h1] at hx;exact nx_sub hx
   have sub2:∀ x ∈ T2.1,x ∈ ts:=fun x hx=>by rw [← h2] at hx;exact sub1 x (nx_sub hx)
   have sub3:∀ x ∈ T3.1,x ∈ ts:=fun x hx=>by rw [← h3] at hx;exact sub2 x (nx_sub hx)
   have sm1:Sm T1.1:=fun x hx=>sm0 x (sub1 x hx)
   have hsm:Sm u.l:=by
     rcases ptV_mem (k:=1) (l:=T3.1) with e|e
     · rw [← hu,e];intro x hx;cases hx
     rw [hu] at e
     obtain ⟨a1,a2⟩:=hsl u (sub3 u e)
     exact a1.sm a2
   cases ho:ofF u with
   | none=>exact ht_n O B g hy (readT_s hr h1 h2 h3 hu h5 h6 sm0 sm1 ho hsm)
   | some th =>
     obtain ⟨s,l,rfl⟩:=isTk_pt (l:=T3.1) (by rw [hu];exact ho)
     cases hd:doneO T5 with
     | false=>exact ht_n O B g hy (readD_s hr h1 h2 h3 hu h5 h6 sm0 sm1 ho hsm hd)
     | true =>
       obtain ⟨hq,hs⟩:=wr_apq (n:=n) (b:=B') h1 h2 h3 hu h5 h6 ho hd
       obtain ⟨e,t',he,ha⟩:=ht_acc O B hsk (f:=nameO (ts,false)) (tn:=nameO T1) (sv:=s) (sid:=numO T2) (l:=l) (au:=bytesO T4) hs (fun ⟨q1,q2,q3,q4,q5,q6⟩=>hne (by rw [← hw,hq,q1,q2,q3,q4,q5,q6]))
       exact ht_x O B g hy hr h1 h2 h3 hu h5 h6 sm0 sm1 ho hsm hd he ha
theorem handTurns_t(at_:Int)(y:UInt8):HtS at_ y true:=by
 obtain ⟨Kk,ka,kb,K1,K2,K3,t,b1,c1,e1,bx,O⟩:=op18
 obtain ⟨K4,t1,b,B,hsk⟩:=bg18s O (sid:=9) (now:=20) (by decide) (by decide)
 obtain ⟨k,i,g⟩:=htG at_ 33 (by decide)
 obtain ⟨d,t',A⟩:=htA O B
 by_cases hy:y=0
 · subst hy;exact hp_0 O B A g
 have hL:i<LP.length:=by rw [LP_len];exact g.hi
 have hne:LP.set i (gb LP i ^^^ y)≠LP:=fun h=>hy ((set_turn hL).1 h)
 cases hr:RdB (LP.set i (gb LP i ^^^ y)) with
 | inl c=>exact hp_e O B A g hy hr (RdB_er hr)
 | inr v =>
   rcases turnP hr with hm|⟨hk,ht⟩
   · exact hp_n O B A g hy (readNo_s hr hm)
   obtain ⟨kd,tg,n,B',ts⟩:=v
   obtain rfl:kd=2:=hk
   obtain rfl:tg=18:=ht
   obtain ⟨hw,h4⟩:=RdB_is hr
   have hn:=RdB_neat hr
   have hwl:(wrV (.mk 2 18 n B' ts)).length<=4096:=by rw [hw];exact h4
   have sm0:Sm ts:=hn.sm hwl
   obtain ⟨T1,h1⟩:∃ T,nameT (ts,false)=T:=⟨_,rfl⟩
   obtain ⟨T2,h2⟩:∃ T,nameT T1=T:=⟨_,rfl⟩
   obtain ⟨T3,h3⟩:∃ T,numT T2=T:=⟨_,rfl⟩
   obtain ⟨T5,h6⟩:∃ T,bytesT T3=T:=⟨_,rfl⟩
   have sub1:∀ x ∈ T1.1,x ∈ ts:=fun x hx=>by rw [← h1] at hx;exact nx_sub hx
   have sm1:Sm T1.1:=fun x hx=>sm0 x (sub1 x hx)
   cases hd:doneO T5 with
   | false=>exact hp_n O B A g hy (read18D_s hr h1 h2 h3 h6 sm0 sm1 hd)
   | true =>
     obtain ⟨hq,hs⟩:=wr_apr (n:=n) (b:=B') h1 h2 h3 h6 hd
     obtain ⟨e,he,ha⟩:=ht_fin O A.T (by decide) (fr:=nameO (ts,false)) (tn:=nameO T1) (sid:=numO T2) (l:=bytesO T3) (fun ⟨q1,q2,q3,q4⟩=>hne (by rw [← hw,hq,q1,q2,q3,q4]))
     exact hp_x O B A g hy hr h1 h2 h3 h6 sm0 sm1 hd he ha
theorem handTurns_all(at_:Int)(y:UInt8)(an:Bool)(W:World):Calls Tryz.prog 9 #[.int .i64 at_,.int .u8 (ub y),.bool an] W (DPost W (.bool true)):=by
 suffices h:HtS at_ y an from law_s h W fun _=>rfl
 cases an
 · exact handTurns_f at_ y
 exact handTurns_t at_ y
end
section
open Go.ChangeShapes Go.WideShapes Go.ChangeAt Go.RowKit
theorem u8_of{n:Int}(h:(Lit.int .u8 n).wf=true):∃ a:UInt8,n=ub a:=by
 have:=bounds_u8 h
 exact ⟨toB n,by rw [ub_u8 (by omega) (by omega)]⟩
theorem handTurns_lifted(os:Os)(started:os.Started)(H:Type)(enc:TypeId × Value->H) :
   ReturnsInHanded {} Tryz.checked os 9 .any (Rows.handTurnsSpec.pre6 enc Tryz.prog Tryz.f9 Rows.handTurnsRow.domain false) (Rows.handTurnsSpec.post enc Tryz.prog Tryz.f9 false true false false):=by
 refine returnsInHanded_of_change (C:=Tryz.checked) Tryz.own started (by kernel_rfl) Tryz.func9
   (ChangeSpec.witness6 (enc:=enc) (C:=Tryz.checked) false ⟨#[],#[.int .i64 0,.int .u8 0,.bool false],[]⟩ 8 (by kernel_rfl) (by kernel_rfl) (by kernel_rfl) (by kernel_rfl)) ?_
 intro W base args ds gs before hval0 hW hcnd _
 have hval:∀ (j:Nat) t v,Tryz.f9.params[j]?=some t->args[j]?=some v->Value.okWide Tryz.prog W .any base t v:=hval0
 have hpost:∀ W',Below W.heap.size W W'->Rows.handTurnsSpec.post enc Tryz.prog Tryz.f9 false true false false W args (.bool true) W':=fun W' hb =>
   law_post Tryz.laidOut (by kernel_rfl) Tryz.underlying4 rfl rfl (fun ds hds=>by
     have hn:ds.length=3:=hds
     match ds,hn with
     | [_,_,_],_=>rfl) hW hb
 obtain ⟨p,q,hA0,hV,rfl,hfz,hnd⟩:=hW
 have hA:DataW.TrodAll enc Tryz.prog W 0 (fun _=>true) true Tryz.f9.params.toList args.toList ds p:=hA0
 rw [Tryz.params9] at hA hval
 clear hA0 hval0
 obtain ⟨v0,v1,v2,d0,d1,d2,p0,p1,p2,rfl,rfl,rfl,h0,h1,h2⟩:=trodAll_three hA
 obtain ⟨n0,rfl,rfl,rfl,hn0⟩:=open_int (t:=3) (k:=.i64) (by kernel_rfl) (hval 0 3 v0 rfl rfl) h0
 obtain ⟨n1,rfl,rfl,rfl,hn1⟩:=open_int (t:=5) (k:=.u8) (by kernel_rfl) (hval 1 5 v1 rfl rfl) h1
 obtain ⟨a1,rfl⟩:=u8_of hn1
 obtain ⟨m2,rfl,rfl,rfl⟩:=open_bool (t:=4) (by kernel_rfl) (hval 2 4 v2 rfl rfl) h2
 refine (handTurns_all n0 a1 m2 W).mono fun e W' ⟨he,hw⟩=>?_
 subst he
 exact ⟨_,rfl,hpost W' hw⟩
theorem handTurns_holds:Rows.HandTurnsSaid:=
 OpenClaim.holds_of_wide 9 Tryz.f9 rfl rfl rfl rfl rfl rfl rfl ⟨rfl,rfl,rfl,rfl,rfl⟩ rfl rfl rfl rfl rfl (by kernel_rfl) Tryz.func9 (by kernel_rfl)
   (of_decide_eq_true (by kernel_rfl)) (by unfold Func.isWrapper;first|(rw [if_pos (by decide +kernel)];kernel_rfl)|(rw [if_neg (by decide +kernel)];exact ⟨rfl,rfl⟩))
   (fun os started H enc _=>handTurns_lifted os started H enc)
end
end Go.Proofs.YtaoijkhndakppaaGreat
