/- Calls of name.in. -/
import Derived.Lib.OthersKept
import Derived.Test.YtaoijkhndakppaaGreatCA6
set_option maxRecDepth 100000
set_option maxHeartbeats 4000000
namespace Go.Proofs.YtaoijkhndakppaaGreat
section
open Go.RowKit Go.QT
/-! ### Slots -/
noncomputable def lookA (x:Nat->Value) (l:List (Nat × AV)) (i:Nat):AV:=
 List.rec (.v (x i)) (fun p _ ih=>bif Nat.beq p.1 i then p.2 else ih) l
def denE(κ:Kp)(l:List (Nat × AV)):List (Nat × Value):=l.map fun p=>(p.1,p.2.den κ)
theorem look_den(κ:Kp)(x:Nat->Value)(l:List (Nat × AV))(i:Nat):look x (denE κ l) i=(lookA x l i).den κ:=by
 induction l with
 | nil=>rfl
 | cons p l ih =>
   show (bif Nat.beq p.1 i then p.2.den κ else look x (denE κ l) i)=(bif Nat.beq p.1 i then p.2 else lookA x l i:AV).den κ
   cases Nat.beq p.1 i with
   | true=>rfl
   | false=>exact ih
theorem lookA_ok{A:Nat->Prop}(x:Nat->Value)(l:List (Nat × AV))(h:∀ p ∈ l,p.2.ok A)(i:Nat):(lookA x l i).ok A:=by
 induction l with
 | nil=>trivial
 | cons p l ih =>
   show (bif Nat.beq p.1 i then p.2 else lookA x l i:AV).ok A
   cases Nat.beq p.1 i with
   | true=>exact h p (List.mem_cons_self ..)
   | false=>exact ih fun q hq=>h q (List.mem_cons_of_mem _ hq)
noncomputable def evA (x:Nat->Value) (n:Nat) (e:List (Nat × AV)):Operand->AV
 | .tmp i=>bif Nat.blt i n then lookA x e i else .v undef
 | y=>.v ((patch x 0 []).eval y)
theorem evA_den(κ:Kp)(x:Nat->Value)(n:Nat)(e:List (Nat × AV)):(patch x n (denE κ e)).eval=fun y=>(evA x n e y).den κ:=by
 rw [eval_patch]
 funext y
 cases y with
 | tmp i =>
   show (bif Nat.blt i n then look x (denE κ e) i else undef)=(bif Nat.blt i n then lookA x e i else .v undef:AV).den κ
   cases Nat.blt i n with
   | true=>exact look_den κ x e i
   | false=>rfl
 | _=>rfl
theorem evA_ok{A:Nat->Prop}(x:Nat->Value)(n:Nat)(e:List (Nat × AV))(h:∀ p ∈ e,p.2.ok A)(y:Operand):(evA x n e y).ok A:=by
 cases y with
 | tmp i =>
   show (bif Nat.blt i n then lookA x e i else .v undef:AV).ok A
   cases Nat.blt i n with
   | true=>exact lookA_ok x e h i
   | false=>trivial
 | _=>trivial
noncomputable def yieldA (ops:Array Oper) (x:Nat->Value) (n:Nat) (e:List (Nat × AV)) (j:Nat):Option Bool:=
 match (ops[j]?).bind (·.dst) with
 | some d=>if Nat.blt d n then (match lookA x e d with | .v (.bool b)=>some b|_=>none) else none
 | none=>none
theorem yieldA_den(κ:Kp)(ops:Array Oper)(x:Nat->Value)(n:Nat)(e:List (Nat × AV)):yieldP ops x n (denE κ e)=yieldA ops x n e:=by
 funext j
 unfold yieldP yieldA
 cases (ops[j]?).bind (·.dst) with
 | none=>rfl
 | some d =>
   simp only
   rw [look_den]
   cases lookA x e d with
   | v y=>cases y <;> rfl
   | _=>rfl
theorem denE_agr{A:Nat->Prop}{κ κ':Kp}(h:Agr A κ κ')(l:List (Nat × AV))(hl:∀ p ∈ l,p.2.ok A):denE κ' l=denE κ l:=
 List.map_congr_left fun p hp=>by rw [den_agr h p.2 (hl p hp)]
def findPl{P:Program}(k:Nat):List (Pl P)->Option (Pl P)
 | []=>none
 | p::r=>bif Nat.beq p.key k then some p else findPl k r
noncomputable def stepO {P:Program} (pls:List (Pl P)) (key:Nat) (o:Oper) (ev:Operand->AV) (ro H:List Ent) (b:Nat):Option Out:=
 match findPl key pls with
 | some p=>p.f o ev ro H b
 | none=>opA P o ev ro H b
theorem stepO_tr{P:Program}{pls:List (Pl P)}{key:Nat}{o:Oper}{ev:Operand->AV}{ro H:List Ent}{b:Nat}{u:Out}(h:stepO pls key o ev ro H b=some u)(hob:obOk u.ob):Tr P o ev ro H b u:=by
 unfold stepO at h
 split at h
 · rename_i p _;exact p.ok h hob
 exact opA_tr h hob
/-! ### A region -/
structure RS where
 le:List (Nat × Nat × AV)
 H:List Ent
structure RG(P:Program) where
 pls:List (Pl P)
 x:Nat->Value
 n:Nat
 id:Nat
 ops:Array Oper
 sm:List (Nat × List Nat × Nat)
 e0:List (Nat × AV)
 ro:List Ent
 b:Nat
 p:Nat
 L0:List Ent
def eOf(e0:List (Nat × AV))(le:List (Nat × Nat × AV)):List (Nat × AV):=le.map (·.2)++e0
/-- By falling numbers of the operations. -/
def insD(i d:Nat)(v:AV):List (Nat × Nat × AV)->Option (List (Nat × Nat × AV))
 | []=>some [(i,d,v)]
 | y::r=>bif Nat.blt i y.1 then (bif Nat.beq y.2.1 d then none else match insD i d v r with|some q=>some (y::q)|none=>none) else some ((i,d,v)::y::r)
def insO(i:Nat)(d:Option Nat)(v:AV)(le:List (Nat × Nat × AV)):Option (List (Nat × Nat × AV)):=match d with|some d=>insD i d v le|none=>some le
theorem insD_look{i d:Nat}{v:AV}{x:Nat->Value}{e0:List (Nat × AV)}:∀ {le q:List (Nat × Nat × AV)},insD i d v le=some q->∀ k,lookA x (eOf e0 q) k=lookA x ((d,v)::eOf e0 le) k
 | [],q,h,k=>by injection h with h;subst h;rfl
 | y::r,q,h,k=>by
   unfold insD at h
   cases h1:Nat.blt i y.1 with
   | false=>rw [h1] at h;injection h with h;subst h;rfl
   | true =>
     rw [h1] at h
     simp only [cond_true] at h
     cases h2:Nat.beq y.2.1 d with
     | true=>rw [h2] at h;cases h
     | false =>
       rw [h2] at h
       simp only [cond_false] at h
       cases h3:insD i d v r with
       | none=>rw [h3] at h;cases h
       | some q' =>
         rw [h3] at h
         injection h with h;subst h
         have ih:=insD_look (x:=x) (e0:=e0) h3 k
         show (bif Nat.beq y.2.1 k then y.2.2 else lookA x (eOf e0 q') k)=(bif Nat.beq d k then v else (bif Nat.beq y.2.1 k then y.2.2 else lookA x (eOf e0 r) k))
         rw [ih]
         show (bif Nat.beq y.2.1 k then y.2.2 else (bif Nat.beq d k then v else lookA x (eOf e0 r) k))=_
         cases h4:Nat.beq y.2.1 k with
         | false=>rfl
         | true =>
           cases h5:Nat.beq d k with
           | false=>rfl
           | true =>
             have e1:=Nat.eq_of_beq_eq_true h4
             have e2:=Nat.eq_of_beq_eq_true h5
             rw [e1,e2,Nat.beq_refl] at h2;cases h2
theorem insD_mem{i d:Nat}{v:AV}:∀ {le q:List (Nat × Nat × AV)},insD i d v le=some q->∀ y ∈ q,y=(i,d,v)∨y ∈ le
 | [],q,h,y,hy=>by injection h with h;subst h;exact .inl (List.mem_singleton.1 hy)
 | z::r,q,h,y,hy=>by
   unfold insD at h
   cases h1:Nat.blt i z.1 with
   | false=>rw [h1] at h;injection h with h;subst h;exact List.mem_cons.1 hy
   | true =>
     rw [h1] at h
     simp only [cond_true] at h
     cases h2:Nat.beq z.2.1 d with
     | true=>rw [h2] at h;cases h
     | false =>
       rw [h2] at h
       simp only [cond_false] at h
       cases h3:insD i d v r with
       | none=>rw [h3] at h;cases h
       | some q' =>
         rw [h3] at h
         injection h with h;subst h
         rcases List.mem_cons.1 hy with rfl|hy
         · exact .inr (List.mem_cons_self ..)
         exact (insD_mem h3 y hy).imp id (List.mem_cons_of_mem _)
theorem patch_look{x:Nat->Value}{n:Nat}{l m:List (Nat × Value)}(h:∀ k,look x l k=look x m k):patch x n l=patch x n m:=by
 unfold patch
 rw [show look x l=look x m from funext h]
theorem insO_put{i:Nat}{d:Option Nat}{v:AV}{x:Nat->Value}{n:Nat}{e0:List (Nat × AV)}{le q:List (Nat × Nat × AV)}(h:insO i d v le=some q)(hd:okD n d=true)(κ:Kp):(patch x n (denE κ (eOf e0 le))).put d (v.den κ)=patch x n (denE κ (eOf e0 q)):=by
 rw [put_patch _ _ _ _ _ hd]
 cases d with
 | none=>injection h with h;subst h;rfl
 | some d =>
   refine patch_look fun k=>?_
   have:=insD_look (x:=x) (e0:=e0) h k
   rw [look_den,this]
   exact look_den κ x ((d,v)::eOf e0 le) k
theorem insO_ok{A:Nat->Prop}{i:Nat}{d:Option Nat}{v:AV}{le q:List (Nat × Nat × AV)}(h:insO i d v le=some q)(hv:v.ok A)(hl:∀ y ∈ le,y.2.2.ok A):∀ y ∈ q,y.2.2.ok A:=by
 cases d with
 | none=>injection h with h;subst h;exact hl
 | some d =>
   intro y hy
   rcases insD_mem h y hy with rfl|hy
   · exact hv
   exact hl y hy
section
variable{P:Program}
noncomputable def RG.ev (G:RG P) (rs:RS):Operand->AV:=evA G.x G.n (eOf G.e0 rs.le)
noncomputable def RG.wa (G:RG P) (o:Oper) (rs:RS):Bool:=Region.wanted o (yieldA G.ops G.x G.n (eOf G.e0 rs.le))
noncomputable def stepR (G:RG P) (i:Nat) (rs:RS):Option (RS × List Nat × List Ob):=
 match G.ops[i]? with
 | none=>none
 | some o=>bif okD G.n o.dst then
     (bif G.wa o rs then match stepO G.pls (G.id*1000+i) o (G.ev rs) G.ro rs.H (G.b+16*i) with
       | some u=>match insO i o.dst u.v rs.le with|some le=>some (⟨le,u.H⟩,u.md,u.ob)|none=>none
       | none=>none
     else match insO i o.dst (.v undef) rs.le with|some le=>some (⟨le,rs.H⟩,[],[])|none=>none)
   else none
/-- One that may be taken first. -/
noncomputable def freeA (G:RG P) (m i:Nat) (rs:RS):Option (RS × List Ob):=
 bif Nat.blt i G.p && p1 G.p m && rdyS G.sm m i && freeS G.sm m i then
   match G.ops[i]?,findPl (G.id*1000+i) G.pls with
   | some o,none=>bif okD G.n o.dst then
       (bif G.wa o rs then match valA P o (G.ev rs) G.L0 with
         | some (v,ob)=>match insO i o.dst v rs.le with|some le=>some (⟨le,rs.H⟩,ob)|none=>none
         | none=>none
       else match insO i o.dst (.v undef) rs.le with|some le=>some (⟨le,rs.H⟩,[])|none=>none)
     else none
   | _,_=>none
 else none
noncomputable def firstA (G:RG P) (m:Nat) (rs:RS):Nat->Nat->Option (Nat × RS × List Ob)
 | 0,_=>none
 | f+1,i=>match freeA G m i rs with|some (r,ob)=>some (m ||| (1 <<< i),r,ob)|none=>firstA G m rs f (i+1)
noncomputable def allR (G:RG P) (m:Nat) (rs:RS):List Nat->Option (List (Nat × RS) × List Ob)
 | []=>some ([],[])
 | i::r=>match stepR G i rs,allR G m rs r with
   | some (rs',md,ob),some (l,obs)=>bif (bif Nat.blt i G.p then md.all (fun k=>!memB k (G.L0.map Ent.key)) else !(p1 G.p (m ||| (1 <<< i)))) then some ((m ||| (1 <<< i),rs')::l,ob++obs) else none
   | _,_=>none
noncomputable def nextA (G:RG P) (m:Nat) (rs:RS):Option (List (Nat × RS) × List Ob):=
 match firstA G m rs G.p 0 with
 | some (m',r,ob)=>some ([(m',r)],ob)
 | none=>match goR m G.sm 0 with | []=>none|i::r=>allR G m rs (i::r)
noncomputable def nextL (G:RG P):List (Nat × RS)->Option (List (Nat × RS) × List Ob)
 | []=>some ([],[])
 | q::r=>match nextA G q.1 q.2,nextL G r with
   | some (l,ob),some (l2,ob2)=>some (l++l2,ob++ob2)
   | _,_=>none
def addM(q:Nat × RS):List (Nat × RS)->List (Nat × RS) × List Ob
 | []=>([q],[])
 | y::r=>bif Nat.beq y.1 q.1 then (y::r,[⟨RS,y.2,q.2⟩]) else match addM q r with|(l,ob)=>(y::l,ob)
def addMs:List (Nat × RS)->List (Nat × RS)->List (Nat × RS) × List Ob
 | [],acc=>(acc,[])
 | q::r,acc=>match addM q acc with|(a,ob)=>match addMs r a with|(l,ob2)=>(l,ob++ob2)
noncomputable def levA (G:RG P):Nat->List (Nat × RS)->Option (RS × List Ob)
 | f,(m,rs)::tl=>match goR m G.sm 0 with
   | []=>(match tl with | []=>some (rs,[])|_=>none)
   | _=>match f with
     | 0=>none
     | f+1=>match nextL G ((m,rs)::tl) with
       | some (l,ob)=>match addMs l [] with
         | (l2,ob2)=>match levA G f l2 with|some (r,ob3)=>some (r,ob++(ob2++ob3))|none=>none
       | none=>none
 | _,[]=>none
/-! It is so. -/
theorem addM_mem{q:Nat × RS}:∀ {l l2:List (Nat × RS)} {ob:List Ob},addM q l=(l2,ob)->obOk ob->(q ∈ l2)/\(∀ y ∈ l,y ∈ l2)/\(∀ y ∈ l2,y=q∨y ∈ l)
 | [],l2,ob,h,_=>by
   injection h with h1 h2;subst h1
   exact ⟨List.mem_singleton.2 rfl,fun y hy=>absurd hy List.not_mem_nil,fun y hy=>.inl (List.mem_singleton.1 hy)⟩
 | y::r,l2,ob,h,ho=>by
   unfold addM at h
   cases hb:Nat.beq y.1 q.1 with
   | true =>
     rw [hb] at h
     injection h with h1 h2;subst h1;subst h2
     have e1:=Nat.eq_of_beq_eq_true hb
     have e2:y.2=q.2:=ho _ (List.mem_singleton.2 rfl)
     have e:q=y:=Prod.ext e1.symm e2.symm
     subst e
     exact ⟨List.mem_cons_self ..,fun _ h=>h,fun z hz=>.inr hz⟩
   | false =>
     rw [hb] at h
     simp only [cond_false] at h
     cases h2:addM q r with
     | mk l' ob' =>
       rw [h2] at h
       injection h with h3 h4;subst h3;subst h4
       obtain ⟨k1,k2,k3⟩:=addM_mem h2 ho
       refine ⟨List.mem_cons_of_mem _ k1,fun z hz=>?_,fun z hz=>?_⟩
       · rcases List.mem_cons.1 hz with rfl|hz
         · exact List.mem_cons_self ..
         exact List.mem_cons_of_mem _ (k2 z hz)
       rcases List.mem_cons.1 hz with rfl|hz
       · exact .inr (List.mem_cons_self ..)
       exact (k3 z hz).imp id (List.mem_cons_of_mem _)
theorem addMs_mem:∀ {l acc l2:List (Nat × RS)} {ob:List Ob},addMs l acc=(l2,ob)->obOk ob->(∀ y ∈ l,y ∈ l2)/\(∀ y ∈ acc,y ∈ l2)/\(∀ y ∈ l2,y ∈ l∨y ∈ acc)
 | [],acc,l2,ob,h,_=>by injection h with h1 h2;subst h1;exact ⟨fun y hy=>absurd hy List.not_mem_nil,fun _ h=>h,fun _ h=>.inr h⟩
 | q::r,acc,l2,ob,h,ho=>by
   unfold addMs at h
   cases h1:addM q acc with
   | mk a ob1 =>
     rw [h1] at h
     simp only at h
     cases h2:addMs r a with
     | mk l' ob2 =>
       rw [h2] at h
       injection h with h3 h4;subst h3;subst h4
       obtain ⟨ho1,ho2⟩:=ho.app
       obtain ⟨k1,k2,k3⟩:=addM_mem h1 ho1
       obtain ⟨j1,j2,j3⟩:=addMs_mem h2 ho2
       refine ⟨fun y hy=>?_,fun y hy=>j2 y (k2 y hy),fun y hy=>?_⟩
       · rcases List.mem_cons.1 hy with rfl|hy
         · exact j2 _ k1
         exact j1 y hy
       rcases j3 y hy with hy|hy
       · exact .inl (List.mem_cons_of_mem _ hy)
       rcases k3 y hy with rfl|hy
       · exact .inl (List.mem_cons_self ..)
       exact .inr hy
/-- Names that are there when the operations of m have run. -/
def Nm(b m k:Nat):Prop:=k<b∨∃ i,Nat.testBit m i=true/\In8 (b+16*i) k
theorem Nm.fresh{b m i:Nat}(h:Nat.testBit m i=false)(k:Nat)(hk:Nm b m k):¬ In8 (b+16*i) k:=by
 intro h8
 unfold In8 at h8
 rcases hk with hk|⟨j,hj,h9⟩
 · omega
 unfold In8 at h9
 have:j≠i:=fun e=>by rw [e,h] at hj;cases hj
 omega
theorem tb_or(m i j:Nat):Nat.testBit (m ||| (1 <<< i)) j=(Nat.testBit m j || decide (i=j)):=by rw [Nat.testBit_or,bit1]
theorem Nm.more{b m i k:Nat}(h:Nm b m k∨In8 (b+16*i) k):Nm b (m ||| (1 <<< i)) k:=by
 rcases h with (h|⟨j,hj,h8⟩)|h
 · exact .inl h
 · exact .inr ⟨j,by rw [tb_or,hj];rfl,h8⟩
 exact .inr ⟨i,by rw [tb_or];simp,h⟩
structure RSok(G:RG P)(m:Nat)(rs:RS):Prop where
 lt:m<2 ^ G.ops.size
 le:∀ y ∈ rs.le,y.2.2.ok (Nm G.b m)
 H:∀ e ∈ rs.H,e.ok (Nm G.b m)
structure RGok(G:RG P):Prop where
 sm:sumOf .any G.ops=G.sm
 e0:∀ p ∈ G.e0,p.2.ok (· < G.b)
 ro:∀ e ∈ G.ro,e.ok (· < G.b)
 L0:∀ e ∈ G.L0,e.ok (· < G.b)/\∃ k T cs,e=.blk k T cs
def RG.S(G:RG P)(κs:Kp)(W:World):Prop:=∀ e ∈ G.L0,(e.res κs).Φ W
structure RSd(G:RG P)(F0:Ft)(w0:World)(κs:Kp)(m:Nat)(rs:RS)(κ:Kp)(w:World):Prop where
 ag:Agr (· < G.b) κs κ
 he:HE F0 w0 w κ G.ro rs.H
 l0:p1 G.p m=true->∀ e ∈ G.L0,e ∈ rs.H∨e ∈ G.ro
variable{G:RG P}{F0:Ft}{w0 w:World}{κs κ:Kp}{m:Nat}{rs:RS}
theorem RGok.l0res(g:RGok G)(h:Agr (· < G.b) κs κ){e:Ent}(he:e ∈ G.L0):e.res κ=e.res κs:=by
 obtain ⟨h1,k,T,cs,rfl⟩:=g.L0 e he
 simp only [Ent.res]
 rw [(h k h1.1).1,denL_agr h cs h1.2]
theorem RSd.S(g:RGok G)(d:RSd G F0 w0 κs m rs κ w)(hp:p1 G.p m=true):G.S κs w:=fun e he=>by
 rw [← g.l0res d.ag he]
 rcases d.l0 hp e he with h|h
 · exact d.he.ha.own _ (List.mem_map.2 ⟨e,h,rfl⟩)
 exact d.he.ha.red _ (List.mem_map.2 ⟨e,h,rfl⟩)
theorem RSok.e(g:RGok G)(s:RSok G m rs):∀ p ∈ eOf G.e0 rs.le,p.2.ok (Nm G.b m):=fun p hp=>by
 rcases List.mem_append.1 hp with hp|hp
 · obtain ⟨y,hy,rfl⟩:=List.mem_map.1 hp
   exact s.le y hy
 exact ok_mono (fun _ h=>.inl h) _ (g.e0 p hp)
theorem or_lt{m i N:Nat}(hm:m<2 ^ N)(hi:i<N):m ||| (1 <<< i)<2 ^ N:=by
 refine Nat.or_lt_two_pow hm ?_
 rw [Nat.one_shiftLeft];exact Nat.pow_lt_pow_right (by omega) hi
theorem p1_mono{p m i:Nat}(h:p1 p (m ||| (1 <<< i))=true):p1 p m=true:=by
 unfold p1 at h ⊢
 simp only [Bool.not_eq_true'] at h ⊢
 cases hb:Nat.beq (m &&& (2 ^ p-1)) (2 ^ p-1) with
 | false=>rfl
 | true =>
   have e:=Nat.eq_of_beq_eq_true hb
   have:(m ||| (1 <<< i)) &&& (2 ^ p-1)=2 ^ p-1:=by
     apply Nat.eq_of_testBit_eq
     intro j
     have h2:=congrArg (fun z=>Nat.testBit z j) e
     simp only [Nat.testBit_and] at h2
     rw [Nat.testBit_and,tb_or]
     cases h3:Nat.testBit (2 ^ p-1) j with
     | false=>simp
     | true=>rw [h3] at h2;simp at h2;simp [h2]
   rw [this,Nat.beq_refl] at h;cases h
theorem wait_bit{i:Nat}(h:i ∈ goR m G.sm 0)(hs:sumOf .any G.ops=G.sm):Nat.testBit m i=false/\i<G.ops.size:=by
 rw [goR_filter] at h
 obtain ⟨h1,h2⟩:=List.mem_filter.1 h
 have hl:G.sm.length=G.ops.size:=by rw [← hs];simp [sumOf]
 have h3:=(List.mem_range'_1.1 h1).2
 refine ⟨?_,by omega⟩
 rw [Nat.sub_zero] at h2
 split at h2
 · rename_i y hy
   unfold rdyY at h2
   rw [Bool.and_eq_true,Bool.not_eq_true'] at h2
   exact h2.1
 cases h2
theorem rdy_bit{i:Nat}(h:rdyS G.sm m i=true)(hs:sumOf .any G.ops=G.sm):Nat.testBit m i=false/\i<G.ops.size:=by
 unfold rdyS at h
 split at h
 · cases h
 rename_i y hy
 unfold rdyY at h
 rw [Bool.and_eq_true,Bool.not_eq_true'] at h
 refine ⟨h.1,?_⟩
 have hl:G.sm.length=G.ops.size:=by rw [← hs];simp [sumOf]
 have:=(List.getElem?_eq_some_iff.1 hy).1
 omega
/-- One operation, in all worlds that are so. -/
theorem stepR_ok(g:RGok G)(s:RSok G m rs){i:Nat}(hlt:i<G.ops.size){rs':RS}{md:List Nat}{ob:List Ob}(h:stepR G i rs=some (rs',md,ob))(hob:obOk ob):RSok G (m ||| (1 <<< i)) rs':=by
 unfold stepR at h
 split at h
 · cases h
 rename_i o ho
 cases hd:okD G.n o.dst with
 | false=>rw [hd] at h;cases h
 | true =>
   rw [hd] at h
   simp only [cond_true] at h
   cases hw:G.wa o rs with
   | true =>
     rw [hw] at h
     simp only [cond_true] at h
     split at h
     · rename_i u hu
       split at h
       · rename_i le hle
         injection h with h;injection h with h1 h2;injection h2 with h2 h3;subst h1;subst h2;subst h3
         have tr:=stepO_tr hu hob
         obtain ⟨n1,n2⟩:=tr.names (A:=Nm G.b m) (evA_ok _ _ _ (s.e g)) (fun e he=>Ent.ok_mono (fun _ h=>.inl h) (g.ro e he)) s.H
         exact ⟨or_lt s.lt hlt,insO_ok hle (ok_mono (fun _ h=>Nm.more h) _ n1) fun y hy=>ok_mono (fun _ h=>Nm.more (.inl h)) _ (s.le y hy),fun e he=>Ent.ok_mono (fun _ h=>Nm.more h) (n2 e he)⟩
       cases h
     cases h
   | false =>
     rw [hw] at h
     simp only [cond_false] at h
     split at h
     · rename_i le hle
       injection h with h;injection h with h1 h2;injection h2 with h2 h3;subst h1
       exact ⟨or_lt s.lt hlt,insO_ok hle trivial fun y hy=>ok_mono (fun _ h=>Nm.more (.inl h)) _ (s.le y hy),fun e he=>Ent.ok_mono (fun _ h=>Nm.more (.inl h)) (s.H e he)⟩
     cases h
theorem stepR_wp{Q:Exit->Act->World->Prop}{f:Nat}(g:RGok G)(s:RSok G m rs){i:Nat}(hi:Nat.testBit m i=false){rs':RS}{md:List Nat}{ob:List Ob}(h:stepR G i rs=some (rs',md,ob))(hob:obOk ob)
   (hc:(bif Nat.blt i G.p then md.all (fun k=>!memB k (G.L0.map Ent.key)) else !(p1 G.p (m ||| (1 <<< i))))=true)
   (d:RSd G F0 w0 κs m rs κ w)
   (k:∀ κ' w',RSd G F0 w0 κs (m ||| (1 <<< i)) rs' κ' w'->wpAnyT P .any G.ops Q (G.S κs) G.p f (bl G.ops.size (m ||| (1 <<< i))) (patch G.x G.n (denE κ' (eOf G.e0 rs'.le))) w') :
   wpOp P G.ops Q i (fun a' w'=>(i<G.p->G.S κs w')/\wpAnyT P .any G.ops Q (G.S κs) G.p f ((bl G.ops.size m).setIfInBounds i true) a' w') (patch G.x G.n (denE κ (eOf G.e0 rs.le))) w:=by
 unfold stepR at h
 split at h
 · cases h
 rename_i o ho
 have p1f:¬ i<G.p->p1 G.p (m ||| (1 <<< i))=false:=fun hnp=>by
   have:Nat.blt i G.p=false:=by cases hb:Nat.blt i G.p with
     | false=>rfl
     | true=>rw [Nat.blt_eq] at hb;exact absurd hb hnp
   rw [this] at hc
   simpa using hc
 cases hd:okD G.n o.dst with
 | false=>rw [hd] at h;cases h
 | true =>
   rw [hd] at h
   simp only [cond_true] at h
   unfold wpOp
   simp only [ho]
   rw [yield_patch,yieldA_den]
   cases hw:G.wa o rs with
   | true =>
     rw [if_pos (show Region.wanted o (yieldA G.ops G.x G.n (eOf G.e0 rs.le))=true from hw)]
     rw [hw] at h
     simp only [cond_true] at h
     split at h
     · rename_i u hu
       split at h
       · rename_i le hle
         injection h with h;injection h with h1 h2;injection h2 with h2 h3;subst h1;subst h2;subst h3
         have tr:=stepO_tr hu hob
         refine .inl ((tr.goes (A:=Nm G.b m) (Nm.fresh hi) (evA_ok _ _ _ (s.e g)) (fun e he=>Ent.ok_mono (fun _ h=>.inl h) (g.ro e he)) s.H (evA_den κ _ _ _) d.he).goes _ _ fun v w' ⟨κ',k1,k2,k3⟩=>?_)
         have d':RSd G F0 w0 κs (m ||| (1 <<< i)) ⟨le,u.H⟩ κ' w':=by
           refine ⟨fun q hq=>?_,k3,fun hp e he=>?_⟩
           · have h1:=d.ag q hq
             have h2:=k1 q (.inl hq)
             exact ⟨h2.1.trans h1.1,h2.2.1.trans h1.2⟩
           have hip:i<G.p:=Classical.byContradiction fun hnp=>by rw [p1f hnp] at hp;cases hp
           have hb:Nat.blt i G.p=true:=by rw [Nat.blt_eq];exact hip
           rw [hb] at hc
           simp only [cond_true] at hc
           rcases d.l0 (p1_mono hp) e he with h1|h1
           · refine .inl (tr.keeps e h1 fun hm=>?_)
             have h2:=List.all_eq_true.1 hc _ hm
             have h3:=memB_not (by simpa using h2)
             exact h3 (List.mem_map.2 ⟨e,he,rfl⟩)
           exact .inr h1
         refine ⟨fun hip=>?_,?_⟩
         · have hb:Nat.blt i G.p=true:=by rw [Nat.blt_eq];exact hip
           rw [hb] at hc
           simp only [cond_true] at hc
           have hpm:p1 G.p m=true:=by
             unfold p1
             rw [Bool.not_eq_true']
             cases hbb:Nat.beq (m &&& (2 ^ G.p-1)) (2 ^ G.p-1) with
             | false=>rfl
             | true =>
               have e:=congrArg (fun z=>Nat.testBit z i) (Nat.eq_of_beq_eq_true hbb)
               simp only [Nat.testBit_and,hi,Bool.false_and,Nat.testBit_two_pow_sub_one] at e
               simp [hip] at e
           intro e he
           rw [← g.l0res d'.ag he]
           rcases d.l0 hpm e he with h1|h1
           · have h4:e ∈ u.H:=tr.keeps e h1 fun hm=>by
               have h2:=List.all_eq_true.1 hc _ hm
               exact memB_not (by simpa using h2) (List.mem_map.2 ⟨e,he,rfl⟩)
             exact k3.ha.own _ (List.mem_map.2 ⟨e,h4,rfl⟩)
           exact k3.ha.red _ (List.mem_map.2 ⟨e,h1,rfl⟩)
         rw [bl_set,k2,← denE_agr k1.agr _ (s.e g),insO_put hle hd κ']
         exact k κ' w' d'
       cases h
     cases h
   | false =>
     rw [if_neg (show ¬ Region.wanted o (yieldA G.ops G.x G.n (eOf G.e0 rs.le))=true from by rw [show Region.wanted o (yieldA G.ops G.x G.n (eOf G.e0 rs.le))=false from hw];simp)]
     rw [hw] at h
     simp only [cond_false] at h
     split at h
     · rename_i le hle
       injection h with h;injection h with h1 h2;injection h2 with h2 h3;subst h1;subst h2;subst h3
       have d':RSd G F0 w0 κs (m ||| (1 <<< i)) ⟨le,rs.H⟩ κ w:=⟨d.ag,d.he,fun hp=>d.l0 (p1_mono hp)⟩
       refine ⟨fun hip=>?_,?_⟩
       · refine d.S g ?_
         unfold p1
         rw [Bool.not_eq_true']
         cases hbb:Nat.beq (m &&& (2 ^ G.p-1)) (2 ^ G.p-1) with
         | false=>rfl
         | true =>
           have e:=congrArg (fun z=>Nat.testBit z i) (Nat.eq_of_beq_eq_true hbb)
           simp only [Nat.testBit_and,hi,Bool.false_and,Nat.testBit_two_pow_sub_one] at e
           simp [hip] at e
       rw [bl_set,show (undef:Value)=(AV.v undef).den κ from rfl,insO_put hle hd κ]
       exact k κ w d'
     cases h
theorem freeA_ok{Q:Exit->Act->World->Prop}{f:Nat}(g:RGok G)(s:RSok G m rs){i:Nat}{rs':RS}{ob:List Ob}(h:freeA G m i rs=some (rs',ob))(hob:obOk ob) :
   RSok G (m ||| (1 <<< i)) rs'/\∀ κ w,Rg .any G.ops Q G.p G.ops.size G.sm->RSd G F0 w0 κs m rs κ w ->
     RSd G F0 w0 κs (m ||| (1 <<< i)) rs' κ w/\(wpAnyT P .any G.ops Q (G.S κs) G.p f (bl G.ops.size (m ||| (1 <<< i))) (patch G.x G.n (denE κ (eOf G.e0 rs'.le))) w->wpAnyT P .any G.ops Q (G.S κs) G.p (f+1) (bl G.ops.size m) (patch G.x G.n (denE κ (eOf G.e0 rs.le))) w):=by
 unfold freeA at h
 cases hc:(Nat.blt i G.p && p1 G.p m && rdyS G.sm m i && freeS G.sm m i) with
 | false=>rw [hc] at h;cases h
 | true =>
   rw [hc] at h
   simp only [cond_true] at h
   simp only [Bool.and_eq_true,Nat.blt_eq] at hc
   obtain ⟨⟨⟨hip,hpm⟩,hrd⟩,hfr⟩:=hc
   obtain ⟨hbit,hlt⟩:=rdy_bit hrd g.sm
   have hM:Nat.blt m (2 ^ G.ops.size)=true:=by rw [Nat.blt_eq];exact s.lt
   split at h
   · rename_i o ho _
     cases hd:okD G.n o.dst with
     | false=>rw [hd] at h;cases h
     | true =>
       rw [hd] at h
       simp only [cond_true] at h
       cases hw:G.wa o rs with
       | true =>
         rw [hw] at h
         simp only [cond_true] at h
         split at h
         · rename_i v ob' hv
           split at h
           · rename_i le hle
             injection h with h;injection h with h1 h2;subst h1;subst h2
             have hvo:=valA_ok hv (A:=Nm G.b m) (evA_ok _ _ _ (s.e g)) (fun e he=>Ent.ok_mono (fun _ h=>.inl h) (g.L0 e he).1)
             refine ⟨⟨or_lt s.lt hlt,insO_ok hle (ok_mono (fun _ h=>Nm.more (.inl h)) _ hvo) fun y hy=>ok_mono (fun _ h=>Nm.more (.inl h)) _ (s.le y hy),fun e he=>Ent.ok_mono (fun _ h=>Nm.more (.inl h)) (s.H e he)⟩,fun κ w hs d=>⟨⟨d.ag,d.he,fun hp=>d.l0 (p1_mono hp)⟩,fun k=>?_⟩⟩
             refine pH_val o.dst (v.den κ) ho rfl hs.ns (free_of hs.sum hs.sz hfr) (rdy_mem hs.sum hs.sz hM hrd) hs.ph (decide_eq_true hip) hs.hQ ?_ (d.S g hpm) (fun W hW=>valA_run hv hob (evA_den κ _ _ _) fun e he=>by rw [g.l0res d.ag he];exact hW e he) ?_
             · rw [yield_patch,yieldA_den];exact hw
             rw [bl_set,insO_put hle hd κ];exact k
           cases h
         cases h
       | false =>
         rw [hw] at h
         simp only [cond_false] at h
         split at h
         · rename_i le hle
           injection h with h;injection h with h1 h2;subst h1;subst h2
           refine ⟨⟨or_lt s.lt hlt,insO_ok hle trivial fun y hy=>ok_mono (fun _ h=>Nm.more (.inl h)) _ (s.le y hy),fun e he=>Ent.ok_mono (fun _ h=>Nm.more (.inl h)) (s.H e he)⟩,fun κ w hs d=>⟨⟨d.ag,d.he,fun hp=>d.l0 (p1_mono hp)⟩,fun k=>?_⟩⟩
           refine pH_skip o.dst ho rfl hs.ns (free_of hs.sum hs.sz hfr) (rdy_mem hs.sum hs.sz hM hrd) hs.ph (decide_eq_true hip) hs.hQ ?_ (d.S g hpm) ?_
           · rw [yield_patch,yieldA_den];exact hw
           rw [bl_set,show (undef:Value)=(AV.v undef).den κ from rfl,insO_put hle hd κ];exact k
         cases h
   cases h
theorem firstA_some{m':Nat}{rs':RS}{ob:List Ob}:∀ {f i:Nat},firstA G m rs f i=some (m',rs',ob)->∃ j,m'=m ||| (1 <<< j)/\freeA G m j rs=some (rs',ob)
 | 0,_,h=>by cases h
 | f+1,i,h=>by
   unfold firstA at h
   split at h
   · rename_i r ob' hr
     injection h with h;injection h with h1 h2;injection h2 with h2 h3;subst h1;subst h2;subst h3
     exact ⟨i,rfl,hr⟩
   exact firstA_some h
theorem allR_mem:∀ {is:List Nat} {l:List (Nat × RS)} {ob:List Ob},allR G m rs is=some (l,ob)->∀ i ∈ is,∃ rs' md ob',stepR G i rs=some (rs',md,ob')/\(∀ o ∈ ob',o ∈ ob)/\(m ||| (1 <<< i),rs') ∈ l /\
   (bif Nat.blt i G.p then md.all (fun k=>!memB k (G.L0.map Ent.key)) else !(p1 G.p (m ||| (1 <<< i))))=true
 | [],_,_,_,i,hi=>absurd hi List.not_mem_nil
 | j::r,l,ob,h,i,hi=>by
   unfold allR at h
   split at h
   · rename_i rs' md ob1 l1 ob2 h1 h2
     rw [cond_some] at h
     obtain ⟨hc,h⟩:=h
     injection h with h3 h4;subst h3;subst h4
     rcases List.mem_cons.1 hi with rfl|hi
     · exact ⟨rs',md,ob1,h1,fun o ho=>List.mem_append_left _ ho,List.mem_cons_self ..,hc⟩
     obtain ⟨a,b,c,k1,k2,k3,k4⟩:=allR_mem h2 i hi
     exact ⟨a,b,c,k1,fun o ho=>List.mem_append_right _ (k2 o ho),List.mem_cons_of_mem _ k3,k4⟩
   cases h
theorem allR_only:∀ {is:List Nat} {l:List (Nat × RS)} {ob:List Ob},allR G m rs is=some (l,ob)->∀ q ∈ l,∃ i ∈ is,∃ md ob',stepR G i rs=some (q.2,md,ob')/\(∀ o ∈ ob',o ∈ ob)/\q.1=m ||| (1 <<< i)
 | [],l,ob,h,q,hq=>by injection h with h;injection h with h1 h2;subst h1;exact absurd hq List.not_mem_nil
 | j::r,l,ob,h,q,hq=>by
   unfold allR at h
   split at h
   · rename_i rs' md ob1 l1 ob2 h1 h2
     rw [cond_some] at h
     obtain ⟨hc,h⟩:=h
     injection h with h3 h4;subst h3;subst h4
     rcases List.mem_cons.1 hq with rfl|hq
     · exact ⟨j,List.mem_cons_self ..,md,ob1,h1,fun o ho=>List.mem_append_left _ ho,rfl⟩
     obtain ⟨i,hi,md',ob',k1,k2,k3⟩:=allR_only h2 q hq
     exact ⟨i,List.mem_cons_of_mem _ hi,md',ob',k1,fun o ho=>List.mem_append_right _ (k2 o ho),k3⟩
   cases h
theorem nextA_ok{Q:Exit->Act->World->Prop}{f:Nat}(g:RGok G)(s:RSok G m rs){l:List (Nat × RS)}{ob:List Ob}(h:nextA G m rs=some (l,ob))(hob:obOk ob) :
   (∀ q ∈ l,RSok G q.1 q.2)/\(Rg .any G.ops Q G.p G.ops.size G.sm->(∀ q ∈ l,∀ κ w,RSd G F0 w0 κs q.1 q.2 κ w->wpAnyT P .any G.ops Q (G.S κs) G.p f (bl G.ops.size q.1) (patch G.x G.n (denE κ (eOf G.e0 q.2.le))) w)->∀ κ w,RSd G F0 w0 κs m rs κ w->wpAnyT P .any G.ops Q (G.S κs) G.p (f+1) (bl G.ops.size m) (patch G.x G.n (denE κ (eOf G.e0 rs.le))) w):=by
 unfold nextA at h
 have hM:Nat.blt m (2 ^ G.ops.size)=true:=by rw [Nat.blt_eq];exact s.lt
 split at h
 · rename_i m' r ob' hf
   injection h with h;injection h with h1 h2;subst h1;subst h2
   obtain ⟨j,rfl,hj⟩:=firstA_some hf
   refine ⟨fun q hq=>?_,fun hs k κ w d=>?_⟩
   · rw [List.mem_singleton.1 hq];exact (freeA_ok (Q:=Q) (f:=f) (F0:=F0) (w0:=w0) (κs:=κs) g s hj hob).1
   obtain ⟨d',k'⟩:=(freeA_ok (Q:=Q) (f:=f) g s hj hob).2 κ w hs d
   exact k' (k _ (List.mem_singleton.2 rfl) κ w d')
 split at h
 · cases h
 rename_i i0 r0 hgo
 rw [← hgo] at h
 have hne:(goR m G.sm 0).isEmpty=false:=by rw [hgo];rfl
 refine ⟨fun q hq=>?_,fun hs k κ w d=>?_⟩
 · obtain ⟨i,hi,md,ob',h1,h2,h3⟩:=allR_only h q hq
   obtain ⟨_,b2⟩:=wait_bit hi g.sm
   rw [h3]
   exact stepR_ok g s b2 h1 fun o ho=>hob o (h2 o ho)
 refine pH_all (ready_of hs.sum hs.sz hM) hne fun i hi=>?_
 obtain ⟨rs',md,ob',h1,h2,h3,h4⟩:=allR_mem h i hi
 obtain ⟨b1,_⟩:=wait_bit hi g.sm
 exact stepR_wp g s b1 h1 (fun o ho=>hob o (h2 o ho)) h4 d fun κ' w' d'=>k _ h3 κ' w' d'
theorem nextL_ok{Q:Exit->Act->World->Prop}{f:Nat}(g:RGok G):∀ {L l:List (Nat × RS)} {ob:List Ob},(∀ q ∈ L,RSok G q.1 q.2)->nextL G L=some (l,ob)->obOk ob ->
   (∀ q ∈ l,RSok G q.1 q.2)/\(Rg .any G.ops Q G.p G.ops.size G.sm->(∀ q ∈ l,∀ κ w,RSd G F0 w0 κs q.1 q.2 κ w->wpAnyT P .any G.ops Q (G.S κs) G.p f (bl G.ops.size q.1) (patch G.x G.n (denE κ (eOf G.e0 q.2.le))) w)->∀ q ∈ L,∀ κ w,RSd G F0 w0 κs q.1 q.2 κ w->wpAnyT P .any G.ops Q (G.S κs) G.p (f+1) (bl G.ops.size q.1) (patch G.x G.n (denE κ (eOf G.e0 q.2.le))) w)
 | [],l,ob,_,h,_=>by injection h with h;injection h with h1 h2;subst h1;exact ⟨fun q hq=>absurd hq List.not_mem_nil,fun _ _ q hq=>absurd hq List.not_mem_nil⟩
 | y::r,l,ob,hs,h,hob=>by
   unfold nextL at h
   split at h
   · rename_i l1 ob1 l2 ob2 h1 h2
     injection h with h;injection h with h3 h4;subst h3;subst h4
     obtain ⟨o1,o2⟩:=hob.app
     obtain ⟨a1,a2⟩:=nextA_ok (Q:=Q) (f:=f) (F0:=F0) (w0:=w0) (κs:=κs) g (hs y (List.mem_cons_self ..)) h1 o1
     obtain ⟨b1,b2⟩:=nextL_ok (Q:=Q) (f:=f) g (fun q hq=>hs q (List.mem_cons_of_mem _ hq)) h2 o2
     refine ⟨fun q hq=>(List.mem_append.1 hq).elim (a1 q) (b1 q),fun hg k q hq κ w d=>?_⟩
     rcases List.mem_cons.1 hq with rfl|hq
     · exact a2 hg (fun q hq=>k q (List.mem_append_left _ hq)) κ w d
     exact b2 hg (fun q hq=>k q (List.mem_append_right _ hq)) q hq κ w d
   cases h
theorem levA_ok{Q:Exit->Act->World->Prop}(g:RGok G):∀ {f:Nat} {L:List (Nat × RS)} {r:RS} {ob:List Ob},(∀ q ∈ L,RSok G q.1 q.2)->levA G f L=some (r,ob)->obOk ob ->
   ∃ mF,RSok G mF r/\(Rg .any G.ops Q G.p G.ops.size G.sm->(∀ κ w,RSd G F0 w0 κs mF r κ w->Q .normal (patch G.x G.n (denE κ (eOf G.e0 r.le))) w)->∀ q ∈ L,∀ κ w,RSd G F0 w0 κs q.1 q.2 κ w->wpAnyT P .any G.ops Q (G.S κs) G.p f (bl G.ops.size q.1) (patch G.x G.n (denE κ (eOf G.e0 q.2.le))) w):=by
 intro f
 have fin:∀ {f:Nat} {m:Nat} {rs:RS},RSok G m rs->goR m G.sm 0=[]->∃ mF,RSok G mF rs/\(Rg .any G.ops Q G.p G.ops.size G.sm->(∀ κ w,RSd G F0 w0 κs mF rs κ w->Q .normal (patch G.x G.n (denE κ (eOf G.e0 rs.le))) w)->∀ q ∈ [(m,rs)],∀ κ w,RSd G F0 w0 κs q.1 q.2 κ w->wpAnyT P .any G.ops Q (G.S κs) G.p f (bl G.ops.size q.1) (patch G.x G.n (denE κ (eOf G.e0 q.2.le))) w):=by
   intro f m rs s hr
   refine ⟨m,s,fun hs k q hq κ w d=>?_⟩
   rw [List.mem_singleton.1 hq] at d ⊢
   exact pH_done (by rw [ready_of hs.sum hs.sz (by rw [Nat.blt_eq];exact s.lt),hr]) (k κ w d) f
 induction f with
 | zero =>
   intro L r ob hs h hob
   cases L with
   | nil=>cases h
   | cons q tl =>
     obtain ⟨m,rs⟩:=q
     unfold levA at h
     split at h
     · rename_i hr
       split at h
       · injection h with h;injection h with h1 h2;subst h1
         exact fin (hs _ (List.mem_cons_self ..)) hr
       cases h
     cases h
 | succ f ih =>
   intro L r ob hs h hob
   cases L with
   | nil=>cases h
   | cons q tl =>
     obtain ⟨m,rs⟩:=q
     unfold levA at h
     split at h
     · rename_i hr
       split at h
       · injection h with h;injection h with h1 h2;subst h1
         exact fin (hs _ (List.mem_cons_self ..)) hr
       cases h
     simp only at h
     split at h
     · rename_i l ob1 hn
       split at h
       · rename_i r' ob3 hl
         injection h with h;injection h with h1 h2;subst h1;subst h2
         obtain ⟨o1,o23⟩:=hob.app
         obtain ⟨o2,o3⟩:=o23.app
         obtain ⟨a1,a2⟩:=nextL_ok (Q:=Q) (f:=f) (F0:=F0) (w0:=w0) (κs:=κs) g hs hn o1
         obtain ⟨b1,_,b3⟩:=addMs_mem (l:=l) (acc:=[]) (l2:=(addMs l []).1) (ob:=(addMs l []).2) rfl o2
         obtain ⟨mF,c1,c2⟩:=ih (fun q hq=>(b3 q hq).elim (a1 q) (fun h=>absurd h List.not_mem_nil)) hl o3
         exact ⟨mF,c1,fun hg k=>a2 hg fun q hq=>c2 hg k q (b1 q hq)⟩
       cases h
     cases h
/-! ### Which blocks are not turned while loads may come first -/
noncomputable def dryA (G:RG P):Nat->Nat->RS->List Nat
 | 0,_,_=>[]
 | f+1,m,rs=>match firstA G m rs G.p 0 with
   | some (m',r,_)=>dryA G f m' r
   | none=>match goR m G.sm 0 with
     | []=>[]
     | i::_=>match stepR G i rs with|some (r,md,_)=>(bif Nat.blt i G.p then md else [])++dryA G f (m ||| (1 <<< i)) r|none=>[]
def blksOf(l:List Ent):List Ent:=l.filter fun e=>match e with | .blk ..=>true|_=>false
def phOk(p:Nat):List (Nat × List Nat × Nat)->Nat->Bool
 | [],_=>true
 | y::r,j=>(Nat.blt j p || Nat.beq (y.2.2 &&& (2 ^ p-1)) (2 ^ p-1)) && phOk p r (j+1)
def phA(sm:List (Nat × List Nat × Nat)):Nat->Nat->Nat
 | 0,p=>p
 | f+1,p=>bif phOk p sm 0 then p else phA sm f (p+1)
noncomputable def mkG (pls:List (Pl P)) (x:Nat->Value) (n id:Nat) (ops:Array Oper) (e0:List (Nat × AV)) (ro H:List Ent) (b p:Nat):RG P:=
 (fun L:List Ent=>(fun bad:List Nat=>(⟨pls,x,n,id,ops,sumOf .any ops,e0,ro,b,p,L.filter fun e=>!memB e.key bad⟩:RG P))
   (dryA ⟨pls,x,n,id,ops,sumOf .any ops,e0,ro,b,p,L⟩ ops.size 0 ⟨[],H⟩)) (blksOf (H++ro))
noncomputable def regA (pls:List (Pl P)) (x:Nat->Value) (n id:Nat) (ops:Array Oper) (e0:List (Nat × AV)) (ro H:List Ent) (b:Nat):Option (RS × List Ob):=
 (fun p=>bif Region.noSelect ops && phaseB .any ops p && P.follows .mixedOrders then levA (mkG pls x n id ops e0 ro H b p) ops.size [(0,⟨[],H⟩)] else none) (phA (sumOf .any ops) ops.size 1)
theorem regA_ok{Q:Exit->Act->World->Prop}{pls:List (Pl P)}{x:Nat->Value}{n id rid:Nat}{ops:Array Oper}{e0:List (Nat × AV)}{ro H:List Ent}{b:Nat}{r:RS}{ob:List Ob}(h:regA pls x n id ops e0 ro H b=some (r,ob))(hob:obOk ob)
   (he0:∀ p ∈ e0,p.2.ok (· < b)) (hro:∀ e ∈ ro,e.ok (· < b)) (hH:∀ e ∈ H,e.ok (· < b)) (hQ:∀ c d v a w,Q (.panic c) (Act.put a d v) w->Q (.panic c) a w) :
   (∀ p ∈ eOf e0 r.le,p.2.ok (· < b+16*ops.size))/\(∀ e ∈ r.H,e.ok (· < b+16*ops.size))/\∀ κ w,HE F0 w0 w κ ro H->(∀ κ' w',Agr (· < b) κ κ'->HE F0 w0 w' κ' ro r.H->Q .normal (patch x n (denE κ' (eOf e0 r.le))) w')->(Code.region rid ops true).wp P Q (patch x n (denE κ e0)) w:=by
 unfold regA at h
 simp only at h
 generalize phA (sumOf .any ops) ops.size 1=p at h
 cases hc:(Region.noSelect ops && phaseB .any ops p && P.follows .mixedOrders) with
 | false=>rw [hc] at h;cases h
 | true =>
   rw [hc] at h
   simp only [cond_true] at h
   simp only [Bool.and_eq_true] at hc
   obtain ⟨⟨hns,hph⟩,hm⟩:=hc
   have hG:∃ L0,(∀ e ∈ L0,e ∈ blksOf (H++ro))/\mkG pls x n id ops e0 ro H b p=⟨pls,x,n,id,ops,sumOf .any ops,e0,ro,b,p,L0⟩:=⟨_,fun e he=>(List.mem_filter.1 he).1,rfl⟩
   obtain ⟨L0,hL0,hG⟩:=hG
   rw [hG] at h
   have hmem:∀ e ∈ L0,(e ∈ H∨e ∈ ro)/\∃ k T cs,e=.blk k T cs:=by
     intro e he
     obtain ⟨h1,h2⟩:=List.mem_filter.1 (hL0 e he)
     refine ⟨List.mem_append.1 h1,?_⟩
     cases e with
     | blk k T cs=>exact ⟨k,T,cs,rfl⟩
     | _=>cases h2
   have g:RGok (⟨pls,x,n,id,ops,sumOf .any ops,e0,ro,b,p,L0⟩:RG P):=⟨rfl,he0,hro,fun e he=>⟨((hmem e he).1.elim (hH e) (hro e)),(hmem e he).2⟩⟩
   have s0:RSok (⟨pls,x,n,id,ops,sumOf .any ops,e0,ro,b,p,L0⟩:RG P) 0 ⟨[],H⟩:=⟨Nat.two_pow_pos _,fun y hy=>absurd hy List.not_mem_nil,fun e he=>Ent.ok_mono (fun _ h=>.inl h) (hH e he)⟩
   have key:=fun κs:Kp=>levA_ok (Q:=Q) (F0:=F0) (w0:=w0) (κs:=κs) g (L:=[(0,⟨[],H⟩)]) (fun q hq=>by rw [List.mem_singleton.1 hq];exact s0) h hob
   have hNm:∀ mF k,mF<2 ^ ops.size->Nm b mF k->k<b+16*ops.size:=by
     intro mF k hmF hk
     rcases hk with hk|⟨i,hi,h8⟩
     · omega
     have:i<ops.size:=Classical.byContradiction fun hn=>by
       have:=Nat.testBit_lt_two_pow (x:=mF) (i:=i) (Nat.lt_of_lt_of_le hmF (Nat.pow_le_pow_right (by omega) (by omega)))
       rw [this] at hi;cases hi
     unfold In8 at h8
     omega
   refine ⟨?_,?_,fun κ w he k=>?_⟩
   · obtain ⟨mF,c1,_⟩:=key fun _=>⟨0,none,Res.none_⟩
     exact fun q hq=>ok_mono (hNm mF · c1.lt) _ (c1.e g q hq)
   · obtain ⟨mF,c1,_⟩:=key fun _=>⟨0,none,Res.none_⟩
     exact fun e he=>Ent.ok_mono (hNm mF · c1.lt) (c1.H e he)
   obtain ⟨mF,c1,c2⟩:=key κ
   obtain ⟨l⟩:=ops
   have hsz:(⟨l⟩:Array Oper).size=l.length:=rfl
   refine pH_begin (n:=l.length) p (RG.S (⟨pls,x,n,id,l.toArray,sumOf .any l.toArray,e0,ro,b,p,L0⟩:RG P) κ) hm rfl ?_
   have hL:Array.replicate l.length false=bl l.length 0:=by
     apply Array.ext'
     apply List.ext_getElem?
     intro i
     unfold bl
     simp only [Array.toList_replicate,List.getElem?_map,List.getElem?_replicate]
     by_cases hi:i<l.length
     · rw [if_pos hi,List.getElem?_range hi];simp
     rw [if_neg hi,List.getElem?_eq_none (by simpa using hi)];rfl
   rw [hL]
   refine c2 ⟨hns,hph,rfl,rfl,hQ⟩ (fun κ' w' d=>k κ' w' d.ag d.he) (0,⟨[],H⟩) (List.mem_singleton.2 rfl) κ _ ⟨fun _ _=>⟨rfl,rfl⟩,?_,fun _ e he=>(hmem e he).1⟩
   exact ⟨he.ha.below (below_drewN (Below.refl _ _) 1),he.hr,he.hh⟩
end
end
section
open Go.RowKit Go.QT
/-- Ahead of a round of a loop. -/
def wpLoop(P:Program)(c:Code)(Q:Exit->Act->World->Prop)(a:Act)(w:World):Prop:=
 ∀ (b:Frame) (k:List Item) (cs:List Frame),∃ e a' w',Q e a' w'/\Arrives P (lone (b.at a (.code c::.inLoop c::k)) cs w) b k cs e a' w'
theorem loop_in{P:Program}{c:Code}{Q:Exit->Act->World->Prop}{a:Act}{w:World}(h:wpLoop P c Q a w):(Code.loop c).wp P Q a w:=fun b k cs=>by
 obtain ⟨e,a',w',hq,harr⟩:=h b k cs
 exact ⟨e,a',w',hq,.of_steps (.one step_loop) harr⟩
theorem loop_round{P:Program}{c:Code}{Q:Exit->Act->World->Prop}{a:Act}{w:World}(h:c.wp P (Exit.then (wpLoop P c Q) Q) a w):wpLoop P c Q a w:=fun b k cs=>by
 obtain ⟨e,a₁,w₁,hq,harr⟩:=h b (.inLoop c::k) cs
 cases e with
 | normal =>
   obtain ⟨e₂,a₂,w₂,hq₂,harr₂⟩:=hq b k cs
   exact ⟨e₂,a₂,w₂,hq₂,.of_steps (Steps.trans harr (.one step_inLoop)) harr₂⟩
 | exit id=>exact ⟨_,a₁,w₁,hq,.pass (x:=.inLoop c) rfl (fun _ _=>.inl (by simp)) harr⟩
 | goto l=>exact ⟨_,a₁,w₁,hq,.pass (x:=.inLoop c) rfl (fun _ _=>.inl (by simp)) harr⟩
 | ret=>exact ⟨_,a₁,w₁,hq,.pass (x:=.inLoop c) rfl (fun _ _=>.inl (by simp)) harr⟩
 | panic ch=>exact ⟨_,a₁,w₁,hq,.pass (x:=.inLoop c) rfl (fun _ _=>.inl (by simp)) harr⟩
 | outgrown=>exact ⟨_,a₁,w₁,hq,.pass (x:=.inLoop c) rfl (fun _ _=>.inl (by simp)) harr⟩
/-- What stands behind. -/
inductive KnA where
 | seq (c:Code)
 | blk (i:Nat)
 | lp (c:Code)
 | stop (K:Act->World->Prop)
def KQA(P:Program)(Q:Exit->Act->World->Prop):List KnA->Exit->Act->World->Prop
 | []=>Q
 | .seq c::ks=>Exit.then (c.wp P (KQA P Q ks)) (KQA P Q ks)
 | .blk i::ks=>Exit.inBlock i (KQA P Q ks)
 | .lp c::ks=>Exit.then (wpLoop P c (KQA P Q ks)) (KQA P Q ks)
 | .stop K::ks=>Exit.then K (KQA P Q ks)
theorem KQA_panic{P:Program}{Q:Exit->Act->World->Prop}(c:List PanicEntry):∀ (ks:List KnA) (a:Act) (w:World),KQA P Q ks (.panic c) a w=Q (.panic c) a w
 | [],_,_=>rfl
 | .seq _::ks,a,w=>KQA_panic c ks a w
 | .blk _::ks,a,w=>KQA_panic c ks a w
 | .lp _::ks,a,w=>KQA_panic c ks a w
 | .stop _::ks,a,w=>KQA_panic c ks a w
inductive CuA where
 | code (c:Code)
 | ops (i j:Nat) (all:Array Oper) (l:List Oper)
 | ex (e:Exit)
/-- Who called: their slots, and where they go on. -/
structure Ca where
 fn:Func
 x:Nat->Value
 n:Nat
 k:Nat
 e:List (Nat × AV)
 i:Nat
 j:Nat
 all:Array Oper
 l:List Oper
 ks:List KnA
 d:Option Nat
structure AS where
 x:Nat->Value
 n:Nat
 k:Nat
 cu:CuA
 ks:List KnA
 e:List (Nat × AV)
 fs:List Ca
 H:List Ent
 ro:List Ent
 nx:Nat
 ob:List Ob
def runA(P:Program)(Q:Exit->Act->World->Prop)(cu:CuA)(ks:List KnA)(a:Act)(w:World):Prop:=
 match cu with
 | .code c=>c.wp P (KQA P Q ks) a w
 | .ops _ _ all l=>wpList P all (KQA P Q ks) l a w
 | .ex e=>KQA P Q ks e a w
/-- What the callers ask. -/
def bsQ(P:Program)(Q:Exit->Act->World->Prop)(κ:Kp):List Ca->Exit->Act->World->Prop
 | []=>Q
 | f::fs=>bodyPost P f.fn fun en w'=>∃ v,en=.returned v/\wpList P f.all (KQA P (bsQ P Q κ fs) f.ks) f.l ((patch f.x f.n (denE κ f.e)).put f.d v) w'
theorem bsQ_agr{P:Program}{Q:Exit->Act->World->Prop}{A:Nat->Prop}{κ κ':Kp}(h:Agr A κ κ'):∀ fs:List Ca,(∀ f ∈ fs,∀ p ∈ f.e,p.2.ok A)->bsQ P Q κ' fs=bsQ P Q κ fs
 | [],_=>rfl
 | f::fs,hf=>by
   simp only [bsQ]
   rw [denE_agr h f.e (hf f (List.mem_cons_self ..)),bsQ_agr h fs fun g hg=>hf g (List.mem_cons_of_mem _ hg)]
theorem bsQ_panic{P:Program}{Q:Exit->Act->World->Prop}(hQ:∀ c d v a w,Q (.panic c) (Act.put a d v) w->Q (.panic c) a w)(κ:Kp):∀ fs:List Ca,∀ c d v a w,bsQ P Q κ fs (.panic c) (Act.put a d v) w->bsQ P Q κ fs (.panic c) a w
 | []=>hQ
 | f::fs=>fun c d v a w hq=>by cases d <;> exact hq
def putA:Option Nat->AV->List (Nat × AV)->List (Nat × AV)
 | some d,v,l=>(d,v)::l
 | none,_,l=>l
noncomputable def resA (P:Program) (x:Nat->Value) (n:Nat) (e:List (Nat × AV)) (H:List Ent):ResultVar->Option AV
 | .tmp t=>some (bif Nat.blt t n then lookA x e t else .v undef)
 | .cell p t=>match (bif Nat.blt p n then lookA x e p else .v undef:AV) with
   | .p k off=>bif Nat.beq off 0 then (match findK k H with
     | some (.blk _ _ cs)=>match pureVal P (isAgg t) with
       | some false=>cs[0]?
       | _=>bif rowB P t cs.length then some (.c cs) else none
     | _=>none) else none
   | _=>none
noncomputable def rvA (P:Program) (x:Nat->Value) (n:Nat) (e:List (Nat × AV)) (H:List Ent) (l:List ResultVar):Option AV:=
 match l with
 | []=>some (.t [])
 | [r]=>resA P x n e H r
 | r::r2::l=>match (r::r2::l).mapM (resA P x n e H) with|some vs=>some (.t vs)|none=>none
def posN(k:Nat):List Nat->Nat
 | []=>0
 | x::r=>bif Nat.beq k x then 0 else posN k r+1
/-- A call that is walked through. -/
noncomputable def inA (P:Program) (il:List Nat) (i j:Nat) (all:Array Oper) (o:Oper) (l:List Oper) (s:AS):Option AS:=
 match o.op with
 | .call ⟨.value (.func f),args,_⟩=>bif memB f il && enOk P f (fnOf P f).ntmps && Nat.ble args.toList.length (fnOf P f).ntmps && okD s.n o.dst then
     some ⟨fun _=>undef,(fnOf P f).ntmps,posN f il+1,.code ((fnOf P f).body.getD .skip),[],(args.toList.map (evA s.x s.n s.e)).zipIdx.map fun p=>(p.2,p.1),⟨fnOf P f,s.x,s.n,s.k,s.e,i,j,all,l,s.ks,o.dst⟩::s.fs,s.H,s.ro,s.nx,obC P o (evA s.x s.n s.e) f (args.toList.map (evA s.x s.n s.e))::s.ob⟩
   else none
 | _=>none
/-- Slots told twice, told once. -/
def hasS(d:Nat):List (Nat × AV)->Bool
 | []=>false
 | p::r=>bif Nat.beq p.1 d then true else hasS d r
def ddL:List (Nat × AV)->List (Nat × AV)->List (Nat × AV)
 | [],acc=>acc
 | p::r,acc=>bif hasS p.1 acc then ddL r acc else ddL r (p::acc)
def ddC.{u}{β:Type u}(k:List (Nat × AV)->β):List (Nat × AV)->List (Nat × AV)->β
 | [],acc=>k acc
 | p::r,acc=>bif hasS p.1 acc then ddC k r acc else ddC k r (p::acc)
theorem ddC_eq.{u}{β:Type u}(k:List (Nat × AV)->β):∀ l acc:List (Nat × AV),ddC k l acc=k (ddL l acc)
 | [],_=>rfl
 | p::r,acc=>by
   unfold ddC ddL
   cases hasS p.1 acc with
   | true=>exact ddC_eq k r acc
   | false=>exact ddC_eq k r (p::acc)
theorem look_mid(x:Nat->Value){p:Nat × AV}(l:List (Nat × AV))(i:Nat):∀ {acc:List (Nat × AV)},hasS p.1 acc=false->lookA x (p::acc++l) i=lookA x (acc++p::l) i
 | [],_=>rfl
 | q::acc,h=>by
   unfold hasS at h
   cases hb:Nat.beq q.1 p.1 with
   | true=>rw [hb] at h;cases h
   | false =>
     rw [hb] at h
     have ih:=look_mid x l i (acc:=acc) h
     show (bif Nat.beq p.1 i then p.2 else bif Nat.beq q.1 i then q.2 else lookA x (acc++l) i)=(bif Nat.beq q.1 i then q.2 else lookA x (acc++p::l) i)
     rw [← ih]
     show _=(bif Nat.beq q.1 i then q.2 else bif Nat.beq p.1 i then p.2 else lookA x (acc++l) i)
     cases h1:Nat.beq p.1 i with
     | false=>rfl
     | true =>
       cases h2:Nat.beq q.1 i with
       | false=>rfl
       | true=>rw [Nat.eq_of_beq_eq_true h1,Nat.eq_of_beq_eq_true h2,Nat.beq_refl] at hb;cases hb
theorem look_drop(x:Nat->Value){p:Nat × AV}(l:List (Nat × AV))(i:Nat):∀ {acc:List (Nat × AV)},hasS p.1 acc=true->lookA x (acc++l) i=lookA x (acc++p::l) i
 | [],h=>by cases h
 | q::acc,h=>by
   show (bif Nat.beq q.1 i then q.2 else lookA x (acc++l) i)=(bif Nat.beq q.1 i then q.2 else lookA x (acc++p::l) i)
   unfold hasS at h
   cases hb:Nat.beq q.1 p.1 with
   | false=>rw [hb] at h;rw [look_drop x l i h]
   | true =>
     cases h2:Nat.beq q.1 i with
     | true=>rfl
     | false =>
       have hq:=Nat.eq_of_beq_eq_true hb
       have hpi:Nat.beq p.1 i=false:=by rw [← hq];exact h2
       have:∀ acc:List (Nat × AV),lookA x (acc++l) i=lookA x (acc++p::l) i:=by
         intro acc
         induction acc with
         | nil=>show _=(bif Nat.beq p.1 i then p.2 else lookA x l i);rw [hpi];rfl
         | cons q acc ih =>
           show (bif Nat.beq q.1 i then q.2 else lookA x (acc++l) i)=(bif Nat.beq q.1 i then q.2 else lookA x (acc++p::l) i)
           rw [ih]
       simp only [cond_false];exact this acc
theorem ddL_look(x:Nat->Value)(i:Nat):∀ l acc:List (Nat × AV),lookA x (ddL l acc) i=lookA x (acc++l) i
 | [],acc=>by rw [List.append_nil];rfl
 | p::r,acc=>by
   unfold ddL
   cases h:hasS p.1 acc with
   | true=>rw [cond_true,ddL_look x i r acc];exact look_drop x r i h
   | false=>rw [cond_false,ddL_look x i r (p::acc)];exact look_mid x r i h
theorem ddL_mem:∀ {l acc:List (Nat × AV)} {q:Nat × AV},q ∈ ddL l acc->q ∈ acc∨q ∈ l
 | [],_,_,h=>.inl h
 | p::r,acc,q,h=>by
   unfold ddL at h
   cases hb:hasS p.1 acc with
   | true=>rw [hb] at h;exact (ddL_mem h).imp id (List.mem_cons_of_mem _)
   | false =>
     rw [hb] at h
     rcases ddL_mem h with h|h
     · rcases List.mem_cons.1 h with rfl|h
       · exact .inr (List.mem_cons_self ..)
       exact .inl h
     exact .inr (List.mem_cons_of_mem _ h)
/-- One step. It stops ahead of the operation that gives the slot t, of a test of the slot t - 1000000, of the region t - 2000000, of a loop (t = 3000000). -/
noncomputable def stpA (P:Program) (pls:List (Pl P)) (il:List Nat) (t:Nat) (s:AS):Option AS:=
 match s.cu with
 | .code c =>
   match c with
   | .skip=>some ⟨s.x,s.n,s.k,.ex .normal,s.ks,s.e,s.fs,s.H,s.ro,s.nx,s.ob⟩
   | .ret=>some ⟨s.x,s.n,s.k,.ex .ret,s.ks,s.e,s.fs,s.H,s.ro,s.nx,s.ob⟩
   | .exit i=>some ⟨s.x,s.n,s.k,.ex (.exit i),s.ks,s.e,s.fs,s.H,s.ro,s.nx,s.ob⟩
   | .seq a b=>some ⟨s.x,s.n,s.k,.code a,.seq b::s.ks,s.e,s.fs,s.H,s.ro,s.nx,s.ob⟩
   | .block i b=>some ⟨s.x,s.n,s.k,.code b,.blk i::s.ks,s.e,s.fs,s.H,s.ro,s.nx,s.ob⟩
   | .cond o a b =>
     bif isC t o then none else
     match evA s.x s.n s.e o with
     | .v (.bool true)=>some ⟨s.x,s.n,s.k,.code a,s.ks,s.e,s.fs,s.H,s.ro,s.nx,s.ob⟩
     | .v (.bool false)=>some ⟨s.x,s.n,s.k,.code b,s.ks,s.e,s.fs,s.H,s.ro,s.nx,s.ob⟩
     | _=>none
   | .loop c=>bif Nat.beq t 3000000 then none else some ⟨s.x,s.n,s.k,.code c,.lp c::s.ks,s.e,s.fs,s.H,s.ro,s.nx,s.ob⟩
   | .region i ops false=>bif Nat.beq (i+2000000) t then none else some ⟨s.x,s.n,s.k,.ops i 0 ops ops.toList,s.ks,s.e,s.fs,s.H,s.ro,s.nx,s.ob⟩
   | .region i ops true=>bif Nat.beq (i+2000000) t then none else
     match regA pls s.x s.n (s.k*1000+i) ops s.e s.ro s.H s.nx with
     | some (r,ob)=>some ⟨s.x,s.n,s.k,.ex .normal,s.ks,eOf s.e r.le,s.fs,r.H,s.ro,s.nx+16*ops.size,ob++s.ob⟩
     | none=>none
   | _=>none
 | .ops i j all l =>
   match l with
   | []=>some ⟨s.x,s.n,s.k,.ex .normal,s.ks,s.e,s.fs,s.H,s.ro,s.nx,s.ob⟩
   | o::l =>
     bif isD t o.dst then none else
     bif okD s.n o.dst then
       bif Region.wanted o (yieldA all s.x s.n s.e) then
         match stepO pls ((s.k*1000+i)*1000+j) o (evA s.x s.n s.e) s.ro s.H s.nx with
         | some u=>some ⟨s.x,s.n,s.k,.ops i (j+1) all l,s.ks,putA o.dst u.v s.e,s.fs,u.H,s.ro,s.nx+16,u.ob++s.ob⟩
         | none=>inA P il i j all o l s
       else some ⟨s.x,s.n,s.k,.ops i (j+1) all l,s.ks,putA o.dst (.v undef) s.e,s.fs,s.H,s.ro,s.nx,s.ob⟩
     else none
 | .ex ex =>
   match s.ks with
   | []=>match s.fs with
     | []=>none
     | f::fs=>match ex with
       | .ret | .normal=>match rvA P s.x s.n s.e s.H f.fn.results.toList with
         | some v=>bif okD f.n f.d then some ⟨f.x,f.n,f.k,.ops f.i (f.j+1) f.all f.l,f.ks,putA f.d v f.e,fs,s.H,s.ro,s.nx,s.ob⟩ else none
         | none=>none
       | _=>none
   | .seq c::ks =>
     match ex with
     | .normal=>some ⟨s.x,s.n,s.k,.code c,ks,s.e,s.fs,s.H,s.ro,s.nx,s.ob⟩
     | ex=>some ⟨s.x,s.n,s.k,.ex ex,ks,s.e,s.fs,s.H,s.ro,s.nx,s.ob⟩
   | .blk i::ks =>
     match ex with
     | .exit j=>bif Nat.beq j i then some ⟨s.x,s.n,s.k,.ex .normal,ks,s.e,s.fs,s.H,s.ro,s.nx,s.ob⟩ else some ⟨s.x,s.n,s.k,.ex (.exit j),ks,s.e,s.fs,s.H,s.ro,s.nx,s.ob⟩
     | ex=>some ⟨s.x,s.n,s.k,.ex ex,ks,s.e,s.fs,s.H,s.ro,s.nx,s.ob⟩
   | .lp c::ks =>
     match ex with
     | .normal=>ddC (fun e=>some ⟨s.x,s.n,s.k,.code c,.lp c::ks,e,s.fs,s.H,s.ro,s.nx,s.ob⟩) s.e []
     | ex=>some ⟨s.x,s.n,s.k,.ex ex,ks,s.e,s.fs,s.H,s.ro,s.nx,s.ob⟩
   | .stop _::ks =>
     match ex with
     | .normal=>none
     | ex=>some ⟨s.x,s.n,s.k,.ex ex,ks,s.e,s.fs,s.H,s.ro,s.nx,s.ob⟩
noncomputable def goN (P:Program) (pls:List (Pl P)) (il:List Nat) (t f:Nat) (s:AS):AS:=
 Nat.rec (fun s=>s) (fun _ ih (s:AS)=>match stpA P pls il t s with|some s'=>ih s' | none=>s) f s
def noOb(s:AS):AS:=⟨s.x,s.n,s.k,s.cu,s.ks,s.e,s.fs,s.H,s.ro,s.nx,[]⟩
noncomputable def goA (P:Program) (pls:List (Pl P)) (il:List Nat) (t:Nat) (s:AS):AS:=goN P pls il t 1000000 (noOb s)
/-- Where a walk stands. -/
structure Cx(P:Program) where
 fn:Func
 R:Ending->World->Prop
 F0:Ft
 w0:World
 κ0:Kp
 n0:Nat
structure AOk(n0:Nat)(s:AS):Prop where
 e:∀ p ∈ s.e,p.2.ok (· < s.nx)
 fs:∀ f ∈ s.fs,∀ p ∈ f.e,p.2.ok (· < s.nx)
 ro:∀ e ∈ s.ro,e.ok (· < s.nx)
 H:∀ e ∈ s.H,e.ok (· < s.nx)
 n0:n0<=s.nx
structure MA{P:Program}(C:Cx P)(s:AS):Prop where
 run:AOk C.n0 s->∀ κ w,Agr (· < C.n0) C.κ0 κ->HE C.F0 C.w0 w κ s.ro s.H->runA P (bsQ P (bodyPost P C.fn C.R) κ s.fs) s.cu s.ks (patch s.x s.n (denE κ s.e)) w
section
variable{P:Program}{C:Cx P}{pls:List (Pl P)}{il:List Nat}
theorem look_zip(x:Nat->Value):∀ (l:List Value) (j i:Nat),look x ((l.zipIdx j).map fun p=>(p.2,p.1)) i=if j<=i then l[i-j]?.getD (x i) else x i
 | [],j,i=>by simp [look]
 | v::r,j,i=>by
   rw [List.zipIdx_cons,List.map_cons]
   show (bif Nat.beq j i then v else look x ((r.zipIdx (j+1)).map fun p=>(p.2,p.1)) i)=_
   rw [look_zip x r (j+1) i]
   cases hb:Nat.beq j i with
   | true =>
     have:=Nat.eq_of_beq_eq_true hb
     subst this;simp
   | false =>
     have hne:j≠i:=Nat.ne_of_beq_eq_false hb
     simp only [cond_false]
     by_cases h1:j+1<=i
     · rw [if_pos h1,if_pos (by omega),show i-j=(i-(j+1))+1 by omega,List.getElem?_cons_succ]
     rw [if_neg h1,if_neg (by omega)]
theorem act0_patch(κ:Kp)(l:List AV)(n:Nat)(h:l.length<=n):act0 (AV.denL κ l) (n-l.length)=patch (fun _=>undef) n (denE κ (l.zipIdx.map fun p=>(p.2,p.1))):=by
 unfold patch act0
 congr 1
 apply Array.ext'
 apply List.ext_getElem?
 intro i
 rw [frL_get,Nat.zero_add]
 have e2:denE κ (l.zipIdx.map fun p=>(p.2,p.1))=(AV.denL κ l).zipIdx.map fun p=>(p.2,p.1):=by
   unfold denE
   rw [List.map_map,denL_map,List.zipIdx_map,List.map_map]
   rfl
 rw [e2,look_zip]
 simp only [Nat.zero_le,if_true,Nat.sub_zero]
 rw [List.getElem?_append,denL_len]
 by_cases hi:i<l.length
 · rw [if_pos hi,if_pos (by omega),List.getElem?_eq_getElem (by rw [denL_len];exact hi)];rfl
 rw [if_neg hi,List.getElem?_replicate,List.getElem?_eq_none (l:=AV.denL κ l) (by rw [denL_len];omega)]
 by_cases hi2:i<n
 · rw [if_pos (by omega),if_pos hi2];rfl
 rw [if_neg (by omega),if_neg hi2]
theorem enOk_spec{f n:Nat}(h:enOk P f n=true):∃ c,P.funcs[f]?=some (fnOf P f)/\(fnOf P f).body=some c/\(fnOf P f).ntmps=n:=by
 unfold enOk at h
 split at h
 · rename_i fn hf
   rw [Bool.and_eq_true] at h
   have e:fnOf P f=fn:=by unfold fnOf;rw [hf];rfl
   rw [e]
   cases hb:fn.body with
   | none=>rw [hb] at h;cases h.1
   | some c=>exact ⟨c,hf,rfl,by simpa using h.2⟩
 cases h
/-- A function's body, from its arguments on. -/
theorem enA{f n:Nat}{R:Ending->World->Prop}{κ:Kp}{l:List AV}{w:World}(h:enOk P f n=true)(hl:l.length<=n)(k:((fnOf P f).body.getD .skip).wp P (bodyPost P (fnOf P f) R) (patch (fun _=>undef) n (denE κ (l.zipIdx.map fun p=>(p.2,p.1)))) w):Calls P f (AV.denL κ l).toArray w R:=by
 obtain ⟨c,hf,hb,hn⟩:=enOk_spec h
 refine enter (n-l.length) hf hb (by rw [hn,denL_len]) ?_
 rw [act0_patch κ l n hl]
 rw [hb] at k
 exact k
theorem resA_run{x:Nat->Value}{e:List (Nat × AV)}{H ro:List Ent}{n:Nat}{r:ResultVar}{v:AV}(h:resA P x n e H r=some v){κ:Kp}{w w0:World}{F0:Ft}(hh:HE F0 w0 w κ ro H):(resOne (patch x n (denE κ e)).tmps r).run P w=.ok (v.den κ) w:=by
 have hev:∀ t,(patch x n (denE κ e)).tmps.getD t undef=(bif Nat.blt t n then lookA x e t else .v undef:AV).den κ:=fun t=>congrFun (evA_den κ x n e) (.tmp t)
 cases r with
 | tmp t=>injection h with h;subst h;exact rtmp (hev t)
 | cell p t =>
   simp only [resA] at h
   split at h
   · rename_i k off hp
     cases ho:Nat.beq off 0 with
     | false=>rw [ho] at h;cases h
     | true =>
       rw [ho] at h
       have ho:=Nat.eq_of_beq_eq_true ho
       subst ho
       simp only [cond_true] at h
       have hp2:(patch x n (denE κ e)).tmps.getD p undef=pt (κ k).n 0:=by rw [hev p,hp];rfl
       split at h
       · rename_i k' T cs hf
         have hb:=hh.blkOf hf
         split at h
         · rename_i ht
           have hc:w.cell? ⟨(κ k).n,0,none⟩=some (v.den κ):=by rw [hb.cell,denL_get,h];rfl
           have hl:(loadVar t ⟨(κ k).n,0,none⟩).run P w=.ok (v.den κ) w:=by simp [loadVar,pureVal_run ht,hc]
           unfold resOne
           simp only [hp2,pt,asAddr,Sem.run_bind,Sem.run_pure,Result.andThen_ok,hl]
         rw [cond_some] at h
         obtain ⟨hr,h⟩:=h
         subst h
         exact rcell hb hp2 (by rw [denL_len];exact hr)
       cases h
   cases h
theorem mapM_run{α:Type}{f:ResultVar->Option AV}{g:ResultVar->Sem Value}{κ:Kp}{w:World}(hg:∀ r v,f r=some v->(g r).run P w=.ok (v.den κ) w)(k:Array Value->Sem α):∀ (l:List ResultVar) (vs:List AV),l.mapM f=some vs->∀ acc:Array Value,((List.mapM g l) >>= fun us=>k (acc++us.toArray)).run P w=(k (acc++(AV.denL κ vs).toArray)).run P w
 | [],vs,h,acc=>by
   simp only [List.mapM_nil,Option.pure_def,Option.some.injEq] at h
   subst h
   simp [AV.denL]
 | r::l,vs,h,acc=>by
   rw [List.mapM_cons] at h
   cases h1:f r with
   | none=>rw [h1] at h;cases h
   | some v =>
     cases h2:l.mapM f with
     | none=>rw [h1,h2] at h;cases h
     | some us =>
       rw [h1,h2] at h
       have h:some (v::us)=some vs:=h
       injection h with h;subst h
       have ih:=mapM_run hg k l us h2 (acc.push (v.den κ))
       simp only [List.mapM_cons,Sem.run_bind,hg r v h1,Result.andThen_ok,Sem.run_pure] at ih ⊢
       simp only [AV.denL]
       have e:acc.push (v.den κ)++(AV.denL κ us).toArray=acc++(v.den κ::AV.denL κ us).toArray:=by
         apply Array.ext';simp
       rw [← e,← ih]
       generalize (List.mapM g l).run P w=q
       cases q with
       | ok us w' =>
         simp only [Result.andThen_ok]
         have e:acc.push (v.den κ)++us.toArray=acc++(v.den κ::us).toArray:=by apply Array.ext';simp
         rw [e]
       | halt _ _=>rfl
theorem rvA_ok{x:Nat->Value}{R:Ending->World->Prop}{fn:Func}{e:List (Nat × AV)}{H ro:List Ent}{n:Nat}{v:AV}(h:rvA P x n e H fn.results.toList=some v){κ:Kp}{w w0:World}{F0:Ft}(hh:HE F0 w0 w κ ro H)(hR:R (.returned (v.den κ)) w):bodyPost P fn R .ret (patch x n (denE κ e)) w:=by
 refine ⟨rfl,v.den κ,?_,hR⟩
 rw [results_eq]
 have hl:∀ l,fn.results.toList=l->fn.results=l.toArray:=fun l hl=>by rw [← hl]
 unfold rvA at h
 split at h
 · rename_i e1
   injection h with h;subst h
   rw [hl _ e1];simp [AV.den,AV.denL]
 · rename_i r e1
   rw [hl _ e1]
   simp [resA_run h hh]
 rename_i r r2 l e1
 split at h
 · rename_i vs hv
   injection h with h;subst h
   rw [hl _ e1]
   have:=mapM_run (P:=P) (w:=w) (κ:=κ) (g:=resOne (patch x n (denE κ e)).tmps) (fun r v hr=>resA_run (P:=P) (x:=x) (e:=e) (H:=H) (n:=n) hr hh) (fun us=>(pure (if h:us.size=1 then us[0] else .tuple us):Sem Value)) (r::r2::l) vs hv #[]
   simp only [Array.empty_append] at this
   have e2:(Array.mapM (resOne (patch x n (denE κ e)).tmps) (r::r2::l).toArray >>= fun us=>(pure (if h:us.size=1 then us[0] else .tuple us):Sem Value))=(List.mapM (resOne (patch x n (denE κ e)).tmps) (r::r2::l) >>= fun us=>(pure (if h:us.toArray.size=1 then us.toArray[0] else .tuple us.toArray):Sem Value)):=by
     rw [List.mapM_toArray];simp
   rw [e2,this]
   have hlen:∀ (l:List ResultVar) (vs:List AV),l.mapM (resA P x n e H)=some vs->vs.length=l.length:=by
     intro l
     induction l with
     | nil=>intro vs h;simp only [List.mapM_nil,Option.pure_def,Option.some.injEq] at h;subst h;rfl
     | cons r l ih =>
       intro vs h
       rw [List.mapM_cons] at h
       cases h1:resA P x n e H r with
       | none=>rw [h1] at h;cases h
       | some v =>
         cases h2:l.mapM (resA P x n e H) with
         | none=>rw [h1,h2] at h;cases h
         | some us =>
           rw [h1,h2] at h
           have h:some (v::us)=some vs:=h
           injection h with h;subst h
           simp [ih us h2]
   have hne:¬ (AV.denL κ vs).toArray.size=1:=by
     rw [List.size_toArray,denL_len,hlen _ vs hv];simp
   rw [Sem.run_pure,dif_neg hne];rfl
 cases h
theorem putA_ok{A:Nat->Prop}{d:Option Nat}{v:AV}{e:List (Nat × AV)}(hv:v.ok A)(he:∀ p ∈ e,p.2.ok A):∀ p ∈ putA d v e,p.2.ok A:=by
 cases d with
 | none=>exact he
 | some d =>
   intro p hp
   rcases List.mem_cons.1 hp with rfl|hp
   · exact hv
   exact he p hp
theorem putA_put{x:Nat->Value}{n:Nat}{d:Option Nat}(v:AV)(e:List (Nat × AV))(hd:okD n d=true)(κ:Kp):(patch x n (denE κ e)).put d (v.den κ)=patch x n (denE κ (putA d v e)):=by
 rw [put_patch _ _ _ _ _ hd]
 cases d <;> rfl
theorem inA_ok{i j:Nat}{all:Array Oper}{o:Oper}{l:List Oper}{s s':AS}(h:inA P il i j all o l s=some s')(hob:obOk s'.ob)(hw:Region.wanted o (yieldA all s.x s.n s.e)=true)(hc:s.cu=.ops i j all (o::l)):obOk s.ob/\(MA C s'->MA C s):=by
 unfold inA at h
 split at h
 · rename_i f args ats ho
   rw [cond_some] at h
   obtain ⟨hq,h⟩:=h
   subst h
   simp only [Bool.and_eq_true] at hq
   obtain ⟨⟨⟨_,h1⟩,h2⟩,h3⟩:=hq
   refine ⟨fun o ho=>hob o (List.mem_cons_of_mem _ ho),fun k=>⟨fun ok κ w ha hh=>?_⟩⟩
   have o1:_=_:=hob _ (List.mem_cons_self ..)
   have hp:pureVal P (execOp (patch s.x s.n (denE κ s.e)).eval o)=some (.enter f (AV.denL κ (args.toList.map (evA s.x s.n s.e))).toArray):=by
     rw [evA_den];exact congrFun o1 κ
   rw [hc]
   show wpList P all (KQA P (bsQ P (bodyPost P C.fn C.R) κ s.fs) s.ks) (o::l) _ w
   refine wpList_step fun K hK=>?_
   rw [yield_patch,yieldA_den,hw,if_pos rfl]
   have hkk:=k.run ⟨fun p hp=>?_,fun g hg=>?_,ok.ro,ok.H,ok.n0⟩ κ w ha hh
   · have hc2:Calls P f (AV.denL κ (args.toList.map (evA s.x s.n s.e))).toArray w (fun en w'=>∃ v,en=.returned v/\wpList P all (KQA P (bsQ P (bodyPost P C.fn C.R) κ s.fs) s.ks) l ((patch s.x s.n (denE κ s.e)).put o.dst v) w'):=enA h1 (by simpa using Nat.le_of_ble_eq_true h2) hkk
     exact (OpTo.enter f _ hp hc2 fun e w' h=>h).goes _ _ fun v w' hr=>hK _ _ hr
   · obtain ⟨q,hq,rfl⟩:=List.mem_map.1 hp
     obtain ⟨y,_,hy⟩:=List.mem_map.1 (List.fst_mem_of_mem_zipIdx hq)
     show q.1.ok _
     rw [← hy];exact evA_ok _ _ _ ok.e y
   rcases List.mem_cons.1 hg with rfl|hg
   · exact ok.e
   exact ok.fs g hg
 cases h
theorem resA_names{A:Nat->Prop}{x:Nat->Value}{n:Nat}{e:List (Nat × AV)}{H:List Ent}{r:ResultVar}{v:AV}(h:resA P x n e H r=some v)(he:∀ p ∈ e,p.2.ok A)(hH:∀ e ∈ H,e.ok A):v.ok A:=by
 have hl:∀ t,(bif Nat.blt t n then lookA x e t else .v undef:AV).ok A:=fun t=>evA_ok x n e he (.tmp t)
 cases r with
 | tmp t=>injection h with h;subst h;exact hl t
 | cell p t =>
   simp only [resA] at h
   split at h
   · rename_i k off hp
     cases ho:Nat.beq off 0 with
     | false=>rw [ho] at h;cases h
     | true =>
       rw [ho] at h
       simp only [cond_true] at h
       split at h
       · rename_i k' T cs hf
         have hcs:=(hH _ (findK_mem hf).1).2
         split at h
         · exact (okL_all A cs).1 hcs v (List.mem_of_getElem? h)
         rw [cond_some] at h
         obtain ⟨_,h⟩:=h
         subst h;exact hcs
       cases h
   cases h
theorem mapM_names{A:Nat->Prop}{f:ResultVar->Option AV}(hf:∀ r v,f r=some v->v.ok A):∀ (l:List ResultVar) (vs:List AV),l.mapM f=some vs->AV.okL A vs
 | [],vs,h=>by simp only [List.mapM_nil,Option.pure_def,Option.some.injEq] at h;subst h;trivial
 | r::l,vs,h=>by
   rw [List.mapM_cons] at h
   cases h1:f r with
   | none=>rw [h1] at h;cases h
   | some v =>
     cases h2:l.mapM f with
     | none=>rw [h1,h2] at h;cases h
     | some us =>
       rw [h1,h2] at h
       have h:some (v::us)=some vs:=h
       injection h with h;subst h
       exact ⟨hf r v h1,mapM_names hf l us h2⟩
theorem rvA_names{A:Nat->Prop}{x:Nat->Value}{n:Nat}{e:List (Nat × AV)}{H:List Ent}{l:List ResultVar}{v:AV}(h:rvA P x n e H l=some v)(he:∀ p ∈ e,p.2.ok A)(hH:∀ e ∈ H,e.ok A):v.ok A:=by
 unfold rvA at h
 split at h
 · injection h with h;subst h;trivial
 · exact resA_names h he hH
 split at h
 · rename_i vs hv
   injection h with h;subst h
   exact mapM_names (fun r v hr=>resA_names hr he hH) _ vs hv
 cases h
theorem stpA_ok(t:Nat)(s s':AS)(h:stpA P pls il t s=some s')(hob:obOk s'.ob):obOk s.ob/\(MA C s'->MA C s):=by
 obtain ⟨x,n,k_,cu,ks,e,fs,H,ro,nx,ob⟩:=s
 cases cu with
 | code c =>
   cases c with
   | skip=>injection h with h;subst h;exact ⟨hob,fun k=>⟨fun ok κ w ha hh=>wp_skip (k.run ⟨ok.e,ok.fs,ok.ro,ok.H,ok.n0⟩ κ w ha hh)⟩⟩
   | ret=>injection h with h;subst h;exact ⟨hob,fun k=>⟨fun ok κ w ha hh=>wp_ret (k.run ⟨ok.e,ok.fs,ok.ro,ok.H,ok.n0⟩ κ w ha hh)⟩⟩
   | exit i=>injection h with h;subst h;exact ⟨hob,fun k=>⟨fun ok κ w ha hh=>wp_exit (k.run ⟨ok.e,ok.fs,ok.ro,ok.H,ok.n0⟩ κ w ha hh)⟩⟩
   | seq a b=>injection h with h;subst h;exact ⟨hob,fun k=>⟨fun ok κ w ha hh=>wp_seq (k.run ⟨ok.e,ok.fs,ok.ro,ok.H,ok.n0⟩ κ w ha hh)⟩⟩
   | block i b=>injection h with h;subst h;exact ⟨hob,fun k=>⟨fun ok κ w ha hh=>wp_block (k.run ⟨ok.e,ok.fs,ok.ro,ok.H,ok.n0⟩ κ w ha hh)⟩⟩
   | cond o a b =>
     simp only [stpA] at h
     cases hi:isC t o with
     | true=>rw [hi] at h;cases h
     | false =>
       rw [hi] at h
       simp only [cond_false] at h
       have hev:∀ κ,(patch x n (denE κ e)).eval o=(evA x n e o).den κ:=fun κ=>congrFun (evA_den κ x n e) o
       split at h
       · rename_i hb
         injection h with h;subst h
         exact ⟨hob,fun k=>⟨fun ok κ w ha hh=>wp_cond_true (by rw [hev,hb];rfl) (k.run ⟨ok.e,ok.fs,ok.ro,ok.H,ok.n0⟩ κ w ha hh)⟩⟩
       · rename_i hb
         injection h with h;subst h
         exact ⟨hob,fun k=>⟨fun ok κ w ha hh=>wp_cond_false (by rw [hev,hb];rfl) (k.run ⟨ok.e,ok.fs,ok.ro,ok.H,ok.n0⟩ κ w ha hh)⟩⟩
       cases h
   | loop c =>
     simp only [stpA] at h
     cases hi:Nat.beq t 3000000 with
     | true=>rw [hi] at h;cases h
     | false =>
       rw [hi] at h
       injection h with h;subst h
       exact ⟨hob,fun k=>⟨fun ok κ w ha hh=>loop_in (loop_round (k.run ⟨ok.e,ok.fs,ok.ro,ok.H,ok.n0⟩ κ w ha hh))⟩⟩
   | region i ops d =>
     cases d with
     | false =>
       simp only [stpA] at h
       cases hi:Nat.beq (i+2000000) t with
       | true=>rw [hi] at h;cases h
       | false =>
         rw [hi] at h
         injection h with h;subst h
         exact ⟨hob,fun k=>⟨fun ok κ w ha hh=>wp_region_list (k.run ⟨ok.e,ok.fs,ok.ro,ok.H,ok.n0⟩ κ w ha hh)⟩⟩
     | true =>
       simp only [stpA] at h
       cases hi:Nat.beq (i+2000000) t with
       | true=>rw [hi] at h;cases h
       | false =>
         rw [hi] at h
         simp only [cond_false] at h
         split at h
         · rename_i r ob' hr
           injection h with h;subst h
           obtain ⟨o1,o2⟩:=hob.app
           refine ⟨o2,fun k=>⟨fun ok κ w ha hh=>?_⟩⟩
           have hreg:=fun κ:Kp=>regA_ok (rid:=i) (Q:=KQA P (bsQ P (bodyPost P C.fn C.R) κ fs) ks) (F0:=C.F0) (w0:=C.w0) hr o1 ok.e ok.ro ok.H (fun c d v a w hq=>by
             rw [KQA_panic] at hq ⊢
             exact bsQ_panic (fun c d v a w hq=>by cases d <;> exact hq) κ fs c d v a w hq)
           obtain ⟨k1,k2,k3⟩:=hreg κ
           refine k3 κ w hh fun κ' w' hag hh'=>?_
           have up:∀ q,q<nx->q<nx+16*ops.size:=fun q hq=>Nat.lt_of_lt_of_le hq (Nat.le_add_right _ _)
           have h9:=k.run ⟨k1,fun f hf p hp=>ok_mono up _ (ok.fs f hf p hp),fun e he=>Ent.ok_mono up (ok.ro e he),k2,Nat.le_trans ok.n0 (Nat.le_add_right _ _)⟩ κ' w' (fun q hq=>by
             have h1:=ha q hq
             have h2:=hag q (Nat.lt_of_lt_of_le hq ok.n0)
             exact ⟨h2.1.trans h1.1,h2.2.trans h1.2⟩) hh'
           rw [bsQ_agr hag fs ok.fs] at h9
           exact h9
         cases h
   | _=>cases h
 | ops i j all l =>
   cases l with
   | nil=>injection h with h;subst h;exact ⟨hob,fun k=>⟨fun ok κ w ha hh=>k.run ⟨ok.e,ok.fs,ok.ro,ok.H,ok.n0⟩ κ w ha hh⟩⟩
   | cons o l =>
     simp only [stpA] at h
     cases hi:isD t o.dst with
     | true=>rw [hi] at h;cases h
     | false =>
       rw [hi] at h
       cases hd:okD n o.dst with
       | false=>rw [hd] at h;cases h
       | true =>
         rw [hd] at h
         simp only [cond_true,cond_false] at h
         cases hw:Region.wanted o (yieldA all x n e) with
         | false =>
           rw [hw] at h
           injection h with h;subst h
           refine ⟨hob,fun k=>⟨fun ok κ w ha hh=>?_⟩⟩
           show wpList P all (KQA P (bsQ P (bodyPost P C.fn C.R) κ fs) ks) (o::l) _ w
           refine wpList_step fun K hK=>?_
           rw [yield_patch,yieldA_den,hw,if_neg (by simp)]
           refine hK _ _ ?_
           rw [show (undef:Value)=(AV.v undef).den κ from rfl,putA_put _ _ hd]
           exact k.run ⟨putA_ok trivial ok.e,ok.fs,ok.ro,ok.H,ok.n0⟩ κ w ha hh
         | true =>
           rw [hw] at h
           simp only [cond_true] at h
           split at h
           · rename_i u hu
             injection h with h;subst h
             obtain ⟨o1,o2⟩:=hob.app
             refine ⟨o2,fun k=>⟨fun ok κ w ha hh=>?_⟩⟩
             have tr:=stepO_tr hu o1
             show wpList P all (KQA P (bsQ P (bodyPost P C.fn C.R) κ fs) ks) (o::l) _ w
             refine wpList_step fun K hK=>?_
             rw [yield_patch,yieldA_den,hw,if_pos rfl]
             obtain ⟨n1,n2⟩:=tr.names (A:=(· < nx)) (evA_ok _ _ _ ok.e) ok.ro ok.H
             have up:∀ q,(q<nx∨In8 nx q)->q<nx+16:=fun q hq=>by unfold In8 at hq;omega
             refine (tr.goes (A:=(· < nx)) (fun q hq h8=>by unfold In8 at h8;omega) (evA_ok _ _ _ ok.e) ok.ro ok.H (evA_den κ _ _ _) hh).goes _ _ fun v w' ⟨κ',k1,k2,k3⟩=>?_
             refine hK _ _ ?_
             rw [k2,← denE_agr k1.agr _ ok.e,putA_put _ _ hd]
             have h9:=k.run ⟨putA_ok (ok_mono up _ n1) fun p hp=>ok_mono (fun q hq=>up q (.inl hq)) _ (ok.e p hp),fun f hf p hp=>ok_mono (fun q hq=>up q (.inl hq)) _ (ok.fs f hf p hp),fun e he=>Ent.ok_mono (fun q hq=>up q (.inl hq)) (ok.ro e he),fun e he=>Ent.ok_mono up (n2 e he),Nat.le_trans ok.n0 (Nat.le_add_right _ _)⟩ κ' w' (fun q hq=>by
               have h1:=ha q hq
               have h2:=k1 q (Nat.lt_of_lt_of_le hq ok.n0)
               exact ⟨h2.1.trans h1.1,h2.2.1.trans h1.2⟩) k3
             rw [bsQ_agr k1.agr fs ok.fs] at h9
             exact h9
           exact inA_ok (C:=C) (s:=⟨x,n,k_,.ops i j all (o::l),ks,e,fs,H,ro,nx,ob⟩) h hob hw rfl
 | ex ex =>
   cases ks with
   | nil =>
     cases fs with
     | nil=>cases h
     | cons f fs =>
       have key:∀ {v:AV},rvA P x n e H f.fn.results.toList=some v->(∀ o ∈ ob,o ∈ ob)->MA C ⟨f.x,f.n,f.k,.ops f.i (f.j+1) f.all f.l,f.ks,putA f.d v f.e,fs,H,ro,nx,ob⟩->okD f.n f.d=true->v.ok (· < nx)->AOk C.n0 ⟨x,n,k_,.ex ex,[],e,f::fs,H,ro,nx,ob⟩->∀ κ w,Agr (· < C.n0) C.κ0 κ->HE C.F0 C.w0 w κ ro H->bodyPost P f.fn (fun en w'=>∃ v,en=.returned v/\wpList P f.all (KQA P (bsQ P (bodyPost P C.fn C.R) κ fs) f.ks) f.l ((patch f.x f.n (denE κ f.e)).put f.d v) w') .ret (patch x n (denE κ e)) w:=by
         intro v hv _ k hd hvo ok κ w ha hh
         refine rvA_ok hv hh ⟨_,rfl,?_⟩
         rw [putA_put _ _ hd]
         exact k.run ⟨putA_ok hvo (ok.fs f (List.mem_cons_self ..)),fun g hg=>ok.fs g (List.mem_cons_of_mem _ hg),ok.ro,ok.H,ok.n0⟩ κ w ha hh
       simp only [stpA] at h
       cases ex with
       | ret =>
         simp only at h
         split at h
         · rename_i v hv
           rw [cond_some] at h
           obtain ⟨hd,h⟩:=h
           subst h
           exact ⟨hob,fun k=>⟨fun ok κ w ha hh=>key hv (fun _ h=>h) k hd (rvA_names hv ok.e ok.H) ok κ w ha hh⟩⟩
         cases h
       | normal =>
         simp only at h
         split at h
         · rename_i v hv
           rw [cond_some] at h
           obtain ⟨hd,h⟩:=h
           subst h
           exact ⟨hob,fun k=>⟨fun ok κ w ha hh=>key hv (fun _ h=>h) k hd (rvA_names hv ok.e ok.H) ok κ w ha hh⟩⟩
         cases h
       | _=>cases h
   | cons y ks =>
     cases y with
     | seq c=>cases ex <;> (injection h with h;subst h;exact ⟨hob,fun k=>⟨fun ok κ w ha hh=>k.run ⟨ok.e,ok.fs,ok.ro,ok.H,ok.n0⟩ κ w ha hh⟩⟩)
     | blk i =>
       cases ex with
       | exit j =>
         simp only [stpA] at h
         cases hj:Nat.beq j i with
         | true =>
           rw [hj] at h
           injection h with h;subst h
           refine ⟨hob,fun k=>⟨fun ok κ w ha hh=>?_⟩⟩
           show (if j=i then KQA P (bsQ P (bodyPost P C.fn C.R) κ fs) ks .normal _ w else KQA P (bsQ P (bodyPost P C.fn C.R) κ fs) ks (.exit j) _ w)
           rw [if_pos (Nat.eq_of_beq_eq_true hj)];exact k.run ⟨ok.e,ok.fs,ok.ro,ok.H,ok.n0⟩ κ w ha hh
         | false =>
           rw [hj] at h
           injection h with h;subst h
           refine ⟨hob,fun k=>⟨fun ok κ w ha hh=>?_⟩⟩
           show (if j=i then KQA P (bsQ P (bodyPost P C.fn C.R) κ fs) ks .normal _ w else KQA P (bsQ P (bodyPost P C.fn C.R) κ fs) ks (.exit j) _ w)
           rw [if_neg (Nat.ne_of_beq_eq_false hj)];exact k.run ⟨ok.e,ok.fs,ok.ro,ok.H,ok.n0⟩ κ w ha hh
       | _=>injection h with h;subst h;exact ⟨hob,fun k=>⟨fun ok κ w ha hh=>k.run ⟨ok.e,ok.fs,ok.ro,ok.H,ok.n0⟩ κ w ha hh⟩⟩
     | lp c =>
       cases ex with
       | normal =>
         simp only [stpA] at h
         rw [ddC_eq] at h
         injection h with h;subst h
         refine ⟨hob,fun k=>⟨fun ok κ w ha hh=>loop_round ?_⟩⟩
         have h9:=k.run ⟨fun p hp=>(ddL_mem hp).elim (fun h=>absurd h List.not_mem_nil) (ok.e p),ok.fs,ok.ro,ok.H,ok.n0⟩ κ w ha hh
         rw [show patch x n (denE κ e)=patch x n (denE κ (ddL e [])) from patch_look fun i=>by rw [look_den,look_den,ddL_look];rfl]
         exact h9
       | _=>injection h with h;subst h;exact ⟨hob,fun k=>⟨fun ok κ w ha hh=>k.run ⟨ok.e,ok.fs,ok.ro,ok.H,ok.n0⟩ κ w ha hh⟩⟩
     | stop K =>
       cases ex with
       | normal=>cases h
       | _=>injection h with h;subst h;exact ⟨hob,fun k=>⟨fun ok κ w ha hh=>k.run ⟨ok.e,ok.fs,ok.ro,ok.H,ok.n0⟩ κ w ha hh⟩⟩
theorem goN_ok(t:Nat):∀ (f:Nat) (s:AS),obOk (goN P pls il t f s).ob->MA C (goN P pls il t f s)->obOk s.ob/\MA C s:=by
 intro f
 induction f with
 | zero=>exact fun s h k=>⟨h,k⟩
 | succ f ih =>
   intro s h k
   unfold goN at h k
   dsimp only at h k
   split at h
   · rename_i s' hs
     rw [hs] at k
     obtain ⟨o1,k1⟩:=ih s' h k
     obtain ⟨o2,k2⟩:=stpA_ok t s s' hs o1
     exact ⟨o2,k2 k1⟩
   rename_i hs
   rw [hs] at k
   exact ⟨h,k⟩
theorem MA.noOb{s:AS}(h:MA C (noOb s)):MA C s:=⟨fun ok κ w ha hh=>h.run ⟨ok.e,ok.fs,ok.ro,ok.H,ok.n0⟩ κ w ha hh⟩
/-- Run on. -/
theorem kGo{s:AS}(pls:List (Pl P))(il:List Nat)(t:Nat)(k:MA C (goA P pls il t s))(ob:obX (goA P pls il t s).ob=obY (goA P pls il t s).ob:=by kernel_rfl):MA C s:=
 MA.noOb (goN_ok t 1000000 (noOb s) (ob_ok ob) k).2
/-! ### Begin and end -/
def entA(P:Program)(s:Sp):AS:=⟨fun _=>undef,(fnOf P s.f).ntmps,0,.code ((fnOf P s.f).body.getD .skip),[],s.args.zipIdx.map fun p=>(p.2,p.1),[],s.pre,s.ro,s.nx,[]⟩
def cx(P:Program)(s:Sp)(κ:Kp)(w:World):Cx P:=⟨fnOf P s.f,SpPost s κ w,foot κ s.pre,w,κ,s.nx⟩
def enB(P:Program)(s:Sp):Bool:=enOk P s.f (fnOf P s.f).ntmps && Nat.ble s.args.length (fnOf P s.f).ntmps && AV.ltL s.nx s.args && s.ro.all (Ent.lt s.nx) && s.pre.all (Ent.lt s.nx)
theorem sE{s:Sp}(h:∀ κ w,MA (cx P s κ w) (entA P s))(ok:enB P s=true:=by kernel_rfl):Spec P s:=⟨fun κ w hh=>by
 unfold enB at ok
 simp only [Bool.and_eq_true] at ok
 obtain ⟨⟨⟨⟨h1,h2⟩,h3⟩,h4⟩,h5⟩:=ok
 have hargs:=(okL_all _ _).1 (ltL_ok _ h3)
 exact enA h1 (Nat.le_of_ble_eq_true h2) ((h κ w).run ⟨fun p hp=>by
   obtain ⟨q,hq,rfl⟩:=List.mem_map.1 hp
   exact hargs _ (List.fst_mem_of_mem_zipIdx hq),fun f hf=>absurd hf List.not_mem_nil,fun e he=>Ent.lt_ok (List.all_eq_true.1 h4 e he),fun e he=>Ent.lt_ok (List.all_eq_true.1 h5 e he),Nat.le_refl _⟩ κ w (fun _ _=>⟨rfl,rfl⟩) hh)⟩
/-- Names of what is told, as those of the walk. -/
def sgE(m:List (Nat × Nat))(nx k:Nat):Nat:=bif Nat.blt k nx then k else (lk m k).getD k
noncomputable def endM (nx:Nat) (v v':AV) (post H:List Ent) (m0:List (Nat × Nat)):List (Nat × Nat):=uniE H post (uniE H post (AV.uni v v' (m0++(List.range nx).map fun k=>(k,k))))
def isEA(s:AS):Bool:=match s.cu,s.ks,s.fs with | .ex .ret,[],[]=>true | .ex .normal,[],[]=>true|_,_,_=>false
noncomputable def endOb (P:Program) (sp:Sp) (s:AS) (m0:List (Nat × Nat)):Option (List Ob):=
 match rvA P s.x s.n s.e s.H (fnOf P sp.f).results.toList with
 | some v'=>(fun σ:Nat->Nat=>match takeK (sp.post.map fun e=>σ e.key) s.H with
   | some (es,_)=>some [⟨AV,sp.v.ren σ,v'⟩,⟨List Ent,sp.post.map (Ent.ren σ),es⟩]
   | none=>none) (sgE (endM sp.nx sp.v v' sp.post s.H m0) sp.nx)
 | none=>none
theorem endA{sp:Sp}{κ0:Kp}{w0:World}{s:AS}(m0:List (Nat × Nat)){ob:List Ob}(hob:obOk ob)(h:endOb P sp s m0=some ob)(hi:isEA s=true):MA (cx P sp κ0 w0) s:=⟨fun ok κ w ha hh=>by
 unfold endOb at h
 split at h
 · rename_i v' hv
   generalize hσ:sgE (endM sp.nx sp.v v' sp.post s.H m0) sp.nx=σ at h
   have hlt:∀ k,k<sp.nx->σ k=k:=by
     intro k hk
     rw [← hσ];unfold sgE
     have:Nat.blt k sp.nx=true:=by rw [Nat.blt_eq];exact hk
     rw [this];rfl
   simp only at h
   split at h
   · rename_i es rest ht
     injection h with h;subst h
     have o1:sp.v.ren σ=v':=hob _ (List.mem_cons_self ..)
     have o2:sp.post.map (Ent.ren σ)=es:=hob _ (List.mem_cons_of_mem _ (List.mem_cons_self ..))
     have key:bodyPost P (fnOf P sp.f) (SpPost sp κ0 w0) .ret (patch s.x s.n (denE κ s.e)) w:=by
       refine rvA_ok hv hh ⟨fun k=>κ (σ k),fun k hk=>?_,?_,?_⟩
       · show (κ (σ k)).n=_/\(κ (σ k)).a=_
         rw [hlt k hk];exact ha k hk
       · rw [← o1,ren_den]
       have h1:=hh.perm (takeK_perm ht).1
       have e1:es.map (Ent.res κ)=sp.post.map (Ent.res fun k=>κ (σ k)):=by
         rw [← o2,List.map_map];exact List.map_congr_left fun e _=>Ent.ren_res κ σ e
       refine ⟨?_,fun e he=>absurd he List.not_mem_nil,fun e he=>?_⟩
       · have h2:=h1.ha
         rw [List.map_append,e1] at h2
         exact HA.reRo (HA.dropL (h2.perm List.perm_append_comm)) (fun r hr=>absurd hr List.not_mem_nil)
       rw [← Ent.ren_holds]
       exact h1.hh _ (List.mem_append_left _ (by rw [← o2];exact List.mem_map.2 ⟨e,he,rfl⟩))
     obtain ⟨x,n,k_,cu,ks,e,fs,H,ro,nx,ob⟩:=s
     cases cu with
     | ex ex =>
       cases ks with
       | nil =>
         cases fs with
         | nil =>
           cases ex with
           | ret=>exact key
           | normal=>exact key
           | _=>cases hi
         | cons f fs=>cases ex <;> cases hi
       | cons y ks=>cases ex <;> cases hi
     | _=>cases hi
   cases h
 cases h⟩
/-- The end. -/
theorem kEnd{sp:Sp}{κ0:Kp}{w0:World}{s:AS}(pls:List (Pl P))(il:List Nat:=[])(m0:List (Nat × Nat):=[])(ob:obX (goA P pls il 9999999 s).ob=obY (goA P pls il 9999999 s).ob:=by kernel_rfl)(hi:isEA (goA P pls il 9999999 s)=true:=by kernel_rfl)
   (h:(endOb P sp (goA P pls il 9999999 s) m0).isSome=true:=by kernel_rfl) (ob2:obX ((endOb P sp (goA P pls il 9999999 s) m0).getD [])=obY ((endOb P sp (goA P pls il 9999999 s) m0).getD []):=by kernel_rfl):MA (cx P sp κ0 w0) s:=by
 refine kGo (C:=cx P sp κ0 w0) pls il 9999999 ?_ ob
 cases hq:endOb P sp (goA P pls il 9999999 s) m0 with
 | none=>rw [hq] at h;cases h
 | some l=>rw [hq] at ob2;exact endA m0 (ob_ok ob2) hq hi
/-- A function that is walked at one go. -/
theorem s1{s:Sp}(pls:List (Pl P))(il:List Nat:=[])(m0:List (Nat × Nat):=[])(ok:enB P s=true:=by kernel_rfl)(ob:obX (goA P pls il 9999999 (entA P s)).ob=obY (goA P pls il 9999999 (entA P s)).ob:=by kernel_rfl)(hi:isEA (goA P pls il 9999999 (entA P s))=true:=by kernel_rfl)
   (h:(endOb P s (goA P pls il 9999999 (entA P s)) m0).isSome=true:=by kernel_rfl) (ob2:obX ((endOb P s (goA P pls il 9999999 (entA P s)) m0).getD [])=obY ((endOb P s (goA P pls il 9999999 (entA P s)) m0).getD []):=by kernel_rfl):Spec P s:=
 sE (fun _ _=>kEnd pls il m0 ob hi h ob2) ok
end
end
section
open Go.RowKit Go.QT
section
variable{P:Program}{C:Cx P}{il:List Nat}
/-! ### Branches -/
noncomputable def cndA (s:AS):Option Value:=match s.cu with | .code (.cond o _ _)=>(match evA s.x s.n s.e o with | .v u=>some u|_=>none)|_=>none
def pickA(b:Bool)(s:AS):AS:=match s.cu with | .code (.cond _ c d)=>⟨s.x,s.n,s.k,.code (bif b then c else d),s.ks,s.e,s.fs,s.H,s.ro,s.nx,s.ob⟩|_=>s
theorem pickA_ok{s:AS}{b:Bool}(hc:cndA s=some (.bool b))(k:MA C (pickA b s)):MA C s:=⟨fun ok κ w ha hh=>by
 obtain ⟨x,n,k_,cu,ks,e,fs,H,ro,nx,ob⟩:=s
 cases cu with
 | code c =>
   cases c with
   | cond o c d =>
     have hc:(match evA x n e o with | .v u=>some u|_=>none)=some (.bool b):=hc
     have hev:(patch x n (denE κ e)).eval o=.bool b:=by
       rw [evA_den]
       show (evA x n e o).den κ=_
       split at hc
       · rename_i u hu
         injection hc with hc;subst hc
         rw [hu];rfl
       cases hc
     refine wp_cond (t:=b) hev ?_
     have:=k.run ⟨ok.e,ok.fs,ok.ro,ok.H,ok.n0⟩ κ w ha hh
     cases b <;> exact this
   | _=>cases hc
 | _=>cases hc⟩
/-- A test: b is what is told of it. -/
theorem kB{s:AS}(pls:List (Pl P))(il:List Nat)(t:Nat)(b:Bool)(hc:cndA (goA P pls il (t+1000000) s)=some (.bool b))(k:MA C (pickA b (goA P pls il (t+1000000) s)))
   (ob:obX (goA P pls il (t+1000000) s).ob=obY (goA P pls il (t+1000000) s).ob:=by kernel_rfl):MA C s:=kGo pls il _ (pickA_ok hc k) ob
theorem kIf{s:AS}(pls:List (Pl P))(il:List Nat)(t:Nat)(p:Prop)[Decidable p](ht:p->MA C (pickA true (goA P pls il (t+1000000) s)))(hf:¬ p->MA C (pickA false (goA P pls il (t+1000000) s)))
   (hc:cndA (goA P pls il (t+1000000) s)=some (.bool (decide p)):=by kernel_rfl) (ob:obX (goA P pls il (t+1000000) s).ob=obY (goA P pls il (t+1000000) s).ob:=by kernel_rfl):MA C s:=by
 by_cases h:p
 · exact kB pls il t true (by rw [hc,decide_eq_true h]) (ht h) ob
 exact kB pls il t false (by rw [hc,decide_eq_false h]) (hf h) ob
/-! ### States that are told once -/
/-- Slots and things, by an index. -/
structure Fm(ι:Type) where
 e:ι->List (Nat × AV)
 H:ι->List Ent
 nx:Nat
def Fm.In{ι:Type}(J:Fm ι)(C:Cx P)(n:Nat)(ro:List Ent)(i:ι)(a:Act)(w:World):Prop:=∃ y κ,Agr (· < C.n0) C.κ0 κ/\a=patch y n (denE κ (J.e i))/\HE C.F0 C.w0 w κ ro (J.H i)
def Fm.ok{ι:Type}(J:Fm ι)(C:Cx P)(ro:List Ent)(i:ι):Bool:=(J.e i).all (fun p=>p.2.lt J.nx) && (J.H i).all (Ent.lt J.nx) && ro.all (Ent.lt J.nx) && Nat.ble C.n0 J.nx
theorem Fm.ok_AOk{ι:Type}{J:Fm ι}{ro:List Ent}{i:ι}(h:J.ok C ro i=true)(x:Nat->Value)(n kk:Nat)(cu:CuA)(ks:List KnA)(ob:List Ob):AOk C.n0 ⟨x,n,kk,cu,ks,J.e i,[],J.H i,ro,J.nx,ob⟩:=by
 unfold Fm.ok at h
 simp only [Bool.and_eq_true] at h
 obtain ⟨⟨⟨h1,h2⟩,h3⟩,h4⟩:=h
 exact ⟨fun p hp=>lt_ok _ (List.all_eq_true.1 h1 p hp),fun f hf=>absurd hf List.not_mem_nil,fun e he=>Ent.lt_ok (List.all_eq_true.1 h3 e he),fun e he=>Ent.lt_ok (List.all_eq_true.1 h2 e he),Nat.le_of_ble_eq_true h4⟩
/-- A walk comes to what is told once. -/
noncomputable def inM {ι:Type} (n0:Nat) (J:Fm ι) (i:ι) (s:AS) (m0:List (Nat × Nat)):List (Nat × Nat):=uniE s.H (J.H i) (uniE s.H (J.H i) (AV.uniL ((J.e i).map (·.2)) ((J.e i).map fun p=>lookA s.x s.e p.1) (m0++(List.range n0).map fun k=>(k,k))))
noncomputable def inOb {ι:Type} (n0:Nat) (J:Fm ι) (i:ι) (s:AS) (m0:List (Nat × Nat)):Option (List Ob):=
 (fun σ:Nat->Nat=>match takeK ((J.H i).map fun e=>σ e.key) s.H with
   | some (es,_)=>some [⟨List AV,(J.e i).map (fun p=>p.2.ren σ),(J.e i).map fun p=>lookA s.x s.e p.1⟩,⟨List Ent,(J.H i).map (Ent.ren σ),es⟩]
   | none=>none) (sgE (inM n0 J i s m0) n0)
theorem in_ok{ι:Type}{J:Fm ι}{i:ι}{s:AS}{m0:List (Nat × Nat)}{ob:List Ob}(h:inOb C.n0 J i s m0=some ob)(hob:obOk ob){κ:Kp}{w:World}(ha:Agr (· < C.n0) C.κ0 κ)(hh:HE C.F0 C.w0 w κ s.ro s.H)(hro:∀ e ∈ s.ro,e.ok (· < C.n0)):J.In C s.n s.ro i (patch s.x s.n (denE κ s.e)) w:=by
 unfold inOb at h
 generalize hσ:sgE (inM C.n0 J i s m0) C.n0=σ at h
 have hlt:∀ k,k<C.n0->σ k=k:=by
   intro k hk
   rw [← hσ];unfold sgE
   have:Nat.blt k C.n0=true:=by rw [Nat.blt_eq];exact hk
   rw [this];rfl
 simp only at h
 split at h
 · rename_i es rest ht
   injection h with h;subst h
   have o1:(J.e i).map (fun p=>p.2.ren σ)=(J.e i).map fun p=>lookA s.x s.e p.1:=hob _ (List.mem_cons_self ..)
   have o2:(J.H i).map (Ent.ren σ)=es:=hob _ (List.mem_cons_of_mem _ (List.mem_cons_self ..))
   refine ⟨look s.x (denE κ s.e),fun k=>κ (σ k),fun k hk=>?_,?_,?_⟩
   · show (κ (σ k)).n=_/\(κ (σ k)).a=_
     rw [hlt k hk];exact ha k hk
   · have e1:(denE (fun k=>κ (σ k)) (J.e i)).map (fun p=>look s.x (denE κ s.e) p.1)=(denE (fun k=>κ (σ k)) (J.e i)).map (·.2):=by
       unfold denE
       rw [List.map_map,List.map_map]
       have h2:=List.map_inj_left.1 o1
       refine List.map_congr_left fun p hp=>?_
       show look s.x (denE κ s.e) p.1=p.2.den (fun k=>κ (σ k))
       rw [← ren_den,h2 p hp,look_den]
     unfold patch
     congr 2
     have:look (look s.x (denE κ s.e)) (denE (fun k=>κ (σ k)) (J.e i))=look s.x (denE κ s.e):=funext fun q=>look_dead (look s.x (denE κ s.e)) _ e1 q
     rw [this]
   have h1:=hh.perm (takeK_perm ht).1
   have e1:es.map (Ent.res κ)=(J.H i).map (Ent.res fun k=>κ (σ k)):=by
     rw [← o2,List.map_map];exact List.map_congr_left fun e _=>Ent.ren_res κ σ e
   have ag:AgR (· < C.n0) [] κ (fun k=>κ (σ k)):=fun k hk=>by
     have e:(fun k=>κ (σ k)) k=κ k:=by show κ (σ k)=_;rw [hlt k hk]
     rw [e];exact ⟨rfl,rfl,fun _=>rfl⟩
   refine ⟨?_,fun e he=>Ent.holds_agr ag (hro e he) List.not_mem_nil (hh.hr e he),fun e he=>?_⟩
   · have h2:=h1.ha
     rw [List.map_append,e1] at h2
     rw [map_agr ag s.ro hro (fun _ _=>List.not_mem_nil)]
     exact HA.dropL (h2.perm List.perm_append_comm)
   rw [← Ent.ren_holds]
   exact h1.hh _ (List.mem_append_left _ (by rw [← o2];exact List.mem_map.2 ⟨e,he,rfl⟩))
 cases h
def atA(s:AS):Option (Act->World->Prop):=match s.cu,s.ks with | .ex .normal,.stop K::_=>some K|_,_=>none
theorem kK{ι:Type}{s:AS}{J:Fm ι}{K:Act->World->Prop}{n:Nat}{ro:List Ent}(pls:List (Pl P))(i:ι)(hK:∀ a w,J.In C n ro i a w->K a w)(il:List Nat:=[])(m0:List (Nat × Nat):=[])(ob:obX (goA P pls il 9999999 s).ob=obY (goA P pls il 9999999 s).ob:=by kernel_rfl)(hr:(goA P pls il 9999999 s).ro=ro:=by kernel_rfl)(hn:(goA P pls il 9999999 s).n=n:=by kernel_rfl)(hf:(goA P pls il 9999999 s).fs=[]:=by kernel_rfl)
   (hb:ro.all (Ent.lt C.n0)=true:=by kernel_rfl) (h:(inOb C.n0 J i (goA P pls il 9999999 s) m0).isSome=true:=by kernel_rfl) (ob2:obX ((inOb C.n0 J i (goA P pls il 9999999 s) m0).getD [])=obY ((inOb C.n0 J i (goA P pls il 9999999 s) m0).getD []):=by kernel_rfl) (at_:atA (goA P pls il 9999999 s)=some K:=by kernel_rfl):MA C s:=by
 refine kGo pls il 9999999 ?_ ob
 generalize goA P pls il 9999999 s=t at hr hn hf h ob2 at_
 subst hr;subst hn
 cases hq:inOb C.n0 J i t m0 with
 | none=>rw [hq] at h;cases h
 | some l =>
   rw [hq] at ob2
   refine ⟨fun ok κ w ha hh=>?_⟩
   have hin:=in_ok hq (ob_ok ob2) ha hh fun e he=>Ent.lt_ok (List.all_eq_true.1 hb e he)
   obtain ⟨x,n,k_,cu,ks,e,fs,H,ro,nx,ob⟩:=t
   have hf:fs=[]:=hf
   subst hf
   cases cu with
   | ex ex =>
     cases ex with
     | normal =>
       cases ks with
       | nil=>cases at_
       | cons y ks=>cases y with
         | stop K' =>
           have e:K'=K:=Option.some.inj at_
           subst e;exact hK _ _ hin
         | _=>cases at_
     | _=>cases at_
   | _=>cases at_
def lpA(s:AS):Code:=match s.cu with | .code (.loop c)=>c|_=>.skip
def isLA(s:AS):Bool:=match s.cu with | .code (.loop _)=>true|_=>false
/-- A loop: J, for an index whose measure goes down. -/
theorem kL{ι:Type}{s:AS}(pls:List (Pl P))(il:List Nat)(J:Fm ι)(μ:ι->Nat)(i0:ι)(m0:List (Nat × Nat))
   (k:∀ (K:Act->World->Prop) (i:ι) (y:Nat->Value),(∀ j a w,μ j<μ i->J.In C (goA P pls il 3000000 s).n (goA P pls il 3000000 s).ro j a w->K a w)->MA C ⟨y,(goA P pls il 3000000 s).n,(goA P pls il 3000000 s).k,.code (lpA (goA P pls il 3000000 s)),.stop K::(goA P pls il 3000000 s).ks,J.e i,[],J.H i,(goA P pls il 3000000 s).ro,J.nx,[]⟩)
   (hj:∀ i,J.ok C (goA P pls il 3000000 s).ro i=true) (ob:obX (goA P pls il 3000000 s).ob=obY (goA P pls il 3000000 s).ob:=by kernel_rfl) (hb:(goA P pls il 3000000 s).ro.all (Ent.lt C.n0)=true:=by kernel_rfl)
   (h:(inOb C.n0 J i0 (goA P pls il 3000000 s) m0).isSome=true:=by kernel_rfl) (ob2:obX ((inOb C.n0 J i0 (goA P pls il 3000000 s) m0).getD [])=obY ((inOb C.n0 J i0 (goA P pls il 3000000 s) m0).getD []):=by kernel_rfl) (hl:isLA (goA P pls il 3000000 s)=true:=by kernel_rfl) (hf:(goA P pls il 3000000 s).fs=[]:=by kernel_rfl):MA C s:=by
 refine kGo pls il 3000000 ?_ ob
 generalize goA P pls il 3000000 s=t at k hj hb h ob2 hl hf
 cases hq:inOb C.n0 J i0 t m0 with
 | none=>rw [hq] at h;cases h
 | some l =>
   rw [hq] at ob2
   refine ⟨fun ok κ w ha hh=>?_⟩
   have hin:=in_ok hq (ob_ok ob2) ha hh fun e he=>Ent.lt_ok (List.all_eq_true.1 hb e he)
   obtain ⟨x,n,k_,cu,ks,e,fs,H,ro,nx,ob⟩:=t
   have hf:fs=[]:=hf
   subst hf
   cases cu with
   | code c =>
     cases c with
     | loop c =>
       refine wp_loopm (fun m _ a w=>∃ i,μ i=m/\J.In C n ro i a w) ⟨_,i0,rfl,hin⟩ fun m _ a w ⟨i,hm,y,κ,h1,h2,h3⟩=>?_
       subst h2;subst hm
       exact (k (fun a' w'=>∃ m',m'<μ i/\∃ j,μ j=m'/\J.In C n ro j a' w') i y fun j a w hlt hJ=>⟨μ j,hlt,j,rfl,hJ⟩).run (Fm.ok_AOk (hj i) _ _ _ _ _ _) κ w h1 h3
     | _=>cases hl
   | _=>cases hl
end
end
section
open Go.RowKit Go.QT
/-- The iterator of a string in block k. -/
def rIter(k:Nat)(s:ByteArray)(pos:Nat):Res where
 F:=fun q=>q=k
 Φ:=fun w=>w.heap[k]?=some (.stringIter s pos)
 lt:=fun h q hq=>by subst hq;exact (Array.getElem?_eq_some_iff.1 h).1
 keep:=fun h _ hk=>(hk _ rfl).trans h
section
variable{P:Program}{F0:Nat->Prop}{w0 w:World}{ro rs:List Res}{o:Oper}{a:Act}
theorem x_range(h:Hp F0 w0 w ro rs)(t:TypeId)(x:Operand)(ho:o.op=.range t x)(s:ByteArray)(hx:a.eval x=.string s)(hu:P.underlying t=some .string) :
   OpTo P o a w (fun v w'=>∃ k,v=pt k 0/\Hp F0 w0 w' ro (rIter k s 0::rs)):=by
 refine OpTo.run (w':=w.iter s 0) (pt w.heap.size 0) ?_ ⟨_,rfl,h.newS ((Below.refl _ _).alloc (Nat.le_refl _) _) (rIter w.heap.size s 0) (World.iter_heap w s 0) (fun q hq=>by rw [show q=_ from hq];exact Nat.le_refl _)⟩
 unfold execOp
 simp [ho,hx,run_range_string w t s hu,pt,Result.andThen]
theorem Fr.iterAt(w:World)(k:Nat)(s:ByteArray)(pos:Nat):Fr (fun q=>q=k) w (w.iterAt k s pos):=
 ⟨rfl,rfl,rfl,by rw [Lib.iterAt_size];exact Nat.le_refl _,fun i _ hn=>Lib.iterAt_other w k i s pos hn⟩
/-- next: the rune at pos, or the end. -/
theorem x_next(h:Hp F0 w0 w ro rs)(i:Nat){k:Nat}{s:ByteArray}{pos:Nat}(hi:rs[i]?=some (rIter k s pos))(x:Operand)(ho:o.op=.next x true)(hx:a.eval x=pt k 0)(hp:pos<s.size) :
   OpTo P o a w (fun v w'=>v=.tuple #[.bool true,.int .i64 pos,.int .i32 (Utf8.decode s pos).1]/\Hp F0 w0 w' ro (rs.set i (rIter k s (pos+(Utf8.decode s pos).2)))):=by
 have hk:w.heap[k]?=some (.stringIter s pos):=h.own i _ hi
 refine OpTo.run (w':=w.iterAt k s (pos+(Utf8.decode s pos).2)) _ ?_ ⟨rfl,h.upd i hi (Fr.iterAt w k s _) (rIter k s _) (Lib.iterAt_heap w k s pos _ hk) (fun q hq=>.inl hq)⟩
 unfold execOp
 have:=Lib.run_next_any_at (P:=P) w k s pos o.type hk hp
 simp [ho,hx,pt,this,Result.andThen]
theorem x_nextE(h:Hp F0 w0 w ro rs)(i:Nat){k:Nat}{s:ByteArray}{pos:Nat}(hi:rs[i]?=some (rIter k s pos))(x:Operand)(ho:o.op=.next x true)(hx:a.eval x=pt k 0)(hp:¬ pos<s.size) :
   OpTo P o a w (fun v w'=>v=.tuple #[.bool false]/\Hp F0 w0 w' ro rs):=by
 have hk:w.heap[k]?=some (.stringIter s pos):=h.own i _ hi
 refine OpTo.run (w':=w) _ ?_ ⟨rfl,h⟩
 unfold execOp
 have:=Lib.run_next_end_at (P:=P) w k s pos o.type hk hp
 simp [ho,hx,pt,this,Result.andThen]
end
end
section
open Go.RowKit Go.QT
def spV(p:Int × Int):List Value:=[.int .i32 p.1,.int .i32 p.2]
def inR(c:Int)(l:List (Int × Int)):Bool:=l.any fun p=>decide (c ≥ p.1) && decide (c<=p.2)
def ltrL:List (Int × Int):=[(97,122),(224,246),(248,254),(945,961),(963,969),(1072,1103)]
def letterN(c:Int):Bool:=inR c ltrL
def digL:List (Int × Int):=[(48,57),(45,45)]
theorem spV_get{l:List (Int × Int)}{k:Nat}{p:Int × Int}(h:l[k]?=some p):(l.map spV)[k]?=some [.int .i32 p.1,.int .i32 p.2]:=by
 rw [List.getElem?_map,h];rfl
theorem inR_all{c:Int}{l:List (Int × Int)}{k:Nat}(hk:k=l.length)(h:∀ j p,j<k->l[j]?=some p->¬ (c ≥ p.1/\c<=p.2)):inR c l=false:=by
 unfold inR
 rw [List.any_eq_false]
 intro p hp
 obtain ⟨j,hj,rfl⟩:=List.getElem_of_mem hp
 have:=h j l[j] (by omega) (List.getElem?_eq_getElem hj)
 simpa using this
theorem inR_one{c:Int}{l:List (Int × Int)}{k:Nat}{p:Int × Int}(hp:l[k]?=some p)(h1:c ≥ p.1)(h2:c<=p.2):inR c l=true:=by
 unfold inR
 rw [List.any_eq_true]
 exact ⟨p,List.mem_of_getElem? hp,by simp [h1,h2]⟩
theorem inR_step{c:Int}{l:List (Int × Int)}{k:Nat}{p:Int × Int}(hp:l[k]?=some p)(hn:¬ (c ≥ p.1/\c<=p.2))(h:∀ j p,j<k->l[j]?=some p->¬ (c ≥ p.1/\c<=p.2)):∀ j p,j<k+1->l[j]?=some p->¬ (c ≥ p.1/\c<=p.2):=by
 intro j q hj hq
 by_cases e:j=k
 · subst e;rw [hp] at hq;injection hq with hq;subst hq;exact hn
 exact h j q (by omega) hq
end
section
open Go.RowKit Go.QT
theorem nin_any(cc:Int)(l:List (Int × Int))(A:Option Addr)(c:Nat)(w:World)(hl:l.length<=1000)(h:Hp (fun _=>False) w w [rRV 2 A c (l.map spV)] []) :
   Calls Tryz.prog 136 #[.int .i32 cc,.slice A l.length c] w fun e w'=>e=.returned (.bool (inR cc l))/\Below w.heap.size w w':=by
 have h0:=h
 refine mE 24 ?_
 refine mL (fun mM xX aA wL=>∃ (k:Nat),(k<=l.length)/\(∀ j p,j<k->l[j]?=some p->¬ (cc ≥ p.1/\cc<=p.2))/\mM=l.length-k/\aA=patch xX 24 [(0,(Value.int .i32 cc)),(7,(Value.slice A l.length c)),(8,(Value.int .i64 ((l.length:Int)))),(9,(Value.int .i64 ((k:Int))))]/\Hp (fun _=>False) w wL [rRV 2 A c ((l.map spV))] []) ⟨_,_,0,(by omega),(fun _ _ h=>absurd h (Nat.not_lt_zero _)),rfl,pM,h0.sel [] [0] (by kernel_rfl) rfl rfl⟩ ?_
 rintro _ x4 _ w4 ⟨k,hk,hN,rfl,rfl,h4⟩ KL4 hKL4
 refine mAt ?_
 by_cases b6:k<l.length
 ·
  refine mX 10 (.bool true) (Value.bool (decide ((k:Int)<(l.length:Int)))) (by simp;omega) ?_
  obtain ⟨p,hp⟩:∃ p,l[k]?=some p:=⟨_,List.getElem?_eq_getElem (by omega)⟩
  refine mW 11 (eIx (RV.lenIs (n:=l.length) (h4.rd 0 rfl) (by simp)).2 k l.length (RV.lenIs (n:=l.length) (h4.rd 0 rfl) (by simp)).1 (by omega) 301 (.tmp 7) (.tmp 9) .i64 296) ?_
  refine mW 12 (e_elemsN (RV.lenIs (n:=l.length) (h4.rd 0 rfl) (by simp)).2 k 0 ([(Value.int .i32 p.1),(Value.int .i32 p.2)]) (spV_get hp) 296 (.tmp 11) (by kernel_rfl) ([(Value.int .i32 p.1),(Value.int .i32 p.2)]) (by kernel_rfl) (by kernel_rfl) (by kernel_rfl)) ?_
  refine mN h4 296 ([(Value.int .i32 0),(Value.int .i32 0)]) fun g10 w10 h10=>?_
  refine mT (xSs h10 0 296 (.tmp 6) (.tmp 12) 0 ([(Value.int .i32 p.1),(Value.int .i32 p.2)]) ([(Value.int .i32 p.1),(Value.int .i32 p.2)])) fun _ w11 h11=>?_
  rcases (show (cc ≥ p.1/\cc<=p.2)∨(¬ cc ≥ p.1)∨(cc ≥ p.1/\¬ cc<=p.2) by omega) with ⟨hq1,hq2⟩|hq1|⟨hq1,hq2⟩
  ·
   refine ma h11 0 ?_
   refine mX 16 (.bool true) (Value.bool (decide (cc ≥ p.1))) (by simp;omega) ?_
   refine ma h11 0 ?_
   refine mX 21 (.bool true) (Value.bool (decide (cc<=p.2))) (by simp;omega) ?_
   exact mQe (Value.bool true) h11 (by rw [inR_one hp hq1 hq2])
  ·
   refine ma h11 0 ?_
   refine mX 16 (.bool false) (Value.bool (decide (cc ≥ p.1))) (by simp;omega) ?_
   refine mW 23 (exec_add _ _ _ _ bO ((k:Int)) 1 (by kernel_rfl) (by kernel_rfl) ((k:Int)+1) rfl (by omega) (by omega) _) ?_
   exact mK KL4 (hKL4 _ _ ⟨l.length-(k+1),_,(by omega),(k+1),(by omega),(inR_step hp (by omega) hN),rfl,pM,h11.sel [] [0] (by kernel_rfl) rfl rfl⟩)
  refine ma h11 0 ?_
  refine mX 16 (.bool true) (Value.bool (decide (cc ≥ p.1))) (by simp;omega) ?_
  refine ma h11 0 ?_
  refine mX 21 (.bool false) (Value.bool (decide (cc<=p.2))) (by simp;omega) ?_
  refine mW 23 (exec_add _ _ _ _ bO ((k:Int)) 1 (by kernel_rfl) (by kernel_rfl) ((k:Int)+1) rfl (by omega) (by omega) _) ?_
  exact mK KL4 (hKL4 _ _ ⟨l.length-(k+1),_,(by omega),(k+1),(by omega),(inR_step hp (by omega) hN),rfl,pM,h11.sel [] [0] (by kernel_rfl) rfl rfl⟩)
 refine mX 10 (.bool false) (Value.bool (decide ((k:Int)<(l.length:Int)))) (by simp;omega) ?_
 exact mQe (Value.bool false) h4 (by rw [inR_all (k:=k) (by omega) hN])
end
section
open Go.RowKit Go.QT
theorem flat_get(l:List (Int × Int)):∀ (i j:Nat) (x:List Value) (u:Value),(l.map spV)[i]?=some x->x[j]?=some u->(l.flatMap spV)[i*2+j]?=some u:=by
 induction l with
 | nil=>intro i j x u h;cases h
 | cons p l ih =>
   intro i j x u hx hu
   cases i with
   | zero =>
     injection hx with hx;subst hx
     have hj:j<2:=(List.getElem?_eq_some_iff.1 hu).1
     simp only [List.flatMap_cons,Nat.zero_mul,Nat.zero_add]
     rw [List.getElem?_append_left (by exact hj)]
     exact hu
   | succ i =>
     have:=ih i j x u hx hu
     simp only [List.flatMap_cons]
     rw [List.getElem?_append_right (by show 2<=_;omega),show (i+1)*2+j-(spV p).length=i*2+j by show (i+1)*2+j-2=_;omega]
     exact this
theorem rv_spans{w:World}{g:Nat}{T:TypeId}{cs:List Value}(hb:Blk w g T cs)(l:List (Int × Int))(hc:cs=l.flatMap spV)(hl:l.length<=1000):RV w 2 (some ⟨g,0,none⟩) l.length (l.map spV):=by
 subst hc
 refine ⟨by simp,by unfold maxLen;omega,?_,fun _=>⟨g,0,rfl,hb.lt,fun i x hx j u hu=>?_⟩⟩
 · intro x hx
   obtain ⟨p,_,rfl⟩:=List.mem_map.1 hx
   rfl
 rw [show 0+i*2+j=i*2+j by omega]
 exact (hb.cell _).trans (flat_get l i j x u hx hu)
section
variable{F0:Nat->Prop}{w0 w:World}{ro rs:List Res}{o:Oper}{a:Act}
theorem x_nin(h:Hp F0 w0 w ro rs)(i:Nat){g:Nat}{T:TypeId}{cs:List Value}(hi:rs[i]?=some (rBlk g T cs))(c:Int)(l:List (Int × Int))(n:Nat)(hc:cs=l.flatMap spV)(hn:l.length=n)(hl:n<=1000)
   (hp:pureVal Tryz.prog (execOp a.eval o)=some (.enter 136 #[.int .i32 c,.slice (some ⟨g,0,none⟩) n n])) :
   OpTo Tryz.prog o a w (fun u w'=>u=.bool (inR c l)/\Hp F0 w0 w' ro rs):=by
 subst hn
 have hb:Blk w g T cs:=h.own i _ hi
 refine OpTo.enter 136 [.int .i32 c,.slice (some ⟨g,0,none⟩) l.length l.length] hp (nin_any c l _ _ w hl ((Hp.nil (fun _=>False) w).addR _ (rv_spans hb l hc hl) (by simp))) fun e w' hq=>?_
 exact ⟨_,hq.1,rfl,h.below hq.2⟩
end
end
end Go.Proofs.YtaoijkhndakppaaGreat
