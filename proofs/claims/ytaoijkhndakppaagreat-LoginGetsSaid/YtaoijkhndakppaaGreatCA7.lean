/- What der's body leaves;laws on lists of values. -/
import Derived.Lib.OthersKept
import Derived.Lib.RuneCount
import Derived.Test.YtaoijkhndakppaaGreatCA6
set_option maxRecDepth 100000
set_option maxHeartbeats 4000000
namespace Go.Proofs.YtaoijkhndakppaaGreat
section
open Go.RowKit Go.QT
/-- Ahead of a round of a loop. -/
def wpLoop(P:Program)(c:Code)(Q:Exit->Act->World->Prop)(a:Act)(w:World):Prop:=
 ∀ (b:Frame) (k:List Item) (cs:List Frame),∃ e a' w',Q e a' w'/\Arrives P (lone (b.at a (.code c::.inLoop c::k)) cs w) b k cs e a' w'
theorem loop_in{P:Program}{c:Code}{Q:Exit->Act->World->Prop}{a:Act}{w:World}(h:wpLoop P c Q a w):(Code.loop c).wp P Q a w:=fun b k cs=>by
 obtain ⟨e,a',w',hq,harr⟩:=h b k cs
 exact ⟨e,a',w',hq,.of_steps (.one step_loop) harr⟩
theorem loop_round{P:Program}{c:Code}{Q:Exit->Act->World->Prop}{a:Act}{w:World}(h:c.wp P (Exit.then (wpLoop P c Q) Q) a w):wpLoop P c Q a w:=fun b k cs=>by
 obtain ⟨e,a₁,w₁,hq,harr⟩:=h b (.inLoop c::k) cs
 cases e with
 | normal =>
   obtain ⟨e₂,a₂,w₂,hq₂,harr₂⟩:=hq b k cs
   exact ⟨e₂,a₂,w₂,hq₂,.of_steps (Steps.trans harr (.one step_inLoop)) harr₂⟩
 | exit id=>exact ⟨_,a₁,w₁,hq,.pass (x:=.inLoop c) rfl (fun _ _=>.inl (by simp)) harr⟩
 | goto l=>exact ⟨_,a₁,w₁,hq,.pass (x:=.inLoop c) rfl (fun _ _=>.inl (by simp)) harr⟩
 | ret=>exact ⟨_,a₁,w₁,hq,.pass (x:=.inLoop c) rfl (fun _ _=>.inl (by simp)) harr⟩
 | panic ch=>exact ⟨_,a₁,w₁,hq,.pass (x:=.inLoop c) rfl (fun _ _=>.inl (by simp)) harr⟩
 | outgrown=>exact ⟨_,a₁,w₁,hq,.pass (x:=.inLoop c) rfl (fun _ _=>.inl (by simp)) harr⟩
/-- What stands behind. -/
inductive KnA where
 | seq (c:Code)
 | blk (i:Nat)
 | lp (c:Code)
 | stop (K:Act->World->Prop)
def KQA(P:Program)(Q:Exit->Act->World->Prop):List KnA->Exit->Act->World->Prop
 | []=>Q
 | .seq c::ks=>Exit.then (c.wp P (KQA P Q ks)) (KQA P Q ks)
 | .blk i::ks=>Exit.inBlock i (KQA P Q ks)
 | .lp c::ks=>Exit.then (wpLoop P c (KQA P Q ks)) (KQA P Q ks)
 | .stop K::ks=>Exit.then K (KQA P Q ks)
theorem KQA_panic{P:Program}{Q:Exit->Act->World->Prop}(c:List PanicEntry):∀ (ks:List KnA) (a:Act) (w:World),KQA P Q ks (.panic c) a w=Q (.panic c) a w
 | [],_,_=>rfl
 | .seq _::ks,a,w=>KQA_panic c ks a w
 | .blk _::ks,a,w=>KQA_panic c ks a w
 | .lp _::ks,a,w=>KQA_panic c ks a w
 | .stop _::ks,a,w=>KQA_panic c ks a w
inductive CuA where
 | code (c:Code)
 | ops (i j:Nat) (all:Array Oper) (l:List Oper)
 | ex (e:Exit)
/-- Who called: their slots, and where they go on. -/
structure Ca where
 fn:Func
 x:Nat->Value
 n:Nat
 k:Nat
 e:List (Nat × AV)
 i:Nat
 j:Nat
 all:Array Oper
 l:List Oper
 ks:List KnA
 d:Option Nat
structure AS where
 x:Nat->Value
 n:Nat
 k:Nat
 cu:CuA
 ks:List KnA
 e:List (Nat × AV)
 fs:List Ca
 H:List Ent
 ro:List Ent
 nx:Nat
 ob:List Ob
def runA(P:Program)(Q:Exit->Act->World->Prop)(cu:CuA)(ks:List KnA)(a:Act)(w:World):Prop:=
 match cu with
 | .code c=>c.wp P (KQA P Q ks) a w
 | .ops _ _ all l=>wpList P all (KQA P Q ks) l a w
 | .ex e=>KQA P Q ks e a w
/-- What the callers ask. -/
def bsQ(P:Program)(Q:Exit->Act->World->Prop)(κ:Kp):List Ca->Exit->Act->World->Prop
 | []=>Q
 | f::fs=>bodyPost P f.fn fun en w'=>∃ v,en=.returned v/\wpList P f.all (KQA P (bsQ P Q κ fs) f.ks) f.l ((patch f.x f.n (denE κ f.e)).put f.d v) w'
theorem bsQ_agr{P:Program}{Q:Exit->Act->World->Prop}{A:Nat->Prop}{κ κ':Kp}(h:Agr A κ κ'):∀ fs:List Ca,(∀ f ∈ fs,∀ p ∈ f.e,p.2.ok A)->bsQ P Q κ' fs=bsQ P Q κ fs
 | [],_=>rfl
 | f::fs,hf=>by
   simp only [bsQ]
   rw [denE_agr h f.e (hf f (List.mem_cons_self ..)),bsQ_agr h fs fun g hg=>hf g (List.mem_cons_of_mem _ hg)]
theorem bsQ_panic{P:Program}{Q:Exit->Act->World->Prop}(hQ:∀ c d v a w,Q (.panic c) (Act.put a d v) w->Q (.panic c) a w)(κ:Kp):∀ fs:List Ca,∀ c d v a w,bsQ P Q κ fs (.panic c) (Act.put a d v) w->bsQ P Q κ fs (.panic c) a w
 | []=>hQ
 | f::fs=>fun c d v a w hq=>by cases d <;> exact hq
def putA:Option Nat->AV->List (Nat × AV)->List (Nat × AV)
 | some d,v,l=>(d,v)::l
 | none,_,l=>l
noncomputable def resA (P:Program) (x:Nat->Value) (n:Nat) (e:List (Nat × AV)) (H:List Ent):ResultVar->Option AV
 | .tmp t=>some (bif Nat.blt t n then lookA x e t else .v undef)
 | .cell p t=>match (bif Nat.blt p n then lookA x e p else .v undef:AV) with
   | .p k off=>bif Nat.beq off 0 then (match findK k H with
     | some (.blk _ _ cs)=>match pureVal P (isAgg t) with
       | some false=>cs[0]?
       | _=>bif rowB P t cs.length then some (.c cs) else none
     | _=>none) else none
   | _=>none
noncomputable def rvA (P:Program) (x:Nat->Value) (n:Nat) (e:List (Nat × AV)) (H:List Ent) (l:List ResultVar):Option AV:=
 match l with
 | []=>some (.t [])
 | [r]=>resA P x n e H r
 | r::r2::l=>match (r::r2::l).mapM (resA P x n e H) with|some vs=>some (.t vs)|none=>none
def posN(k:Nat):List Nat->Nat
 | []=>0
 | x::r=>bif Nat.beq k x then 0 else posN k r+1
/-- A call that is walked through. -/
noncomputable def inA (P:Program) (il:List Nat) (i j:Nat) (all:Array Oper) (o:Oper) (l:List Oper) (s:AS):Option AS:=
 match o.op with
 | .call ⟨.value (.func f),args,_⟩=>bif memB f il && enOk P f (fnOf P f).ntmps && Nat.ble args.toList.length (fnOf P f).ntmps && okD s.n o.dst then
     some ⟨fun _=>undef,(fnOf P f).ntmps,posN f il+1,.code ((fnOf P f).body.getD .skip),[],(args.toList.map (evA s.x s.n s.e)).zipIdx.map fun p=>(p.2,p.1),⟨fnOf P f,s.x,s.n,s.k,s.e,i,j,all,l,s.ks,o.dst⟩::s.fs,s.H,s.ro,s.nx,obC P o (evA s.x s.n s.e) f (args.toList.map (evA s.x s.n s.e))::s.ob⟩
   else none
 | _=>none
/-- Slots told twice, told once. -/
def hasS(d:Nat):List (Nat × AV)->Bool
 | []=>false
 | p::r=>bif Nat.beq p.1 d then true else hasS d r
def ddL:List (Nat × AV)->List (Nat × AV)->List (Nat × AV)
 | [],acc=>acc
 | p::r,acc=>bif hasS p.1 acc then ddL r acc else ddL r (p::acc)
def ddC.{u}{β:Type u}(k:List (Nat × AV)->β):List (Nat × AV)->List (Nat × AV)->β
 | [],acc=>k acc
 | p::r,acc=>bif hasS p.1 acc then ddC k r acc else ddC k r (p::acc)
theorem ddC_eq.{u}{β:Type u}(k:List (Nat × AV)->β):∀ l acc:List (Nat × AV),ddC k l acc=k (ddL l acc)
 | [],_=>rfl
 | p::r,acc=>by
   unfold ddC ddL
   cases hasS p.1 acc with
   | true=>exact ddC_eq k r acc
   | false=>exact ddC_eq k r (p::acc)
theorem look_mid(x:Nat->Value){p:Nat × AV}(l:List (Nat × AV))(i:Nat):∀ {acc:List (Nat × AV)},hasS p.1 acc=false->lookA x (p::acc++l) i=lookA x (acc++p::l) i
 | [],_=>rfl
 | q::acc,h=>by
   unfold hasS at h
   cases hb:Nat.beq q.1 p.1 with
   | true=>rw [hb] at h;cases h
   | false =>
     rw [hb] at h
     have ih:=look_mid x l i (acc:=acc) h
     show (bif Nat.beq p.1 i then p.2 else bif Nat.beq q.1 i then q.2 else lookA x (acc++l) i)=(bif Nat.beq q.1 i then q.2 else lookA x (acc++p::l) i)
     rw [← ih]
     show _=(bif Nat.beq q.1 i then q.2 else bif Nat.beq p.1 i then p.2 else lookA x (acc++l) i)
     cases h1:Nat.beq p.1 i with
     | false=>rfl
     | true =>
       cases h2:Nat.beq q.1 i with
       | false=>rfl
       | true=>rw [Nat.eq_of_beq_eq_true h1,Nat.eq_of_beq_eq_true h2,Nat.beq_refl] at hb;cases hb
theorem look_drop(x:Nat->Value){p:Nat × AV}(l:List (Nat × AV))(i:Nat):∀ {acc:List (Nat × AV)},hasS p.1 acc=true->lookA x (acc++l) i=lookA x (acc++p::l) i
 | [],h=>by cases h
 | q::acc,h=>by
   show (bif Nat.beq q.1 i then q.2 else lookA x (acc++l) i)=(bif Nat.beq q.1 i then q.2 else lookA x (acc++p::l) i)
   unfold hasS at h
   cases hb:Nat.beq q.1 p.1 with
   | false=>rw [hb] at h;rw [look_drop x l i h]
   | true =>
     cases h2:Nat.beq q.1 i with
     | true=>rfl
     | false =>
       have hq:=Nat.eq_of_beq_eq_true hb
       have hpi:Nat.beq p.1 i=false:=by rw [← hq];exact h2
       have:∀ acc:List (Nat × AV),lookA x (acc++l) i=lookA x (acc++p::l) i:=by
         intro acc
         induction acc with
         | nil=>show _=(bif Nat.beq p.1 i then p.2 else lookA x l i);rw [hpi];rfl
         | cons q acc ih =>
           show (bif Nat.beq q.1 i then q.2 else lookA x (acc++l) i)=(bif Nat.beq q.1 i then q.2 else lookA x (acc++p::l) i)
           rw [ih]
       simp only [cond_false];exact this acc
theorem ddL_look(x:Nat->Value)(i:Nat):∀ l acc:List (Nat × AV),lookA x (ddL l acc) i=lookA x (acc++l) i
 | [],acc=>by rw [List.append_nil];rfl
 | p::r,acc=>by
   unfold ddL
   cases h:hasS p.1 acc with
   | true=>rw [cond_true,ddL_look x i r acc];exact look_drop x r i h
   | false=>rw [cond_false,ddL_look x i r (p::acc)];exact look_mid x r i h
theorem ddL_mem:∀ {l acc:List (Nat × AV)} {q:Nat × AV},q ∈ ddL l acc->q ∈ acc∨q ∈ l
 | [],_,_,h=>.inl h
 | p::r,acc,q,h=>by
   unfold ddL at h
   cases hb:hasS p.1 acc with
   | true=>rw [hb] at h;exact (ddL_mem h).imp id (List.mem_cons_of_mem _)
   | false =>
     rw [hb] at h
     rcases ddL_mem h with h|h
     · rcases List.mem_cons.1 h with rfl|h
       · exact .inr (List.mem_cons_self ..)
       exact .inl h
     exact .inr (List.mem_cons_of_mem _ h)
/-- One step. It stops ahead of the operation that gives the slot t, of a test of the slot t - 1000000, of the region t - 2000000, of a loop (t = 3000000). -/
noncomputable def stpA (P:Program) (pls:List (Pl P)) (il:List Nat) (t:Nat) (s:AS):Option AS:=
 match s.cu with
 | .code c =>
   match c with
   | .skip=>some ⟨s.x,s.n,s.k,.ex .normal,s.ks,s.e,s.fs,s.H,s.ro,s.nx,s.ob⟩
   | .ret=>some ⟨s.x,s.n,s.k,.ex .ret,s.ks,s.e,s.fs,s.H,s.ro,s.nx,s.ob⟩
   | .exit i=>some ⟨s.x,s.n,s.k,.ex (.exit i),s.ks,s.e,s.fs,s.H,s.ro,s.nx,s.ob⟩
   | .seq a b=>some ⟨s.x,s.n,s.k,.code a,.seq b::s.ks,s.e,s.fs,s.H,s.ro,s.nx,s.ob⟩
   | .block i b=>some ⟨s.x,s.n,s.k,.code b,.blk i::s.ks,s.e,s.fs,s.H,s.ro,s.nx,s.ob⟩
   | .cond o a b =>
     bif isC t o then none else
     match evA s.x s.n s.e o with
     | .v (.bool true)=>some ⟨s.x,s.n,s.k,.code a,s.ks,s.e,s.fs,s.H,s.ro,s.nx,s.ob⟩
     | .v (.bool false)=>some ⟨s.x,s.n,s.k,.code b,s.ks,s.e,s.fs,s.H,s.ro,s.nx,s.ob⟩
     | _=>none
   | .loop c=>bif Nat.beq t 3000000 then none else some ⟨s.x,s.n,s.k,.code c,.lp c::s.ks,s.e,s.fs,s.H,s.ro,s.nx,s.ob⟩
   | .region i ops false=>bif Nat.beq (i+2000000) t then none else some ⟨s.x,s.n,s.k,.ops i 0 ops ops.toList,s.ks,s.e,s.fs,s.H,s.ro,s.nx,s.ob⟩
   | .region i ops true=>bif Nat.beq (i+2000000) t then none else
     match regA pls s.x s.n (s.k*1000+i) ops s.e s.ro s.H s.nx with
     | some (r,ob)=>some ⟨s.x,s.n,s.k,.ex .normal,s.ks,eOf s.e r.le,s.fs,r.H,s.ro,s.nx+16*ops.size,ob++s.ob⟩
     | none=>none
   | _=>none
 | .ops i j all l =>
   match l with
   | []=>some ⟨s.x,s.n,s.k,.ex .normal,s.ks,s.e,s.fs,s.H,s.ro,s.nx,s.ob⟩
   | o::l =>
     bif isD t o.dst then none else
     bif okD s.n o.dst then
       bif Region.wanted o (yieldA all s.x s.n s.e) then
         match stepO pls ((s.k*1000+i)*1000+j) o (evA s.x s.n s.e) s.ro s.H s.nx with
         | some u=>some ⟨s.x,s.n,s.k,.ops i (j+1) all l,s.ks,putA o.dst u.v s.e,s.fs,u.H,s.ro,s.nx+16,u.ob++s.ob⟩
         | none=>inA P il i j all o l s
       else some ⟨s.x,s.n,s.k,.ops i (j+1) all l,s.ks,putA o.dst (.v undef) s.e,s.fs,s.H,s.ro,s.nx,s.ob⟩
     else none
 | .ex ex =>
   match s.ks with
   | []=>match s.fs with
     | []=>none
     | f::fs=>match ex with
       | .ret | .normal=>match rvA P s.x s.n s.e s.H f.fn.results.toList with
         | some v=>bif okD f.n f.d then some ⟨f.x,f.n,f.k,.ops f.i (f.j+1) f.all f.l,f.ks,putA f.d v f.e,fs,s.H,s.ro,s.nx,s.ob⟩ else none
         | none=>none
       | _=>none
   | .seq c::ks =>
     match ex with
     | .normal=>some ⟨s.x,s.n,s.k,.code c,ks,s.e,s.fs,s.H,s.ro,s.nx,s.ob⟩
     | ex=>some ⟨s.x,s.n,s.k,.ex ex,ks,s.e,s.fs,s.H,s.ro,s.nx,s.ob⟩
   | .blk i::ks =>
     match ex with
     | .exit j=>bif Nat.beq j i then some ⟨s.x,s.n,s.k,.ex .normal,ks,s.e,s.fs,s.H,s.ro,s.nx,s.ob⟩ else some ⟨s.x,s.n,s.k,.ex (.exit j),ks,s.e,s.fs,s.H,s.ro,s.nx,s.ob⟩
     | ex=>some ⟨s.x,s.n,s.k,.ex ex,ks,s.e,s.fs,s.H,s.ro,s.nx,s.ob⟩
   | .lp c::ks =>
     match ex with
     | .normal=>ddC (fun e=>some ⟨s.x,s.n,s.k,.code c,.lp c::ks,e,s.fs,s.H,s.ro,s.nx,s.ob⟩) s.e []
     | ex=>some ⟨s.x,s.n,s.k,.ex ex,ks,s.e,s.fs,s.H,s.ro,s.nx,s.ob⟩
   | .stop _::ks =>
     match ex with
     | .normal=>none
     | ex=>some ⟨s.x,s.n,s.k,.ex ex,ks,s.e,s.fs,s.H,s.ro,s.nx,s.ob⟩
noncomputable def goN (P:Program) (pls:List (Pl P)) (il:List Nat) (t f:Nat) (s:AS):AS:=
 Nat.rec (fun s=>s) (fun _ ih (s:AS)=>match stpA P pls il t s with|some s'=>ih s' | none=>s) f s
def noOb(s:AS):AS:=⟨s.x,s.n,s.k,s.cu,s.ks,s.e,s.fs,s.H,s.ro,s.nx,[]⟩
noncomputable def goA (P:Program) (pls:List (Pl P)) (il:List Nat) (t:Nat) (s:AS):AS:=goN P pls il t 1000000 (noOb s)
/-- Where a walk stands. -/
structure Cx(P:Program) where
 fn:Func
 R:Ending->World->Prop
 F0:Nat->Prop
 w0:World
 κ0:Kp
 n0:Nat
structure AOk(n0:Nat)(s:AS):Prop where
 e:∀ p ∈ s.e,p.2.ok (· < s.nx)
 fs:∀ f ∈ s.fs,∀ p ∈ f.e,p.2.ok (· < s.nx)
 ro:∀ e ∈ s.ro,e.ok (· < s.nx)
 H:∀ e ∈ s.H,e.ok (· < s.nx)
 n0:n0<=s.nx
structure MA{P:Program}(C:Cx P)(s:AS):Prop where
 run:AOk C.n0 s->∀ κ w,Agr (· < C.n0) C.κ0 κ->HE C.F0 C.w0 w κ s.ro s.H->runA P (bsQ P (bodyPost P C.fn C.R) κ s.fs) s.cu s.ks (patch s.x s.n (denE κ s.e)) w
section
variable{P:Program}{C:Cx P}{pls:List (Pl P)}{il:List Nat}
theorem look_zip(x:Nat->Value):∀ (l:List Value) (j i:Nat),look x ((l.zipIdx j).map fun p=>(p.2,p.1)) i=if j<=i then l[i-j]?.getD (x i) else x i
 | [],j,i=>by simp [look]
 | v::r,j,i=>by
   rw [List.zipIdx_cons,List.map_cons]
   show (bif Nat.beq j i then v else look x ((r.zipIdx (j+1)).map fun p=>(p.2,p.1)) i)=_
   rw [look_zip x r (j+1) i]
   cases hb:Nat.beq j i with
   | true =>
     have:=Nat.eq_of_beq_eq_true hb
     subst this;simp
   | false =>
     have hne:j≠i:=Nat.ne_of_beq_eq_false hb
     simp only [cond_false]
     by_cases h1:j+1<=i
     · rw [if_pos h1,if_pos (by omega),show i-j=(i-(j+1))+1 by omega,List.getElem?_cons_succ]
     rw [if_neg h1,if_neg (by omega)]
theorem act0_patch(κ:Kp)(l:List AV)(n:Nat)(h:l.length<=n):act0 (AV.denL κ l) (n-l.length)=patch (fun _=>undef) n (denE κ (l.zipIdx.map fun p=>(p.2,p.1))):=by
 unfold patch act0
 congr 1
 apply Array.ext'
 apply List.ext_getElem?
 intro i
 rw [frL_get,Nat.zero_add]
 have e2:denE κ (l.zipIdx.map fun p=>(p.2,p.1))=(AV.denL κ l).zipIdx.map fun p=>(p.2,p.1):=by
   unfold denE
   rw [List.map_map,denL_map,List.zipIdx_map,List.map_map]
   rfl
 rw [e2,look_zip]
 simp only [Nat.zero_le,if_true,Nat.sub_zero]
 rw [List.getElem?_append,denL_len]
 by_cases hi:i<l.length
 · rw [if_pos hi,if_pos (by omega),List.getElem?_eq_getElem (by rw [denL_len];exact hi)];rfl
 rw [if_neg hi,List.getElem?_replicate,List.getElem?_eq_none (l:=AV.denL κ l) (by rw [denL_len];omega)]
 by_cases hi2:i<n
 · rw [if_pos (by omega),if_pos hi2];rfl
 rw [if_neg (by omega),if_neg hi2]
theorem enOk_spec{f n:Nat}(h:enOk P f n=true):∃ c,P.funcs[f]?=some (fnOf P f)/\(fnOf P f).body=some c/\(fnOf P f).ntmps=n:=by
 unfold enOk at h
 split at h
 · rename_i fn hf
   rw [Bool.and_eq_true] at h
   have e:fnOf P f=fn:=by unfold fnOf;rw [hf];rfl
   rw [e]
   cases hb:fn.body with
   | none=>rw [hb] at h;cases h.1
   | some c=>exact ⟨c,hf,rfl,by simpa using h.2⟩
 cases h
/-- A function's body, from its arguments on. -/
theorem enA{f n:Nat}{R:Ending->World->Prop}{κ:Kp}{l:List AV}{w:World}(h:enOk P f n=true)(hl:l.length<=n)(k:((fnOf P f).body.getD .skip).wp P (bodyPost P (fnOf P f) R) (patch (fun _=>undef) n (denE κ (l.zipIdx.map fun p=>(p.2,p.1)))) w):Calls P f (AV.denL κ l).toArray w R:=by
 obtain ⟨c,hf,hb,hn⟩:=enOk_spec h
 refine enter (n-l.length) hf hb (by rw [hn,denL_len]) ?_
 rw [act0_patch κ l n hl]
 rw [hb] at k
 exact k
theorem resA_run{x:Nat->Value}{e:List (Nat × AV)}{H ro:List Ent}{n:Nat}{r:ResultVar}{v:AV}(h:resA P x n e H r=some v){κ:Kp}{w w0:World}{F0:Nat->Prop}(hh:HE F0 w0 w κ ro H):(resOne (patch x n (denE κ e)).tmps r).run P w=.ok (v.den κ) w:=by
 have hev:∀ t,(patch x n (denE κ e)).tmps.getD t undef=(bif Nat.blt t n then lookA x e t else .v undef:AV).den κ:=fun t=>congrFun (evA_den κ x n e) (.tmp t)
 cases r with
 | tmp t=>injection h with h;subst h;exact rtmp (hev t)
 | cell p t =>
   simp only [resA] at h
   split at h
   · rename_i k off hp
     cases ho:Nat.beq off 0 with
     | false=>rw [ho] at h;cases h
     | true =>
       rw [ho] at h
       have ho:=Nat.eq_of_beq_eq_true ho
       subst ho
       simp only [cond_true] at h
       have hp2:(patch x n (denE κ e)).tmps.getD p undef=pt (κ k).n 0:=by rw [hev p,hp];rfl
       split at h
       · rename_i k' T cs hf
         have hb:=hh.blkOf hf
         split at h
         · rename_i ht
           have hc:w.cell? ⟨(κ k).n,0,none⟩=some (v.den κ):=by rw [hb.cell,denL_get,h];rfl
           have hl:(loadVar t ⟨(κ k).n,0,none⟩).run P w=.ok (v.den κ) w:=by simp [loadVar,pureVal_run ht,hc]
           unfold resOne
           simp only [hp2,pt,asAddr,Sem.run_bind,Sem.run_pure,Result.andThen_ok,hl]
         rw [cond_some] at h
         obtain ⟨hr,h⟩:=h
         subst h
         exact rcell hb hp2 (by rw [denL_len];exact hr)
       cases h
   cases h
theorem mapM_run{α:Type}{f:ResultVar->Option AV}{g:ResultVar->Sem Value}{κ:Kp}{w:World}(hg:∀ r v,f r=some v->(g r).run P w=.ok (v.den κ) w)(k:Array Value->Sem α):∀ (l:List ResultVar) (vs:List AV),l.mapM f=some vs->∀ acc:Array Value,((List.mapM g l) >>= fun us=>k (acc++us.toArray)).run P w=(k (acc++(AV.denL κ vs).toArray)).run P w
 | [],vs,h,acc=>by
   simp only [List.mapM_nil,Option.pure_def,Option.some.injEq] at h
   subst h
   simp [AV.denL]
 | r::l,vs,h,acc=>by
   rw [List.mapM_cons] at h
   cases h1:f r with
   | none=>rw [h1] at h;cases h
   | some v =>
     cases h2:l.mapM f with
     | none=>rw [h1,h2] at h;cases h
     | some us =>
       rw [h1,h2] at h
       have h:some (v::us)=some vs:=h
       injection h with h;subst h
       have ih:=mapM_run hg k l us h2 (acc.push (v.den κ))
       simp only [List.mapM_cons,Sem.run_bind,hg r v h1,Result.andThen_ok,Sem.run_pure] at ih ⊢
       simp only [AV.denL]
       have e:acc.push (v.den κ)++(AV.denL κ us).toArray=acc++(v.den κ::AV.denL κ us).toArray:=by
         apply Array.ext';simp
       rw [← e,← ih]
       generalize (List.mapM g l).run P w=q
       cases q with
       | ok us w' =>
         simp only [Result.andThen_ok]
         have e:acc.push (v.den κ)++us.toArray=acc++(v.den κ::us).toArray:=by apply Array.ext';simp
         rw [e]
       | halt _ _=>rfl
theorem rvA_ok{x:Nat->Value}{R:Ending->World->Prop}{fn:Func}{e:List (Nat × AV)}{H ro:List Ent}{n:Nat}{v:AV}(h:rvA P x n e H fn.results.toList=some v){κ:Kp}{w w0:World}{F0:Nat->Prop}(hh:HE F0 w0 w κ ro H)(hR:R (.returned (v.den κ)) w):bodyPost P fn R .ret (patch x n (denE κ e)) w:=by
 refine ⟨rfl,v.den κ,?_,hR⟩
 rw [results_eq]
 have hl:∀ l,fn.results.toList=l->fn.results=l.toArray:=fun l hl=>by rw [← hl]
 unfold rvA at h
 split at h
 · rename_i e1
   injection h with h;subst h
   rw [hl _ e1];simp [AV.den,AV.denL]
 · rename_i r e1
   rw [hl _ e1]
   simp [resA_run h hh]
 rename_i r r2 l e1
 split at h
 · rename_i vs hv
   injection h with h;subst h
   rw [hl _ e1]
   have:=mapM_run (P:=P) (w:=w) (κ:=κ) (g:=resOne (patch x n (denE κ e)).tmps) (fun r v hr=>resA_run (P:=P) (x:=x) (e:=e) (H:=H) (n:=n) hr hh) (fun us=>(pure (if h:us.size=1 then us[0] else .tuple us):Sem Value)) (r::r2::l) vs hv #[]
   simp only [Array.empty_append] at this
   have e2:(Array.mapM (resOne (patch x n (denE κ e)).tmps) (r::r2::l).toArray >>= fun us=>(pure (if h:us.size=1 then us[0] else .tuple us):Sem Value))=(List.mapM (resOne (patch x n (denE κ e)).tmps) (r::r2::l) >>= fun us=>(pure (if h:us.toArray.size=1 then us.toArray[0] else .tuple us.toArray):Sem Value)):=by
     rw [List.mapM_toArray];simp
   rw [e2,this]
   have hlen:∀ (l:List ResultVar) (vs:List AV),l.mapM (resA P x n e H)=some vs->vs.length=l.length:=by
     intro l
     induction l with
     | nil=>intro vs h;simp only [List.mapM_nil,Option.pure_def,Option.some.injEq] at h;subst h;rfl
     | cons r l ih =>
       intro vs h
       rw [List.mapM_cons] at h
       cases h1:resA P x n e H r with
       | none=>rw [h1] at h;cases h
       | some v =>
         cases h2:l.mapM (resA P x n e H) with
         | none=>rw [h1,h2] at h;cases h
         | some us =>
           rw [h1,h2] at h
           have h:some (v::us)=some vs:=h
           injection h with h;subst h
           simp [ih us h2]
   have hne:¬ (AV.denL κ vs).toArray.size=1:=by
     rw [List.size_toArray,denL_len,hlen _ vs hv];simp
   rw [Sem.run_pure,dif_neg hne];rfl
 cases h
theorem putA_ok{A:Nat->Prop}{d:Option Nat}{v:AV}{e:List (Nat × AV)}(hv:v.ok A)(he:∀ p ∈ e,p.2.ok A):∀ p ∈ putA d v e,p.2.ok A:=by
 cases d with
 | none=>exact he
 | some d =>
   intro p hp
   rcases List.mem_cons.1 hp with rfl|hp
   · exact hv
   exact he p hp
theorem putA_put{x:Nat->Value}{n:Nat}{d:Option Nat}(v:AV)(e:List (Nat × AV))(hd:okD n d=true)(κ:Kp):(patch x n (denE κ e)).put d (v.den κ)=patch x n (denE κ (putA d v e)):=by
 rw [put_patch _ _ _ _ _ hd]
 cases d <;> rfl
theorem inA_ok{i j:Nat}{all:Array Oper}{o:Oper}{l:List Oper}{s s':AS}(h:inA P il i j all o l s=some s')(hob:obOk s'.ob)(hw:Region.wanted o (yieldA all s.x s.n s.e)=true)(hc:s.cu=.ops i j all (o::l)):obOk s.ob/\(MA C s'->MA C s):=by
 unfold inA at h
 split at h
 · rename_i f args ats ho
   rw [cond_some] at h
   obtain ⟨hq,h⟩:=h
   subst h
   simp only [Bool.and_eq_true] at hq
   obtain ⟨⟨⟨_,h1⟩,h2⟩,h3⟩:=hq
   refine ⟨fun o ho=>hob o (List.mem_cons_of_mem _ ho),fun k=>⟨fun ok κ w ha hh=>?_⟩⟩
   have o1:_=_:=hob _ (List.mem_cons_self ..)
   have hp:pureVal P (execOp (patch s.x s.n (denE κ s.e)).eval o)=some (.enter f (AV.denL κ (args.toList.map (evA s.x s.n s.e))).toArray):=by
     rw [evA_den];exact congrFun o1 κ
   rw [hc]
   show wpList P all (KQA P (bsQ P (bodyPost P C.fn C.R) κ s.fs) s.ks) (o::l) _ w
   refine wpList_step fun K hK=>?_
   rw [yield_patch,yieldA_den,hw,if_pos rfl]
   have hkk:=k.run ⟨fun p hp=>?_,fun g hg=>?_,ok.ro,ok.H,ok.n0⟩ κ w ha hh
   · have hc2:Calls P f (AV.denL κ (args.toList.map (evA s.x s.n s.e))).toArray w (fun en w'=>∃ v,en=.returned v/\wpList P all (KQA P (bsQ P (bodyPost P C.fn C.R) κ s.fs) s.ks) l ((patch s.x s.n (denE κ s.e)).put o.dst v) w'):=enA h1 (by simpa using Nat.le_of_ble_eq_true h2) hkk
     exact (OpTo.enter f _ hp hc2 fun e w' h=>h).goes _ _ fun v w' hr=>hK _ _ hr
   · obtain ⟨q,hq,rfl⟩:=List.mem_map.1 hp
     obtain ⟨y,_,hy⟩:=List.mem_map.1 (List.fst_mem_of_mem_zipIdx hq)
     show q.1.ok _
     rw [← hy];exact evA_ok _ _ _ ok.e y
   rcases List.mem_cons.1 hg with rfl|hg
   · exact ok.e
   exact ok.fs g hg
 cases h
theorem resA_names{A:Nat->Prop}{x:Nat->Value}{n:Nat}{e:List (Nat × AV)}{H:List Ent}{r:ResultVar}{v:AV}(h:resA P x n e H r=some v)(he:∀ p ∈ e,p.2.ok A)(hH:∀ e ∈ H,e.ok A):v.ok A:=by
 have hl:∀ t,(bif Nat.blt t n then lookA x e t else .v undef:AV).ok A:=fun t=>evA_ok x n e he (.tmp t)
 cases r with
 | tmp t=>injection h with h;subst h;exact hl t
 | cell p t =>
   simp only [resA] at h
   split at h
   · rename_i k off hp
     cases ho:Nat.beq off 0 with
     | false=>rw [ho] at h;cases h
     | true =>
       rw [ho] at h
       simp only [cond_true] at h
       split at h
       · rename_i k' T cs hf
         have hcs:=(hH _ (findK_mem hf).1).2
         split at h
         · exact (okL_all A cs).1 hcs v (List.mem_of_getElem? h)
         rw [cond_some] at h
         obtain ⟨_,h⟩:=h
         subst h;exact hcs
       cases h
   cases h
theorem mapM_names{A:Nat->Prop}{f:ResultVar->Option AV}(hf:∀ r v,f r=some v->v.ok A):∀ (l:List ResultVar) (vs:List AV),l.mapM f=some vs->AV.okL A vs
 | [],vs,h=>by simp only [List.mapM_nil,Option.pure_def,Option.some.injEq] at h;subst h;trivial
 | r::l,vs,h=>by
   rw [List.mapM_cons] at h
   cases h1:f r with
   | none=>rw [h1] at h;cases h
   | some v =>
     cases h2:l.mapM f with
     | none=>rw [h1,h2] at h;cases h
     | some us =>
       rw [h1,h2] at h
       have h:some (v::us)=some vs:=h
       injection h with h;subst h
       exact ⟨hf r v h1,mapM_names hf l us h2⟩
theorem rvA_names{A:Nat->Prop}{x:Nat->Value}{n:Nat}{e:List (Nat × AV)}{H:List Ent}{l:List ResultVar}{v:AV}(h:rvA P x n e H l=some v)(he:∀ p ∈ e,p.2.ok A)(hH:∀ e ∈ H,e.ok A):v.ok A:=by
 unfold rvA at h
 split at h
 · injection h with h;subst h;trivial
 · exact resA_names h he hH
 split at h
 · rename_i vs hv
   injection h with h;subst h
   exact mapM_names (fun r v hr=>resA_names hr he hH) _ vs hv
 cases h
theorem stpA_ok(t:Nat)(s s':AS)(h:stpA P pls il t s=some s')(hob:obOk s'.ob):obOk s.ob/\(MA C s'->MA C s):=by
 obtain ⟨x,n,k_,cu,ks,e,fs,H,ro,nx,ob⟩:=s
 cases cu with
 | code c =>
   cases c with
   | skip=>injection h with h;subst h;exact ⟨hob,fun k=>⟨fun ok κ w ha hh=>wp_skip (k.run ⟨ok.e,ok.fs,ok.ro,ok.H,ok.n0⟩ κ w ha hh)⟩⟩
   | ret=>injection h with h;subst h;exact ⟨hob,fun k=>⟨fun ok κ w ha hh=>wp_ret (k.run ⟨ok.e,ok.fs,ok.ro,ok.H,ok.n0⟩ κ w ha hh)⟩⟩
   | exit i=>injection h with h;subst h;exact ⟨hob,fun k=>⟨fun ok κ w ha hh=>wp_exit (k.run ⟨ok.e,ok.fs,ok.ro,ok.H,ok.n0⟩ κ w ha hh)⟩⟩
   | seq a b=>injection h with h;subst h;exact ⟨hob,fun k=>⟨fun ok κ w ha hh=>wp_seq (k.run ⟨ok.e,ok.fs,ok.ro,ok.H,ok.n0⟩ κ w ha hh)⟩⟩
   | block i b=>injection h with h;subst h;exact ⟨hob,fun k=>⟨fun ok κ w ha hh=>wp_block (k.run ⟨ok.e,ok.fs,ok.ro,ok.H,ok.n0⟩ κ w ha hh)⟩⟩
   | cond o a b =>
     simp only [stpA] at h
     cases hi:isC t o with
     | true=>rw [hi] at h;cases h
     | false =>
       rw [hi] at h
       simp only [cond_false] at h
       have hev:∀ κ,(patch x n (denE κ e)).eval o=(evA x n e o).den κ:=fun κ=>congrFun (evA_den κ x n e) o
       split at h
       · rename_i hb
         injection h with h;subst h
         exact ⟨hob,fun k=>⟨fun ok κ w ha hh=>wp_cond_true (by rw [hev,hb];rfl) (k.run ⟨ok.e,ok.fs,ok.ro,ok.H,ok.n0⟩ κ w ha hh)⟩⟩
       · rename_i hb
         injection h with h;subst h
         exact ⟨hob,fun k=>⟨fun ok κ w ha hh=>wp_cond_false (by rw [hev,hb];rfl) (k.run ⟨ok.e,ok.fs,ok.ro,ok.H,ok.n0⟩ κ w ha hh)⟩⟩
       cases h
   | loop c =>
     simp only [stpA] at h
     cases hi:Nat.beq t 3000000 with
     | true=>rw [hi] at h;cases h
     | false =>
       rw [hi] at h
       injection h with h;subst h
       exact ⟨hob,fun k=>⟨fun ok κ w ha hh=>loop_in (loop_round (k.run ⟨ok.e,ok.fs,ok.ro,ok.H,ok.n0⟩ κ w ha hh))⟩⟩
   | region i ops d =>
     cases d with
     | false =>
       simp only [stpA] at h
       cases hi:Nat.beq (i+2000000) t with
       | true=>rw [hi] at h;cases h
       | false =>
         rw [hi] at h
         injection h with h;subst h
         exact ⟨hob,fun k=>⟨fun ok κ w ha hh=>wp_region_list (k.run ⟨ok.e,ok.fs,ok.ro,ok.H,ok.n0⟩ κ w ha hh)⟩⟩
     | true =>
       simp only [stpA] at h
       cases hi:Nat.beq (i+2000000) t with
       | true=>rw [hi] at h;cases h
       | false =>
         rw [hi] at h
         simp only [cond_false] at h
         split at h
         · rename_i r ob' hr
           injection h with h;subst h
           obtain ⟨o1,o2⟩:=hob.app
           refine ⟨o2,fun k=>⟨fun ok κ w ha hh=>?_⟩⟩
           have hreg:=fun κ:Kp=>regA_ok (rid:=i) (Q:=KQA P (bsQ P (bodyPost P C.fn C.R) κ fs) ks) (F0:=C.F0) (w0:=C.w0) hr o1 ok.e ok.ro ok.H (fun c d v a w hq=>by
             rw [KQA_panic] at hq ⊢
             exact bsQ_panic (fun c d v a w hq=>by cases d <;> exact hq) κ fs c d v a w hq)
           obtain ⟨k1,k2,k3⟩:=hreg κ
           refine k3 κ w hh fun κ' w' hag hh'=>?_
           have up:∀ q,q<nx->q<nx+16*ops.size:=fun q hq=>Nat.lt_of_lt_of_le hq (Nat.le_add_right _ _)
           have h9:=k.run ⟨k1,fun f hf p hp=>ok_mono up _ (ok.fs f hf p hp),fun e he=>Ent.ok_mono up (ok.ro e he),k2,Nat.le_trans ok.n0 (Nat.le_add_right _ _)⟩ κ' w' (fun q hq=>by
             have h1:=ha q hq
             have h2:=hag q (Nat.lt_of_lt_of_le hq ok.n0)
             exact ⟨h2.1.trans h1.1,h2.2.trans h1.2⟩) hh'
           rw [bsQ_agr hag fs ok.fs] at h9
           exact h9
         cases h
   | _=>cases h
 | ops i j all l =>
   cases l with
   | nil=>injection h with h;subst h;exact ⟨hob,fun k=>⟨fun ok κ w ha hh=>k.run ⟨ok.e,ok.fs,ok.ro,ok.H,ok.n0⟩ κ w ha hh⟩⟩
   | cons o l =>
     simp only [stpA] at h
     cases hi:isD t o.dst with
     | true=>rw [hi] at h;cases h
     | false =>
       rw [hi] at h
       cases hd:okD n o.dst with
       | false=>rw [hd] at h;cases h
       | true =>
         rw [hd] at h
         simp only [cond_true,cond_false] at h
         cases hw:Region.wanted o (yieldA all x n e) with
         | false =>
           rw [hw] at h
           injection h with h;subst h
           refine ⟨hob,fun k=>⟨fun ok κ w ha hh=>?_⟩⟩
           show wpList P all (KQA P (bsQ P (bodyPost P C.fn C.R) κ fs) ks) (o::l) _ w
           refine wpList_step fun K hK=>?_
           rw [yield_patch,yieldA_den,hw,if_neg (by simp)]
           refine hK _ _ ?_
           rw [show (undef:Value)=(AV.v undef).den κ from rfl,putA_put _ _ hd]
           exact k.run ⟨putA_ok trivial ok.e,ok.fs,ok.ro,ok.H,ok.n0⟩ κ w ha hh
         | true =>
           rw [hw] at h
           simp only [cond_true] at h
           split at h
           · rename_i u hu
             injection h with h;subst h
             obtain ⟨o1,o2⟩:=hob.app
             refine ⟨o2,fun k=>⟨fun ok κ w ha hh=>?_⟩⟩
             have tr:=stepO_tr hu o1
             show wpList P all (KQA P (bsQ P (bodyPost P C.fn C.R) κ fs) ks) (o::l) _ w
             refine wpList_step fun K hK=>?_
             rw [yield_patch,yieldA_den,hw,if_pos rfl]
             obtain ⟨n1,n2⟩:=tr.names (A:=(· < nx)) (evA_ok _ _ _ ok.e) ok.ro ok.H
             have up:∀ q,(q<nx∨In8 nx q)->q<nx+16:=fun q hq=>by unfold In8 at hq;omega
             refine (tr.goes (A:=(· < nx)) (fun q hq h8=>by unfold In8 at h8;omega) (evA_ok _ _ _ ok.e) ok.ro ok.H (evA_den κ _ _ _) hh).goes _ _ fun v w' ⟨κ',k1,k2,k3⟩=>?_
             refine hK _ _ ?_
             rw [k2,← denE_agr k1.agr _ ok.e,putA_put _ _ hd]
             have h9:=k.run ⟨putA_ok (ok_mono up _ n1) fun p hp=>ok_mono (fun q hq=>up q (.inl hq)) _ (ok.e p hp),fun f hf p hp=>ok_mono (fun q hq=>up q (.inl hq)) _ (ok.fs f hf p hp),fun e he=>Ent.ok_mono (fun q hq=>up q (.inl hq)) (ok.ro e he),fun e he=>Ent.ok_mono up (n2 e he),Nat.le_trans ok.n0 (Nat.le_add_right _ _)⟩ κ' w' (fun q hq=>by
               have h1:=ha q hq
               have h2:=k1 q (Nat.lt_of_lt_of_le hq ok.n0)
               exact ⟨h2.1.trans h1.1,h2.2.1.trans h1.2⟩) k3
             rw [bsQ_agr k1.agr fs ok.fs] at h9
             exact h9
           exact inA_ok (C:=C) (s:=⟨x,n,k_,.ops i j all (o::l),ks,e,fs,H,ro,nx,ob⟩) h hob hw rfl
 | ex ex =>
   cases ks with
   | nil =>
     cases fs with
     | nil=>cases h
     | cons f fs =>
       have key:∀ {v:AV},rvA P x n e H f.fn.results.toList=some v->(∀ o ∈ ob,o ∈ ob)->MA C ⟨f.x,f.n,f.k,.ops f.i (f.j+1) f.all f.l,f.ks,putA f.d v f.e,fs,H,ro,nx,ob⟩->okD f.n f.d=true->v.ok (· < nx)->AOk C.n0 ⟨x,n,k_,.ex ex,[],e,f::fs,H,ro,nx,ob⟩->∀ κ w,Agr (· < C.n0) C.κ0 κ->HE C.F0 C.w0 w κ ro H->bodyPost P f.fn (fun en w'=>∃ v,en=.returned v/\wpList P f.all (KQA P (bsQ P (bodyPost P C.fn C.R) κ fs) f.ks) f.l ((patch f.x f.n (denE κ f.e)).put f.d v) w') .ret (patch x n (denE κ e)) w:=by
         intro v hv _ k hd hvo ok κ w ha hh
         refine rvA_ok hv hh ⟨_,rfl,?_⟩
         rw [putA_put _ _ hd]
         exact k.run ⟨putA_ok hvo (ok.fs f (List.mem_cons_self ..)),fun g hg=>ok.fs g (List.mem_cons_of_mem _ hg),ok.ro,ok.H,ok.n0⟩ κ w ha hh
       simp only [stpA] at h
       cases ex with
       | ret =>
         simp only at h
         split at h
         · rename_i v hv
           rw [cond_some] at h
           obtain ⟨hd,h⟩:=h
           subst h
           exact ⟨hob,fun k=>⟨fun ok κ w ha hh=>key hv (fun _ h=>h) k hd (rvA_names hv ok.e ok.H) ok κ w ha hh⟩⟩
         cases h
       | normal =>
         simp only at h
         split at h
         · rename_i v hv
           rw [cond_some] at h
           obtain ⟨hd,h⟩:=h
           subst h
           exact ⟨hob,fun k=>⟨fun ok κ w ha hh=>key hv (fun _ h=>h) k hd (rvA_names hv ok.e ok.H) ok κ w ha hh⟩⟩
         cases h
       | _=>cases h
   | cons y ks =>
     cases y with
     | seq c=>cases ex <;> (injection h with h;subst h;exact ⟨hob,fun k=>⟨fun ok κ w ha hh=>k.run ⟨ok.e,ok.fs,ok.ro,ok.H,ok.n0⟩ κ w ha hh⟩⟩)
     | blk i =>
       cases ex with
       | exit j =>
         simp only [stpA] at h
         cases hj:Nat.beq j i with
         | true =>
           rw [hj] at h
           injection h with h;subst h
           refine ⟨hob,fun k=>⟨fun ok κ w ha hh=>?_⟩⟩
           show (if j=i then KQA P (bsQ P (bodyPost P C.fn C.R) κ fs) ks .normal _ w else KQA P (bsQ P (bodyPost P C.fn C.R) κ fs) ks (.exit j) _ w)
           rw [if_pos (Nat.eq_of_beq_eq_true hj)];exact k.run ⟨ok.e,ok.fs,ok.ro,ok.H,ok.n0⟩ κ w ha hh
         | false =>
           rw [hj] at h
           injection h with h;subst h
           refine ⟨hob,fun k=>⟨fun ok κ w ha hh=>?_⟩⟩
           show (if j=i then KQA P (bsQ P (bodyPost P C.fn C.R) κ fs) ks .normal _ w else KQA P (bsQ P (bodyPost P C.fn C.R) κ fs) ks (.exit j) _ w)
           rw [if_neg (Nat.ne_of_beq_eq_false hj)];exact k.run ⟨ok.e,ok.fs,ok.ro,ok.H,ok.n0⟩ κ w ha hh
       | _=>injection h with h;subst h;exact ⟨hob,fun k=>⟨fun ok κ w ha hh=>k.run ⟨ok.e,ok.fs,ok.ro,ok.H,ok.n0⟩ κ w ha hh⟩⟩
     | lp c =>
       cases ex with
       | normal =>
         simp only [stpA] at h
         rw [ddC_eq] at h
         injection h with h;subst h
         refine ⟨hob,fun k=>⟨fun ok κ w ha hh=>loop_round ?_⟩⟩
         have h9:=k.run ⟨fun p hp=>(ddL_mem hp).elim (fun h=>absurd h List.not_mem_nil) (ok.e p),ok.fs,ok.ro,ok.H,ok.n0⟩ κ w ha hh
         rw [show patch x n (denE κ e)=patch x n (denE κ (ddL e [])) from patch_look fun i=>by rw [look_den,look_den,ddL_look];rfl]
         exact h9
       | _=>injection h with h;subst h;exact ⟨hob,fun k=>⟨fun ok κ w ha hh=>k.run ⟨ok.e,ok.fs,ok.ro,ok.H,ok.n0⟩ κ w ha hh⟩⟩
     | stop K =>
       cases ex with
       | normal=>cases h
       | _=>injection h with h;subst h;exact ⟨hob,fun k=>⟨fun ok κ w ha hh=>k.run ⟨ok.e,ok.fs,ok.ro,ok.H,ok.n0⟩ κ w ha hh⟩⟩
theorem goN_ok(t:Nat):∀ (f:Nat) (s:AS),obOk (goN P pls il t f s).ob->MA C (goN P pls il t f s)->obOk s.ob/\MA C s:=by
 intro f
 induction f with
 | zero=>exact fun s h k=>⟨h,k⟩
 | succ f ih =>
   intro s h k
   unfold goN at h k
   dsimp only at h k
   split at h
   · rename_i s' hs
     rw [hs] at k
     obtain ⟨o1,k1⟩:=ih s' h k
     obtain ⟨o2,k2⟩:=stpA_ok t s s' hs o1
     exact ⟨o2,k2 k1⟩
   rename_i hs
   rw [hs] at k
   exact ⟨h,k⟩
theorem MA.noOb{s:AS}(h:MA C (noOb s)):MA C s:=⟨fun ok κ w ha hh=>h.run ⟨ok.e,ok.fs,ok.ro,ok.H,ok.n0⟩ κ w ha hh⟩
/-- Run on. -/
theorem kGo{s:AS}(pls:List (Pl P))(il:List Nat)(t:Nat)(k:MA C (goA P pls il t s))(ob:obX (goA P pls il t s).ob=obY (goA P pls il t s).ob:=by kernel_rfl):MA C s:=
 MA.noOb (goN_ok t 1000000 (noOb s) (ob_ok ob) k).2
/-! ### Begin and end -/
def entA(P:Program)(s:Sp):AS:=⟨fun _=>undef,(fnOf P s.f).ntmps,0,.code ((fnOf P s.f).body.getD .skip),[],s.args.zipIdx.map fun p=>(p.2,p.1),[],s.pre,s.ro,s.nx,[]⟩
def cx(P:Program)(s:Sp)(κ:Kp)(w:World):Cx P:=⟨fnOf P s.f,SpPost s κ w,foot κ s.pre,w,κ,s.nx⟩
def enB(P:Program)(s:Sp):Bool:=enOk P s.f (fnOf P s.f).ntmps && Nat.ble s.args.length (fnOf P s.f).ntmps && AV.ltL s.nx s.args && s.ro.all (Ent.lt s.nx) && s.pre.all (Ent.lt s.nx)
theorem sE{s:Sp}(h:∀ κ w,MA (cx P s κ w) (entA P s))(ok:enB P s=true:=by kernel_rfl):Spec P s:=⟨fun κ w hh=>by
 unfold enB at ok
 simp only [Bool.and_eq_true] at ok
 obtain ⟨⟨⟨⟨h1,h2⟩,h3⟩,h4⟩,h5⟩:=ok
 have hargs:=(okL_all _ _).1 (ltL_ok _ h3)
 exact enA h1 (Nat.le_of_ble_eq_true h2) ((h κ w).run ⟨fun p hp=>by
   obtain ⟨q,hq,rfl⟩:=List.mem_map.1 hp
   exact hargs _ (List.fst_mem_of_mem_zipIdx hq),fun f hf=>absurd hf List.not_mem_nil,fun e he=>Ent.lt_ok (List.all_eq_true.1 h4 e he),fun e he=>Ent.lt_ok (List.all_eq_true.1 h5 e he),Nat.le_refl _⟩ κ w (fun _ _=>⟨rfl,rfl⟩) hh)⟩
/-- Names of what is told, as those of the walk. -/
def sgE(m:List (Nat × Nat))(nx k:Nat):Nat:=bif Nat.blt k nx then k else (lk m k).getD k
noncomputable def endM (nx:Nat) (v v':AV) (post H:List Ent) (m0:List (Nat × Nat)):List (Nat × Nat):=uniE H post (uniE H post (AV.uni v v' (m0++(List.range nx).map fun k=>(k,k))))
def isEA(s:AS):Bool:=match s.cu,s.ks,s.fs with | .ex .ret,[],[]=>true | .ex .normal,[],[]=>true|_,_,_=>false
noncomputable def endOb (P:Program) (sp:Sp) (s:AS) (m0:List (Nat × Nat)):Option (List Ob):=
 match rvA P s.x s.n s.e s.H (fnOf P sp.f).results.toList with
 | some v'=>(fun σ:Nat->Nat=>match takeK (sp.post.map fun e=>σ e.key) s.H with
   | some (es,_)=>some [⟨AV,sp.v.ren σ,v'⟩,⟨List Ent,sp.post.map (Ent.ren σ),es⟩]
   | none=>none) (sgE (endM sp.nx sp.v v' sp.post s.H m0) sp.nx)
 | none=>none
theorem endA{sp:Sp}{κ0:Kp}{w0:World}{s:AS}(m0:List (Nat × Nat)){ob:List Ob}(hob:obOk ob)(h:endOb P sp s m0=some ob)(hi:isEA s=true):MA (cx P sp κ0 w0) s:=⟨fun ok κ w ha hh=>by
 unfold endOb at h
 split at h
 · rename_i v' hv
   generalize hσ:sgE (endM sp.nx sp.v v' sp.post s.H m0) sp.nx=σ at h
   have hlt:∀ k,k<sp.nx->σ k=k:=by
     intro k hk
     rw [← hσ];unfold sgE
     have:Nat.blt k sp.nx=true:=by rw [Nat.blt_eq];exact hk
     rw [this];rfl
   simp only at h
   split at h
   · rename_i es rest ht
     injection h with h;subst h
     have o1:sp.v.ren σ=v':=hob _ (List.mem_cons_self ..)
     have o2:sp.post.map (Ent.ren σ)=es:=hob _ (List.mem_cons_of_mem _ (List.mem_cons_self ..))
     have key:bodyPost P (fnOf P sp.f) (SpPost sp κ0 w0) .ret (patch s.x s.n (denE κ s.e)) w:=by
       refine rvA_ok hv hh ⟨fun k=>κ (σ k),fun k hk=>?_,?_,?_⟩
       · show (κ (σ k)).n=_/\(κ (σ k)).a=_
         rw [hlt k hk];exact ha k hk
       · rw [← o1,ren_den]
       have h1:=hh.perm (takeK_perm ht).1
       have e1:es.map (Ent.res κ)=sp.post.map (Ent.res fun k=>κ (σ k)):=by
         rw [← o2,List.map_map];exact List.map_congr_left fun e _=>Ent.ren_res κ σ e
       refine ⟨?_,fun e he=>absurd he List.not_mem_nil,fun e he=>?_⟩
       · have h2:=h1.ha
         rw [List.map_append,e1] at h2
         exact HA.reRo (HA.dropL (h2.perm List.perm_append_comm)) (fun r hr=>absurd hr List.not_mem_nil)
       rw [← Ent.ren_holds]
       exact h1.hh _ (List.mem_append_left _ (by rw [← o2];exact List.mem_map.2 ⟨e,he,rfl⟩))
     obtain ⟨x,n,k_,cu,ks,e,fs,H,ro,nx,ob⟩:=s
     cases cu with
     | ex ex =>
       cases ks with
       | nil =>
         cases fs with
         | nil =>
           cases ex with
           | ret=>exact key
           | normal=>exact key
           | _=>cases hi
         | cons f fs=>cases ex <;> cases hi
       | cons y ks=>cases ex <;> cases hi
     | _=>cases hi
   cases h
 cases h⟩
/-- The end. -/
theorem kEnd{sp:Sp}{κ0:Kp}{w0:World}{s:AS}(pls:List (Pl P))(il:List Nat:=[])(m0:List (Nat × Nat):=[])(ob:obX (goA P pls il 9999999 s).ob=obY (goA P pls il 9999999 s).ob:=by kernel_rfl)(hi:isEA (goA P pls il 9999999 s)=true:=by kernel_rfl)
   (h:(endOb P sp (goA P pls il 9999999 s) m0).isSome=true:=by kernel_rfl) (ob2:obX ((endOb P sp (goA P pls il 9999999 s) m0).getD [])=obY ((endOb P sp (goA P pls il 9999999 s) m0).getD []):=by kernel_rfl):MA (cx P sp κ0 w0) s:=by
 refine kGo (C:=cx P sp κ0 w0) pls il 9999999 ?_ ob
 cases hq:endOb P sp (goA P pls il 9999999 s) m0 with
 | none=>rw [hq] at h;cases h
 | some l=>rw [hq] at ob2;exact endA m0 (ob_ok ob2) hq hi
/-- A function that is walked at one go. -/
theorem s1{s:Sp}(pls:List (Pl P))(il:List Nat:=[])(m0:List (Nat × Nat):=[])(ok:enB P s=true:=by kernel_rfl)(ob:obX (goA P pls il 9999999 (entA P s)).ob=obY (goA P pls il 9999999 (entA P s)).ob:=by kernel_rfl)(hi:isEA (goA P pls il 9999999 (entA P s))=true:=by kernel_rfl)
   (h:(endOb P s (goA P pls il 9999999 (entA P s)) m0).isSome=true:=by kernel_rfl) (ob2:obX ((endOb P s (goA P pls il 9999999 (entA P s)) m0).getD [])=obY ((endOb P s (goA P pls il 9999999 (entA P s)) m0).getD []):=by kernel_rfl):Spec P s:=
 sE (fun _ _=>kEnd pls il m0 ob hi h ob2) ok
end
end
section
open Go.RowKit Go.QT
section
variable{P:Program}{C:Cx P}{il:List Nat}
end
end
section
open Go.RowKit Go.QT
/-- The iterator of a string in block k. -/
def rIter(k:Nat)(s:ByteArray)(pos:Nat):Res where
 F:=fun q=>q=k
 Φ:=fun w=>w.heap[k]?=some (.stringIter s pos)
 lt:=fun h q hq=>by subst hq;exact (Array.getElem?_eq_some_iff.1 h).1
 keep:=fun h _ hk=>(hk _ rfl).trans h
section
variable{P:Program}{F0:Nat->Prop}{w0 w:World}{ro rs:List Res}{o:Oper}{a:Act}
theorem x_range(h:Hp F0 w0 w ro rs)(t:TypeId)(x:Operand)(ho:o.op=.range t x)(s:ByteArray)(hx:a.eval x=.string s)(hu:P.underlying t=some .string) :
   OpTo P o a w (fun v w'=>∃ k,v=pt k 0/\Hp F0 w0 w' ro (rIter k s 0::rs)):=by
 refine OpTo.run (w':=w.iter s 0) (pt w.heap.size 0) ?_ ⟨_,rfl,h.newS ((Below.refl _ _).alloc (Nat.le_refl _) _) (rIter w.heap.size s 0) (World.iter_heap w s 0) (fun q hq=>by rw [show q=_ from hq];exact Nat.le_refl _)⟩
 unfold execOp
 simp [ho,hx,run_range_string w t s hu,pt,Result.andThen]
theorem Fr.iterAt(w:World)(k:Nat)(s:ByteArray)(pos:Nat):Fr (fun q=>q=k) w (w.iterAt k s pos):=
 ⟨rfl,rfl,rfl,by rw [Lib.iterAt_size];exact Nat.le_refl _,fun i _ hn=>Lib.iterAt_other w k i s pos hn⟩
/-- next: the rune at pos, or the end. -/
theorem x_next(h:Hp F0 w0 w ro rs)(i:Nat){k:Nat}{s:ByteArray}{pos:Nat}(hi:rs[i]?=some (rIter k s pos))(x:Operand)(ho:o.op=.next x true)(hx:a.eval x=pt k 0)(hp:pos<s.size) :
   OpTo P o a w (fun v w'=>v=.tuple #[.bool true,.int .i64 pos,.int .i32 (Utf8.decode s pos).1]/\Hp F0 w0 w' ro (rs.set i (rIter k s (pos+(Utf8.decode s pos).2)))):=by
 have hk:w.heap[k]?=some (.stringIter s pos):=h.own i _ hi
 refine OpTo.run (w':=w.iterAt k s (pos+(Utf8.decode s pos).2)) _ ?_ ⟨rfl,h.upd i hi (Fr.iterAt w k s _) (rIter k s _) (Lib.iterAt_heap w k s pos _ hk) (fun q hq=>.inl hq)⟩
 unfold execOp
 have:=Lib.run_next_any_at (P:=P) w k s pos o.type hk hp
 simp [ho,hx,pt,this,Result.andThen]
theorem x_nextE(h:Hp F0 w0 w ro rs)(i:Nat){k:Nat}{s:ByteArray}{pos:Nat}(hi:rs[i]?=some (rIter k s pos))(x:Operand)(ho:o.op=.next x true)(hx:a.eval x=pt k 0)(hp:¬ pos<s.size) :
   OpTo P o a w (fun v w'=>v=.tuple #[.bool false]/\Hp F0 w0 w' ro rs):=by
 have hk:w.heap[k]?=some (.stringIter s pos):=h.own i _ hi
 refine OpTo.run (w':=w) _ ?_ ⟨rfl,h⟩
 unfold execOp
 have:=Lib.run_next_end_at (P:=P) w k s pos o.type hk hp
 simp [ho,hx,pt,this,Result.andThen]
end
end
section
open Go.RowKit Go.QT
def spV(p:Int × Int):List Value:=[.int .i32 p.1,.int .i32 p.2]
def inR(c:Int)(l:List (Int × Int)):Bool:=l.any fun p=>decide (c ≥ p.1) && decide (c<=p.2)
def ltrL:List (Int × Int):=[(97,122),(224,246),(248,254),(945,961),(963,969),(1072,1103)]
def letterN(c:Int):Bool:=inR c ltrL
def digL:List (Int × Int):=[(48,57),(45,45)]
theorem spV_get{l:List (Int × Int)}{k:Nat}{p:Int × Int}(h:l[k]?=some p):(l.map spV)[k]?=some [.int .i32 p.1,.int .i32 p.2]:=by
 rw [List.getElem?_map,h];rfl
theorem inR_all{c:Int}{l:List (Int × Int)}{k:Nat}(hk:k=l.length)(h:∀ j p,j<k->l[j]?=some p->¬ (c ≥ p.1/\c<=p.2)):inR c l=false:=by
 unfold inR
 rw [List.any_eq_false]
 intro p hp
 obtain ⟨j,hj,rfl⟩:=List.getElem_of_mem hp
 have:=h j l[j] (by omega) (List.getElem?_eq_getElem hj)
 simpa using this
theorem inR_one{c:Int}{l:List (Int × Int)}{k:Nat}{p:Int × Int}(hp:l[k]?=some p)(h1:c ≥ p.1)(h2:c<=p.2):inR c l=true:=by
 unfold inR
 rw [List.any_eq_true]
 exact ⟨p,List.mem_of_getElem? hp,by simp [h1,h2]⟩
theorem inR_step{c:Int}{l:List (Int × Int)}{k:Nat}{p:Int × Int}(hp:l[k]?=some p)(hn:¬ (c ≥ p.1/\c<=p.2))(h:∀ j p,j<k->l[j]?=some p->¬ (c ≥ p.1/\c<=p.2)):∀ j p,j<k+1->l[j]?=some p->¬ (c ≥ p.1/\c<=p.2):=by
 intro j q hj hq
 by_cases e:j=k
 · subst e;rw [hp] at hq;injection hq with hq;subst hq;exact hn
 exact h j q (by omega) hq
end
section
open Go.RowKit Go.QT
theorem nin_any(cc:Int)(l:List (Int × Int))(A:Option Addr)(c:Nat)(w:World)(hl:l.length<=1000)(h:Hp (fun _=>False) w w [rRV 2 A c (l.map spV)] []) :
   Calls Tryz.prog 136 #[.int .i32 cc,.slice A l.length c] w fun e w'=>e=.returned (.bool (inR cc l))/\Below w.heap.size w w':=by
 have h0:=h
 refine mE 24 ?_
 refine mL (fun mM xX aA wL=>∃ (k:Nat),(k<=l.length)/\(∀ j p,j<k->l[j]?=some p->¬ (cc ≥ p.1/\cc<=p.2))/\mM=l.length-k/\aA=patch xX 24 [(0,(Value.int .i32 cc)),(7,(Value.slice A l.length c)),(8,(Value.int .i64 ((l.length:Int)))),(9,(Value.int .i64 ((k:Int))))]/\Hp (fun _=>False) w wL [rRV 2 A c ((l.map spV))] []) ⟨_,_,0,(by omega),(fun _ _ h=>absurd h (Nat.not_lt_zero _)),rfl,pM,h0.sel [] [0] (by kernel_rfl) rfl rfl⟩ ?_
 rintro _ x4 _ w4 ⟨k,hk,hN,rfl,rfl,h4⟩ KL4 hKL4
 refine mAt ?_
 by_cases b6:k<l.length
 ·
  refine mX 10 (.bool true) (Value.bool (decide ((k:Int)<(l.length:Int)))) (by simp;omega) ?_
  obtain ⟨p,hp⟩:∃ p,l[k]?=some p:=⟨_,List.getElem?_eq_getElem (by omega)⟩
  refine mW 11 (eIx (RV.lenIs (n:=l.length) (h4.rd 0 rfl) (by simp)).2 k l.length (RV.lenIs (n:=l.length) (h4.rd 0 rfl) (by simp)).1 (by omega) 301 (.tmp 7) (.tmp 9) .i64 296) ?_
  refine mW 12 (e_elemsN (RV.lenIs (n:=l.length) (h4.rd 0 rfl) (by simp)).2 k 0 ([(Value.int .i32 p.1),(Value.int .i32 p.2)]) (spV_get hp) 296 (.tmp 11) (by kernel_rfl) ([(Value.int .i32 p.1),(Value.int .i32 p.2)]) (by kernel_rfl) (by kernel_rfl) (by kernel_rfl)) ?_
  refine mN h4 296 ([(Value.int .i32 0),(Value.int .i32 0)]) fun g10 w10 h10=>?_
  refine mT (xSs h10 0 296 (.tmp 6) (.tmp 12) 0 ([(Value.int .i32 p.1),(Value.int .i32 p.2)]) ([(Value.int .i32 p.1),(Value.int .i32 p.2)])) fun _ w11 h11=>?_
  rcases (show (cc ≥ p.1/\cc<=p.2)∨(¬ cc ≥ p.1)∨(cc ≥ p.1/\¬ cc<=p.2) by omega) with ⟨hq1,hq2⟩|hq1|⟨hq1,hq2⟩
  ·
   refine ma h11 0 ?_
   refine mX 16 (.bool true) (Value.bool (decide (cc ≥ p.1))) (by simp;omega) ?_
   refine ma h11 0 ?_
   refine mX 21 (.bool true) (Value.bool (decide (cc<=p.2))) (by simp;omega) ?_
   exact mQe (Value.bool true) h11 (by rw [inR_one hp hq1 hq2])
  ·
   refine ma h11 0 ?_
   refine mX 16 (.bool false) (Value.bool (decide (cc ≥ p.1))) (by simp;omega) ?_
   refine mW 23 (exec_add _ _ _ _ bO ((k:Int)) 1 (by kernel_rfl) (by kernel_rfl) ((k:Int)+1) rfl (by omega) (by omega) _) ?_
   exact mK KL4 (hKL4 _ _ ⟨l.length-(k+1),_,(by omega),(k+1),(by omega),(inR_step hp (by omega) hN),rfl,pM,h11.sel [] [0] (by kernel_rfl) rfl rfl⟩)
  refine ma h11 0 ?_
  refine mX 16 (.bool true) (Value.bool (decide (cc ≥ p.1))) (by simp;omega) ?_
  refine ma h11 0 ?_
  refine mX 21 (.bool false) (Value.bool (decide (cc<=p.2))) (by simp;omega) ?_
  refine mW 23 (exec_add _ _ _ _ bO ((k:Int)) 1 (by kernel_rfl) (by kernel_rfl) ((k:Int)+1) rfl (by omega) (by omega) _) ?_
  exact mK KL4 (hKL4 _ _ ⟨l.length-(k+1),_,(by omega),(k+1),(by omega),(inR_step hp (by omega) hN),rfl,pM,h11.sel [] [0] (by kernel_rfl) rfl rfl⟩)
 refine mX 10 (.bool false) (Value.bool (decide ((k:Int)<(l.length:Int)))) (by simp;omega) ?_
 exact mQe (Value.bool false) h4 (by rw [inR_all (k:=k) (by omega) hN])
end
section
open Go.RowKit Go.QT
theorem flat_get(l:List (Int × Int)):∀ (i j:Nat) (x:List Value) (u:Value),(l.map spV)[i]?=some x->x[j]?=some u->(l.flatMap spV)[i*2+j]?=some u:=by
 induction l with
 | nil=>intro i j x u h;cases h
 | cons p l ih =>
   intro i j x u hx hu
   cases i with
   | zero =>
     injection hx with hx;subst hx
     have hj:j<2:=(List.getElem?_eq_some_iff.1 hu).1
     simp only [List.flatMap_cons,Nat.zero_mul,Nat.zero_add]
     rw [List.getElem?_append_left (by exact hj)]
     exact hu
   | succ i =>
     have:=ih i j x u hx hu
     simp only [List.flatMap_cons]
     rw [List.getElem?_append_right (by show 2<=_;omega),show (i+1)*2+j-(spV p).length=i*2+j by show (i+1)*2+j-2=_;omega]
     exact this
theorem rv_spans{w:World}{g:Nat}{T:TypeId}{cs:List Value}(hb:Blk w g T cs)(l:List (Int × Int))(hc:cs=l.flatMap spV)(hl:l.length<=1000):RV w 2 (some ⟨g,0,none⟩) l.length (l.map spV):=by
 subst hc
 refine ⟨by simp,by unfold maxLen;omega,?_,fun _=>⟨g,0,rfl,hb.lt,fun i x hx j u hu=>?_⟩⟩
 · intro x hx
   obtain ⟨p,_,rfl⟩:=List.mem_map.1 hx
   rfl
 rw [show 0+i*2+j=i*2+j by omega]
 exact (hb.cell _).trans (flat_get l i j x u hx hu)
section
variable{F0:Nat->Prop}{w0 w:World}{ro rs:List Res}{o:Oper}{a:Act}
theorem x_nin(h:Hp F0 w0 w ro rs)(i:Nat){g:Nat}{T:TypeId}{cs:List Value}(hi:rs[i]?=some (rBlk g T cs))(c:Int)(l:List (Int × Int))(n:Nat)(hc:cs=l.flatMap spV)(hn:l.length=n)(hl:n<=1000)
   (hp:pureVal Tryz.prog (execOp a.eval o)=some (.enter 136 #[.int .i32 c,.slice (some ⟨g,0,none⟩) n n])) :
   OpTo Tryz.prog o a w (fun u w'=>u=.bool (inR c l)/\Hp F0 w0 w' ro rs):=by
 subst hn
 have hb:Blk w g T cs:=h.own i _ hi
 refine OpTo.enter 136 [.int .i32 c,.slice (some ⟨g,0,none⟩) l.length l.length] hp (nin_any c l _ _ w hl ((Hp.nil (fun _=>False) w).addR _ (rv_spans hb l hc hl) (by simp))) fun e w' hq=>?_
 exact ⟨_,hq.1,rfl,h.below hq.2⟩
end
end
section
open Go.RowKit Go.QT
theorem nletter_any(c:Int)(w:World):Calls Tryz.prog 135 #[.int .i32 c] w fun e w'=>e=.returned (.bool (letterN c))/\Below w.heap.size w w':=by
 have h0:=Hp.nil (fun _=>False) w
 refine mE 12 ?_
 refine mT (x_bs h0 296 ([(Value.int .i32 97),(Value.int .i32 122),(Value.int .i32 224),(Value.int .i32 246),(Value.int .i32 248),(Value.int .i32 254),(Value.int .i32 945),(Value.int .i32 961),(Value.int .i32 963),(Value.int .i32 969),(Value.int .i32 1072),(Value.int .i32 1103)]) 6 (by kernel_rfl)) ?_
 rintro _ w3 ⟨g3,rfl,h3⟩
 refine mT (x_nin h3 0 rfl c ltrL 6 rfl rfl (by decide) (by kernel_rfl)) ?_
 rintro _ w4 ⟨rfl,h4⟩
 exact mQ h4
theorem x_nletter{F0:Nat->Prop}{w0 w:World}{ro rs:List Res}{o:Oper}{a:Act}(h:Hp F0 w0 w ro rs)(c:Int)(hp:pureVal Tryz.prog (execOp a.eval o)=some (.enter 135 #[.int .i32 c])) :
   OpTo Tryz.prog o a w (fun u w'=>u=.bool (letterN c)/\Hp F0 w0 w' ro rs):=
 OpTo.enter 135 [.int .i32 c] hp (nletter_any c w) fun _e _w' hq=>⟨_,hq.1,rfl,h.below hq.2⟩
end
section
open Go.RowKit Go.QT
def badN(i:Nat)(c:Int):Bool:=!letterN c && (decide (i=0) || !inR c digL)
/-- How many runes from pos on; none: one of them is wrong. (f: steps left.) -/
def runesN(s:ByteArray):Nat->Nat->Nat->Option Nat
 | 0,_,n=>some n
 | f+1,pos,n=>if pos<s.size then if badN pos (Utf8.decode s pos).1 then none else runesN s f (pos+(Utf8.decode s pos).2) (n+1) else some n
def rightN(s:ByteArray):Bool:=match runesN s (s.size+1) 0 0 with|none=>false|some n=>decide (1<=n) && decide (n<=16)
theorem runesN_bad{s:ByteArray}{f pos n:Nat}{r:Option Nat}(h:runesN s (f+1) pos n=r)(hp:pos<s.size)(hb:badN pos (Utf8.decode s pos).1=true):r=none:=by
 rw [← h];simp [runesN,hp,hb]
theorem runesN_go{s:ByteArray}{f pos n:Nat}{r:Option Nat}(h:runesN s (f+1) pos n=r)(hp:pos<s.size)(hb:badN pos (Utf8.decode s pos).1=false):runesN s f (pos+(Utf8.decode s pos).2) (n+1)=r:=by
 rw [← h];simp [runesN,hp,hb]
theorem runesN_end{s:ByteArray}{f pos n:Nat}{r:Option Nat}(h:runesN s f pos n=r)(hp:¬ pos<s.size):r=some n:=by
 rw [← h];cases f <;> simp [runesN,hp]
theorem rightN_some{s:ByteArray}{n:Nat}(h:runesN s (s.size+1) 0 0=some n):rightN s=(decide (1<=n) && decide (n<=16)):=by
 simp [rightN,h]
theorem rightN_none{s:ByteArray}(h:runesN s (s.size+1) 0 0=none):rightN s=false:=by
 simp [rightN,h]
end
section
open Go.RowKit Go.QT
theorem bad_cases(i:Nat)(c:Int):(letterN c=true/\badN i c=false)∨(letterN c=false/\i=0/\badN i c=true)∨(letterN c=false/\i≠0/\inR c digL=true/\badN i c=false)∨(letterN c=false/\i≠0/\inR c digL=false/\badN i c=true):=by
 unfold badN
 by_cases h:i=0 <;> cases letterN c <;> cases inR c digL <;> simp [h]
theorem nright_any(s:ByteArray)(w:World)(hs:s.size<=1000000000):Calls Tryz.prog 115 #[.string s] w fun e w'=>e=.returned (.bool (rightN s))/\Below w.heap.size w w':=by
 obtain ⟨R,hR⟩:∃ R,R=runesN s (s.size+1) 0 0:=⟨_,rfl⟩
 have h0:=Hp.nil (fun _=>False) w
 refine mE 35 ?_
 refine mT (x_range h0 9 (.tmp 6) (by kernel_rfl) s (by kernel_rfl) (by kernel_rfl)) ?_
 rintro _ w5 ⟨k5,rfl,h5⟩
 refine mL (fun mM xX aA wL=>∃ (f:Nat) (pos:Nat) (n:Nat),(runesN s f pos n=R)/\(s.size<f+(pos))/\(n<=pos)/\mM=s.size-pos/\aA=patch xX 35 [(3,(Value.int .i64 ((n:Int)))),(7,(pt k5 0))]/\Hp (fun _=>False) w wL [] [rIter k5 s pos]) ⟨_,_,((s.size+1)),0,0,hR.symm,(by omega),(by omega),rfl,pM,h5.sel [0] [] (by kernel_rfl) rfl rfl⟩ ?_
 rintro _ x6 _ w6 ⟨f,pos,n,hr,hf,hn,rfl,rfl,h6⟩ KL6 hKL6
 refine mAt ?_
 by_cases b8:pos<s.size
 ·
  refine mT (x_next h6 0 rfl (.tmp 7) (by kernel_rfl) (by kernel_rfl) b8) ?_
  rintro _ w9 ⟨rfl,h9⟩
  have hwp:=Lib.decode_width_pos s pos b8
  rcases bad_cases pos ((Utf8.decode s pos).1:Int) with ⟨hq1,hbad⟩|⟨hq1,hq2,hbad⟩|⟨hq1,hq2,hq3,hbad⟩|⟨hq1,hq2,hq3,hbad⟩
  ·
   refine mT (x_nletter h9 (((Utf8.decode s pos).1:Int)) (by kernel_rfl)) ?_
   rintro _ w15 ⟨rfl,h15⟩
   refine mX 14 (.bool false) (Value.bool (!(letterN (((Utf8.decode s pos).1:Int))))) (by rw [hq1];rfl) ?_
   refine mW 28 (exec_add _ _ _ _ bO ((n:Int)) 1 (by kernel_rfl) (by kernel_rfl) ((n:Int)+1) rfl (by omega) (by omega) _) ?_
   exact mK KL6 (hKL6 _ _ ⟨s.size-(pos+(Utf8.decode s pos).2),_,(by omega),((f-1)),(pos+(Utf8.decode s pos).2),(n+1),(runesN_go (f:=f-1) (by rw [Nat.sub_add_cancel (by omega)];exact hr) b8 hbad),(by omega),(by omega),rfl,pM,h15.sel [0] [] (by kernel_rfl) rfl rfl⟩)
  ·
   refine mT (x_nletter h9 (((Utf8.decode s pos).1:Int)) (by kernel_rfl)) ?_
   rintro _ w16 ⟨rfl,h16⟩
   refine mX 14 (.bool true) (Value.bool (!(letterN (((Utf8.decode s pos).1:Int))))) (by rw [hq1];rfl) ?_
   refine mX 17 (.bool true) (Value.bool (((pos:Int)) == 0)) (by simp [hq2]) ?_
   exact mQe (Value.bool false) h16 (by rw [rightN_none (hR.symm.trans (runesN_bad (f:=f-1) (by rw [Nat.sub_add_cancel (by omega)];exact hr) b8 hbad))])
  ·
   refine mT (x_nletter h9 (((Utf8.decode s pos).1:Int)) (by kernel_rfl)) ?_
   rintro _ w18 ⟨rfl,h18⟩
   refine mX 14 (.bool true) (Value.bool (!(letterN (((Utf8.decode s pos).1:Int))))) (by rw [hq1];rfl) ?_
   refine mX 17 (.bool false) (Value.bool (((pos:Int)) == 0)) (by simp;omega) ?_
   refine mT (x_bs h18 296 ([(Value.int .i32 48),(Value.int .i32 57),(Value.int .i32 45),(Value.int .i32 45)]) 2 (by kernel_rfl)) ?_
   rintro _ w19 ⟨g19,rfl,h19⟩
   refine mT (x_nin h19 0 rfl (((Utf8.decode s pos).1:Int)) digL 2 rfl rfl (by decide) (by kernel_rfl)) ?_
   rintro _ w20 ⟨rfl,h20⟩
   refine mX 24 (.bool false) (Value.bool (!(inR (((Utf8.decode s pos).1:Int)) digL))) (by rw [hq3];rfl) ?_
   refine mW 28 (exec_add _ _ _ _ bO ((n:Int)) 1 (by kernel_rfl) (by kernel_rfl) ((n:Int)+1) rfl (by omega) (by omega) _) ?_
   exact mK KL6 (hKL6 _ _ ⟨s.size-(pos+(Utf8.decode s pos).2),_,(by omega),((f-1)),(pos+(Utf8.decode s pos).2),(n+1),(runesN_go (f:=f-1) (by rw [Nat.sub_add_cancel (by omega)];exact hr) b8 hbad),(by omega),(by omega),rfl,pM,h20.sel [1] [] (by kernel_rfl) rfl rfl⟩)
  refine mT (x_nletter h9 (((Utf8.decode s pos).1:Int)) (by kernel_rfl)) ?_
  rintro _ w21 ⟨rfl,h21⟩
  refine mX 14 (.bool true) (Value.bool (!(letterN (((Utf8.decode s pos).1:Int))))) (by rw [hq1];rfl) ?_
  refine mX 17 (.bool false) (Value.bool (((pos:Int)) == 0)) (by simp;omega) ?_
  refine mT (x_bs h21 296 ([(Value.int .i32 48),(Value.int .i32 57),(Value.int .i32 45),(Value.int .i32 45)]) 2 (by kernel_rfl)) ?_
  rintro _ w22 ⟨g22,rfl,h22⟩
  refine mT (x_nin h22 0 rfl (((Utf8.decode s pos).1:Int)) digL 2 rfl rfl (by decide) (by kernel_rfl)) ?_
  rintro _ w23 ⟨rfl,h23⟩
  refine mX 24 (.bool true) (Value.bool (!(inR (((Utf8.decode s pos).1:Int)) digL))) (by rw [hq3];rfl) ?_
  exact mQe (Value.bool false) h23 (by rw [rightN_none (hR.symm.trans (runesN_bad (f:=f-1) (by rw [Nat.sub_add_cancel (by omega)];exact hr) b8 hbad))])
 refine mT (x_nextE h6 0 rfl (.tmp 7) (by kernel_rfl) (by kernel_rfl) b8) ?_
 rintro _ w25 ⟨rfl,h25⟩
 have hRn:=runesN_end hr b8
 subst hRn
 rcases (show (1<=n/\n<=16)∨(¬ 1<=n)∨(1<=n/\¬ n<=16) by omega) with ⟨hq1,hq2⟩|hq1|⟨hq1,hq2⟩
 ·
  refine mX 30 (.bool true) (Value.bool (decide ((n:Int) ≥ 1))) (by simp;omega) ?_
  refine mX 33 (.bool true) (Value.bool (decide ((n:Int)<=16))) (by simp;omega) ?_
  exact mQe (Value.bool true) h25 (by rw [rightN_some hR.symm];simp [hq1,hq2])
 ·
  refine mX 30 (.bool false) (Value.bool (decide ((n:Int) ≥ 1))) (by simp;omega) ?_
  exact mQe (Value.bool false) h25 (by rw [rightN_some hR.symm];simp [hq1])
 refine mX 30 (.bool true) (Value.bool (decide ((n:Int) ≥ 1))) (by simp;omega) ?_
 refine mX 33 (.bool false) (Value.bool (decide ((n:Int)<=16))) (by simp;omega) ?_
 exact mQe (Value.bool false) h25 (by rw [rightN_some hR.symm];simp [hq1,hq2])
end
section
open Go.RowKit Go.QT
def SBF(F:Nat->Prop)(w:World)(v:Value)(l:Bytes):Prop:=SB w v l/\(l≠[]->∀ q,v.ownBlock=some q->F q)
def RVF(F:Nat->Prop)(w:World)(sz:Nat)(A:Option Addr)(c:Nat)(xs:List (List Value)):Prop:=RV w sz A c xs/\(xs≠[]->∀ q,ownA A=some q->F q)
/-- The cells cs are the value t; what they point to lies in the blocks F. -/
inductive DVR (F:Nat->Prop) (w:World):List Value->DVal->Prop
 | mk (k t n:Nat) (bv:Value) (b:Bytes) (A:Option Addr) (c:Nat) (xs:List (List Value)) (ts:List DVal) (hn:n<18446744073709551616) (hb:SBF F w bv b) (hx:RVF F w 5 A c xs) (hl:xs.length=ts.length)
     (hs:∀ (i:Nat) (x:List Value) (u:DVal),xs[i]?=some x->ts[i]?=some u->DVR F w x u) :
     DVR F w [.int .i64 (k:Int),.int .i64 (t:Int),.int .u64 (n:Int),bv,.slice A ts.length c] (.mk k t n b ts)
theorem SBF.keep{F:Nat->Prop}{w w':World}{v:Value}{l:Bytes}(h:SBF F w v l)(hs:w.heap.size<=w'.heap.size)(hk:∀ q,F q->w'.heap[q]?=w.heap[q]?):SBF F w' v l:=
 ⟨(rSB v l).keep h.1 hs (fun q hq=>hk q (h.2 hq.1 q hq.2)),h.2⟩
theorem RVF.keep{F:Nat->Prop}{w w':World}{sz:Nat}{A:Option Addr}{c:Nat}{xs:List (List Value)}(h:RVF F w sz A c xs)(hs:w.heap.size<=w'.heap.size)(hk:∀ q,F q->w'.heap[q]?=w.heap[q]?):RVF F w' sz A c xs:=
 ⟨(rRV sz A c xs).keep h.1 hs (fun q hq=>hk q (h.2 hq.1 q hq.2)),h.2⟩
theorem DVR.keep{F:Nat->Prop}{w w':World}{cs:List Value}{v:DVal}(h:DVR F w cs v)(hs:w.heap.size<=w'.heap.size)(hk:∀ q,F q->w'.heap[q]?=w.heap[q]?):DVR F w' cs v:=by
 induction h with
 | mk k t n bv b A c xs ts hn hb hx hl _ ih=>exact .mk k t n bv b A c xs ts hn (hb.keep hs hk) (hx.keep hs hk) hl ih
theorem DVR.mono{F G:Nat->Prop}{w:World}{cs:List Value}{v:DVal}(h:DVR F w cs v)(hFG:∀ q,F q->G q):DVR G w cs v:=by
 induction h with
 | mk k t n bv b A c xs ts hn hb hx hl _ ih=>exact .mk k t n bv b A c xs ts hn ⟨hb.1,fun h q hq=>hFG q (hb.2 h q hq)⟩ ⟨hx.1,fun h q hq=>hFG q (hx.2 h q hq)⟩ hl ih
/-- A value. -/
def rDV(F:Nat->Prop)(cs:List Value)(v:DVal):Res where
 F:=F
 Φ:=fun w=>(∀ q,F q->q<w.heap.size)/\DVR F w cs v
 lt:=fun h=>h.1
 keep:=fun h hs hk=>⟨fun q hq=>Nat.lt_of_lt_of_le (h.1 q hq) hs,h.2.keep hs hk⟩
/-- The values of a list. -/
def rDL(F:Nat->Prop)(xs:List (List Value))(ts:List DVal):Res where
 F:=F
 Φ:=fun w=>(∀ q,F q->q<w.heap.size)/\∀ (i:Nat) (x:List Value) (u:DVal),xs[i]?=some x->ts[i]?=some u->DVR F w x u
 lt:=fun h=>h.1
 keep:=fun h hs hk=>⟨fun q hq=>Nat.lt_of_lt_of_le (h.1 q hq) hs,fun i x u hx hu=>(h.2 i x u hx hu).keep hs hk⟩
theorem dv_open{F:Nat->Prop}{w:World}{cs:List Value}{v:DVal}(h:(rDV F cs v).Φ w):∃ B d A c xs,cs=[.int .i64 (v.kind:Int),.int .i64 (v.tag:Int),.int .u64 (v.n:Int),.slice B v.b.length d,.slice A v.l.length c] /\
   SB w (.slice B v.b.length d) v.b/\RV w 5 A c xs/\xs.length=v.l.length/\v.n<18446744073709551616/\(∀ q,(rSB (.slice B v.b.length d) v.b).F q->F q)/\(rDL F xs v.l).Φ w:=by
 obtain ⟨hF,h⟩:=h
 cases h with
 | mk k t n bv b A c xs ts hn hb hx hl hs =>
   obtain ⟨B,d,rfl,_⟩:=id hb.1
   exact ⟨B,d,A,c,xs,rfl,hb.1,hx.1,hl,hn,fun q hq=>hb.2 hq.1 q hq.2,hF,hs⟩
theorem dl_at{F:Nat->Prop}{w:World}{xs:List (List Value)}{ts:List DVal}(h:(rDL F xs ts).Φ w)(hl:xs.length=ts.length)(i:Nat)(hi:i<ts.length):∃ x u,xs[i]?=some x/\ts[i]?=some u/\(rDV F x u).Φ w:=
 ⟨xs[i]'(by omega),ts[i],List.getElem?_eq_getElem _,List.getElem?_eq_getElem _,h.1,h.2 i _ _ (List.getElem?_eq_getElem _) (List.getElem?_eq_getElem _)⟩
theorem rvf_nil(F:Nat->Prop)(w:World)(sz c:Nat)(hc:c<=maxLen)(A:Option Addr):RVF F w sz A c []:=⟨⟨Nat.zero_le _,hc,by simp,fun h=>absurd rfl h⟩,fun h=>absurd rfl h⟩
theorem sbf_nil(F:Nat->Prop)(w:World):SBF F w (.slice none 0 0) []:=⟨SB.nil _ 0 (by unfold maxLen;omega) none,fun h=>absurd rfl h⟩
/-- A list. -/
theorem dv_seq{w:World}{F:Nat->Prop}{A:Option Addr}{c t:Nat}{xs:List (List Value)}{ts:List DVal}(hx:RVF F w 5 A c xs)(hl:xs.length=ts.length)(hs:(rDL F xs ts).Φ w) :
   (rDV F [.int .i64 2,.int .i64 (t:Int),.int .u64 0,.slice none 0 0,.slice A ts.length c] (.mk 2 t 0 [] ts)).Φ w:=
 ⟨hs.1,.mk 2 t 0 _ [] A c xs ts (by omega) (sbf_nil _ _) hx hl hs.2⟩
end
section
open Go.RowKit Go.QT
theorem short_any(n:Nat)(_hn:n<18446744073709551616)(w:World):Calls Tryz.prog 140 #[.int .u64 (n:Int)] w (SbPost w (shortB n)):=by
 have h0:=Hp.nil (fun _=>False) w
 refine enter 17 Tryz.func140 rfl rfl ?_
 refine wp_reset 18 [(0,(Value.int .u64 ((n:Int))))] (fun x0=>?_)
 refine wR fun K1 hK1=>?_
 refine wq_p 1 [(2,nS)] ?_
 refine wE hK1 (wR fun K2 hK2=>?_)
 refine wq_p 1 [(4,(Value.int .u64 ((n:Int))))] ?_
 refine wT 5 (x_bytesE h0 93 [(Value.int .u64 ((n:Int)))] (by kernel_rfl) (put_any (n) _) (put8 (n)) (8) rfl rfl) ?_
 rintro _ w3 ⟨A3,c3,rfl,h3⟩
 refine wq_p 1 [(3,(Value.slice A3 8 c3))] ?_
 refine wE hK2 (wp_seq_k fun K4 hK4=>wp_block ?_)
 have h5:=h3.obSB 0 rfl
 refine wp_loopm (fun mM xX aA wL=>∃ (l:Bytes) (Av:Option Addr) (cv:Nat),(stripZ l=shortB n)/\(0<(l:Bytes).length)/\((l:Bytes).length<=8)/\mM=(l:Bytes).length/\aA=patch xX 18 [(0,(Value.int .u64 ((n:Int)))),(2,(Value.slice none 0 0)),(3,(Value.slice Av ((l:Bytes).length) cv))]/\Hp (fun _=>False) w wL [] [rSB ((Value.slice Av ((l:Bytes).length) cv)) l]) ⟨_,((put8 n)),A3,c3,rfl,(by rw [put8_len];decide),(by rw [put8_len];decide),rfl,(pEq 18),h5.sel [0] [] (by kernel_rfl) rfl rfl⟩ ?_
 rintro _ x6 _ w6 ⟨l,Av,cv,hl,hp0,h8,rfl,rfl,h6⟩
 refine wp_seq_k fun K7 hK7=>wp_seq_k fun K8 hK8=>?_
 rcases (show (1<l.length/\gb l 0=0)∨(¬ 1<l.length)∨(1<l.length/\gb l 0≠0) by by_cases c1:1<l.length <;> by_cases c2:gb l 0=0 <;> simp [c1,c2]) with ⟨hq1,hq2⟩|hq|⟨hq1,hq2⟩
 ·
  refine reg_lit ?_
  refine wq_p 2 [(7,(D (((l:Bytes).length:Int)))),(6,(Value.slice Av ((l:Bytes).length) cv))] (wV 8 (.bool true) (eqI (Value.bool (decide (((l:Bytes).length:Int)>1))) (by simp;omega)) (wq_p 2 [(10,(Value.slice Av ((l:Bytes).length) cv)),(9,I)] (wV 11 (eAt Av (0*1+0)) (eIx (SB.rvn (h6.at_ 0 rfl)).2 0 ((l:Bytes).length) (SB.rvn (h6.at_ 0 rfl)).1 (by omega) 25 (.tmp 10) (.const O) .i64 5) ?_)))
  refine wV 12 (Value.int .u8 (ub (gb (l) (0)))) (eEl (SB.rvn (h6.at_ 0 rfl)).2 0 0 ([(Value.int .u8 (ub (gb (l) (0))))]) (bx_get _ _ (by omega)) 5 (.tmp 11) (Value.int .u8 (ub (gb (l) (0))))) (wV 13 (.bool true) (eqI (Value.bool ((ub (gb (l) (0))) == 0)) (congrArg Value.bool (ub0_eq hq2))) (wq_p 1 [(14,I)] ?_))
  refine wE hK8 (cT (wp_skip (seq_n hK7 (wp_block (reg_lit ?_)))))
  refine wq_p 1 [(15,(Value.slice Av ((l:Bytes).length) cv))] ?_
  obtain ⟨A10,c10,e10,h10⟩:=h6.sbCut 0 rfl 1 (by omega)
  refine wV 16 (Value.slice A10 ((l.drop 1:Bytes).length) c10) (e10 ▸ e_cut_l (h6.at_ 0 rfl) (.tmp 15) (.const (D 1)) (by kernel_rfl) (by kernel_rfl) .i64 1 (by kernel_rfl) (by omega) _) (wq_p 1 [(3,(Value.slice A10 ((l.drop 1:Bytes).length) c10))] ?_)
  refine wl_end rfl (blk_n ?_)
  refine ⟨((l.drop 1):Bytes).length,(by rw [List.length_drop];omega),((l.drop 1)),A10,c10,(by rw [stripZ_step l hq1 hq2];exact hl),(by rw [List.length_drop];omega),(by rw [List.length_drop];omega),rfl,(pEq 18),h10.sel [0] [] (by kernel_rfl) rfl rfl⟩
 ·
  refine reg_lit ?_
  refine wq_p 2 [(7,(D (((l:Bytes).length:Int)))),(6,(Value.slice Av ((l:Bytes).length) cv))] (wV 8 (.bool false) (eqI (Value.bool (decide (((l:Bytes).length:Int)>1))) (by simp;omega)) (wq_p 4 [(12,undef),(11,undef),(10,undef),(9,V)] (wq_p 1 [(13,undef)] ?_)))
  refine wq_p 1 [(14,V)] ?_
  refine wE hK8 (cF (wp_exit (seq_e (seq_e (blk_e (seq_n hK4 (wR fun K11 hK11=>?_)))))))
  refine wq_p 2 [(2,(Value.slice Av ((l:Bytes).length) cv)),(17,(Value.slice Av ((l:Bytes).length) cv))] ?_
  refine wE hK11 (wp_ret ?_)
  refine post_1 rfl (by kernel_rfl) (rtm (Value.slice Av ((l:Bytes).length) cv)) ?_
  exact sbpost_sb h6 0 rfl (by rintro rfl;cases hp0) (by rw [← hl];exact (stripZ_end l (by rintro ⟨c1,c2⟩;first|exact hq c1|exact hq2 c2)).symm)
 refine reg_lit ?_
 refine wq_p 2 [(7,(D (((l:Bytes).length:Int)))),(6,(Value.slice Av ((l:Bytes).length) cv))] (wV 8 (.bool true) (eqI (Value.bool (decide (((l:Bytes).length:Int)>1))) (by simp;omega)) (wq_p 2 [(10,(Value.slice Av ((l:Bytes).length) cv)),(9,I)] (wV 11 (eAt Av (0*1+0)) (eIx (SB.rvn (h6.at_ 0 rfl)).2 0 ((l:Bytes).length) (SB.rvn (h6.at_ 0 rfl)).1 (by omega) 25 (.tmp 10) (.const O) .i64 5) ?_)))
 refine wV 12 (Value.int .u8 (ub (gb (l) (0)))) (eEl (SB.rvn (h6.at_ 0 rfl)).2 0 0 ([(Value.int .u8 (ub (gb (l) (0))))]) (bx_get _ _ (by omega)) 5 (.tmp 11) (Value.int .u8 (ub (gb (l) (0))))) (wV 13 (.bool false) (eqI (Value.bool ((ub (gb (l) (0))) == 0)) (congrArg Value.bool (ub0_ne hq2))) (wq_p 1 [(14,V)] ?_))
 refine wE hK8 (cF (wp_exit (seq_e (seq_e (blk_e (seq_n hK4 (wR fun K12 hK12=>?_)))))))
 refine wq_p 2 [(2,(Value.slice Av ((l:Bytes).length) cv)),(17,(Value.slice Av ((l:Bytes).length) cv))] ?_
 refine wE hK12 (wp_ret ?_)
 refine post_1 rfl (by kernel_rfl) (rtm (Value.slice Av ((l:Bytes).length) cv)) ?_
 exact sbpost_sb h6 0 rfl (by rintro rfl;cases hp0) (by rw [← hl];exact (stripZ_end l (by rintro ⟨c1,c2⟩;first|exact hq c1|exact hq2 c2)).symm)
end
section
open Go.RowKit Go.QT
theorem dnum_any(n:Nat)(w:World):Calls Tryz.prog 119 #[.int .u64 (n:Int)] w (DPost w (.agg #[.int .i64 0,.int .i64 0,.int .u64 (n:Int),.slice none 0 0,.slice none 0 0])):=by
 have h0:=Hp.nil (fun _=>False) w
 refine mE 5 ?_
 refine mN h0 196 ([(Value.int .i64 0),(Value.int .i64 0),(Value.int .u64 0),(Value.slice none 0 0),(Value.slice none 0 0)]) fun g2 w2 h2=>?_
 refine mT (xSs h2 0 196 (.tmp 2) (.tmp 4) 0 ([(Value.int .i64 0),(Value.int .i64 0),(Value.int .u64 ((n:Int))),(Value.slice none 0 0),(Value.slice none 0 0)]) ([(Value.int .i64 0),(Value.int .i64 0),(Value.int .u64 ((n:Int))),(Value.slice none 0 0),(Value.slice none 0 0)])) fun _ w4 h4=>?_
 refine mF (post_1 (r:=.cell 2 196) (by kernel_rfl) rfl (rce (h4.at_ 0 rfl)) ?_)
 exact ⟨rfl,h4.below0⟩
theorem dseq_any(t:Int)(A:Option Addr)(m c:Nat)(w:World):Calls Tryz.prog 94 #[.int .i64 t,.slice A m c] w (DPost w (.agg #[.int .i64 2,.int .i64 t,.int .u64 0,.slice none 0 0,.slice A m c])):=by
 have h0:=Hp.nil (fun _=>False) w
 refine mE 8 ?_
 refine mN h0 196 ([(Value.int .i64 0),(Value.int .i64 0),(Value.int .u64 0),(Value.slice none 0 0),(Value.slice none 0 0)]) fun g2 w2 h2=>?_
 refine mT (xSs h2 0 196 (.tmp 4) (.tmp 7) 0 ([(Value.int .i64 2),(Value.int .i64 t),(Value.int .u64 0),(Value.slice none 0 0),(Value.slice A m c)]) ([(Value.int .i64 2),(Value.int .i64 t),(Value.int .u64 0),(Value.slice none 0 0),(Value.slice A m c)])) fun _ w4 h4=>?_
 refine mF (post_1 (r:=.cell 4 196) (by kernel_rfl) rfl (rce (h4.at_ 0 rfl)) ?_)
 exact ⟨rfl,h4.below0⟩
/-- What der.Raw leaves. -/
def RawPost(w:World)(b:Bytes)(e:Ending)(w':World):Prop:=∃ A c,e=.returned (.agg #[.int .i64 1,.int .i64 0,.int .u64 0,.slice A b.length c,.slice none 0 0])/\SB w' (.slice A b.length c) b/\Below w.heap.size w w'/\∀ q,(Value.slice A b.length c).ownBlock=some q->w.heap.size<=q
theorem rawpost_of{w w0:World}{ro rs:List Res}{A:Option Addr}{c:Nat}{b:Bytes}(h:Hp (fun _=>False) w0 w ro rs)(i:Nat)(hi:rs[i]?=some (rOB (.slice A b.length c) b)):RawPost w0 b (.returned (.agg #[.int .i64 1,.int .i64 0,.int .u64 0,.slice A b.length c,.slice none 0 0])) w:=by
 refine ⟨A,c,rfl,OB.sb (h.own i _ hi),h.below0,fun q hq=>?_⟩
 rcases h.mine i _ hi q hq with h3|h3
 · exact h3.elim
 exact h3
theorem draw_any(v:Value)(b:Bytes)(w:World)(hv:SB w v b)(hl:b.length<=1000000):Calls Tryz.prog 97 #[v] w (RawPost w b):=by
 obtain ⟨B,d,rfl,hc1,hc2⟩:=sb_form hv
 have h0:=Hp.ro1 (rSB (.slice B b.length d) b) hv
 refine mE 6 ?_
 refine mN h0 196 ([(Value.int .i64 0),(Value.int .i64 0),(Value.int .u64 0),(Value.slice none 0 0),(Value.slice none 0 0)]) fun g2 w2 h2=>?_
 have h4:=h2.obNil
 refine mT (x_appG h4 0 rfl (.const (Value.slice none 0 0)) (.tmp 3) (by kernel_rfl) (Value.slice B b.length d) (by kernel_rfl) (by kernel_rfl) (h4.rd 0 rfl) (by simp;omega) (b) (b.length) rfl rfl) ?_
 rintro _ w5 ⟨A5,c5,rfl,h5⟩
 refine mT (xSs h5 1 196 (.tmp 2) (.tmp 5) 0 ([(Value.int .i64 1),(Value.int .i64 0),(Value.int .u64 0),(Value.slice A5 b.length c5),(Value.slice none 0 0)]) ([(Value.int .i64 1),(Value.int .i64 0),(Value.int .u64 0),(Value.slice A5 b.length c5),(Value.slice none 0 0)])) fun _ w6 h6=>?_
 refine mF (post_1 (r:=.cell 2 196) (by kernel_rfl) rfl (rce (h6.at_ 1 rfl)) ?_)
 exact rawpost_of h6 0 rfl
theorem right_step(d:Nat)(hd:d<=100)(ih:d<=8->∀ (F:Nat->Prop) (cs:List Value) (v:DVal) (w:World),(rDV F cs v).Φ w->Calls Tryz.prog 125 #[.agg cs.toArray,.int .i64 ((d+1:Nat):Int)] w (DPost w (.bool (rightV v (d+1)))))
   (F:Nat->Prop) (cs:List Value) (v:DVal) (w:World) (hv:(rDV F cs v).Φ w):Calls Tryz.prog 125 #[.agg cs.toArray,.int .i64 (d:Int)] w (DPost w (.bool (rightV v d))):=by
 obtain ⟨k,t,n,b,ts⟩:=v
 obtain ⟨B,dd,A,c,xs,rfl,hbb,hxx,hll,hn6,hbF,hLL⟩:=dv_open hv
 simp only [DVal.kind,DVal.tag,DVal.n,DVal.b,DVal.l] at *
 have hcap:ts.length<=9223372036854775807:=by have h1:=hxx.le;have h2:=hxx.cap;unfold maxLen at h2;omega
 have h0:=((Hp.ro1 (rDL F xs ts) hLL).addR (rSB (.slice B b.length dd) b) hbb (by simp)).addR (rRV 5 A c xs) hxx (by simp)
 refine mE 68 ?_
 refine mN h0 196 ([(Value.int .i64 ((k:Int))),(Value.int .i64 ((t:Int))),(Value.int .u64 ((n:Int))),(Value.slice B b.length dd),(Value.slice A ts.length c)]) fun g2 w2 h2=>?_
 rcases (show (30<t)∨(t<=30/\8<d)∨(t<=30/\d<=8) by omega) with hq|⟨hq1,hq⟩|⟨hq1,hq2⟩
 ·
  refine ma h2 0 ?_
  refine mX 9 (.bool false) (Value.bool (decide ((t:Int)<0))) (by simp) ?_
  refine ma h2 0 ?_
  refine mX 13 (.bool true) (Value.bool (decide ((t:Int)>30))) (by simp;omega) ?_
  refine mP (Value.bool false) ?_
  exact ⟨congrArg (fun x=>Ending.returned (Value.bool x)) ((rv_bad (by omega))).symm,h2.below0⟩
 ·
  refine ma h2 0 ?_
  refine mX 9 (.bool false) (Value.bool (decide ((t:Int)<0))) (by simp) ?_
  refine ma h2 0 ?_
  refine mX 13 (.bool false) (Value.bool (decide ((t:Int)>30))) (by simp;omega) ?_
  refine mX 17 (.bool true) (Value.bool (decide ((d:Int)>8))) (by simp;omega) ?_
  refine mP (Value.bool false) ?_
  exact ⟨congrArg (fun x=>Ending.returned (Value.bool x)) ((rv_bad (by omega))).symm,h2.below0⟩
 refine ma h2 0 ?_
 refine mX 9 (.bool false) (Value.bool (decide ((t:Int)<0))) (by simp) ?_
 refine ma h2 0 ?_
 refine mX 13 (.bool false) (Value.bool (decide ((t:Int)>30))) (by simp;omega) ?_
 refine mX 17 (.bool false) (Value.bool (decide ((d:Int)>8))) (by simp;omega) ?_
 refine ma h2 0 ?_
 refine m_ifeq 21 ((k:Int)) 0 (by kernel_rfl) (fun b11=>?_) (fun b11=>?_)
 ·
  have hk0:k=0:=by omega
  rcases (show (b.length=0/\ts.length=0)∨(¬ b.length=0)∨(b.length=0/\¬ ts.length=0) by by_cases c1:b.length=0 <;> by_cases c2:ts.length=0 <;> simp [c1,c2]) with ⟨hz1,hz2⟩|hz1|⟨hz1,hz2⟩
  ·
   refine ma h2 0 ?_
   refine mX 26 (.bool true) (Value.bool (((b.length:Int)) == 0)) (bz_eq hz1) ?_
   refine ma h2 0 ?_
   refine mX 31 (.bool true) (Value.bool (((ts.length:Int)) == 0)) (bz_eq hz2) ?_
   refine mP (Value.bool true) ?_
   exact ⟨congrArg (fun x=>Ending.returned (Value.bool x)) ((rv0_t hq1 hq2 hz1 hz2 hk0)).symm,h2.below0⟩
  ·
   refine ma h2 0 ?_
   refine mX 26 (.bool false) (Value.bool (((b.length:Int)) == 0)) (bz_ne hz1) ?_
   refine mP (Value.bool false) ?_
   exact ⟨congrArg (fun x=>Ending.returned (Value.bool x)) ((rv0_f hq1 hq2 (.inl hz1) hk0)).symm,h2.below0⟩
  refine ma h2 0 ?_
  refine mX 26 (.bool true) (Value.bool (((b.length:Int)) == 0)) (bz_eq hz1) ?_
  refine ma h2 0 ?_
  refine mX 31 (.bool false) (Value.bool (((ts.length:Int)) == 0)) (bz_ne hz2) ?_
  refine mP (Value.bool false) ?_
  exact ⟨congrArg (fun x=>Ending.returned (Value.bool x)) ((rv0_f hq1 hq2 (.inr hz2) hk0)).symm,h2.below0⟩
 have hk0:k≠0:=by omega
 refine m_ifeq 33 ((k:Int)) 1 (by kernel_rfl) (fun b15=>?_) (fun b15=>?_)
 ·
  have hk1:k=1:=by omega
  rcases (show (n=0/\ts.length=0)∨(¬ n=0)∨(n=0/\¬ ts.length=0) by by_cases c1:n=0 <;> by_cases c2:ts.length=0 <;> simp [c1,c2]) with ⟨hz1,hz2⟩|hz1|⟨hz1,hz2⟩
  ·
   refine ma h2 0 ?_
   refine mX 37 (.bool true) (Value.bool (((n:Int)) == 0)) (bz_eq hz1) ?_
   refine ma h2 0 ?_
   refine mX 42 (.bool true) (Value.bool (((ts.length:Int)) == 0)) (bz_eq hz2) ?_
   refine mP (Value.bool true) ?_
   exact ⟨congrArg (fun x=>Ending.returned (Value.bool x)) ((rv1_t hq1 hq2 hz1 hz2 hk1)).symm,h2.below0⟩
  ·
   refine ma h2 0 ?_
   refine mX 37 (.bool false) (Value.bool (((n:Int)) == 0)) (bz_ne hz1) ?_
   refine mP (Value.bool false) ?_
   exact ⟨congrArg (fun x=>Ending.returned (Value.bool x)) ((rv1_f hq1 hq2 (.inl hz1) hk1)).symm,h2.below0⟩
  refine ma h2 0 ?_
  refine mX 37 (.bool true) (Value.bool (((n:Int)) == 0)) (bz_eq hz1) ?_
  refine ma h2 0 ?_
  refine mX 42 (.bool false) (Value.bool (((ts.length:Int)) == 0)) (bz_ne hz2) ?_
  refine mP (Value.bool false) ?_
  exact ⟨congrArg (fun x=>Ending.returned (Value.bool x)) ((rv1_f hq1 hq2 (.inr hz2) hk1)).symm,h2.below0⟩
 have hk1:k≠1:=by omega
 refine m_ifeq 44 ((k:Int)) 2 (by kernel_rfl) (fun b19=>?_) (fun b19=>?_)
 ·
  have hk2:k=2:=by omega
  refine ma h2 0 ?_
  refine mL (fun mM xX aA wL=>∃ (i:Nat),(i<=ts.length)/\(∀ (j:Nat) (x:DVal),j<i->ts[j]?=some x->rightV x (d+1)=true)/\mM=ts.length-i/\aA=patch xX 68 [(1,(Value.int .i64 ((d:Int)))),(2,(pt g2 0)),(47,(Value.slice A ts.length c)),(48,(Value.int .i64 ((ts.length:Int)))),(49,(Value.int .i64 ((i:Int))))]/\Hp (fun _=>False) w wL [rRV 5 A c xs,rSB ((Value.slice B b.length dd)) b,rDL F xs ts] [rBlk g2 196 ([(Value.int .i64 ((k:Int))),(Value.int .i64 ((t:Int))),(Value.int .u64 ((n:Int))),(Value.slice B b.length dd),(Value.slice A ts.length c)])]) ⟨_,_,0,(by omega),(fun j x h=>absurd h (by omega)),rfl,pM,h2.sel [0] [0,1,2] (by kernel_rfl) rfl rfl⟩ ?_
  rintro _ x22 _ w22 ⟨i,hi,hr,rfl,rfl,h22⟩ KL22 hKL22
  refine mAt ?_
  refine m_if 50 ((i:Int)<(ts.length:Int)) (by kernel_rfl) (fun b25=>?_) (fun b25=>?_)
  ·
   obtain ⟨xe,u,hxi,hui,hxe⟩:=dl_at (h22.rd 2 rfl) hll i (by omega)
   obtain ⟨ke,te,ne,be,le⟩:=u
   obtain ⟨Be,de,Ae,ce,xse,rfl,_,_,_,_,_,_⟩:=dv_open hxe
   clear hxe
   simp only [DVal.kind,DVal.tag,DVal.n,DVal.b,DVal.l] at *
   refine mW 51 (eIx (RV.lenIs (n:=ts.length) (h22.rd 0 rfl) hll).2 i ts.length (RV.lenIs (n:=ts.length) (h22.rd 0 rfl) hll).1 (by omega) 194 (.tmp 47) (.tmp 49) .i64 196) ?_
   refine mW 52 (e_elemsN (RV.lenIs (n:=ts.length) (h22.rd 0 rfl) hll).2 i 0 ([(Value.int .i64 ((ke:Int))),(Value.int .i64 ((te:Int))),(Value.int .u64 ((ne:Int))),(Value.slice Be be.length de),(Value.slice Ae le.length ce)]) hxi 196 (.tmp 51) (by kernel_rfl) ([(Value.int .i64 ((ke:Int))),(Value.int .i64 ((te:Int))),(Value.int .u64 ((ne:Int))),(Value.slice Be be.length de),(Value.slice Ae le.length ce)]) (by kernel_rfl) (by kernel_rfl) (by kernel_rfl)) ?_
   refine mN h22 196 ([(Value.int .i64 0),(Value.int .i64 0),(Value.int .u64 0),(Value.slice none 0 0),(Value.slice none 0 0)]) fun g28 w28 h28=>?_
   refine mT (xSs h28 0 196 (.tmp 6) (.tmp 52) 0 ([(Value.int .i64 ((ke:Int))),(Value.int .i64 ((te:Int))),(Value.int .u64 ((ne:Int))),(Value.slice Be be.length de),(Value.slice Ae le.length ce)]) ([(Value.int .i64 ((ke:Int))),(Value.int .i64 ((te:Int))),(Value.int .u64 ((ne:Int))),(Value.slice Be be.length de),(Value.slice Ae le.length ce)])) fun _ w29 h29=>?_
   refine ma h29 0 ?_
   refine mW 55 (exec_add _ _ _ _ bO ((d:Int)) 1 (by kernel_rfl) (by kernel_rfl) (((d+1:Nat):Int)) (by omega) (by omega) (by omega) _) ?_
   refine mD h29 [(Value.agg ([(Value.int .i64 ((ke:Int))),(Value.int .i64 ((te:Int))),(Value.int .u64 ((ne:Int))),(Value.slice Be be.length de),(Value.slice Ae le.length ce)]).toArray),(Value.int .i64 (((d+1:Nat):Int)))] (ih hq2 F _ (DVal.mk ke te ne be le) _ ⟨(h29.rd 2 rfl).1,(h29.rd 2 rfl).2 i _ _ hxi hui⟩) (fun w31 h31=>?_)
   refine m_split 57 (!(rightV (DVal.mk ke te ne be le) (d+1))) (by kernel_rfl) (fun b32=>?_) (fun b32=>?_)
   ·
    refine mP (Value.bool false) ?_
    exact ⟨congrArg (fun x=>Ending.returned (Value.bool x)) ((rv2_no hq1 hq2 (rightL_no ts (d+1) (DVal.mk ke te ne be le) (List.mem_of_getElem? hui) (by simpa using b32)) hk2)).symm,h31.below0⟩
   refine mW 58 (exec_add _ _ _ _ bO ((i:Int)) 1 (by kernel_rfl) (by kernel_rfl) ((i:Int)+1) rfl (by omega) (by omega) _) ?_
   exact mK KL22 (hKL22 _ _ ⟨ts.length-(i+1),_,(by omega),(i+1),(by omega),(fun j x hj hx=>(Nat.lt_or_ge j i).elim (fun h=>hr j x h hx) (fun h=>by obtain rfl:j=i:=(by omega);rw [hui] at hx;injection hx with hx;subst hx;simpa using b32)),rfl,pM,h31.sel [1] [0,1,2] (by kernel_rfl) rfl rfl⟩)
  rcases (show (n=0/\b.length=0)∨(¬ n=0)∨(n=0/\¬ b.length=0) by by_cases c1:n=0 <;> by_cases c2:b.length=0 <;> simp [c1,c2]) with ⟨hz1,hz2⟩|hz1|⟨hz1,hz2⟩
  ·
   refine ma h22 0 ?_
   refine mX 61 (.bool true) (Value.bool (((n:Int)) == 0)) (bz_eq hz1) ?_
   refine ma h22 0 ?_
   refine mX 66 (.bool true) (Value.bool (((b.length:Int)) == 0)) (bz_eq hz2) ?_
   refine mP (Value.bool true) ?_
   exact ⟨congrArg (fun x=>Ending.returned (Value.bool x)) ((rv2_t hq1 hq2 (rightL_upto (by omega) hr) hz1 hz2 hk2)).symm,h22.below0⟩
  ·
   refine ma h22 0 ?_
   refine mX 61 (.bool false) (Value.bool (((n:Int)) == 0)) (bz_ne hz1) ?_
   refine mP (Value.bool false) ?_
   exact ⟨congrArg (fun x=>Ending.returned (Value.bool x)) ((rv2_f hq1 hq2 (.inl hz1) hk2)).symm,h22.below0⟩
  refine ma h22 0 ?_
  refine mX 61 (.bool true) (Value.bool (((n:Int)) == 0)) (bz_eq hz1) ?_
  refine ma h22 0 ?_
  refine mX 66 (.bool false) (Value.bool (((b.length:Int)) == 0)) (bz_ne hz2) ?_
  refine mP (Value.bool false) ?_
  exact ⟨congrArg (fun x=>Ending.returned (Value.bool x)) ((rv2_f hq1 hq2 (.inr hz2) hk2)).symm,h22.below0⟩
 have hk2:k≠2:=by omega
 refine mP (Value.bool false) ?_
 exact ⟨congrArg (fun x=>Ending.returned (Value.bool x)) ((rv_k hq1 hq2 hk0 hk1 hk2)).symm,h2.below0⟩
end
section
open Go.RowKit Go.QT
/-- May a value be, so many levels deep: by the code. -/
theorem right_any(m:Nat):∀ (d:Nat),9<=d+m->d<=100->∀ (F:Nat->Prop) (cs:List Value) (v:DVal) (w:World),(rDV F cs v).Φ w->Calls Tryz.prog 125 #[.agg cs.toArray,.int .i64 (d:Int)] w (DPost w (.bool (rightV v d))):=by
 induction m with
 | zero=>intro d h hd F cs v w hv;exact right_step d hd (fun h8=>absurd h8 (by omega)) F cs v w hv
 | succ m ih =>
   intro d h hd F cs v w hv
   by_cases h8:d<=8
   · exact right_step d hd (fun _=>ih (d+1) (by omega) (by omega)) F cs v w hv
   exact right_step d hd (fun h=>absurd h h8) F cs v w hv
/-- The first byte. -/
theorem head_or:((List.range 3).all fun k=>(List.range 31).all fun t=>decide (bits .or .i64 ((k*64:Nat):Int) (t:Int)=((k*64+t:Nat):Int)))=true:=by decide +kernel
theorem head_or'{k t:Nat}(hk:k<=2)(ht:t<=30):bits .or .i64 ((k*64:Nat):Int) (t:Int)=((k*64+t:Nat):Int):=by
 have h1:=List.all_eq_true.1 head_or k (List.mem_range.2 (by omega))
 have h2:=List.all_eq_true.1 h1 t (List.mem_range.2 (by omega))
 exact of_decide_eq_true h2
section
variable{P:Program}{o:Oper}{a:Act}
theorem e_shlI(t t':TypeId)(x y:Operand)(ho:o.op=.binOp .shl t x y t')(m n:Nat)(k:IntKind)(hn:n<64)(hx:a.eval x=.int .i64 (m:Int))(hy:a.eval y=.int k (n:Int))(r:Nat)(hr:m*2 ^ n=r)(hb:r<9223372036854775808)(W:World) :
   (execOp a.eval o).run P W=.ok (.value (.int .i64 ((r:Nat):Int))) W:=by
 subst hr
 have h3:(eqGuard .shl t x y (.int .i64 (m:Int)) (.int k (n:Int))).run P W=.ok () W:=by simp [eqGuard]
 have e:IntKind.i64.wrap ((m:Int)*2 ^ n)=((m*2 ^ n:Nat):Int):=by
   have h2:(2:Int) ^ n=((2 ^ n:Nat):Int):=by simp
   rw [h2,← Int.natCast_mul,IntKind.wrap_i64]
   generalize m*2 ^ n=q at *
   omega
 have h4:(binOp .shl t (.int .i64 (m:Int)) (.int k (n:Int))).run P W=.ok (.int .i64 ((m*2 ^ n:Nat):Int)) W:=by
   have hm:min ((n:Int)).toNat IntKind.i64.bits=n:=by
     show min ((n:Int)).toNat 64=n
     omega
   have h0:¬ ((n:Int)<0):=by omega
   unfold binOp Op.shift
   simp only [if_neg h0,hm,e,Sem.run_pure]
 unfold execOp
 simp only [ho,hx,hy,Sem.run_bind,h3,h4,Result.andThen_ok,Sem.run_pure]
theorem w_8ofI(n:Nat):Value.int .u8 (IntKind.u8.wrap ((n:Nat):Int))=Value.int .u8 (ub (UInt8.ofNat n)):=by
 congr 1
 rw [IntKind.wrap_u8,ub_ofNat]
theorem wrap64_nat'{n:Nat}(h:n<18446744073709551616):Value.int .u64 (IntKind.u64.wrap ((n:Nat):Int))=Value.int .u64 ((n:Nat):Int):=by
 congr 1;rw [IntKind.wrap_u64];omega
end
theorem headB_lo(k t m:Nat)(h:m<128):headB k t m=[UInt8.ofNat (k*64+t),UInt8.ofNat m]:=if_pos h
theorem headB_hi(k t m:Nat)(h:¬ m<128):headB k t m=[UInt8.ofNat (k*64+t),UInt8.ofNat (128+(shortB m).length)]++shortB m:=if_neg h
theorem headB_len(k t m:Nat):(headB k t m).length<=10:=by
 unfold headB
 split
 · simp
 have:=shortB_len m
 simp;omega
end
section
open Go.RowKit Go.QT
theorem head_any(k t m:Nat)(hk:k<=2)(ht:t<=30)(hm:m<=1000000)(w:World):Calls Tryz.prog 128 #[.int .i64 (k:Int),.int .i64 (t:Int),.int .i64 (m:Int)] w (BPost w (headB k t m)):=by
 have hs8:=shortB_len m
 have h0:=Hp.nil (fun _=>False) w
 refine mE 32 ?_
 refine mW 10 (v:=(Value.int .i64 (((k*64:Nat):Int)))) (e_shlI 3 228 (.tmp 9) (.const (Value.int .u64 6)) (by kernel_rfl) k 6 .u64 (by decide) (by kernel_rfl) (by kernel_rfl) (k*64) rfl (by omega) _) ?_
 refine mX 12 (Value.int .i64 (((k*64+t:Nat):Int))) (Value.int .i64 (bits .or .i64 ((k*64:Nat):Int) (t:Int))) (congrArg (Value.int .i64) (head_or' hk ht)) ?_
 refine mX 13 (Value.int .u8 (ub (UInt8.ofNat (((k*64+t)))))) (Value.int .u8 (IntKind.u8.wrap ((((k*64+t)):Nat):Int))) (w_8ofI (((k*64+t)))) ?_
 refine m_if 15 ((m:Int)<128) (by kernel_rfl) (fun b5=>?_) (fun b5=>?_)
 ·
  refine mX 18 (Value.int .u8 (ub (UInt8.ofNat m))) (Value.int .u8 (IntKind.u8.wrap ((m:Nat):Int))) (w_8ofI m) ?_
  refine mT (x_bsl h0 [(UInt8.ofNat (((k*64+t)))),(UInt8.ofNat m)] (by kernel_rfl)) ?_
  rintro _ w7 ⟨g7,rfl,hw7,hg7,hq7,h7⟩
  refine mP (Value.slice (some ⟨g7,0,none⟩) 2 2) ?_
  have hz:=h7.blkOB 0 [(UInt8.ofNat (((k*64+t)))),(UInt8.ofNat m)] rfl (by unfold maxLen;simp)
  exact bpost_of hz 0 rfl (headB_lo k t m (by omega)).symm
 refine mX 21 (Value.int .u64 (((m:Nat):Int))) (Value.int .u64 (IntKind.u64.wrap ((m:Nat):Int))) (wrap64_nat' (by omega)) ?_
 refine mT (x_sb h0 140 [(Value.int .u64 (((m:Nat):Int)))] (by kernel_rfl) (short_any (((m))) (by omega) _) (shortB (((m)))) ((shortB (((m)))).length) rfl rfl) ?_
 rintro _ w9 ⟨A9,c9,rfl,h9⟩
 refine mW 26 (exec_add _ _ _ _ bO 128 (((shortB (((m)))).length:Int)) (by kernel_rfl) (by kernel_rfl) (((128+((shortB (((m)))).length):Nat):Int)) (by omega) (by omega) (by omega) _) ?_
 refine mX 27 (Value.int .u8 (ub (UInt8.ofNat (((128+((shortB (((m)))).length))))))) (Value.int .u8 (IntKind.u8.wrap ((((128+((shortB (((m)))).length))):Nat):Int))) (w_8ofI (((128+((shortB (((m)))).length))))) ?_
 refine mT (x_bsl h9 [(UInt8.ofNat (((k*64+t)))),(UInt8.ofNat (((128+((shortB (((m)))).length)))))] (by kernel_rfl)) ?_
 rintro _ w11 ⟨g11,rfl,hw11,hg11,hq11,h11⟩
 refine mT (x_bs h11 25 ([(Value.slice (some ⟨g11,0,none⟩) 2 2),(Value.slice A9 ((shortB (((m)))).length) c9)]) 2 (by kernel_rfl)) ?_
 rintro _ w12 ⟨g12,rfl,h12⟩
 refine mT (x_bytesE h12 127 [(Value.slice (some ⟨g12,0,none⟩) 2 2)] (by kernel_rfl) (joined_any (Value.slice (some ⟨g12,0,none⟩) 2 2) [[(UInt8.ofNat (((k*64+t)))),(UInt8.ofNat (((128+((shortB (((m)))).length)))))],shortB (((m)))] _ (bs2 (h12.at_ 0 rfl) (SB.blk (h12.at_ 1 rfl) (by kernel_rfl) (by kernel_rfl) (by kernel_rfl)) (h12.rd 0 rfl)) (by simp;omega)) (([(UInt8.ofNat (((k*64+t)))),(UInt8.ofNat (((128+((shortB (((m)))).length)))))])++(shortB (((m))))) ((([(UInt8.ofNat (((k*64+t)))),(UInt8.ofNat (((128+((shortB (((m)))).length)))))])++(shortB (((m))))).length) (by simp) rfl) ?_
 rintro _ w13 ⟨A13,c13,rfl,h13⟩
 refine mP (Value.slice A13 ((([(UInt8.ofNat (((k*64+t)))),(UInt8.ofNat (((128+((shortB (((m)))).length)))))])++(shortB (((m))))).length) c13) ?_
 exact bpost_of h13 0 rfl (headB_hi k t m (by omega)).symm
end
section
open Go.RowKit Go.QT
section
variable{P:Program}{o:Oper}{a:Act}{w w':World}{F0:Nat->Prop}{w0:World}{ro rs:List Res}
/-- Bytes: new ones, or a part of what the call was given. -/
def BodyPost(G:Nat->Prop)(w:World)(l:Bytes)(e:Ending)(w':World):Prop:=∃ v,e=.returned v/\SB w' v l/\Below w.heap.size w w'/\∀ q,(rSB v l).F q->w.heap.size<=q∨G q
theorem bodypost_sb{G:Nat->Prop}{L l:Bytes}{v:Value}(h:Hp (fun _=>False) w0 w ro rs)(i:Nat)(hi:rs[i]?=some (rSB v l))(e:l=L):BodyPost G w0 L (.returned v) w:=by
 subst e
 refine ⟨v,rfl,h.own i _ hi,h.below0,fun q hq=>?_⟩
 rcases h.mine i _ hi q hq with h3|h3
 · exact h3.elim
 exact .inl h3
theorem bodypost_ob{G:Nat->Prop}{L l:Bytes}{v:Value}(h:Hp (fun _=>False) w0 w ro rs)(i:Nat)(hi:rs[i]?=some (rOB v l))(e:l=L):BodyPost G w0 L (.returned v) w:=by
 subst e
 refine ⟨v,rfl,OB.sb (h.own i _ hi),h.below0,fun q hq=>?_⟩
 rcases h.mine i _ hi q hq.2 with h3|h3
 · exact h3.elim
 exact .inl h3
theorem bodypost_ro{G:Nat->Prop}{L l:Bytes}{v:Value}(h:Hp (fun _=>False) w0 w ro rs)(i:Nat)(hi:ro[i]?=some (rSB v l))(hG:∀ q,(rSB v l).F q->G q)(e:l=L):BodyPost G w0 L (.returned v) w:=by
 subst e
 exact ⟨v,rfl,h.red i _ hi,h.below0,fun q hq=>.inr (hG q hq)⟩
theorem x_sbO(h:Hp F0 w0 w ro rs){l:Bytes}(fn:FuncId)(al:List Value)(hp:pureVal P (execOp a.eval o)=some (.enter fn al.toArray))(hc:Calls P fn al.toArray w (SbPost w l))(r:Bytes)(n:Nat)(hr:r=l)(hn:n=r.length) :
   OpTo P o a w (fun u w'=>∃ A cc,u=.slice A n cc/\Hp F0 w0 w' ro (rSB (.slice A n cc) r::rs)):=
 OpTo.enter fn al hp hc fun e w' hq=>by
   subst hr;subst hn
   obtain ⟨v,he,hs,hb,hF⟩:=hq
   obtain ⟨A,cc,rfl,_⟩:=id hs
   exact ⟨_,he,A,cc,rfl,h.newS hb (rSB _ r) hs (fun q hq=>hF q hq.2)⟩
/-- A call of body: what it leaves is only read. -/
theorem x_body(h:Hp F0 w0 w ro rs)(j:Nat){s:Res}(hj:ro[j]?=some s){l:Bytes}(fn:FuncId)(al:List Value)(hp:pureVal P (execOp a.eval o)=some (.enter fn al.toArray))(hc:Calls P fn al.toArray w (BodyPost s.F w l))(r:Bytes)(n:Nat)(hr:r=l)(hn:n=r.length) :
   OpTo P o a w (fun u w'=>∃ A cc,u=.slice A n cc/\Hp F0 w0 w' (rSB (.slice A n cc) r::ro) rs):=
 OpTo.enter fn al hp hc fun e w' hq=>by
   subst hr;subst hn
   obtain ⟨v,he,hs,hb,hF⟩:=hq
   obtain ⟨A,cc,rfl,_⟩:=id hs
   refine ⟨_,he,A,cc,rfl,(h.below hb).addR _ hs fun k t ht q h1 h2=>?_⟩
   rcases hF q h1 with h3|h3
   · exact absurd (t.lt (h.own k t ht) q h2) (Nat.not_lt.2 h3)
   exact h.rdis j k s t hj ht q h3 h2
end
section
variable{k t n d:Nat}{b:Bytes}{ts:List DVal}
theorem bodyV_0(hk:k=0):bodyV (.mk k t n b ts)=shortB n:=by subst hk;rfl
theorem bodyV_1(hk:k=1):bodyV (.mk k t n b ts)=b:=by subst hk;rfl
theorem bodyV_2(h0:k≠0)(h1:k≠1):bodyV (.mk k t n b ts)=wrL ts:=(if_neg h0).trans (if_neg h1)
theorem rightV_le(h:rightV (.mk k t n b ts) d=true):k<=2/\t<=30/\d<=8:=by
 rw [rightV] at h
 simp only [Bool.and_eq_true,decide_eq_true_eq] at h
 refine ⟨?_,h.1.1,h.1.2⟩
 by_cases h2:k<=2
 · exact h2
 rw [if_neg (by omega),if_neg (by omega),if_neg (by omega)] at h;exact absurd h.2 (by simp)
theorem rightV_l(h:rightV (.mk k t n b ts) d=true)(h0:k≠0)(h1:k≠1):rightL ts (d+1)=true:=by
 have h2:=(rightV_le h).1
 obtain rfl:k=2:=by omega
 rw [rightV] at h
 simp only [Bool.and_eq_true,if_pos,if_neg h0,if_neg h1] at h
 exact h.2.1.1
end
theorem rightL_at:∀ (l:List DVal) (d i:Nat) (u:DVal),l[i]?=some u->rightL l d=true->rightV u d=true
 | [],_,i,u,h,_=>by simp at h
 | y::r,d,0,u,h,hr=>by
   have:y=u:=by simpa using h
   subst this
   rw [rightL,Bool.and_eq_true] at hr;exact hr.1
 | y::r,d,i+1,u,h,hr=>by
   rw [rightL,Bool.and_eq_true] at hr
   exact rightL_at r d i u (by simpa using h) hr.2
theorem wrL_take_le:∀ (l:List DVal) (i:Nat),(wrL (l.take i)).length<=(wrL l).length
 | [],i=>by simp
 | y::r,0=>by simp [wrL]
 | y::r,i+1=>by
   have:=wrL_take_le r i
   simp only [List.take_succ_cons,wrL,List.length_append];omega
theorem wrV_len(v:DVal):(bodyV v).length<=(wrV v).length:=by rw [wrV_eq];simp
end
end Go.Proofs.YtaoijkhndakppaaGreat
