/- The walk of der.head. -/
import Derived.Lib.RuneCount
import Derived.Test.YtdefpmmdpfpipaaGreatCA4
set_option maxRecDepth 100000
set_option maxHeartbeats 4000000
namespace Go.Proofs.YtdefpmmdpfpipaaGreat
section
open Go.RowKit Go.QT
/-- What stands behind. -/
inductive Kn where
 | seq (c:Code)
 | blk (i:Nat)
 | stop (K:Act->World->Prop)
inductive Cu where
 | code (c:Code)
 | ops (all:Array Oper) (l:List Oper)
 | ex (e:Exit)
structure St where
 cu:Cu
 ks:List Kn
 e:List (Nat × Value)
def KQ(P:Program)(Q:Exit->Act->World->Prop):List Kn->Exit->Act->World->Prop
 | []=>Q
 | .seq c::ks=>Exit.then (c.wp P (KQ P Q ks)) (KQ P Q ks)
 | .blk i::ks=>Exit.inBlock i (KQ P Q ks)
 | .stop K::ks=>Exit.then K (KQ P Q ks)
def runC(P:Program)(Q:Exit->Act->World->Prop)(cu:Cu)(ks:List Kn)(a:Act)(w:World):Prop:=
 match cu with
 | .code c=>c.wp P (KQ P Q ks) a w
 | .ops all l=>wpList P all (KQ P Q ks) l a w
 | .ex e=>KQ P Q ks e a w
structure M(P:Program)(fn:Func)(R:Ending->World->Prop)(x:Nat->Value)(n:Nat)(s:St)(w:World):Prop where
 run:runC P (bodyPost P fn R) s.cu s.ks (patch x n s.e) w
def isD(t:Nat):Option Nat->Bool
 | some d=>Nat.beq d t
 | none=>false
/-- What may need no world. -/
def softB:Op->Bool
 | .move _ | .assign _ | .pick .. | .nilCheck _ | .fieldAddr .. | .extract .. | .binOp .. | .unOp .. | .slice .. | .build .. | .typeAssert .. | .makeInterface .. | .makeFunc ..=>true
 | .call c=>match c.callee with | .builtin .len=>true|_=>false
 | _=>false
def isC(t:Nat):Operand->Bool
 | .tmp d=>Nat.beq (d+1000000) t
 | _=>false
/-- One step, where no world is asked; it stops ahead of the operation that gives the slot t, of a test of the slot t - 1000000, of the region t - 2000000. -/
noncomputable def stp (P:Program) (x:Nat->Value) (n t:Nat) (cu:Cu) (ks:List Kn) (e:List (Nat × Value)):Option St:=
 match cu with
 | .code c =>
   match c with
   | .skip=>some ⟨.ex .normal,ks,e⟩
   | .ret=>some ⟨.ex .ret,ks,e⟩
   | .exit i=>some ⟨.ex (.exit i),ks,e⟩
   | .seq a b=>some ⟨.code a,.seq b::ks,e⟩
   | .block i b=>some ⟨.code b,.blk i::ks,e⟩
   | .cond o a b =>
     bif isC t o then none else
     match evP x n e o with
     | .bool true=>some ⟨.code a,ks,e⟩
     | .bool false=>some ⟨.code b,ks,e⟩
     | _=>none
   | .region i ops false=>bif Nat.beq (i+2000000) t then none else some ⟨.ops ops ops.toList,ks,e⟩
   | _=>none
 | .ops all l =>
   match l with
   | []=>some ⟨.ex .normal,ks,e⟩
   | o::l =>
     bif isD t o.dst then none else
     bif okD n o.dst then
       bif Region.wanted o (yieldP all x n e) then
         bif softB o.op then
           match pureE P o (evP x n e) with
           | some v=>some ⟨.ops all l,ks,putL o.dst v e⟩
           | none=>none
         else none
       else some ⟨.ops all l,ks,putL o.dst undef e⟩
     else none
 | .ex ex =>
   match ks with
   | []=>none
   | .seq c::ks =>
     match ex with
     | .normal=>some ⟨.code c,ks,e⟩
     | ex=>some ⟨.ex ex,ks,e⟩
   | .blk i::ks =>
     match ex with
     | .exit j=>bif Nat.beq j i then some ⟨.ex .normal,ks,e⟩ else some ⟨.ex (.exit j),ks,e⟩
     | ex=>some ⟨.ex ex,ks,e⟩
   | .stop _::ks =>
     match ex with
     | .normal=>none
     | ex=>some ⟨.ex ex,ks,e⟩
noncomputable def go (P:Program) (x:Nat->Value) (n t:Nat) (s:St):St:=
 Nat.rec (fun s=>s) (fun _ ih (s:St)=>match stp P x n t s.cu s.ks s.e with|some s'=>ih s' | none=>s) 100000 s
section
variable{P:Program}{fn:Func}{R:Ending->World->Prop}{x:Nat->Value}{n:Nat}{w:World}
theorem stp_ok{Q:Exit->Act->World->Prop}(t:Nat)(cu:Cu)(ks:List Kn)(e:List (Nat × Value))(s':St)(h:stp P x n t cu ks e=some s')(k:runC P Q s'.cu s'.ks (patch x n s'.e) w):runC P Q cu ks (patch x n e) w:=by
 cases cu with
 | code c =>
   cases c with
   | skip=>injection h with h;subst h;exact wp_skip k
   | ret=>injection h with h;subst h;exact wp_ret k
   | exit i=>injection h with h;subst h;exact wp_exit k
   | seq a b=>injection h with h;subst h;exact wp_seq k
   | block i b=>injection h with h;subst h;exact wp_block k
   | cond o a b =>
     simp only [stp] at h
     cases hi:isC t o with
     | true=>rw [hi] at h;cases h
     | false =>
     rw [hi] at h
     simp only [cond_false] at h
     split at h
     · rename_i hb
       injection h with h;subst h
       exact wp_cond_true (by rw [eval_patch];exact hb) k
     · rename_i hb
       injection h with h;subst h
       exact wp_cond_false (by rw [eval_patch];exact hb) k
     cases h
   | region i ops d =>
     cases d with
     | false =>
       simp only [stp] at h
       cases hi:Nat.beq (i+2000000) t with
       | true=>rw [hi] at h;cases h
       | false =>
         rw [hi] at h
         injection h with h;subst h;exact wp_region_list k
     | true=>cases h
   | _=>cases h
 | ops all l =>
   cases l with
   | nil=>injection h with h;subst h;exact k
   | cons o l =>
     simp only [stp] at h
     cases hi:isD t o.dst with
     | true=>rw [hi] at h;cases h
     | false =>
       rw [hi] at h
       cases hd:okD n o.dst with
       | false=>rw [hd] at h;cases h
       | true =>
         rw [hd] at h
         simp only [cond_true,cond_false] at h
         show wpList P all (KQ P Q ks) (o::l) _ w
         refine wpList_step fun K hK=>?_
         rw [yield_patch]
         cases hw:Region.wanted o (yieldP all x n e) with
         | false =>
           rw [hw] at h
           injection h with h;subst h
           rw [if_neg (by simp),put_patch _ _ _ _ _ hd]
           exact hK _ _ k
         | true =>
           rw [hw] at h
           simp only [cond_true] at h
           cases hso:softB o.op with
           | false=>rw [hso] at h;cases h
           | true =>
           rw [hso] at h
           simp only [cond_true] at h
           split at h
           · rename_i v hv
             injection h with h;subst h
             rw [pureE_eq] at hv
             rw [if_pos rfl]
             unfold Oper.wp
             rw [pureOp_run hv]
             refine hK _ _ ?_
             rw [put_patch _ _ _ _ _ hd]
             exact k
           cases h
 | ex ex =>
   cases ks with
   | nil=>cases h
   | cons y ks =>
     cases y with
     | seq c =>
       cases ex <;> (injection h with h;subst h;exact k)
     | blk i =>
       cases ex with
       | exit j =>
         simp only [stp] at h
         show (if j=i then KQ P Q ks .normal _ w else KQ P Q ks (.exit j) _ w)
         cases hj:Nat.beq j i with
         | true =>
           rw [hj] at h
           injection h with h;subst h
           rw [if_pos (Nat.eq_of_beq_eq_true hj)];exact k
         | false =>
           rw [hj] at h
           injection h with h;subst h
           rw [if_neg (Nat.ne_of_beq_eq_false hj)];exact k
       | _=>injection h with h;subst h;exact k
     | stop K =>
       cases ex with
       | normal=>cases h
       | _=>injection h with h;subst h;exact k
theorem go_ok(t:Nat){s:St}(k:M P fn R x n (go P x n t s) w):M P fn R x n s w:=by
 have key:∀ (m:Nat) (s:St),M P fn R x n (Nat.rec (motive:=fun _=>St->St) (fun s=>s) (fun _ ih (s:St)=>match stp P x n t s.cu s.ks s.e with|some s'=>ih s' | none=>s) m s) w->M P fn R x n s w:=by
   intro m
   induction m with
   | zero=>exact fun s h=>h
   | succ m ih =>
     intro s h
     dsimp only at h
     split at h
     · rename_i s' hs
       exact ⟨stp_ok t s.cu s.ks s.e s' hs (ih s' h).run⟩
     exact h
 exact key 100000 s k
/-! ### What it stopped at -/
def hdO(s:St):Oper:=match s.cu with | .ops _ (o::_)=>o|_=>default
noncomputable def opOk (x:Nat->Value) (n:Nat) (s:St):Bool:=
 match s.cu with
 | .ops all (o::_)=>okD n o.dst && Region.wanted o (yieldP all x n s.e)
 | _=>false
def putS(s:St)(v:Value):St:=
 match s.cu with
 | .ops all (o::l)=>⟨.ops all l,s.ks,putL o.dst v s.e⟩
 | _=>s
theorem op_step{s:St}(ok:opOk x n s=true)(h:∀ K:Act->World->Prop,(∀ v w',M P fn R x n (putS s v) w'->K ((patch x n s.e).put (hdO s).dst v) w')->(hdO s).wp P (patch x n s.e) w K (KQ P (bodyPost P fn R) s.ks)):M P fn R x n s w:=by
 obtain ⟨cu,ks,e⟩:=s
 cases cu with
 | code c=>cases ok
 | ex e=>cases ok
 | ops all l =>
   cases l with
   | nil=>cases ok
   | cons o l =>
     have ok:(okD n o.dst && Region.wanted o (yieldP all x n e))=true:=ok
     rw [Bool.and_eq_true] at ok
     refine ⟨wpList_step fun K hK=>?_⟩
     rw [yield_patch,if_pos ok.2]
     refine h K fun v w' hm=>?_
     show K ((patch x n e).put o.dst v) w'
     rw [put_patch _ _ _ _ _ ok.1]
     exact hK _ _ hm.run
/-- What an operation comes to. -/
theorem mT{s:St}{U:Value->World->Prop}(h:OpTo P (hdO (go P x n n s)) (patch x n (go P x n n s).e) w U)(k:∀ v w',U v w'->M P fn R x n (putS (go P x n n s) v) w')(ok:opOk x n (go P x n n s)=true:=by kernel_rfl):M P fn R x n s w:=
 go_ok n (op_step ok fun _K hK=>h.goes _ _ fun v w' hr=>hK v w' (k v w' hr))
/-- The same at the slot t. -/
theorem mU{s:St}{U:Value->World->Prop}(t:Nat)(h:OpTo P (hdO (go P x n t s)) (patch x n (go P x n t s).e) w U)(k:∀ v w',U v w'->M P fn R x n (putS (go P x n t s) v) w')(ok:opOk x n (go P x n t s)=true:=by kernel_rfl):M P fn R x n s w:=
 go_ok t (op_step ok fun _K hK=>h.goes _ _ fun v w' hr=>hK v w' (k v w' hr))
theorem mV{s:St}{v:Value}(hv:(execOp (patch x n (go P x n n s).e).eval (hdO (go P x n n s))).run P w=.ok (.value v) w)(k:M P fn R x n (putS (go P x n n s) v) w)(ok:opOk x n (go P x n n s)=true:=by kernel_rfl):M P fn R x n s w:=
 mT (U:=fun u w'=>u=v/\w'=w) (OpTo.run v hv ⟨rfl,rfl⟩) (fun _ _ h=>by obtain ⟨rfl,rfl⟩:=h;exact k) ok
theorem mW{s:St}{v:Value}(t:Nat)(hv:(execOp (patch x n (go P x n t s).e).eval (hdO (go P x n t s))).run P w=.ok (.value v) w)(k:M P fn R x n (putS (go P x n t s) v) w)(ok:opOk x n (go P x n t s)=true:=by kernel_rfl):M P fn R x n s w:=
 mU (U:=fun u w'=>u=v/\w'=w) t (OpTo.run v hv ⟨rfl,rfl⟩) (fun _ _ h=>by obtain ⟨rfl,rfl⟩:=h;exact k) ok
/-! ### Loads of what is held -/
noncomputable def szT (P:Program) (t:TypeId):Nat:=match P.info? t with|some i=>i.size|none=>0
noncomputable def ldv (P:Program) (o:Oper) (ev:Operand->Value) (cs:List Value):Nat × Value:=
 match o.op with
 | .load t y =>
   match ev y with
   | .pointer (some ⟨b,k,none⟩) =>
     match pureVal P (isAgg t) with
     | some false=>match cs[k]? with|some v=>(b,v)|none=>(0,undef)
     | _=>(b,.agg ((cs.drop k).take (szT P t)).toArray)
   | _=>(0,undef)
 | _=>(0,undef)
noncomputable def ldOk (P:Program) (o:Oper) (ev:Operand->Value) (cs:List Value):Bool:=
 match o.op with
 | .load t y =>
   match ev y with
   | .pointer (some ⟨_,k,none⟩) =>
     match pureVal P (isAgg t) with
     | some false=>match cs[k]? with|some _=>true|none=>false
     | _=>rowB P t (szT P t) && Nat.ble (k+szT P t) cs.length
   | _=>false
 | _=>false
theorem ld_run{o:Oper}{a:Act}{g:Nat}{T:TypeId}{cs:List Value}(hb:Blk w g T cs)(hg:(ldv P o a.eval cs).1=g)(ok:ldOk P o a.eval cs=true):(execOp a.eval o).run P w=.ok (.value (ldv P o a.eval cs).2) w:=by
 unfold ldOk at ok
 split at ok
 · rename_i t y ho
   split at ok
   · rename_i b k hx
     split at ok
     · rename_i ht
       split at ok
       · rename_i v hk
         have e:ldv P o a.eval cs=(b,v):=by unfold ldv;simp only [ho,hx,ht,hk]
         rw [e] at hg ⊢
         subst hg
         exact e_load hb t y ho k v hx hk ht
       cases ok
     rename_i hn
     rw [Bool.and_eq_true] at ok
     have hle:=Nat.le_of_ble_eq_true ok.2
     have e:ldv P o a.eval cs=(b,.agg ((cs.drop k).take (szT P t)).toArray):=by
       unfold ldv;simp only [ho,hx]
     rw [e] at hg ⊢
     subst hg
     have hl:((cs.drop k).take (szT P t)).length=szT P t:=by rw [List.length_take,List.length_drop];omega
     exact e_loads hb t y ho k _ hx (by rw [hl]) (by rw [hl];exact ok.1)
   cases ok
 cases ok
section
variable{F0:Nat->Prop}{w0:World}{ro rs:List Res}{g:Nat}{T:TypeId}{cs:List Value}
theorem ml{s:St}(hb:Blk w g T cs)(k:M P fn R x n (putS (go P x n n s) (ldv P (hdO (go P x n n s)) (evP x n (go P x n n s).e) cs).2) w)(hg:(ldv P (hdO (go P x n n s)) (evP x n (go P x n n s).e) cs).1=g:=by kernel_rfl)(ok:ldOk P (hdO (go P x n n s)) (evP x n (go P x n n s).e) cs=true:=by kernel_rfl)(oo:opOk x n (go P x n n s)=true:=by kernel_rfl):M P fn R x n s w:=by
 rw [← eval_patch] at hg ok k
 exact mV (ld_run hb hg ok) k oo
theorem mr{s:St}(h:Hp F0 w0 w ro rs)(i:Nat)(k:M P fn R x n (putS (go P x n n s) (ldv P (hdO (go P x n n s)) (evP x n (go P x n n s).e) cs).2) w)(hi:ro[i]?=some (rBlk g T cs):=by rfl)(hg:(ldv P (hdO (go P x n n s)) (evP x n (go P x n n s).e) cs).1=g:=by kernel_rfl)(ok:ldOk P (hdO (go P x n n s)) (evP x n (go P x n n s).e) cs=true:=by kernel_rfl)(oo:opOk x n (go P x n n s)=true:=by kernel_rfl):M P fn R x n s w:=
 ml (h.rd i hi) k hg ok oo
theorem ma{s:St}(h:Hp F0 w0 w ro rs)(i:Nat)(k:M P fn R x n (putS (go P x n n s) (ldv P (hdO (go P x n n s)) (evP x n (go P x n n s).e) cs).2) w)(hi:rs[i]?=some (rBlk g T cs):=by rfl)(hg:(ldv P (hdO (go P x n n s)) (evP x n (go P x n n s).e) cs).1=g:=by kernel_rfl)(ok:ldOk P (hdO (go P x n n s)) (evP x n (go P x n n s).e) cs=true:=by kernel_rfl)(oo:opOk x n (go P x n n s)=true:=by kernel_rfl):M P fn R x n s w:=
 ml (h.at_ i hi) k hg ok oo
end
def opT(o:Oper):TypeId:=match o.op with | .store t _ _=>t | .load t _=>t|_=>0
def opX(o:Oper):Operand:=match o.op with | .store _ y _=>y | .load _ y=>y|_=>.const .nilIface
def opY(o:Oper):Operand:=match o.op with | .store _ _ z=>z|_=>.const .nilIface
def cutP:Value->Nat × Nat | .pointer (some ⟨b,k,none⟩)=>(b,k)|_=>(0,0)
section
variable{F0:Nat->Prop}{w0:World}{ro rs:List Res}{g:Nat}{T:TypeId}{cs:List Value}{o:Oper}{a:Act}
/-- A store of one cell into a block that is held. -/
theorem xS(h:Hp F0 w0 w ro rs)(i:Nat)(es:List Value)(hi:rs[i]?=some (rBlk g T cs):=by rfl)(ho:o.op=.store (opT o) (opX o) (opY o):=by kernel_rfl)(hx:a.eval (opX o)=pt g (cutP (a.eval (opX o))).2:=by kernel_rfl)(hk:decide ((cutP (a.eval (opX o))).2<cs.length)=true:=by kernel_rfl)
   (hsz:(P.info? (opT o)).map (·.size)=some 1:=by kernel_rfl) (h1:(a.eval (opY o)).oneCell'=true:=by kernel_rfl) (hv:(a.eval (opY o)).cells=#[a.eval (opY o)]:=by kernel_rfl) (he:es=cs.set (cutP (a.eval (opX o))).2 (a.eval (opY o)):=by kernel_rfl) :
   OpTo P o a w (fun _ w'=>Hp F0 w0 w' ro (rs.set i (rBlk g T es))):=x_store h i hi _ _ _ ho _ _ es hx rfl hk hsz h1 hv he
/-- A store of a row. -/
theorem xR(h:Hp F0 w0 w ro rs)(i:Nat)(es:List Value)(hi:rs[i]?=some (rBlk g T cs):=by rfl)(ho:o.op=.store (opT o) (opX o) (opY o):=by kernel_rfl)(hx:a.eval (opX o)=pt g (cutP (a.eval (opX o))).2:=by kernel_rfl)(hy:a.eval (opY o)=.agg (a.eval (opY o)).cells.toList.toArray:=by kernel_rfl)(hk:decide ((cutP (a.eval (opX o))).2+(a.eval (opY o)).cells.toList.length<=cs.length)=true:=by kernel_rfl)
   (hsz:(P.info? (opT o)).map (·.size)=some (a.eval (opY o)).cells.toList.length:=by kernel_rfl) (h1:(a.eval (opY o)).cells.toList.all (·.oneCell')=true:=by kernel_rfl) (he:es=cs.take (cutP (a.eval (opX o))).2++(a.eval (opY o)).cells.toList++cs.drop ((cutP (a.eval (opX o))).2+(a.eval (opY o)).cells.toList.length):=by kernel_rfl) :
   OpTo P o a w (fun _ w'=>Hp F0 w0 w' ro (rs.set i (rBlk g T es))):=x_stores h i hi _ _ _ ho _ _ es hx hy hk hsz h1 he
end
def bT(o:Oper):TypeId:=match o.op with | .binOp _ t _ _ _=>t|_=>0
def bX(o:Oper):Operand:=match o.op with | .binOp _ _ y _ _=>y|_=>.const .nilIface
def bY(o:Oper):Operand:=match o.op with | .binOp _ _ _ z _=>z|_=>.const .nilIface
def bU(o:Oper):TypeId:=match o.op with | .binOp _ _ _ _ u=>u|_=>0
def bK(o:Oper):Option BinOp:=match o.op with | .binOp k _ _ _ _=>some k|_=>none
/-- An operation on two numbers. -/
theorem bO{o:Oper}{k:BinOp}(h:bK o=some k:=by kernel_rfl):o.op=.binOp k (bT o) (bX o) (bY o) (bU o):=by
 unfold bK at h
 split at h
 · rename_i ho
   injection h with h;subst h
   unfold bT bX bY bU;simp only [ho]
 cases h
/-! ### Branches -/
noncomputable def cnd (x:Nat->Value) (n:Nat) (s:St):Value:=match s.cu with | .code (.cond o _ _)=>evP x n s.e o|_=>undef
def pick(b:Bool)(s:St):St:=match s.cu with | .code (.cond _ c d)=>⟨.code (bif b then c else d),s.ks,s.e⟩|_=>s
theorem pick_ok{s:St}{b:Bool}(hc:cnd x n s=.bool b)(k:M P fn R x n (pick b s) w):M P fn R x n s w:=by
 obtain ⟨cu,ks,e⟩:=s
 cases cu with
 | code c =>
   cases c with
   | cond o c d =>
     have hc:evP x n e o=.bool b:=hc
     refine ⟨wp_cond (t:=b) (by rw [eval_patch];exact hc) ?_⟩
     have:=k.run
     cases b
     · exact this
     exact this
   | _=>exact k
 | _=>exact k
theorem mB{s:St}(t:Nat)(b:Bool)(hc:cnd x n (go P x n (t+1000000) s)=.bool b)(k:M P fn R x n (pick b (go P x n (t+1000000) s)) w):M P fn R x n s w:=go_ok (t+1000000) (pick_ok hc k)
theorem m_if{s:St}(t:Nat)(p:Prop)[Decidable p](hc:cnd x n (go P x n (t+1000000) s)=.bool (decide p))(ht:p->M P fn R x n (pick true (go P x n (t+1000000) s)) w)(hf:¬ p->M P fn R x n (pick false (go P x n (t+1000000) s)) w):M P fn R x n s w:=by
 by_cases h:p
 · exact mB t true (by rw [hc,decide_eq_true h]) (ht h)
 exact mB t false (by rw [hc,decide_eq_false h]) (hf h)
theorem m_ifeq{s:St}(t:Nat)(a b:Int)(hc:cnd x n (go P x n (t+1000000) s)=.bool (a == b))(ht:a=b->M P fn R x n (pick true (go P x n (t+1000000) s)) w)(hf:a≠b->M P fn R x n (pick false (go P x n (t+1000000) s)) w):M P fn R x n s w:=by
 by_cases h:a=b
 · exact mB t true (by rw [hc,beq_iff_eq.2 h]) (ht h)
 exact mB t false (by rw [hc];simp [h]) (hf h)
theorem m_split{s:St}(t:Nat)(b:Bool)(hc:cnd x n (go P x n (t+1000000) s)=.bool b)(ht:b=true->M P fn R x n (pick true (go P x n (t+1000000) s)) w)(hf:b=false->M P fn R x n (pick false (go P x n (t+1000000) s)) w):M P fn R x n s w:=by
 cases b
 · exact mB t false hc (hf rfl)
 exact mB t true hc (ht rfl)
/-! ### Where states come together;loops -/
def pushK(K:Act->World->Prop)(s:St):St:=⟨s.cu,.stop K::s.ks,s.e⟩
theorem ow_mono{Q Q':Exit->Act->World->Prop}(hq:∀ e a w,Q e a w->Q' e a w){o:Oper}{a:Act}{w:World}{K K':Act->World->Prop}(h:∀ a w,K a w->K' a w)(hh:o.wp P a w K Q):o.wp P a w K' Q':=by
 unfold Oper.wp at *
 generalize (execOp a.eval o).run P w=r at *
 cases r with
 | ok n w' =>
   cases n <;> simp only [Oper.upon] at hh ⊢ <;>
     first
       | exact h _ _ hh
       | exact Calls.mono hh (fun e w'' he=>by cases e <;> first|exact h _ _ he|exact hq _ _ _ he|exact he|(obtain ⟨u,v,hu⟩:=he;exact ⟨u,v,hq _ _ _ hu⟩))
       | exact Rows.mono hh (fun _ _ he=>h _ _ he)
       | exact hq _ _ _ hh
       | exact hh
 | halt x w'=>cases x <;> simp only [Oper.upon] at hh ⊢ <;> first|exact hq _ _ _ hh|exact hh
theorem wl_mono{Q Q':Exit->Act->World->Prop}(hq:∀ e a w,Q e a w->Q' e a w){all:Array Oper}:∀ (l:List Oper) (a:Act) (w:World),wpList P all Q l a w->wpList P all Q' l a w
 | [],_,_,h=>hq _ _ _ h
 | o::l,a,w,h=>by
   unfold wpList at h ⊢
   split at h
   · rename_i hw
     rw [if_pos hw]
     rcases h with h|⟨h,u,v,hu⟩
     · exact .inl (ow_mono hq (wl_mono hq l) h)
     exact .inr ⟨h,u,v,hq _ _ _ hu⟩
   rename_i hw
   rw [if_neg hw]
   exact wl_mono hq l _ _ h
theorem push_ok{s:St}{K:Act->World->Prop}(hK:∀ a w,K a w->KQ P (bodyPost P fn R) s.ks .normal a w)(h:M P fn R x n (pushK K s) w):M P fn R x n s w:=by
 obtain ⟨cu,ks,e⟩:=s
 have hq:∀ e a w,Exit.then K (KQ P (bodyPost P fn R) ks) e a w->KQ P (bodyPost P fn R) ks e a w:=by
   intro e a w h
   cases e with
   | normal=>exact hK a w h
   | _=>exact h
 have h:=h.run
 cases cu with
 | code c=>exact ⟨wp_mono h hq⟩
 | ex e=>exact ⟨hq _ _ _ h⟩
 | ops all l=>exact ⟨wl_mono hq _ _ _ h⟩
/-- What comes behind is told once: K. -/
structure At(P:Program)(fn:Func)(R:Ending->World->Prop)(cu:Cu)(ks:List Kn)(a:Act)(w:World):Prop where
 run:runC P (bodyPost P fn R) cu ks a w
theorem mJ{s:St}(t:Nat)(K:Act->World->Prop)(k:∀ a w,K a w->At P fn R (.ex .normal) (go P x n t s).ks a w)(h:∀ K':Act->World->Prop,(∀ a w,K a w->K' a w)->M P fn R x n (pushK K' (go P x n t s)) w):M P fn R x n s w:=go_ok t (push_ok (fun a w hk=>(k a w hk).run) (h K fun _ _ h=>h))
theorem pM{e l:List (Nat × Value)}(h:l.map (fun p=>look x e p.1)=l.map (·.2):=by kernel_rfl):patch x n e=patch (look x e) n l:=by
 unfold patch
 congr 2
 have:look x e=look (look x e) l:=funext fun i=>(look_dead (look x e) l h i).symm
 rw [← this]
theorem mAt{cu:Cu}{ks:List Kn}{e:List (Nat × Value)}(h:M P fn R x n ⟨cu,ks,e⟩ w):At P fn R cu ks (patch x n e) w:=⟨h.run⟩
def atK(s:St):Option (Act->World->Prop):=match s.cu,s.ks with | .ex .normal,.stop K::_=>some K|_,_=>none
theorem mK{s:St}(K:Act->World->Prop)(h:K (patch x n (go P x n n s).e) w)(ok:atK (go P x n n s)=some K:=by kernel_rfl):M P fn R x n s w:=by
 refine go_ok n ?_
 generalize go P x n n s=t at h ok
 obtain ⟨cu,ks,e⟩:=t
 cases cu with
 | ex ex =>
   cases ex with
   | normal =>
     cases ks with
     | nil=>cases ok
     | cons y ks=>cases y with
       | stop K' =>
         have e:K'=K:=Option.some.inj ok
         subst e;exact ⟨h⟩
       | _=>cases ok
   | _=>cases ok
 | _=>cases ok
def lpc(s:St):Code:=match s.cu with | .code (.loop c)=>c|_=>.skip
def isL(s:St):Bool:=match s.cu with | .code (.loop _)=>true|_=>false
theorem mL{s:St}(J:Nat->(Nat->Value)->Act->World->Prop)(h0:∃ m y,J m y (patch x n (go P x n n s).e) w)
   (round:∀ m y a w,J m y a w->∀ K:Act->World->Prop,(∀ a' w',(∃ m' y',m'<m/\J m' y' a' w')->K a' w')->At P fn R (.code (lpc (go P x n n s))) (.stop K::(go P x n n s).ks) a w) (ok:isL (go P x n n s)=true:=by kernel_rfl):M P fn R x n s w:=by
 refine go_ok n ?_
 generalize go P x n n s=t at h0 round ok
 obtain ⟨cu,ks,e⟩:=t
 cases cu with
 | code c =>
   cases c with
   | loop c =>
     refine ⟨wp_loopm (fun m _ a w=>∃ y,J m y a w) h0 fun m _ a w ⟨y,hy⟩=>?_⟩
     exact (round m y a w hy _ fun a' w' ⟨m',y',h1,h2⟩=>⟨m',h1,y',h2⟩).run
   | _=>cases ok
 | _=>cases ok
/-! ### A call's begin and end -/
def fnOf(P:Program)(f:FuncId):Func:=(P.funcs[f]?).getD default
def ent(fn:Func)(args:List Value):St:=⟨.code (fn.body.getD .skip),[],args.zipIdx.map fun p=>(p.2,p.1)⟩
def udA(args:List Value)(n:Nat):Act:=act0 args (n-args.length)
def enOk(P:Program)(f:FuncId)(n:Nat):Bool:=match P.funcs[f]? with|some fn=>fn.body.isSome && fn.ntmps == n|none=>false
theorem mE{f:FuncId}{args:List Value}{R:Ending->World->Prop}(n:Nat)(h:M P (fnOf P f) R (dead (udA args n)) n (ent (fnOf P f) args) w)(ok:enOk P f n=true:=by kernel_rfl)(hl:Nat.ble args.length n=true:=by kernel_rfl)
   (hd:(args.zipIdx.map fun p=>(p.2,p.1)).map (fun p=>dead (udA args n) p.1)=(args.zipIdx.map fun p=>(p.2,p.1)).map (·.2):=by kernel_rfl):Calls P f args.toArray w R:=by
 have hl:=Nat.le_of_ble_eq_true hl
 unfold enOk at ok
 split at ok
 · rename_i fn hf
   rw [Bool.and_eq_true] at ok
   have e:fnOf P f=fn:=by unfold fnOf;rw [hf];rfl
   rw [e] at h
   cases hb:fn.body with
   | none=>rw [hb] at ok;cases ok.1
   | some c =>
     have hn:fn.ntmps=n:=by simpa using ok.2
     refine enter (n-args.length) hf hb (by rw [hn]) ?_
     have h1:=h.run
     have e1:ent fn args=⟨.code c,[],args.zipIdx.map fun p=>(p.2,p.1)⟩:=by unfold ent;rw [hb];rfl
     rw [e1] at h1
     have e2:=patch_eq (udA args n) n _ (by simp [udA,act0];omega) rfl hd
     have h2:c.wp P (bodyPost P fn R) (patch (dead (udA args n)) n (args.zipIdx.map fun p=>(p.2,p.1))) w:=h1
     rw [← e2] at h2
     exact h2
 cases ok
def isE(s:St):Bool:=match s.cu,s.ks with | .ex .ret,[]=>true | .ex .normal,[]=>true|_,_=>false
theorem mF{s:St}(h:bodyPost P fn R .ret (patch x n (go P x n n s).e) w)(ok:isE (go P x n n s)=true:=by kernel_rfl):M P fn R x n s w:=by
 refine go_ok n ?_
 generalize go P x n n s=t at h ok
 obtain ⟨cu,ks,e⟩:=t
 cases cu with
 | ex ex =>
   cases ks with
   | nil =>
     cases ex with
     | ret=>exact ⟨h⟩
     | normal=>exact ⟨h⟩
     | _=>cases ok
   | cons y ks=>cases ex <;> cases ok
 | _=>cases ok
noncomputable def rsl (x:Nat->Value) (n:Nat) (e:List (Nat × Value)) (t:Tmp):Value:=bif Nat.blt t n then look x e t else undef
noncomputable def rv (fn:Func) (x:Nat->Value) (n:Nat) (e:List (Nat × Value)):Option Value:=
 match fn.results.toList with
 | []=>some (.tuple #[])
 | [.tmp i]=>some (rsl x n e i)
 | [.tmp i,.tmp j]=>some (.tuple #[rsl x n e i,rsl x n e j])
 | [.tmp i,.tmp j,.tmp k]=>some (.tuple #[rsl x n e i,rsl x n e j,rsl x n e k])
 | _=>none
theorem rsl_eq(e:List (Nat × Value))(t:Tmp):(patch x n e).tmps.getD t undef=rsl x n e t:=congrFun (eval_patch x n e) (.tmp t)
theorem rv_ok{e:List (Nat × Value)}{v:Value}(hv:rv fn x n e=some v)(h:R (.returned v) w):bodyPost P fn R .ret (patch x n e) w:=by
 unfold rv at hv
 have hf:∀ l,fn.results.toList=l->fn.results=l.toArray:=fun l hl=>by rw [← hl]
 split at hv
 · rename_i hl;injection hv with hv;subst hv;exact post_0 (hf _ hl) rfl h
 · rename_i i hl;injection hv with hv;subst hv;exact post_1 (hf _ hl) rfl (rtmp (rsl_eq e i)) h
 · rename_i i j hl;injection hv with hv;subst hv;exact post_2 (hf _ hl) rfl (rtmp (rsl_eq e i)) (rtmp (rsl_eq e j)) h
 · rename_i i j k hl;injection hv with hv;subst hv;exact post_3 (hf _ hl) rfl (rtmp (rsl_eq e i)) (rtmp (rsl_eq e j)) (rtmp (rsl_eq e k)) h
 cases hv
theorem mP{s:St}(v:Value)(h:R (.returned v) w)(hv:rv fn x n (go P x n n s).e=some v:=by kernel_rfl)(ok:isE (go P x n n s)=true:=by kernel_rfl):M P fn R x n s w:=mF (rv_ok hv h) ok
/-! ### Regions that draw -/
def opsD(s:St):Array Oper:=match s.cu with | .code (.region _ ops true)=>ops|_=>#[]
def isDr(s:St):Bool:=match s.cu with | .code (.region _ _ true)=>true|_=>false
def p1(p m:Nat):Bool:=!(Nat.beq (m &&& (2 ^ p-1)) (2 ^ p-1))
structure Dd(P:Program)(fn:Func)(R:Ending->World->Prop)(x:Nat->Value)(n:Nat)(ops:Array Oper)(ks:List Kn)(S:World->Prop)(p N f m:Nat)(e:List (Nat × Value))(w:World):Prop where
 run:Rg .any ops (KQ P (bodyPost P fn R) ks) p N (sumOf .any ops)->(p1 p m=true->S w)->wpAnyT P .any ops (KQ P (bodyPost P fn R) ks) S p f (bl N m) (patch x n e) w
theorem KQ_panic(c:List PanicEntry):∀ (ks:List Kn) (a:Act) (w:World),KQ P (bodyPost P fn R) ks (.panic c) a w=bodyPost P fn R (.panic c) a w
 | [],_,_=>rfl
 | .seq _::ks,a,w=>KQ_panic c ks a w
 | .blk _::ks,a,w=>KQ_panic c ks a w
 | .stop _::ks,a,w=>KQ_panic c ks a w
theorem dG{s:St}{F0:Nat->Prop}{w0:World}{ro rs:List Res}(h:Hp F0 w0 w ro rs)(N p:Nat)(S:World->Prop)(hS:∀ w',Hp F0 w0 w' ro rs->S w')
   (k:∀ w',Hp F0 w0 w' ro rs->Dd P fn R x n (opsD (go P x n n s)) (go P x n n s).ks S p N N 0 (go P x n n s).e w')
   (ok:isDr (go P x n n s)=true:=by kernel_rfl) (hN:(opsD (go P x n n s)).size=N:=by kernel_rfl) (hm:P.follows .mixedOrders=true:=by kernel_rfl) (hL:Array.replicate N false=bl N 0:=by kernel_rfl) (hs:Region.noSelect (opsD (go P x n n s))=true:=by kernel_rfl) (hph:phaseB .any (opsD (go P x n n s)) p=true:=by kernel_rfl):M P fn R x n s w:=by
 refine go_ok n ?_
 generalize go P x n n s=t at *
 obtain ⟨cu,ks,e⟩:=t
 cases cu with
 | code c =>
   cases c with
   | region i ops d =>
     cases d with
     | false=>cases ok
     | true =>
       obtain ⟨l⟩:=ops
       refine ⟨?_⟩
       have hN:l.length=N:=by simpa [opsD] using hN
       refine pH_go h p S hm hN hL hs hph fun h1 h2 w' hw=>?_
       refine (k w' hw).run ⟨h1,h2,rfl,by simpa [opsD] using hN,fun c d v a w hq=>?_⟩ fun _=>hS w' hw
       rw [KQ_panic] at hq ⊢
       cases d <;> exact hq
   | _=>cases ok
 | _=>cases ok
section
variable{ops:Array Oper}{ks:List Kn}{S:World->Prop}{p N f m:Nat}{e:List (Nat × Value)}
noncomputable def frE (P:Program) (ops:Array Oper) (p N:Nat) (x:Nat->Value) (n:Nat) (is:List Nat) (m:Nat) (e:List (Nat × Value)):List (Nat × Value):=(freeR P ops (sumOf .any ops) p N x n is m e).getD []
/-- Operations that need no world, taken first. -/
theorem dP{f':Nat}(f:Nat)(is:List Nat)(k:Dd P fn R x n ops ks S p N f (maskOf m is) (frE P ops p N x n is m e) w)(hn:f'=f+is.length:=by kernel_rfl)(ok:(freeR P ops (sumOf .any ops) p N x n is m e).isSome=true:=by kernel_rfl)(hp:p1 p m=true:=by kernel_rfl):Dd P fn R x n ops ks S p N f' m e w:=⟨fun hs hS=>by
 have hw:=hS hp
 have k:=k.run hs fun _=>hw
 unfold frE at k
 cases hr:freeR P ops (sumOf .any ops) p N x n is m e with
 | none=>rw [hr] at ok;cases ok
 | some e' =>
   rw [hr] at k
   subst hn
   refine pQ_pr hs.ns hs.ph hs.hQ hw f is (bl N m) e e' (free_freeR hs.sum hs.sz is m e e' hr) ?_
   rw [marks_bl];exact k⟩
def opD(ops:Array Oper)(i:Nat):Oper:=(ops[i]?).getD default
theorem opD_get{i:Nat}(h:Nat.blt i ops.size=true):ops[i]?=some (opD ops i):=by
 rw [Nat.blt_eq] at h
 unfold opD
 rw [Array.getElem?_eq_getElem h];rfl
noncomputable def dOk (x:Nat->Value) (n _p N:Nat) (ops:Array Oper) (m:Nat) (e:List (Nat × Value)) (i:Nat):Bool:=
 Nat.blt i ops.size && okD n (opD ops i).dst && Region.wanted (opD ops i) (yieldP ops x n e) && Nat.blt m (2 ^ N)
noncomputable def vOk (x:Nat->Value) (n p N:Nat) (ops:Array Oper) (m:Nat) (e:List (Nat × Value)) (i:Nat):Bool:=
 dOk x n p N ops m e i && freeS (sumOf .any ops) m i && rdyS (sumOf .any ops) m i && Nat.blt i p && p1 p m
/-- What leaves the world, as long as S holds of it. -/
theorem dV(i:Nat){v:Value}(hv:∀ W,S W->(execOp (patch x n e).eval (opD ops i)).run P W=.ok (.value v) W)(k:Dd P fn R x n ops ks S p N f (m ||| (1 <<< i)) (putL (opD ops i).dst v e) w)(ok:vOk x n p N ops m e i=true:=by kernel_rfl):Dd P fn R x n ops ks S p N (f+1) m e w:=⟨fun hs hS=>by
 unfold vOk dOk at ok
 simp only [Bool.and_eq_true] at ok
 obtain ⟨⟨⟨⟨⟨⟨⟨h1,h2⟩,h3⟩,h4⟩,h5⟩,h6⟩,h7⟩,h8⟩:=ok
 have hw:=hS h8
 exact pR_v i _ v (m ||| (1 <<< i)) (opD_get h1) hs hw hv (k.run hs fun _=>hw) rfl rfl h2 (by rw [h5,h6,h4,h7];rfl) h3⟩
/-- A load of what S holds. -/
theorem dL(i:Nat){g:Nat}{T:TypeId}{cs:List Value}(hb:∀ W,S W->Blk W g T cs)(k:Dd P fn R x n ops ks S p N f (m ||| (1 <<< i)) (putL (opD ops i).dst (ldv P (opD ops i) (evP x n e) cs).2 e) w)(hg:(ldv P (opD ops i) (evP x n e) cs).1=g:=by kernel_rfl)(lo:ldOk P (opD ops i) (evP x n e) cs=true:=by kernel_rfl)(ok:vOk x n p N ops m e i=true:=by kernel_rfl):Dd P fn R x n ops ks S p N (f+1) m e w:=by
 rw [← eval_patch] at hg lo k
 exact dV i (fun W hW=>ld_run (hb W hW) hg lo) k ok
noncomputable def dlE (P:Program) (ops:Array Oper) (x:Nat->Value) (n:Nat) (cs:List Value):List Nat->List (Nat × Value)->List (Nat × Value)
 | [],e=>e
 | i::r,e=>dlE P ops x n cs r (putL (opD ops i).dst (ldv P (opD ops i) (evP x n e) cs).2 e)
noncomputable def dlG (P:Program) (ops:Array Oper) (x:Nat->Value) (n:Nat) (cs:List Value):List Nat->List (Nat × Value)->List Nat
 | [],_=>[]
 | i::r,e=>(ldv P (opD ops i) (evP x n e) cs).1::dlG P ops x n cs r (putL (opD ops i).dst (ldv P (opD ops i) (evP x n e) cs).2 e)
noncomputable def dlB (P:Program) (ops:Array Oper) (p N:Nat) (x:Nat->Value) (n:Nat) (cs:List Value):List Nat->Nat->List (Nat × Value)->Bool
 | [],_,_=>true
 | i::r,m,e=>ldOk P (opD ops i) (evP x n e) cs && vOk x n p N ops m e i && dlB P ops p N x n cs r (m ||| (1 <<< i)) (putL (opD ops i).dst (ldv P (opD ops i) (evP x n e) cs).2 e)
theorem dLs_go{g:Nat}{T:TypeId}{cs:List Value}(hb:∀ W,S W->Blk W g T cs)(f:Nat):∀ (is:List Nat) (m:Nat) (e:List (Nat × Value)),Dd P fn R x n ops ks S p N f (maskOf m is) (dlE P ops x n cs is e) w->dlG P ops x n cs is e=List.replicate is.length g->dlB P ops p N x n cs is m e=true->Dd P fn R x n ops ks S p N (f+is.length) m e w
 | [],_,_,k,_,_=>k
 | i::r,m,e,k,hg,ok=>by
   unfold dlB at ok
   simp only [Bool.and_eq_true] at ok
   unfold dlG at hg
   rw [List.length_cons,List.replicate_succ] at hg
   injection hg with h1 h2
   exact dL i hb (dLs_go hb f r _ _ k h2 ok.2) h1 ok.1.1 ok.1.2
/-- Loads of what S holds. -/
theorem dLs{f':Nat}(f:Nat)(is:List Nat){g:Nat}{T:TypeId}{cs:List Value}(hb:∀ W,S W->Blk W g T cs)(k:Dd P fn R x n ops ks S p N f (maskOf m is) (dlE P ops x n cs is e) w)(hn:f'=f+is.length:=by kernel_rfl)(hg:dlG P ops x n cs is e=List.replicate is.length g:=by kernel_rfl)(ok:dlB P ops p N x n cs is m e=true:=by kernel_rfl):Dd P fn R x n ops ks S p N f' m e w:=by
 subst hn;exact dLs_go hb f is m e k hg ok
noncomputable def tOk (x:Nat->Value) (n p N:Nat) (ops:Array Oper) (m:Nat) (e:List (Nat × Value)) (i:Nat):Bool:=
 dOk x n p N ops m e i && (match goR m (sumOf .any ops) 0 with | [j]=>Nat.beq j i|_=>false)
theorem goR_one{sm:List (Nat × List Nat × Nat)}{i:Nat}(h:(match goR m sm 0 with | [j]=>Nat.beq j i|_=>false)=true):goR m sm 0=[i]:=by
 split at h
 · rename_i j hj;rw [hj,Nat.eq_of_beq_eq_true h]
 cases h
/-- What comes up alone, in the first phase. -/
theorem dT(i:Nat){U:Value->World->Prop}(h:OpTo P (opD ops i) (patch x n e) w U)(k:∀ v w',U v w'->S w'/\Dd P fn R x n ops ks S p N f (m ||| (1 <<< i)) (putL (opD ops i).dst v e) w')(ok:tOk x n p N ops m e i=true:=by kernel_rfl):Dd P fn R x n ops ks S p N (f+1) m e w:=⟨fun hs _=>by
 unfold tOk dOk at ok
 simp only [Bool.and_eq_true] at ok
 obtain ⟨⟨⟨⟨h1,h2⟩,h3⟩,h4⟩,h5⟩:=ok
 exact pR_to i _ (m ||| (1 <<< i)) (opD_get h1) hs h (fun v w' hr=>⟨fun _=>(k v w' hr).1,(k v w' hr).2.run hs fun _=>(k v w' hr).1⟩) rfl rfl h2 h4 (goR_one h5) h3⟩
/-- The same, in the second phase. -/
theorem dE(i:Nat){U:Value->World->Prop}(h:OpTo P (opD ops i) (patch x n e) w U)(k:∀ v w',U v w'->Dd P fn R x n ops ks S p N f (m ||| (1 <<< i)) (putL (opD ops i).dst v e) w')(ok:tOk x n p N ops m e i=true:=by kernel_rfl)(hp:Nat.blt i p=false:=by kernel_rfl)(hq:p1 p (m ||| (1 <<< i))=false:=by kernel_rfl):Dd P fn R x n ops ks S p N (f+1) m e w:=⟨fun hs _=>by
 unfold tOk dOk at ok
 simp only [Bool.and_eq_true] at ok
 obtain ⟨⟨⟨⟨h1,h2⟩,h3⟩,h4⟩,h5⟩:=ok
 have hp:¬ i<p:=fun hh=>by rw [← Nat.blt_eq,hp] at hh;cases hh
 exact pR_to i _ (m ||| (1 <<< i)) (opD_get h1) hs h (fun v w' hr=>⟨fun hh=>absurd hh hp,(k v w' hr).run hs fun hh=>by rw [hq] at hh;cases hh⟩) rfl rfl h2 h4 (goR_one h5) h3⟩
/-- What leaves the world, and comes up alone in the second phase. -/
theorem dU(i:Nat){v:Value}(hv:(execOp (patch x n e).eval (opD ops i)).run P w=.ok (.value v) w)(k:Dd P fn R x n ops ks S p N f (m ||| (1 <<< i)) (putL (opD ops i).dst v e) w)(ok:tOk x n p N ops m e i=true:=by kernel_rfl)(hp:Nat.blt i p=false:=by kernel_rfl)(hq:p1 p (m ||| (1 <<< i))=false:=by kernel_rfl):Dd P fn R x n ops ks S p N (f+1) m e w:=
 dE i (U:=fun u w'=>u=v/\w'=w) (OpTo.run v hv ⟨rfl,rfl⟩) (fun _ _ h=>by obtain ⟨rfl,rfl⟩:=h;exact k) ok hp hq
noncomputable def pvD (P:Program) (o:Oper) (ev:Operand->Value):Value:=(pureE P o ev).getD undef
/-- One that needs no world. -/
theorem dN(i:Nat)(k:Dd P fn R x n ops ks S p N f (m ||| (1 <<< i)) (putL (opD ops i).dst (pvD P (opD ops i) (evP x n e)) e) w)(hv:(pureE P (opD ops i) (evP x n e)).isSome=true:=by kernel_rfl)(ok:tOk x n p N ops m e i=true:=by kernel_rfl)(hp:Nat.blt i p=false:=by kernel_rfl)(hq:p1 p (m ||| (1 <<< i))=false:=by kernel_rfl):Dd P fn R x n ops ks S p N (f+1) m e w:=by
 refine dU i (v:=pvD P (opD ops i) (evP x n e)) ?_ k ok hp hq
 unfold pvD
 cases h:pureE P (opD ops i) (evP x n e) with
 | none=>rw [h] at hv;cases hv
 | some v=>rw [pureE_eq] at h;exact pureOp_run h w
/-- One of two that come up together. -/
structure Do(P:Program)(fn:Func)(R:Ending->World->Prop)(x:Nat->Value)(n:Nat)(ops:Array Oper)(ks:List Kn)(S:World->Prop)(p N f m:Nat)(e:List (Nat × Value))(w:World)(i:Nat):Prop where
 run:Rg .any ops (KQ P (bodyPost P fn R) ks) p N (sumOf .any ops)->wpOp P ops (KQ P (bodyPost P fn R) ks) i (fun a' w'=>(i<p->S w')/\wpAnyT P .any ops (KQ P (bodyPost P fn R) ks) S p f ((bl N m).setIfInBounds i true) a' w') (patch x n e) w
theorem dO(i j:Nat)(h1:Do P fn R x n ops ks S p N f m e w i)(h2:Do P fn R x n ops ks S p N f m e w j)(hb:Nat.blt m (2 ^ N)=true:=by kernel_rfl)(hr:goR m (sumOf .any ops) 0=[i,j]:=by kernel_rfl):Dd P fn R x n ops ks S p N (f+1) m e w:=⟨fun hs _=>pR_or i j hs (h1.run hs) (h2.run hs) hb hr⟩
theorem oT{i:Nat}{U:Value->World->Prop}(h:OpTo P (opD ops i) (patch x n e) w U)(k:∀ v w',U v w'->S w'/\Dd P fn R x n ops ks S p N f (m ||| (1 <<< i)) (putL (opD ops i).dst v e) w')(ok:dOk x n p N ops m e i=true:=by kernel_rfl):Do P fn R x n ops ks S p N f m e w i:=⟨fun hs=>by
 unfold dOk at ok
 simp only [Bool.and_eq_true] at ok
 obtain ⟨⟨⟨h1,h2⟩,h3⟩,h4⟩:=ok
 exact pR_op i _ (m ||| (1 <<< i)) (opD_get h1) h (fun v w' hr=>⟨fun _=>(k v w' hr).1,(k v w' hr).2.run hs fun _=>(k v w' hr).1⟩) rfl rfl h2 h3⟩
theorem dX(k:M P fn R x n ⟨.ex .normal,ks,e⟩ w)(hb:Nat.blt m (2 ^ N)=true:=by kernel_rfl)(hr:goR m (sumOf .any ops) 0=[]:=by kernel_rfl):Dd P fn R x n ops ks S p N f m e w:=⟨fun hs _=>pR_done hs k.run f hb hr⟩
/-- What is left of a region, at any frame. -/
structure KD(P:Program)(fn:Func)(R:Ending->World->Prop)(ops:Array Oper)(ks:List Kn)(S:World->Prop)(p N f m:Nat)(a:Act)(w:World):Prop where
 run:Rg .any ops (KQ P (bodyPost P fn R) ks) p N (sumOf .any ops)->(p1 p m=true->S w)->wpAnyT P .any ops (KQ P (bodyPost P fn R) ks) S p f (bl N m) a w
/-- What is left is told once. -/
theorem dC(f' m':Nat)(Z:(Act->World->Prop)->Prop)(h1:Z (KD P fn R ops ks S p N f' m'))(h2:Z (KD P fn R ops ks S p N f' m')->Dd P fn R x n ops ks S p N f m e w):Dd P fn R x n ops ks S p N f m e w:=h2 h1
theorem dAt(h:Dd P fn R x n ops ks S p N f m e w):KD P fn R ops ks S p N f m (patch x n e) w:=⟨h.run⟩
theorem dF{m':Nat}(h:KD P fn R ops ks S p N f m' (patch x n e) w)(hm:m=m':=by kernel_rfl):Dd P fn R x n ops ks S p N f m e w:=by subst hm;exact ⟨h.run⟩
end
end
theorem mX{P:Program}{fn:Func}{R:Ending → World → Prop}{x:Nat → Value}{n:Nat}{w:World}{s:St}(t:Nat)(u v:Value)(hv:v=u)(k:M P fn R x n (putS (go P x n t s) u) w)(h:pureE P (hdO (go P x n t s)) (evP x n (go P x n t s).e)=some v:=by kernel_rfl)(ok:opOk x n (go P x n t s)=true:=by kernel_rfl):M P fn R x n s w:=mW t (eqI v hv h) k ok
theorem mN{P:Program}{fn:Func}{R:Ending → World → Prop}{x:Nat → Value}{n:Nat}{F0:Nat → Prop}{w0 w:World}{ro rs:List Res}{s:St}(h:Hp F0 w0 w ro rs)(T:TypeId)(cs:List Value)(k:∀ g w',Hp F0 w0 w' ro (rBlk g T cs::rs) → M P fn R x n (putS (go P x n n s) (pt g 0)) w')(hn:newVal P (execOp (patch x n (go P x n n s).e).eval (hdO (go P x n n s)))=some (.cells cs.toArray T,fun r=>some (.value (pt r 0))):=by kernel_rfl)(ok:opOk x n (go P x n n s)=true:=by kernel_rfl):M P fn R x n s w:=
 mT (xN h T cs hn) (fun _ w' ⟨g,e,h⟩=>e ▸ k g w' h) ok
end
section
/-- A value: its kind, its tag, a number, bytes, a list. -/
inductive DVal where
 | mk (kind tag n:Nat) (b:Bytes) (l:List DVal)
def DVal.kind:DVal->Nat | .mk k _ _ _ _=>k
def DVal.tag:DVal->Nat | .mk _ t _ _ _=>t
def DVal.n:DVal->Nat | .mk _ _ n _ _=>n
def DVal.b:DVal->Bytes | .mk _ _ _ b _=>b
def DVal.l:DVal->List DVal | .mk _ _ _ _ l=>l
/-- The noughts ahead are struck, but for the last byte. -/
def stripZ:Bytes->Bytes
 | []=>[]
 | [a]=>[a]
 | a::b::r=>if a=0 then stripZ (b::r) else a::b::r
def shortB(n:Nat):Bytes:=stripZ (put8 n)
theorem stripZ_ne:∀ (l:Bytes),l≠[]->stripZ l≠[]
 | [],h=>h
 | [_],_=>by simp [stripZ]
 | a::b::r,_=>by
   rw [stripZ]
   split
   · exact stripZ_ne (b::r) (by simp)
   simp
theorem stripZ_len:∀ (l:Bytes),(stripZ l).length<=l.length
 | []=>Nat.le_refl _
 | [_]=>Nat.le_refl _
 | a::b::r=>by
   rw [stripZ]
   split
   · exact Nat.le_trans (stripZ_len (b::r)) (by simp)
   exact Nat.le_refl _
theorem stripZ_step(l:Bytes)(h:1<l.length)(h0:gb l 0=0):stripZ (l.drop 1)=stripZ l:=by
 match l,h with
 | a::b::r,_ =>
   have:a=0:=h0
   rw [List.drop_one,List.tail_cons,stripZ,if_pos this]
theorem stripZ_end(l:Bytes)(h:¬ (1<l.length/\gb l 0=0)):stripZ l=l:=by
 match l with
 | []=>rfl
 | [_]=>rfl
 | a::b::r =>
   have:a≠0:=fun h0=>h ⟨by simp,h0⟩
   rw [stripZ,if_neg this]
theorem shortB_len(n:Nat):(shortB n).length<=8:=stripZ_len (put8 n)
theorem shortB_ne(n:Nat):shortB n≠[]:=stripZ_ne _ (by intro h;have:=congrArg List.length h;rw [put8_len] at this;cases this)
/-- The first bytes of a value. -/
def headB(k t m:Nat):Bytes:=
 if m<128 then [UInt8.ofNat (k*64+t),UInt8.ofNat m] else [UInt8.ofNat (k*64+t),UInt8.ofNat (128+(shortB m).length)]++shortB m
mutual
/-- May a value be? -/
def rightV:DVal->Nat->Bool
 | .mk k t n b l,d=>decide (t<=30) && decide (d<=8) && (if k=0 then b.isEmpty && l.isEmpty else if k=1 then decide (n=0) && l.isEmpty else if k=2 then rightL l (d+1) && decide (n=0) && b.isEmpty else false)
def rightL:List DVal->Nat->Bool
 | [],_=>true
 | x::r,d=>rightV x d && rightL r d
end
mutual
/-- A value's bytes. -/
def wrV:DVal->Bytes
 | .mk k t n b l=>headB k t (if k=0 then shortB n else if k=1 then b else wrL l).length++(if k=0 then shortB n else if k=1 then b else wrL l)
def wrL:List DVal->Bytes
 | []=>[]
 | x::r=>wrV x++wrL r
end
def bodyV:DVal->Bytes | .mk k _ n b l=>if k=0 then shortB n else if k=1 then b else wrL l
theorem wrV_eq(v:DVal):wrV v=headB v.kind v.tag (bodyV v).length++bodyV v:=by
 cases v;rw [wrV];rfl
theorem wrL_take:∀ (l:List DVal) (i:Nat) (x:DVal),l[i]?=some x->wrL (l.take (i+1))=wrL (l.take i)++wrV x
 | [],i,x,h=>by simp at h
 | y::r,0,x,h=>by
   have:y=x:=by simpa using h
   subst this
   simp [wrL]
 | y::r,i+1,x,h=>by
   have:=wrL_take r i x (by simpa using h)
   simp only [List.take_succ_cons,wrL,this,List.append_assoc]
end
section
open Go.RowKit Go.QT
section
variable{P:Program}{o:Oper}{a:Act}{w w':World}{F0:Nat->Prop}{w0:World}{ro rs:List Res}
/-- What a call leaves that answers new bytes, a part of a row of its own. -/
def SbPost(w:World)(l:Bytes)(e:Ending)(w':World):Prop:=∃ v,e=.returned v/\SB w' v l/\Below w.heap.size w w'/\∀ q,v.ownBlock=some q->w.heap.size<=q
theorem x_sb(h:Hp F0 w0 w ro rs){l:Bytes}(fn:FuncId)(al:List Value)(hp:pureVal P (execOp a.eval o)=some (.enter fn al.toArray))(hc:Calls P fn al.toArray w (SbPost w l))(r:Bytes)(n:Nat)(hr:r=l)(hn:n=r.length) :
   OpTo P o a w (fun u w'=>∃ A cc,u=.slice A n cc/\Hp F0 w0 w' (rSB (.slice A n cc) r::ro) rs):=
 OpTo.enter fn al hp hc fun e w' hq=>by
   subst hr;subst hn
   obtain ⟨v,he,hs,hb,hF⟩:=hq
   obtain ⟨A,cc,rfl,_⟩:=id hs
   exact ⟨_,he,A,cc,rfl,h.newR hb (rSB _ r) hs (fun q hq=>hF q hq.2)⟩
end
section
variable{F0:Nat->Prop}{w0 w:World}{ro rs:List Res}{v:Value}{l:Bytes}
/-- Own bytes, of which a part is read from here on. -/
theorem Hp.obSB(h:Hp F0 w0 w ro rs)(i:Nat)(hi:rs[i]?=some (rOB v l)):Hp F0 w0 w ro (rs.set i (rSB v l)):=
 h.upd i hi (Fr.refl _ _) (rSB v l) (OB.sb (h.own i _ hi)) (fun _ hq=>.inl hq.2)
theorem Hp.sbCut(h:Hp F0 w0 w ro rs)(i:Nat)(hi:rs[i]?=some (rSB v l))(k:Nat)(hk:k<=l.length):∃ A c,cutS v k l.length=.slice A (l.drop k).length c/\Hp F0 w0 w ro (rs.set i (rSB (.slice A (l.drop k).length c) (l.drop k))):=by
 have hs:=SB.cut (h.own i _ hi) k l.length (Nat.le_refl _)
 rw [List.take_length] at hs
 obtain ⟨A,c,e,_⟩:=id hs
 refine ⟨A,c,e,?_⟩
 rw [← e]
 refine h.upd i hi (Fr.refl _ _) (rSB _ _) hs (fun q hq=>.inl ⟨?_,?_⟩)
 · rintro rfl;exact hq.1 (by simp)
 have h2:(cutS v k l.length).ownBlock=some q:=hq.2
 rw [cutS_block] at h2;exact h2
theorem sbpost_sb{L:Bytes}(h:Hp (fun _=>False) w0 w ro rs)(i:Nat)(hi:rs[i]?=some (rSB v l))(hne:l≠[])(e:l=L):SbPost w0 L (.returned v) w:=by
 subst e
 refine ⟨v,rfl,h.own i _ hi,h.below0,fun q hq=>?_⟩
 rcases h.mine i _ hi q ⟨hne,hq⟩ with h3|h3
 · exact h3.elim
 exact h3
end
end
section
open Go.RowKit Go.QT
section
variable{P:Program}{o:Oper}{a:Act}{w w':World}{F0:Nat->Prop}{w0:World}{ro rs:List Res}
/-- A call that leaves new bytes. -/
theorem x_bytesE(h:Hp F0 w0 w ro rs){l:Bytes}(fn:FuncId)(al:List Value)(hp:pureVal P (execOp a.eval o)=some (.enter fn al.toArray))(hc:Calls P fn al.toArray w (BPost w l))(r:Bytes)(n:Nat)(hr:r=l)(hn:n=r.length) :
   OpTo P o a w (fun u w'=>∃ A cc,u=.slice A n cc/\Hp F0 w0 w' ro (rOB (.slice A n cc) r::rs)):=by
 subst hr;subst hn
 refine (x_bytes h fn al hp hc).mono fun u w' hq=>?_
 obtain ⟨A,cc,rfl,h'⟩:=hq
 exact ⟨A,cc,rfl,h'⟩
theorem bpost_of{L r:Bytes}{v:Value}(h:Hp (fun _=>False) w0 w ro rs)(i:Nat)(hi:rs[i]?=some (rOB v r))(e:r=L):BPost w0 L (.returned v) w:=by
 subst e
 have ho:OB w 0 v r:=h.own i _ hi
 refine ⟨v,rfl,⟨ho.1,?_⟩,h.below0⟩
 rcases ho.2 with h2|⟨g,cap,cur,rfl,_,rest⟩
 · exact .inl h2
 refine .inr ⟨g,cap,cur,rfl,?_,rest⟩
 rcases h.mine i _ hi g rfl with h3|h3
 · exact h3.elim
 exact h3
theorem bs2{g:Nat}{u1 u2:Value}{l1 l2:Bytes}(hb:Blk w g 24 [u1,u2])(h1:SB w u1 l1)(h2:SB w u2 l2):SS w (.slice (some ⟨g,0,none⟩) 2 2) [l1,l2]:=
 ⟨_,2,rfl,Nat.le_refl _,by decide,fun i hi=>by
   match i,hi with
   | 0,_=>exact ⟨g,0,u1,rfl,hb.lt,hb.cell 0,h1⟩
   | 1,_=>exact ⟨g,0,u2,rfl,hb.lt,hb.cell 1,h2⟩⟩
end
end
section
open Go.RowKit Go.QT
theorem wrap_u64_is{x:Int}(h0:0 ≤ x)(h1:x<18446744073709551616):Value.int .u64 (IntKind.u64.wrap x)=Value.int .u64 x:=by
 congr 1;rw [IntKind.wrap_u64];omega
section
variable{P:Program}{o:Oper}{a:Act}{w w':World}
/-- The place of an element of an array. -/
theorem e_idxA(t:TypeId)(x y:Operand)(ho:o.op=.indexAddr t x y)(k:IntKind)(g off i n:Nat)(hx:a.eval x=pt g off)(hy:a.eval y=.int k (i:Int))(hi:i<n)(E:TypeId)(ht:P.underlying t=some (.array n E))(hE:pureVal P (sizeOf E)=some 1)(r:Nat)(hr:off+i=r)(W:World) :
   (execOp a.eval o).run P W=.ok (.value (pt g r)) W:=by
 subst hr
 have h0:(0:Int) ≤ i ∧ (i:Int)<n:=⟨by omega,by omega⟩
 have h1:(Instr.indexAt t (pt g off) (.int k (i:Int))).run P W=.ok (pt g (off+i)) W:=by
   by_cases hz:i=0
   · subst hz;simp [Instr.indexAt,asIntOf,run_underlying ht,hi,pureVal_run hE,pt,Addr.add,Instr.sureAddr]
   simp [Instr.indexAt,asIntOf,run_underlying ht,hi,pureVal_run hE,pt,Addr.add,Instr.sureAddr,hz]
 unfold execOp
 simp only [ho,hx,hy,Sem.run_bind,h1,Result.andThen_ok,Sem.run_pure]
end
theorem eIa{P:Program}{o:Oper}{a:Act}(t:TypeId)(x y:Operand)(k:IntKind)(g off i n:Nat)(E:TypeId)(r:Nat){W:World}(ho:o.op=.indexAddr t x y:=by kernel_rfl)(hx:a.eval x=pt g off:=by kernel_rfl)(hy:a.eval y=.int k (i:Int):=by kernel_rfl)(hi:i<n:=by omega)(ht:P.underlying t=some (.array n E):=by kernel_rfl)(hE:pureVal P (sizeOf E)=some 1:=by kernel_rfl)(hr:off+i=r:=by omega) :
    (execOp a.eval o).run P W=.ok (.value (pt g r)) W:=e_idxA t x y ho k g off i n hx hy hi E ht hE r hr W
end
section
open Go.RowKit Go.QT
theorem ub0_eq{x:UInt8}(h:x=0):(ub x == 0)=true:=by subst h;unfold ub;rfl
theorem ub0_ne{x:UInt8}(h:x≠0):(ub x == 0)=false:=by
 have:ub x≠ub 0:=fun e=>h (by unfold ub at e;exact UInt8.toNat_inj.1 (by simpa using e))
 have h0:ub 0=0:=by unfold ub;rfl
 rw [h0] at this
 simpa using this
section
variable{P:Program}{o:Oper}{a:Act}{w w':World}{F0:Nat->Prop}{w0:World}{ro rs:List Res}
/-- A call that leaves nothing. -/
def DPost(w:World)(v:Value)(e:Ending)(w':World):Prop:=e=.returned v/\Below w.heap.size w w'
theorem x_dp(h:Hp F0 w0 w ro rs){v:Value}(fn:FuncId)(al:List Value)(hp:pureVal P (execOp a.eval o)=some (.enter fn al.toArray))(hc:Calls P fn al.toArray w (DPost w v)) :
   OpTo P o a w (fun u w'=>u=v/\Hp F0 w0 w' ro rs):=
 OpTo.enter fn al hp hc fun _e _w' hq=>⟨_,hq.1,rfl,h.below hq.2⟩
end
theorem bz_eq{n:Nat}(h:n=0):Value.bool (((n:Nat):Int) == 0)=Value.bool true:=by subst h;rfl
theorem bz_ne{n:Nat}(h:n≠0):Value.bool (((n:Nat):Int) == 0)=Value.bool false:=by
 congr 1
 have:¬ ((n:Int)=0):=by omega
 simpa using this
theorem rightL_all:∀ (l:List DVal) (d:Nat),(∀ x ∈ l,rightV x d=true)->rightL l d=true
 | [],_,_=>by simp [rightL]
 | x::r,d,h=>by
   rw [rightL,h x (by simp),rightL_all r d fun y hy=>h y (by simp [hy])];rfl
theorem rightL_no:∀ (l:List DVal) (d:Nat) (x:DVal),x ∈ l->rightV x d=false->rightL l d=false
 | [],_,_,h,_=>by cases h
 | y::r,d,x,h,h0=>by
   rw [rightL]
   rcases List.mem_cons.1 h with rfl|h
   · rw [h0];rfl
   rw [rightL_no r d x h h0];simp
section
variable{k t n d:Nat}{b:Bytes}{ts:List DVal}
theorem rv_bad(h:30<t∨8<d):rightV (.mk k t n b ts) d=false:=by
 rw [rightV]
 rcases h with h|h
 · rw [decide_eq_false (by omega:¬ t<=30)];rfl
 rw [decide_eq_false (by omega:¬ d<=8),Bool.and_false];rfl
theorem rv_in(ht:t<=30)(hd:d<=8):rightV (.mk k t n b ts) d=(if k=0 then b.isEmpty && ts.isEmpty else if k=1 then decide (n=0) && ts.isEmpty else if k=2 then rightL ts (d+1) && decide (n=0) && b.isEmpty else false):=by
 rw [rightV,decide_eq_true ht,decide_eq_true hd,Bool.true_and,Bool.true_and]
theorem emp_t{α:Type}{l:List α}(h:l.length=0):l.isEmpty=true:=by rw [List.eq_nil_of_length_eq_zero h];rfl
theorem emp_f{α:Type}{l:List α}(h:l.length≠0):l.isEmpty=false:=by cases l with|nil=>exact absurd rfl h|cons x r=>rfl
theorem rv0_t(ht:t<=30)(hd:d<=8)(h1:b.length=0)(h2:ts.length=0)(hk:k=0):rightV (.mk k t n b ts) d=true:=by subst hk;rw [rv_in ht hd,if_pos rfl,emp_t h1,emp_t h2];rfl
theorem rv0_f(ht:t<=30)(hd:d<=8)(h:b.length≠0∨ts.length≠0)(hk:k=0):rightV (.mk k t n b ts) d=false:=by
 subst hk;rw [rv_in ht hd,if_pos rfl];rcases h with h|h <;> simp only [emp_f h,Bool.false_and,Bool.and_false]
theorem rv1_t(ht:t<=30)(hd:d<=8)(h1:n=0)(h2:ts.length=0)(hk:k=1):rightV (.mk k t n b ts) d=true:=by subst hk;rw [rv_in ht hd,if_neg (by decide),if_pos rfl,decide_eq_true h1,emp_t h2];rfl
theorem rv1_f(ht:t<=30)(hd:d<=8)(h:n≠0∨ts.length≠0)(hk:k=1):rightV (.mk k t n b ts) d=false:=by
 subst hk;rw [rv_in ht hd,if_neg (by decide),if_pos rfl]
 rcases h with h|h
 · simp only [decide_eq_false h,Bool.false_and]
 simp only [emp_f h,Bool.and_false]
theorem rv2_t(ht:t<=30)(hd:d<=8)(hL:rightL ts (d+1)=true)(h1:n=0)(h2:b.length=0)(hk:k=2):rightV (.mk k t n b ts) d=true:=by subst hk;rw [rv_in ht hd,if_neg (by decide),if_neg (by decide),if_pos rfl,hL,decide_eq_true h1,emp_t h2];rfl
theorem rv2_f(ht:t<=30)(hd:d<=8)(h:n≠0∨b.length≠0)(hk:k=2):rightV (.mk k t n b ts) d=false:=by
 subst hk;rw [rv_in ht hd,if_neg (by decide),if_neg (by decide),if_pos rfl]
 rcases h with h|h
 · simp only [decide_eq_false h,Bool.and_false,Bool.false_and]
 simp only [emp_f h,Bool.and_false]
theorem rv2_no(ht:t<=30)(hd:d<=8)(hL:rightL ts (d+1)=false)(hk:k=2):rightV (.mk k t n b ts) d=false:=by subst hk;rw [rv_in ht hd,if_neg (by decide),if_neg (by decide),if_pos rfl,hL];rfl
theorem rv_k(ht:t<=30)(hd:d<=8)(h0:k≠0)(h1:k≠1)(h2:k≠2):rightV (.mk k t n b ts) d=false:=by
 rw [rv_in ht hd,if_neg h0,if_neg h1,if_neg h2]
theorem rightL_upto{i d:Nat}(h:i=ts.length)(hr:∀ (j:Nat) (x:DVal),j<i->ts[j]?=some x->rightV x d=true):rightL ts d=true:=
 rightL_all ts d fun x hx=>by
   obtain ⟨j,hj⟩:=List.getElem?_of_mem hx
   exact hr j x (by have:=(List.getElem?_eq_some_iff.1 hj).1;omega) hj
end
end
section
open Go.RowKit Go.QT
section
variable{P:Program}{fn:Func}{R:Ending->World->Prop}{x:Nat->Value}{n:Nat}{w w0:World}{F0:Nat->Prop}{ro rs:List Res}
/-- A call that leaves nothing. -/
theorem mD{s:St}{f:FuncId}{v:Value}(h:Hp F0 w0 w ro rs)(al:List Value)(hc:Calls P f al.toArray w (DPost w v))(k:∀ w',Hp F0 w0 w' ro rs->M P fn R x n (putS (go P x n n s) v) w')(hp:pureVal P (execOp (evP x n (go P x n n s).e) (hdO (go P x n n s)))=some (.enter f al.toArray):=by kernel_rfl)(ok:opOk x n (go P x n n s)=true:=by kernel_rfl):M P fn R x n s w:=by
 rw [← eval_patch] at hp
 exact mT (x_dp h f al hp hc) (fun _ _ ⟨e,h⟩=>by subst e;exact k _ h) ok
/-- An end that leaves nothing. -/
theorem mQ{s:St}{v:Value}(h:Hp (fun _=>False) w0 w ro rs)(hv:rv fn x n (go P x n n s).e=some v:=by kernel_rfl)(ok:isE (go P x n n s)=true:=by kernel_rfl):M P fn (DPost w0 v) x n s w:=mP v ⟨rfl,h.below0⟩ hv ok
theorem mQe{s:St}{v:Value}(u:Value)(h:Hp (fun _=>False) w0 w ro rs)(he:u=v)(hv:rv fn x n (go P x n n s).e=some u:=by kernel_rfl)(ok:isE (go P x n n s)=true:=by kernel_rfl):M P fn (DPost w0 v) x n s w:=mP u ⟨by rw [he],h.below0⟩ hv ok
section
variable{ops:Array Oper}{ks:List Kn}{S:World->Prop}{p N f m:Nat}{e:List (Nat × Value)}
/-- Calls that leave nothing, in regions that draw. -/
theorem dD{g:FuncId}{v:Value}(i:Nat)(h:Hp F0 w0 w ro rs)(al:List Value)(hc:Calls P g al.toArray w (DPost w v))(k:∀ w',Hp F0 w0 w' ro rs->S w'/\Dd P fn R x n ops ks S p N f (m ||| (1 <<< i)) (putL (opD ops i).dst v e) w')(hp:pureVal P (execOp (evP x n e) (opD ops i))=some (.enter g al.toArray):=by kernel_rfl)(ok:tOk x n p N ops m e i=true:=by kernel_rfl):Dd P fn R x n ops ks S p N (f+1) m e w:=by
 rw [← eval_patch] at hp
 exact dT i (x_dp h g al hp hc) (fun _ _ ⟨e,h⟩=>by subst e;exact k _ h) ok
theorem oD{g:FuncId}{v:Value}{i:Nat}(h:Hp F0 w0 w ro rs)(al:List Value)(hc:Calls P g al.toArray w (DPost w v))(k:∀ w',Hp F0 w0 w' ro rs->S w'/\Dd P fn R x n ops ks S p N f (m ||| (1 <<< i)) (putL (opD ops i).dst v e) w')(hp:pureVal P (execOp (evP x n e) (opD ops i))=some (.enter g al.toArray):=by kernel_rfl)(ok:dOk x n p N ops m e i=true:=by kernel_rfl):Do P fn R x n ops ks S p N f m e w i:=by
 rw [← eval_patch] at hp
 exact oT (x_dp h g al hp hc) (fun _ _ ⟨e,h⟩=>by subst e;exact k _ h) ok
end
end
end
section
open Go.RowKit Go.QT
theorem nin_any(cc:Int)(l:List (Int × Int))(A:Option Addr)(c:Nat)(w:World)(hl:l.length<=1000)(h:Hp (fun _=>False) w w [rRV 2 A c (l.map spV)] []) :
   Calls Tryz.prog 76 #[.int .i32 cc,.slice A l.length c] w fun e w'=>e=.returned (.bool (inR cc l))/\Below w.heap.size w w':=by
 have h0:=h
 refine mE 24 ?_
 refine mL (fun mM xX aA wL=>∃ (k:Nat),(k<=l.length)/\(∀ j p,j<k->l[j]?=some p->¬ (cc ≥ p.1/\cc<=p.2))/\mM=l.length-k/\aA=patch xX 24 [(0,(Value.int .i32 cc)),(7,(Value.slice A l.length c)),(8,(Value.int .i64 ((l.length:Int)))),(9,(Value.int .i64 ((k:Int))))]/\Hp (fun _=>False) w wL [rRV 2 A c ((l.map spV))] []) ⟨_,_,0,(by omega),(fun _ _ h=>absurd h (Nat.not_lt_zero _)),rfl,pM,h0.sel [] [0] (by kernel_rfl) rfl rfl⟩ ?_
 rintro _ x4 _ w4 ⟨k,hk,hN,rfl,rfl,h4⟩ KL4 hKL4
 refine mAt ?_
 by_cases b6:k<l.length
 ·
  refine mX 10 (.bool true) (Value.bool (decide ((k:Int)<(l.length:Int)))) (by simp;omega) ?_
  obtain ⟨p,hp⟩:∃ p,l[k]?=some p:=⟨_,List.getElem?_eq_getElem (by omega)⟩
  refine mW 11 (eIx (RV.lenIs (n:=l.length) (h4.rd 0 rfl) (by simp)).2 k l.length (RV.lenIs (n:=l.length) (h4.rd 0 rfl) (by simp)).1 (by omega) 239 (.tmp 7) (.tmp 9) .i64 200) ?_
  refine mW 12 (e_elemsN (RV.lenIs (n:=l.length) (h4.rd 0 rfl) (by simp)).2 k 0 ([(Value.int .i32 p.1),(Value.int .i32 p.2)]) (spV_get hp) 200 (.tmp 11) (by kernel_rfl) ([(Value.int .i32 p.1),(Value.int .i32 p.2)]) (by kernel_rfl) (by kernel_rfl) (by kernel_rfl)) ?_
  refine mN h4 200 ([(Value.int .i32 0),(Value.int .i32 0)]) fun g10 w10 h10=>?_
  refine mT (xSs h10 0 200 (.tmp 6) (.tmp 12) 0 ([(Value.int .i32 p.1),(Value.int .i32 p.2)]) ([(Value.int .i32 p.1),(Value.int .i32 p.2)])) fun _ w11 h11=>?_
  rcases (show (cc ≥ p.1/\cc<=p.2)∨(¬ cc ≥ p.1)∨(cc ≥ p.1/\¬ cc<=p.2) by omega) with ⟨hq1,hq2⟩|hq1|⟨hq1,hq2⟩
  ·
   refine ma h11 0 ?_
   refine mX 16 (.bool true) (Value.bool (decide (cc ≥ p.1))) (by simp;omega) ?_
   refine ma h11 0 ?_
   refine mX 21 (.bool true) (Value.bool (decide (cc<=p.2))) (by simp;omega) ?_
   exact mQe (Value.bool true) h11 (by rw [inR_one hp hq1 hq2])
  ·
   refine ma h11 0 ?_
   refine mX 16 (.bool false) (Value.bool (decide (cc ≥ p.1))) (by simp;omega) ?_
   refine mW 23 (exec_add _ _ _ _ bO ((k:Int)) 1 (by kernel_rfl) (by kernel_rfl) ((k:Int)+1) rfl (by omega) (by omega) _) ?_
   exact mK KL4 (hKL4 _ _ ⟨l.length-(k+1),_,(by omega),(k+1),(by omega),(inR_step hp (by omega) hN),rfl,pM,h11.sel [] [0] (by kernel_rfl) rfl rfl⟩)
  refine ma h11 0 ?_
  refine mX 16 (.bool true) (Value.bool (decide (cc ≥ p.1))) (by simp;omega) ?_
  refine ma h11 0 ?_
  refine mX 21 (.bool false) (Value.bool (decide (cc<=p.2))) (by simp;omega) ?_
  refine mW 23 (exec_add _ _ _ _ bO ((k:Int)) 1 (by kernel_rfl) (by kernel_rfl) ((k:Int)+1) rfl (by omega) (by omega) _) ?_
  exact mK KL4 (hKL4 _ _ ⟨l.length-(k+1),_,(by omega),(k+1),(by omega),(inR_step hp (by omega) hN),rfl,pM,h11.sel [] [0] (by kernel_rfl) rfl rfl⟩)
 refine mX 10 (.bool false) (Value.bool (decide ((k:Int)<(l.length:Int)))) (by simp;omega) ?_
 exact mQe (Value.bool false) h4 (by rw [inR_all (k:=k) (by omega) hN])
end
section
open Go.RowKit Go.QT
theorem flat_get(l:List (Int × Int)):∀ (i j:Nat) (x:List Value) (u:Value),(l.map spV)[i]?=some x->x[j]?=some u->(l.flatMap spV)[i*2+j]?=some u:=by
 induction l with
 | nil=>intro i j x u h;cases h
 | cons p l ih =>
   intro i j x u hx hu
   cases i with
   | zero =>
     injection hx with hx;subst hx
     have hj:j<2:=(List.getElem?_eq_some_iff.1 hu).1
     simp only [List.flatMap_cons,Nat.zero_mul,Nat.zero_add]
     rw [List.getElem?_append_left (by exact hj)]
     exact hu
   | succ i =>
     have:=ih i j x u hx hu
     simp only [List.flatMap_cons]
     rw [List.getElem?_append_right (by show 2<=_;omega),show (i+1)*2+j-(spV p).length=i*2+j by show (i+1)*2+j-2=_;omega]
     exact this
theorem rv_spans{w:World}{g:Nat}{T:TypeId}{cs:List Value}(hb:Blk w g T cs)(l:List (Int × Int))(hc:cs=l.flatMap spV)(hl:l.length<=1000):RV w 2 (some ⟨g,0,none⟩) l.length (l.map spV):=by
 subst hc
 refine ⟨by simp,by unfold maxLen;omega,?_,fun _=>⟨g,0,rfl,hb.lt,fun i x hx j u hu=>?_⟩⟩
 · intro x hx
   obtain ⟨p,_,rfl⟩:=List.mem_map.1 hx
   rfl
 rw [show 0+i*2+j=i*2+j by omega]
 exact (hb.cell _).trans (flat_get l i j x u hx hu)
section
variable{F0:Nat->Prop}{w0 w:World}{ro rs:List Res}{o:Oper}{a:Act}
theorem x_nin(h:Hp F0 w0 w ro rs)(i:Nat){g:Nat}{T:TypeId}{cs:List Value}(hi:rs[i]?=some (rBlk g T cs))(c:Int)(l:List (Int × Int))(n:Nat)(hc:cs=l.flatMap spV)(hn:l.length=n)(hl:n<=1000)
   (hp:pureVal Tryz.prog (execOp a.eval o)=some (.enter 76 #[.int .i32 c,.slice (some ⟨g,0,none⟩) n n])) :
   OpTo Tryz.prog o a w (fun u w'=>u=.bool (inR c l)/\Hp F0 w0 w' ro rs):=by
 subst hn
 have hb:Blk w g T cs:=h.own i _ hi
 refine OpTo.enter 76 [.int .i32 c,.slice (some ⟨g,0,none⟩) l.length l.length] hp (nin_any c l _ _ w hl ((Hp.nil (fun _=>False) w).addR _ (rv_spans hb l hc hl) (by simp))) fun e w' hq=>?_
 exact ⟨_,hq.1,rfl,h.below hq.2⟩
end
end
section
open Go.RowKit Go.QT
theorem nletter_any(c:Int)(w:World):Calls Tryz.prog 75 #[.int .i32 c] w fun e w'=>e=.returned (.bool (letterN c))/\Below w.heap.size w w':=by
 have h0:=Hp.nil (fun _=>False) w
 refine mE 12 ?_
 refine mT (x_bs h0 200 ([(Value.int .i32 97),(Value.int .i32 122),(Value.int .i32 224),(Value.int .i32 246),(Value.int .i32 248),(Value.int .i32 254),(Value.int .i32 945),(Value.int .i32 961),(Value.int .i32 963),(Value.int .i32 969),(Value.int .i32 1072),(Value.int .i32 1103)]) 6 (by kernel_rfl)) ?_
 rintro _ w3 ⟨g3,rfl,h3⟩
 refine mT (x_nin h3 0 rfl c ltrL 6 rfl rfl (by decide) (by kernel_rfl)) ?_
 rintro _ w4 ⟨rfl,h4⟩
 exact mQ h4
theorem x_nletter{F0:Nat->Prop}{w0 w:World}{ro rs:List Res}{o:Oper}{a:Act}(h:Hp F0 w0 w ro rs)(c:Int)(hp:pureVal Tryz.prog (execOp a.eval o)=some (.enter 75 #[.int .i32 c])) :
   OpTo Tryz.prog o a w (fun u w'=>u=.bool (letterN c)/\Hp F0 w0 w' ro rs):=
 OpTo.enter 75 [.int .i32 c] hp (nletter_any c w) fun _e _w' hq=>⟨_,hq.1,rfl,h.below hq.2⟩
end
section
open Go.RowKit Go.QT
def badN(i:Nat)(c:Int):Bool:=!letterN c && (decide (i=0) || !inR c digL)
/-- How many runes from pos on; none: one of them is wrong. (f: steps left.) -/
def runesN(s:ByteArray):Nat->Nat->Nat->Option Nat
 | 0,_,n=>some n
 | f+1,pos,n=>if pos<s.size then if badN pos (Utf8.decode s pos).1 then none else runesN s f (pos+(Utf8.decode s pos).2) (n+1) else some n
def rightN(s:ByteArray):Bool:=match runesN s (s.size+1) 0 0 with|none=>false|some n=>decide (1<=n) && decide (n<=16)
theorem runesN_bad{s:ByteArray}{f pos n:Nat}{r:Option Nat}(h:runesN s (f+1) pos n=r)(hp:pos<s.size)(hb:badN pos (Utf8.decode s pos).1=true):r=none:=by
 rw [← h];simp [runesN,hp,hb]
theorem runesN_go{s:ByteArray}{f pos n:Nat}{r:Option Nat}(h:runesN s (f+1) pos n=r)(hp:pos<s.size)(hb:badN pos (Utf8.decode s pos).1=false):runesN s f (pos+(Utf8.decode s pos).2) (n+1)=r:=by
 rw [← h];simp [runesN,hp,hb]
theorem runesN_end{s:ByteArray}{f pos n:Nat}{r:Option Nat}(h:runesN s f pos n=r)(hp:¬ pos<s.size):r=some n:=by
 rw [← h];cases f <;> simp [runesN,hp]
theorem rightN_some{s:ByteArray}{n:Nat}(h:runesN s (s.size+1) 0 0=some n):rightN s=(decide (1<=n) && decide (n<=16)):=by
 simp [rightN,h]
theorem rightN_none{s:ByteArray}(h:runesN s (s.size+1) 0 0=none):rightN s=false:=by
 simp [rightN,h]
end
section
open Go.RowKit Go.QT
theorem bad_cases(i:Nat)(c:Int):(letterN c=true/\badN i c=false)∨(letterN c=false/\i=0/\badN i c=true)∨(letterN c=false/\i≠0/\inR c digL=true/\badN i c=false)∨(letterN c=false/\i≠0/\inR c digL=false/\badN i c=true):=by
 unfold badN
 by_cases h:i=0 <;> cases letterN c <;> cases inR c digL <;> simp [h]
theorem nright_any(s:ByteArray)(w:World)(hs:s.size<=1000000000):Calls Tryz.prog 55 #[.string s] w fun e w'=>e=.returned (.bool (rightN s))/\Below w.heap.size w w':=by
 obtain ⟨R,hR⟩:∃ R,R=runesN s (s.size+1) 0 0:=⟨_,rfl⟩
 have h0:=Hp.nil (fun _=>False) w
 refine mE 35 ?_
 refine mT (x_range h0 9 (.tmp 6) (by kernel_rfl) s (by kernel_rfl) (by kernel_rfl)) ?_
 rintro _ w5 ⟨k5,rfl,h5⟩
 refine mL (fun mM xX aA wL=>∃ (f:Nat) (pos:Nat) (n:Nat),(runesN s f pos n=R)/\(s.size<f+(pos))/\(n<=pos)/\mM=s.size-pos/\aA=patch xX 35 [(3,(Value.int .i64 ((n:Int)))),(7,(pt k5 0))]/\Hp (fun _=>False) w wL [] [rIter k5 s pos]) ⟨_,_,((s.size+1)),0,0,hR.symm,(by omega),(by omega),rfl,pM,h5.sel [0] [] (by kernel_rfl) rfl rfl⟩ ?_
 rintro _ x6 _ w6 ⟨f,pos,n,hr,hf,hn,rfl,rfl,h6⟩ KL6 hKL6
 refine mAt ?_
 by_cases b8:pos<s.size
 ·
  refine mT (x_next h6 0 rfl (.tmp 7) (by kernel_rfl) (by kernel_rfl) b8) ?_
  rintro _ w9 ⟨rfl,h9⟩
  have hwp:=Lib.decode_width_pos s pos b8
  rcases bad_cases pos ((Utf8.decode s pos).1:Int) with ⟨hq1,hbad⟩|⟨hq1,hq2,hbad⟩|⟨hq1,hq2,hq3,hbad⟩|⟨hq1,hq2,hq3,hbad⟩
  ·
   refine mT (x_nletter h9 (((Utf8.decode s pos).1:Int)) (by kernel_rfl)) ?_
   rintro _ w15 ⟨rfl,h15⟩
   refine mX 14 (.bool false) (Value.bool (!(letterN (((Utf8.decode s pos).1:Int))))) (by rw [hq1];rfl) ?_
   refine mW 28 (exec_add _ _ _ _ bO ((n:Int)) 1 (by kernel_rfl) (by kernel_rfl) ((n:Int)+1) rfl (by omega) (by omega) _) ?_
   exact mK KL6 (hKL6 _ _ ⟨s.size-(pos+(Utf8.decode s pos).2),_,(by omega),((f-1)),(pos+(Utf8.decode s pos).2),(n+1),(runesN_go (f:=f-1) (by rw [Nat.sub_add_cancel (by omega)];exact hr) b8 hbad),(by omega),(by omega),rfl,pM,h15.sel [0] [] (by kernel_rfl) rfl rfl⟩)
  ·
   refine mT (x_nletter h9 (((Utf8.decode s pos).1:Int)) (by kernel_rfl)) ?_
   rintro _ w16 ⟨rfl,h16⟩
   refine mX 14 (.bool true) (Value.bool (!(letterN (((Utf8.decode s pos).1:Int))))) (by rw [hq1];rfl) ?_
   refine mX 17 (.bool true) (Value.bool (((pos:Int)) == 0)) (by simp [hq2]) ?_
   exact mQe (Value.bool false) h16 (by rw [rightN_none (hR.symm.trans (runesN_bad (f:=f-1) (by rw [Nat.sub_add_cancel (by omega)];exact hr) b8 hbad))])
  ·
   refine mT (x_nletter h9 (((Utf8.decode s pos).1:Int)) (by kernel_rfl)) ?_
   rintro _ w18 ⟨rfl,h18⟩
   refine mX 14 (.bool true) (Value.bool (!(letterN (((Utf8.decode s pos).1:Int))))) (by rw [hq1];rfl) ?_
   refine mX 17 (.bool false) (Value.bool (((pos:Int)) == 0)) (by simp;omega) ?_
   refine mT (x_bs h18 200 ([(Value.int .i32 48),(Value.int .i32 57),(Value.int .i32 45),(Value.int .i32 45)]) 2 (by kernel_rfl)) ?_
   rintro _ w19 ⟨g19,rfl,h19⟩
   refine mT (x_nin h19 0 rfl (((Utf8.decode s pos).1:Int)) digL 2 rfl rfl (by decide) (by kernel_rfl)) ?_
   rintro _ w20 ⟨rfl,h20⟩
   refine mX 24 (.bool false) (Value.bool (!(inR (((Utf8.decode s pos).1:Int)) digL))) (by rw [hq3];rfl) ?_
   refine mW 28 (exec_add _ _ _ _ bO ((n:Int)) 1 (by kernel_rfl) (by kernel_rfl) ((n:Int)+1) rfl (by omega) (by omega) _) ?_
   exact mK KL6 (hKL6 _ _ ⟨s.size-(pos+(Utf8.decode s pos).2),_,(by omega),((f-1)),(pos+(Utf8.decode s pos).2),(n+1),(runesN_go (f:=f-1) (by rw [Nat.sub_add_cancel (by omega)];exact hr) b8 hbad),(by omega),(by omega),rfl,pM,h20.sel [1] [] (by kernel_rfl) rfl rfl⟩)
  refine mT (x_nletter h9 (((Utf8.decode s pos).1:Int)) (by kernel_rfl)) ?_
  rintro _ w21 ⟨rfl,h21⟩
  refine mX 14 (.bool true) (Value.bool (!(letterN (((Utf8.decode s pos).1:Int))))) (by rw [hq1];rfl) ?_
  refine mX 17 (.bool false) (Value.bool (((pos:Int)) == 0)) (by simp;omega) ?_
  refine mT (x_bs h21 200 ([(Value.int .i32 48),(Value.int .i32 57),(Value.int .i32 45),(Value.int .i32 45)]) 2 (by kernel_rfl)) ?_
  rintro _ w22 ⟨g22,rfl,h22⟩
  refine mT (x_nin h22 0 rfl (((Utf8.decode s pos).1:Int)) digL 2 rfl rfl (by decide) (by kernel_rfl)) ?_
  rintro _ w23 ⟨rfl,h23⟩
  refine mX 24 (.bool true) (Value.bool (!(inR (((Utf8.decode s pos).1:Int)) digL))) (by rw [hq3];rfl) ?_
  exact mQe (Value.bool false) h23 (by rw [rightN_none (hR.symm.trans (runesN_bad (f:=f-1) (by rw [Nat.sub_add_cancel (by omega)];exact hr) b8 hbad))])
 refine mT (x_nextE h6 0 rfl (.tmp 7) (by kernel_rfl) (by kernel_rfl) b8) ?_
 rintro _ w25 ⟨rfl,h25⟩
 have hRn:=runesN_end hr b8
 subst hRn
 rcases (show (1<=n/\n<=16)∨(¬ 1<=n)∨(1<=n/\¬ n<=16) by omega) with ⟨hq1,hq2⟩|hq1|⟨hq1,hq2⟩
 ·
  refine mX 30 (.bool true) (Value.bool (decide ((n:Int) ≥ 1))) (by simp;omega) ?_
  refine mX 33 (.bool true) (Value.bool (decide ((n:Int)<=16))) (by simp;omega) ?_
  exact mQe (Value.bool true) h25 (by rw [rightN_some hR.symm];simp [hq1,hq2])
 ·
  refine mX 30 (.bool false) (Value.bool (decide ((n:Int) ≥ 1))) (by simp;omega) ?_
  exact mQe (Value.bool false) h25 (by rw [rightN_some hR.symm];simp [hq1])
 refine mX 30 (.bool true) (Value.bool (decide ((n:Int) ≥ 1))) (by simp;omega) ?_
 refine mX 33 (.bool false) (Value.bool (decide ((n:Int)<=16))) (by simp;omega) ?_
 exact mQe (Value.bool false) h25 (by rw [rightN_some hR.symm];simp [hq1,hq2])
end
section
open Go.RowKit Go.QT
def SBF(F:Nat->Prop)(w:World)(v:Value)(l:Bytes):Prop:=SB w v l/\(l≠[]->∀ q,v.ownBlock=some q->F q)
def RVF(F:Nat->Prop)(w:World)(sz:Nat)(A:Option Addr)(c:Nat)(xs:List (List Value)):Prop:=RV w sz A c xs/\(xs≠[]->∀ q,ownA A=some q->F q)
/-- The cells cs are the value t; what they point to lies in the blocks F. -/
inductive DVR (F:Nat->Prop) (w:World):List Value->DVal->Prop
 | mk (k t n:Nat) (bv:Value) (b:Bytes) (A:Option Addr) (c:Nat) (xs:List (List Value)) (ts:List DVal) (hn:n<18446744073709551616) (hb:SBF F w bv b) (hx:RVF F w 5 A c xs) (hl:xs.length=ts.length)
     (hs:∀ (i:Nat) (x:List Value) (u:DVal),xs[i]?=some x->ts[i]?=some u->DVR F w x u) :
     DVR F w [.int .i64 (k:Int),.int .i64 (t:Int),.int .u64 (n:Int),bv,.slice A ts.length c] (.mk k t n b ts)
theorem SBF.keep{F:Nat->Prop}{w w':World}{v:Value}{l:Bytes}(h:SBF F w v l)(hs:w.heap.size<=w'.heap.size)(hk:∀ q,F q->w'.heap[q]?=w.heap[q]?):SBF F w' v l:=
 ⟨(rSB v l).keep h.1 hs (fun q hq=>hk q (h.2 hq.1 q hq.2)),h.2⟩
theorem RVF.keep{F:Nat->Prop}{w w':World}{sz:Nat}{A:Option Addr}{c:Nat}{xs:List (List Value)}(h:RVF F w sz A c xs)(hs:w.heap.size<=w'.heap.size)(hk:∀ q,F q->w'.heap[q]?=w.heap[q]?):RVF F w' sz A c xs:=
 ⟨(rRV sz A c xs).keep h.1 hs (fun q hq=>hk q (h.2 hq.1 q hq.2)),h.2⟩
theorem DVR.keep{F:Nat->Prop}{w w':World}{cs:List Value}{v:DVal}(h:DVR F w cs v)(hs:w.heap.size<=w'.heap.size)(hk:∀ q,F q->w'.heap[q]?=w.heap[q]?):DVR F w' cs v:=by
 induction h with
 | mk k t n bv b A c xs ts hn hb hx hl _ ih=>exact .mk k t n bv b A c xs ts hn (hb.keep hs hk) (hx.keep hs hk) hl ih
theorem DVR.mono{F G:Nat->Prop}{w:World}{cs:List Value}{v:DVal}(h:DVR F w cs v)(hFG:∀ q,F q->G q):DVR G w cs v:=by
 induction h with
 | mk k t n bv b A c xs ts hn hb hx hl _ ih=>exact .mk k t n bv b A c xs ts hn ⟨hb.1,fun h q hq=>hFG q (hb.2 h q hq)⟩ ⟨hx.1,fun h q hq=>hFG q (hx.2 h q hq)⟩ hl ih
/-- A value. -/
def rDV(F:Nat->Prop)(cs:List Value)(v:DVal):Res where
 F:=F
 Φ:=fun w=>(∀ q,F q->q<w.heap.size)/\DVR F w cs v
 lt:=fun h=>h.1
 keep:=fun h hs hk=>⟨fun q hq=>Nat.lt_of_lt_of_le (h.1 q hq) hs,h.2.keep hs hk⟩
/-- The values of a list. -/
def rDL(F:Nat->Prop)(xs:List (List Value))(ts:List DVal):Res where
 F:=F
 Φ:=fun w=>(∀ q,F q->q<w.heap.size)/\∀ (i:Nat) (x:List Value) (u:DVal),xs[i]?=some x->ts[i]?=some u->DVR F w x u
 lt:=fun h=>h.1
 keep:=fun h hs hk=>⟨fun q hq=>Nat.lt_of_lt_of_le (h.1 q hq) hs,fun i x u hx hu=>(h.2 i x u hx hu).keep hs hk⟩
theorem dv_open{F:Nat->Prop}{w:World}{cs:List Value}{v:DVal}(h:(rDV F cs v).Φ w):∃ B d A c xs,cs=[.int .i64 (v.kind:Int),.int .i64 (v.tag:Int),.int .u64 (v.n:Int),.slice B v.b.length d,.slice A v.l.length c] /\
   SB w (.slice B v.b.length d) v.b/\RV w 5 A c xs/\xs.length=v.l.length/\v.n<18446744073709551616/\(∀ q,(rSB (.slice B v.b.length d) v.b).F q->F q)/\(rDL F xs v.l).Φ w:=by
 obtain ⟨hF,h⟩:=h
 cases h with
 | mk k t n bv b A c xs ts hn hb hx hl hs =>
   obtain ⟨B,d,rfl,_⟩:=id hb.1
   exact ⟨B,d,A,c,xs,rfl,hb.1,hx.1,hl,hn,fun q hq=>hb.2 hq.1 q hq.2,hF,hs⟩
theorem dl_at{F:Nat->Prop}{w:World}{xs:List (List Value)}{ts:List DVal}(h:(rDL F xs ts).Φ w)(hl:xs.length=ts.length)(i:Nat)(hi:i<ts.length):∃ x u,xs[i]?=some x/\ts[i]?=some u/\(rDV F x u).Φ w:=
 ⟨xs[i]'(by omega),ts[i],List.getElem?_eq_getElem _,List.getElem?_eq_getElem _,h.1,h.2 i _ _ (List.getElem?_eq_getElem _) (List.getElem?_eq_getElem _)⟩
theorem rvf_nil(F:Nat->Prop)(w:World)(sz c:Nat)(hc:c<=maxLen)(A:Option Addr):RVF F w sz A c []:=⟨⟨Nat.zero_le _,hc,by simp,fun h=>absurd rfl h⟩,fun h=>absurd rfl h⟩
theorem sbf_nil(F:Nat->Prop)(w:World):SBF F w (.slice none 0 0) []:=⟨SB.nil _ 0 (by unfold maxLen;omega) none,fun h=>absurd rfl h⟩
/-- A list. -/
theorem dv_seq{w:World}{F:Nat->Prop}{A:Option Addr}{c t:Nat}{xs:List (List Value)}{ts:List DVal}(hx:RVF F w 5 A c xs)(hl:xs.length=ts.length)(hs:(rDL F xs ts).Φ w) :
   (rDV F [.int .i64 2,.int .i64 (t:Int),.int .u64 0,.slice none 0 0,.slice A ts.length c] (.mk 2 t 0 [] ts)).Φ w:=
 ⟨hs.1,.mk 2 t 0 _ [] A c xs ts (by omega) (sbf_nil _ _) hx hl hs.2⟩
end
section
open Go.RowKit Go.QT
theorem short_any(n:Nat)(_hn:n<18446744073709551616)(w:World):Calls Tryz.prog 107 #[.int .u64 (n:Int)] w (SbPost w (shortB n)):=by
 have h0:=Hp.nil (fun _=>False) w
 refine enter 17 Tryz.func107 rfl rfl ?_
 refine wp_reset 18 [(0,(Value.int .u64 ((n:Int))))] (fun x0=>?_)
 refine wR fun K1 hK1=>?_
 refine wq_p 1 [(2,nS)] ?_
 refine wE hK1 (wR fun K2 hK2=>?_)
 refine wq_p 1 [(4,(Value.int .u64 ((n:Int))))] ?_
 refine wT 5 (x_bytesE h0 52 [(Value.int .u64 ((n:Int)))] (by kernel_rfl) (put_any (n) _) (put8 (n)) (8) rfl rfl) ?_
 rintro _ w3 ⟨A3,c3,rfl,h3⟩
 refine wq_p 1 [(3,(Value.slice A3 8 c3))] ?_
 refine wE hK2 (wp_seq_k fun K4 hK4=>wp_block ?_)
 have h5:=h3.obSB 0 rfl
 refine wp_loopm (fun mM xX aA wL=>∃ (l:Bytes) (Av:Option Addr) (cv:Nat),(stripZ l=shortB n)/\(0<(l:Bytes).length)/\((l:Bytes).length<=8)/\mM=(l:Bytes).length/\aA=patch xX 18 [(0,(Value.int .u64 ((n:Int)))),(2,(Value.slice none 0 0)),(3,(Value.slice Av ((l:Bytes).length) cv))]/\Hp (fun _=>False) w wL [] [rSB ((Value.slice Av ((l:Bytes).length) cv)) l]) ⟨_,((put8 n)),A3,c3,rfl,(by rw [put8_len];decide),(by rw [put8_len];decide),rfl,(pEq 18),h5.sel [0] [] (by kernel_rfl) rfl rfl⟩ ?_
 rintro _ x6 _ w6 ⟨l,Av,cv,hl,hp0,h8,rfl,rfl,h6⟩
 refine wp_seq_k fun K7 hK7=>wp_seq_k fun K8 hK8=>?_
 rcases (show (1<l.length/\gb l 0=0)∨(¬ 1<l.length)∨(1<l.length/\gb l 0≠0) by by_cases c1:1<l.length <;> by_cases c2:gb l 0=0 <;> simp [c1,c2]) with ⟨hq1,hq2⟩|hq|⟨hq1,hq2⟩
 ·
  refine reg_lit ?_
  refine wq_p 2 [(7,(D (((l:Bytes).length:Int)))),(6,(Value.slice Av ((l:Bytes).length) cv))] (wV 8 (.bool true) (eqI (Value.bool (decide (((l:Bytes).length:Int)>1))) (by simp;omega)) (wq_p 2 [(10,(Value.slice Av ((l:Bytes).length) cv)),(9,I)] (wV 11 (eAt Av (0*1+0)) (eIx (SB.rvn (h6.at_ 0 rfl)).2 0 ((l:Bytes).length) (SB.rvn (h6.at_ 0 rfl)).1 (by omega) 24 (.tmp 10) (.const O) .i64 5) ?_)))
  refine wV 12 (Value.int .u8 (ub (gb (l) (0)))) (eEl (SB.rvn (h6.at_ 0 rfl)).2 0 0 ([(Value.int .u8 (ub (gb (l) (0))))]) (bx_get _ _ (by omega)) 5 (.tmp 11) (Value.int .u8 (ub (gb (l) (0))))) (wV 13 (.bool true) (eqI (Value.bool ((ub (gb (l) (0))) == 0)) (congrArg Value.bool (ub0_eq hq2))) (wq_p 1 [(14,I)] ?_))
  refine wE hK8 (cT (wp_skip (seq_n hK7 (wp_block (reg_lit ?_)))))
  refine wq_p 1 [(15,(Value.slice Av ((l:Bytes).length) cv))] ?_
  obtain ⟨A10,c10,e10,h10⟩:=h6.sbCut 0 rfl 1 (by omega)
  refine wV 16 (Value.slice A10 ((l.drop 1:Bytes).length) c10) (e10 ▸ e_cut_l (h6.at_ 0 rfl) (.tmp 15) (.const (D 1)) (by kernel_rfl) (by kernel_rfl) .i64 1 (by kernel_rfl) (by omega) _) (wq_p 1 [(3,(Value.slice A10 ((l.drop 1:Bytes).length) c10))] ?_)
  refine wl_end rfl (blk_n ?_)
  refine ⟨((l.drop 1):Bytes).length,(by rw [List.length_drop];omega),((l.drop 1)),A10,c10,(by rw [stripZ_step l hq1 hq2];exact hl),(by rw [List.length_drop];omega),(by rw [List.length_drop];omega),rfl,(pEq 18),h10.sel [0] [] (by kernel_rfl) rfl rfl⟩
 ·
  refine reg_lit ?_
  refine wq_p 2 [(7,(D (((l:Bytes).length:Int)))),(6,(Value.slice Av ((l:Bytes).length) cv))] (wV 8 (.bool false) (eqI (Value.bool (decide (((l:Bytes).length:Int)>1))) (by simp;omega)) (wq_p 4 [(12,undef),(11,undef),(10,undef),(9,V)] (wq_p 1 [(13,undef)] ?_)))
  refine wq_p 1 [(14,V)] ?_
  refine wE hK8 (cF (wp_exit (seq_e (seq_e (blk_e (seq_n hK4 (wR fun K11 hK11=>?_)))))))
  refine wq_p 2 [(2,(Value.slice Av ((l:Bytes).length) cv)),(17,(Value.slice Av ((l:Bytes).length) cv))] ?_
  refine wE hK11 (wp_ret ?_)
  refine post_1 rfl (by kernel_rfl) (rtm (Value.slice Av ((l:Bytes).length) cv)) ?_
  exact sbpost_sb h6 0 rfl (by rintro rfl;cases hp0) (by rw [← hl];exact (stripZ_end l (by rintro ⟨c1,c2⟩;first|exact hq c1|exact hq2 c2)).symm)
 refine reg_lit ?_
 refine wq_p 2 [(7,(D (((l:Bytes).length:Int)))),(6,(Value.slice Av ((l:Bytes).length) cv))] (wV 8 (.bool true) (eqI (Value.bool (decide (((l:Bytes).length:Int)>1))) (by simp;omega)) (wq_p 2 [(10,(Value.slice Av ((l:Bytes).length) cv)),(9,I)] (wV 11 (eAt Av (0*1+0)) (eIx (SB.rvn (h6.at_ 0 rfl)).2 0 ((l:Bytes).length) (SB.rvn (h6.at_ 0 rfl)).1 (by omega) 24 (.tmp 10) (.const O) .i64 5) ?_)))
 refine wV 12 (Value.int .u8 (ub (gb (l) (0)))) (eEl (SB.rvn (h6.at_ 0 rfl)).2 0 0 ([(Value.int .u8 (ub (gb (l) (0))))]) (bx_get _ _ (by omega)) 5 (.tmp 11) (Value.int .u8 (ub (gb (l) (0))))) (wV 13 (.bool false) (eqI (Value.bool ((ub (gb (l) (0))) == 0)) (congrArg Value.bool (ub0_ne hq2))) (wq_p 1 [(14,V)] ?_))
 refine wE hK8 (cF (wp_exit (seq_e (seq_e (blk_e (seq_n hK4 (wR fun K12 hK12=>?_)))))))
 refine wq_p 2 [(2,(Value.slice Av ((l:Bytes).length) cv)),(17,(Value.slice Av ((l:Bytes).length) cv))] ?_
 refine wE hK12 (wp_ret ?_)
 refine post_1 rfl (by kernel_rfl) (rtm (Value.slice Av ((l:Bytes).length) cv)) ?_
 exact sbpost_sb h6 0 rfl (by rintro rfl;cases hp0) (by rw [← hl];exact (stripZ_end l (by rintro ⟨c1,c2⟩;first|exact hq c1|exact hq2 c2)).symm)
end
section
open Go.RowKit Go.QT
theorem dnum_any(n:Nat)(w:World):Calls Tryz.prog 101 #[.int .u64 (n:Int)] w (DPost w (.agg #[.int .i64 0,.int .i64 0,.int .u64 (n:Int),.slice none 0 0,.slice none 0 0])):=by
 have h0:=Hp.nil (fun _=>False) w
 refine mE 5 ?_
 refine mN h0 157 ([(Value.int .i64 0),(Value.int .i64 0),(Value.int .u64 0),(Value.slice none 0 0),(Value.slice none 0 0)]) fun g2 w2 h2=>?_
 refine mT (xSs h2 0 157 (.tmp 2) (.tmp 4) 0 ([(Value.int .i64 0),(Value.int .i64 0),(Value.int .u64 ((n:Int))),(Value.slice none 0 0),(Value.slice none 0 0)]) ([(Value.int .i64 0),(Value.int .i64 0),(Value.int .u64 ((n:Int))),(Value.slice none 0 0),(Value.slice none 0 0)])) fun _ w4 h4=>?_
 refine mF (post_1 (r:=.cell 2 157) (by kernel_rfl) rfl (rce (h4.at_ 0 rfl)) ?_)
 exact ⟨rfl,h4.below0⟩
theorem dseq_any(t:Int)(A:Option Addr)(m c:Nat)(w:World):Calls Tryz.prog 77 #[.int .i64 t,.slice A m c] w (DPost w (.agg #[.int .i64 2,.int .i64 t,.int .u64 0,.slice none 0 0,.slice A m c])):=by
 have h0:=Hp.nil (fun _=>False) w
 refine mE 8 ?_
 refine mN h0 157 ([(Value.int .i64 0),(Value.int .i64 0),(Value.int .u64 0),(Value.slice none 0 0),(Value.slice none 0 0)]) fun g2 w2 h2=>?_
 refine mT (xSs h2 0 157 (.tmp 4) (.tmp 7) 0 ([(Value.int .i64 2),(Value.int .i64 t),(Value.int .u64 0),(Value.slice none 0 0),(Value.slice A m c)]) ([(Value.int .i64 2),(Value.int .i64 t),(Value.int .u64 0),(Value.slice none 0 0),(Value.slice A m c)])) fun _ w4 h4=>?_
 refine mF (post_1 (r:=.cell 4 157) (by kernel_rfl) rfl (rce (h4.at_ 0 rfl)) ?_)
 exact ⟨rfl,h4.below0⟩
/-- What der.Raw leaves. -/
def RawPost(w:World)(b:Bytes)(e:Ending)(w':World):Prop:=∃ A c,e=.returned (.agg #[.int .i64 1,.int .i64 0,.int .u64 0,.slice A b.length c,.slice none 0 0])/\SB w' (.slice A b.length c) b/\Below w.heap.size w w'/\∀ q,(Value.slice A b.length c).ownBlock=some q->w.heap.size<=q
theorem rawpost_of{w w0:World}{ro rs:List Res}{A:Option Addr}{c:Nat}{b:Bytes}(h:Hp (fun _=>False) w0 w ro rs)(i:Nat)(hi:rs[i]?=some (rOB (.slice A b.length c) b)):RawPost w0 b (.returned (.agg #[.int .i64 1,.int .i64 0,.int .u64 0,.slice A b.length c,.slice none 0 0])) w:=by
 refine ⟨A,c,rfl,OB.sb (h.own i _ hi),h.below0,fun q hq=>?_⟩
 rcases h.mine i _ hi q hq with h3|h3
 · exact h3.elim
 exact h3
theorem draw_any(v:Value)(b:Bytes)(w:World)(hv:SB w v b)(hl:b.length<=1000000):Calls Tryz.prog 80 #[v] w (RawPost w b):=by
 obtain ⟨B,d,rfl,hc1,hc2⟩:=sb_form hv
 have h0:=Hp.ro1 (rSB (.slice B b.length d) b) hv
 refine mE 6 ?_
 refine mN h0 157 ([(Value.int .i64 0),(Value.int .i64 0),(Value.int .u64 0),(Value.slice none 0 0),(Value.slice none 0 0)]) fun g2 w2 h2=>?_
 have h4:=h2.obNil
 refine mT (x_appG h4 0 rfl (.const (Value.slice none 0 0)) (.tmp 3) (by kernel_rfl) (Value.slice B b.length d) (by kernel_rfl) (by kernel_rfl) (h4.rd 0 rfl) (by simp;omega) (b) (b.length) rfl rfl) ?_
 rintro _ w5 ⟨A5,c5,rfl,h5⟩
 refine mT (xSs h5 1 157 (.tmp 2) (.tmp 5) 0 ([(Value.int .i64 1),(Value.int .i64 0),(Value.int .u64 0),(Value.slice A5 b.length c5),(Value.slice none 0 0)]) ([(Value.int .i64 1),(Value.int .i64 0),(Value.int .u64 0),(Value.slice A5 b.length c5),(Value.slice none 0 0)])) fun _ w6 h6=>?_
 refine mF (post_1 (r:=.cell 2 157) (by kernel_rfl) rfl (rce (h6.at_ 1 rfl)) ?_)
 exact rawpost_of h6 0 rfl
theorem right_step(d:Nat)(hd:d<=100)(ih:d<=8->∀ (F:Nat->Prop) (cs:List Value) (v:DVal) (w:World),(rDV F cs v).Φ w->Calls Tryz.prog 102 #[.agg cs.toArray,.int .i64 ((d+1:Nat):Int)] w (DPost w (.bool (rightV v (d+1)))))
   (F:Nat->Prop) (cs:List Value) (v:DVal) (w:World) (hv:(rDV F cs v).Φ w):Calls Tryz.prog 102 #[.agg cs.toArray,.int .i64 (d:Int)] w (DPost w (.bool (rightV v d))):=by
 obtain ⟨k,t,n,b,ts⟩:=v
 obtain ⟨B,dd,A,c,xs,rfl,hbb,hxx,hll,hn6,hbF,hLL⟩:=dv_open hv
 simp only [DVal.kind,DVal.tag,DVal.n,DVal.b,DVal.l] at *
 have hcap:ts.length<=9223372036854775807:=by have h1:=hxx.le;have h2:=hxx.cap;unfold maxLen at h2;omega
 have h0:=((Hp.ro1 (rDL F xs ts) hLL).addR (rSB (.slice B b.length dd) b) hbb (by simp)).addR (rRV 5 A c xs) hxx (by simp)
 refine mE 68 ?_
 refine mN h0 157 ([(Value.int .i64 ((k:Int))),(Value.int .i64 ((t:Int))),(Value.int .u64 ((n:Int))),(Value.slice B b.length dd),(Value.slice A ts.length c)]) fun g2 w2 h2=>?_
 rcases (show (30<t)∨(t<=30/\8<d)∨(t<=30/\d<=8) by omega) with hq|⟨hq1,hq⟩|⟨hq1,hq2⟩
 ·
  refine ma h2 0 ?_
  refine mX 9 (.bool false) (Value.bool (decide ((t:Int)<0))) (by simp) ?_
  refine ma h2 0 ?_
  refine mX 13 (.bool true) (Value.bool (decide ((t:Int)>30))) (by simp;omega) ?_
  refine mP (Value.bool false) ?_
  exact ⟨congrArg (fun x=>Ending.returned (Value.bool x)) ((rv_bad (by omega))).symm,h2.below0⟩
 ·
  refine ma h2 0 ?_
  refine mX 9 (.bool false) (Value.bool (decide ((t:Int)<0))) (by simp) ?_
  refine ma h2 0 ?_
  refine mX 13 (.bool false) (Value.bool (decide ((t:Int)>30))) (by simp;omega) ?_
  refine mX 17 (.bool true) (Value.bool (decide ((d:Int)>8))) (by simp;omega) ?_
  refine mP (Value.bool false) ?_
  exact ⟨congrArg (fun x=>Ending.returned (Value.bool x)) ((rv_bad (by omega))).symm,h2.below0⟩
 refine ma h2 0 ?_
 refine mX 9 (.bool false) (Value.bool (decide ((t:Int)<0))) (by simp) ?_
 refine ma h2 0 ?_
 refine mX 13 (.bool false) (Value.bool (decide ((t:Int)>30))) (by simp;omega) ?_
 refine mX 17 (.bool false) (Value.bool (decide ((d:Int)>8))) (by simp;omega) ?_
 refine ma h2 0 ?_
 refine m_ifeq 21 ((k:Int)) 0 (by kernel_rfl) (fun b11=>?_) (fun b11=>?_)
 ·
  have hk0:k=0:=by omega
  rcases (show (b.length=0/\ts.length=0)∨(¬ b.length=0)∨(b.length=0/\¬ ts.length=0) by by_cases c1:b.length=0 <;> by_cases c2:ts.length=0 <;> simp [c1,c2]) with ⟨hz1,hz2⟩|hz1|⟨hz1,hz2⟩
  ·
   refine ma h2 0 ?_
   refine mX 26 (.bool true) (Value.bool (((b.length:Int)) == 0)) (bz_eq hz1) ?_
   refine ma h2 0 ?_
   refine mX 31 (.bool true) (Value.bool (((ts.length:Int)) == 0)) (bz_eq hz2) ?_
   refine mP (Value.bool true) ?_
   exact ⟨congrArg (fun x=>Ending.returned (Value.bool x)) ((rv0_t hq1 hq2 hz1 hz2 hk0)).symm,h2.below0⟩
  ·
   refine ma h2 0 ?_
   refine mX 26 (.bool false) (Value.bool (((b.length:Int)) == 0)) (bz_ne hz1) ?_
   refine mP (Value.bool false) ?_
   exact ⟨congrArg (fun x=>Ending.returned (Value.bool x)) ((rv0_f hq1 hq2 (.inl hz1) hk0)).symm,h2.below0⟩
  refine ma h2 0 ?_
  refine mX 26 (.bool true) (Value.bool (((b.length:Int)) == 0)) (bz_eq hz1) ?_
  refine ma h2 0 ?_
  refine mX 31 (.bool false) (Value.bool (((ts.length:Int)) == 0)) (bz_ne hz2) ?_
  refine mP (Value.bool false) ?_
  exact ⟨congrArg (fun x=>Ending.returned (Value.bool x)) ((rv0_f hq1 hq2 (.inr hz2) hk0)).symm,h2.below0⟩
 have hk0:k≠0:=by omega
 refine m_ifeq 33 ((k:Int)) 1 (by kernel_rfl) (fun b15=>?_) (fun b15=>?_)
 ·
  have hk1:k=1:=by omega
  rcases (show (n=0/\ts.length=0)∨(¬ n=0)∨(n=0/\¬ ts.length=0) by by_cases c1:n=0 <;> by_cases c2:ts.length=0 <;> simp [c1,c2]) with ⟨hz1,hz2⟩|hz1|⟨hz1,hz2⟩
  ·
   refine ma h2 0 ?_
   refine mX 37 (.bool true) (Value.bool (((n:Int)) == 0)) (bz_eq hz1) ?_
   refine ma h2 0 ?_
   refine mX 42 (.bool true) (Value.bool (((ts.length:Int)) == 0)) (bz_eq hz2) ?_
   refine mP (Value.bool true) ?_
   exact ⟨congrArg (fun x=>Ending.returned (Value.bool x)) ((rv1_t hq1 hq2 hz1 hz2 hk1)).symm,h2.below0⟩
  ·
   refine ma h2 0 ?_
   refine mX 37 (.bool false) (Value.bool (((n:Int)) == 0)) (bz_ne hz1) ?_
   refine mP (Value.bool false) ?_
   exact ⟨congrArg (fun x=>Ending.returned (Value.bool x)) ((rv1_f hq1 hq2 (.inl hz1) hk1)).symm,h2.below0⟩
  refine ma h2 0 ?_
  refine mX 37 (.bool true) (Value.bool (((n:Int)) == 0)) (bz_eq hz1) ?_
  refine ma h2 0 ?_
  refine mX 42 (.bool false) (Value.bool (((ts.length:Int)) == 0)) (bz_ne hz2) ?_
  refine mP (Value.bool false) ?_
  exact ⟨congrArg (fun x=>Ending.returned (Value.bool x)) ((rv1_f hq1 hq2 (.inr hz2) hk1)).symm,h2.below0⟩
 have hk1:k≠1:=by omega
 refine m_ifeq 44 ((k:Int)) 2 (by kernel_rfl) (fun b19=>?_) (fun b19=>?_)
 ·
  have hk2:k=2:=by omega
  refine ma h2 0 ?_
  refine mL (fun mM xX aA wL=>∃ (i:Nat),(i<=ts.length)/\(∀ (j:Nat) (x:DVal),j<i->ts[j]?=some x->rightV x (d+1)=true)/\mM=ts.length-i/\aA=patch xX 68 [(1,(Value.int .i64 ((d:Int)))),(2,(pt g2 0)),(47,(Value.slice A ts.length c)),(48,(Value.int .i64 ((ts.length:Int)))),(49,(Value.int .i64 ((i:Int))))]/\Hp (fun _=>False) w wL [rRV 5 A c xs,rSB ((Value.slice B b.length dd)) b,rDL F xs ts] [rBlk g2 157 ([(Value.int .i64 ((k:Int))),(Value.int .i64 ((t:Int))),(Value.int .u64 ((n:Int))),(Value.slice B b.length dd),(Value.slice A ts.length c)])]) ⟨_,_,0,(by omega),(fun j x h=>absurd h (by omega)),rfl,pM,h2.sel [0] [0,1,2] (by kernel_rfl) rfl rfl⟩ ?_
  rintro _ x22 _ w22 ⟨i,hi,hr,rfl,rfl,h22⟩ KL22 hKL22
  refine mAt ?_
  refine m_if 50 ((i:Int)<(ts.length:Int)) (by kernel_rfl) (fun b25=>?_) (fun b25=>?_)
  ·
   obtain ⟨xe,u,hxi,hui,hxe⟩:=dl_at (h22.rd 2 rfl) hll i (by omega)
   obtain ⟨ke,te,ne,be,le⟩:=u
   obtain ⟨Be,de,Ae,ce,xse,rfl,_,_,_,_,_,_⟩:=dv_open hxe
   clear hxe
   simp only [DVal.kind,DVal.tag,DVal.n,DVal.b,DVal.l] at *
   refine mW 51 (eIx (RV.lenIs (n:=ts.length) (h22.rd 0 rfl) hll).2 i ts.length (RV.lenIs (n:=ts.length) (h22.rd 0 rfl) hll).1 (by omega) 155 (.tmp 47) (.tmp 49) .i64 157) ?_
   refine mW 52 (e_elemsN (RV.lenIs (n:=ts.length) (h22.rd 0 rfl) hll).2 i 0 ([(Value.int .i64 ((ke:Int))),(Value.int .i64 ((te:Int))),(Value.int .u64 ((ne:Int))),(Value.slice Be be.length de),(Value.slice Ae le.length ce)]) hxi 157 (.tmp 51) (by kernel_rfl) ([(Value.int .i64 ((ke:Int))),(Value.int .i64 ((te:Int))),(Value.int .u64 ((ne:Int))),(Value.slice Be be.length de),(Value.slice Ae le.length ce)]) (by kernel_rfl) (by kernel_rfl) (by kernel_rfl)) ?_
   refine mN h22 157 ([(Value.int .i64 0),(Value.int .i64 0),(Value.int .u64 0),(Value.slice none 0 0),(Value.slice none 0 0)]) fun g28 w28 h28=>?_
   refine mT (xSs h28 0 157 (.tmp 6) (.tmp 52) 0 ([(Value.int .i64 ((ke:Int))),(Value.int .i64 ((te:Int))),(Value.int .u64 ((ne:Int))),(Value.slice Be be.length de),(Value.slice Ae le.length ce)]) ([(Value.int .i64 ((ke:Int))),(Value.int .i64 ((te:Int))),(Value.int .u64 ((ne:Int))),(Value.slice Be be.length de),(Value.slice Ae le.length ce)])) fun _ w29 h29=>?_
   refine ma h29 0 ?_
   refine mW 55 (exec_add _ _ _ _ bO ((d:Int)) 1 (by kernel_rfl) (by kernel_rfl) (((d+1:Nat):Int)) (by omega) (by omega) (by omega) _) ?_
   refine mD h29 [(Value.agg ([(Value.int .i64 ((ke:Int))),(Value.int .i64 ((te:Int))),(Value.int .u64 ((ne:Int))),(Value.slice Be be.length de),(Value.slice Ae le.length ce)]).toArray),(Value.int .i64 (((d+1:Nat):Int)))] (ih hq2 F _ (DVal.mk ke te ne be le) _ ⟨(h29.rd 2 rfl).1,(h29.rd 2 rfl).2 i _ _ hxi hui⟩) (fun w31 h31=>?_)
   refine m_split 57 (!(rightV (DVal.mk ke te ne be le) (d+1))) (by kernel_rfl) (fun b32=>?_) (fun b32=>?_)
   ·
    refine mP (Value.bool false) ?_
    exact ⟨congrArg (fun x=>Ending.returned (Value.bool x)) ((rv2_no hq1 hq2 (rightL_no ts (d+1) (DVal.mk ke te ne be le) (List.mem_of_getElem? hui) (by simpa using b32)) hk2)).symm,h31.below0⟩
   refine mW 58 (exec_add _ _ _ _ bO ((i:Int)) 1 (by kernel_rfl) (by kernel_rfl) ((i:Int)+1) rfl (by omega) (by omega) _) ?_
   exact mK KL22 (hKL22 _ _ ⟨ts.length-(i+1),_,(by omega),(i+1),(by omega),(fun j x hj hx=>(Nat.lt_or_ge j i).elim (fun h=>hr j x h hx) (fun h=>by obtain rfl:j=i:=(by omega);rw [hui] at hx;injection hx with hx;subst hx;simpa using b32)),rfl,pM,h31.sel [1] [0,1,2] (by kernel_rfl) rfl rfl⟩)
  rcases (show (n=0/\b.length=0)∨(¬ n=0)∨(n=0/\¬ b.length=0) by by_cases c1:n=0 <;> by_cases c2:b.length=0 <;> simp [c1,c2]) with ⟨hz1,hz2⟩|hz1|⟨hz1,hz2⟩
  ·
   refine ma h22 0 ?_
   refine mX 61 (.bool true) (Value.bool (((n:Int)) == 0)) (bz_eq hz1) ?_
   refine ma h22 0 ?_
   refine mX 66 (.bool true) (Value.bool (((b.length:Int)) == 0)) (bz_eq hz2) ?_
   refine mP (Value.bool true) ?_
   exact ⟨congrArg (fun x=>Ending.returned (Value.bool x)) ((rv2_t hq1 hq2 (rightL_upto (by omega) hr) hz1 hz2 hk2)).symm,h22.below0⟩
  ·
   refine ma h22 0 ?_
   refine mX 61 (.bool false) (Value.bool (((n:Int)) == 0)) (bz_ne hz1) ?_
   refine mP (Value.bool false) ?_
   exact ⟨congrArg (fun x=>Ending.returned (Value.bool x)) ((rv2_f hq1 hq2 (.inl hz1) hk2)).symm,h22.below0⟩
  refine ma h22 0 ?_
  refine mX 61 (.bool true) (Value.bool (((n:Int)) == 0)) (bz_eq hz1) ?_
  refine ma h22 0 ?_
  refine mX 66 (.bool false) (Value.bool (((b.length:Int)) == 0)) (bz_ne hz2) ?_
  refine mP (Value.bool false) ?_
  exact ⟨congrArg (fun x=>Ending.returned (Value.bool x)) ((rv2_f hq1 hq2 (.inr hz2) hk2)).symm,h22.below0⟩
 have hk2:k≠2:=by omega
 refine mP (Value.bool false) ?_
 exact ⟨congrArg (fun x=>Ending.returned (Value.bool x)) ((rv_k hq1 hq2 hk0 hk1 hk2)).symm,h2.below0⟩
end
section
open Go.RowKit Go.QT
/-- May a value be, so many levels deep: by the code. -/
theorem right_any(m:Nat):∀ (d:Nat),9<=d+m->d<=100->∀ (F:Nat->Prop) (cs:List Value) (v:DVal) (w:World),(rDV F cs v).Φ w->Calls Tryz.prog 102 #[.agg cs.toArray,.int .i64 (d:Int)] w (DPost w (.bool (rightV v d))):=by
 induction m with
 | zero=>intro d h hd F cs v w hv;exact right_step d hd (fun h8=>absurd h8 (by omega)) F cs v w hv
 | succ m ih =>
   intro d h hd F cs v w hv
   by_cases h8:d<=8
   · exact right_step d hd (fun _=>ih (d+1) (by omega) (by omega)) F cs v w hv
   exact right_step d hd (fun h=>absurd h h8) F cs v w hv
/-- The first byte. -/
theorem head_or:((List.range 3).all fun k=>(List.range 31).all fun t=>decide (bits .or .i64 ((k*64:Nat):Int) (t:Int)=((k*64+t:Nat):Int)))=true:=by decide +kernel
theorem head_or'{k t:Nat}(hk:k<=2)(ht:t<=30):bits .or .i64 ((k*64:Nat):Int) (t:Int)=((k*64+t:Nat):Int):=by
 have h1:=List.all_eq_true.1 head_or k (List.mem_range.2 (by omega))
 have h2:=List.all_eq_true.1 h1 t (List.mem_range.2 (by omega))
 exact of_decide_eq_true h2
section
variable{P:Program}{o:Oper}{a:Act}
theorem e_shlI(t t':TypeId)(x y:Operand)(ho:o.op=.binOp .shl t x y t')(m n:Nat)(k:IntKind)(hn:n<64)(hx:a.eval x=.int .i64 (m:Int))(hy:a.eval y=.int k (n:Int))(r:Nat)(hr:m*2 ^ n=r)(hb:r<9223372036854775808)(W:World) :
   (execOp a.eval o).run P W=.ok (.value (.int .i64 ((r:Nat):Int))) W:=by
 subst hr
 have h3:(eqGuard .shl t x y (.int .i64 (m:Int)) (.int k (n:Int))).run P W=.ok () W:=by simp [eqGuard]
 have e:IntKind.i64.wrap ((m:Int)*2 ^ n)=((m*2 ^ n:Nat):Int):=by
   have h2:(2:Int) ^ n=((2 ^ n:Nat):Int):=by simp
   rw [h2,← Int.natCast_mul,IntKind.wrap_i64]
   generalize m*2 ^ n=q at *
   omega
 have h4:(binOp .shl t (.int .i64 (m:Int)) (.int k (n:Int))).run P W=.ok (.int .i64 ((m*2 ^ n:Nat):Int)) W:=by
   have hm:min ((n:Int)).toNat IntKind.i64.bits=n:=by
     show min ((n:Int)).toNat 64=n
     omega
   have h0:¬ ((n:Int)<0):=by omega
   unfold binOp Op.shift
   simp only [if_neg h0,hm,e,Sem.run_pure]
 unfold execOp
 simp only [ho,hx,hy,Sem.run_bind,h3,h4,Result.andThen_ok,Sem.run_pure]
theorem w_8ofI(n:Nat):Value.int .u8 (IntKind.u8.wrap ((n:Nat):Int))=Value.int .u8 (ub (UInt8.ofNat n)):=by
 congr 1
 rw [IntKind.wrap_u8,ub_ofNat]
theorem wrap64_nat'{n:Nat}(h:n<18446744073709551616):Value.int .u64 (IntKind.u64.wrap ((n:Nat):Int))=Value.int .u64 ((n:Nat):Int):=by
 congr 1;rw [IntKind.wrap_u64];omega
end
theorem headB_lo(k t m:Nat)(h:m<128):headB k t m=[UInt8.ofNat (k*64+t),UInt8.ofNat m]:=if_pos h
theorem headB_hi(k t m:Nat)(h:¬ m<128):headB k t m=[UInt8.ofNat (k*64+t),UInt8.ofNat (128+(shortB m).length)]++shortB m:=if_neg h
theorem headB_len(k t m:Nat):(headB k t m).length<=10:=by
 unfold headB
 split
 · simp
 have:=shortB_len m
 simp;omega
end
section
open Go.RowKit Go.QT
theorem head_any(k t m:Nat)(hk:k<=2)(ht:t<=30)(hm:m<=1000000)(w:World):Calls Tryz.prog 104 #[.int .i64 (k:Int),.int .i64 (t:Int),.int .i64 (m:Int)] w (BPost w (headB k t m)):=by
 have hs8:=shortB_len m
 have h0:=Hp.nil (fun _=>False) w
 refine mE 32 ?_
 refine mW 10 (v:=(Value.int .i64 (((k*64:Nat):Int)))) (e_shlI 3 232 (.tmp 9) (.const (Value.int .u64 6)) (by kernel_rfl) k 6 .u64 (by decide) (by kernel_rfl) (by kernel_rfl) (k*64) rfl (by omega) _) ?_
 refine mX 12 (Value.int .i64 (((k*64+t:Nat):Int))) (Value.int .i64 (bits .or .i64 ((k*64:Nat):Int) (t:Int))) (congrArg (Value.int .i64) (head_or' hk ht)) ?_
 refine mX 13 (Value.int .u8 (ub (UInt8.ofNat (((k*64+t)))))) (Value.int .u8 (IntKind.u8.wrap ((((k*64+t)):Nat):Int))) (w_8ofI (((k*64+t)))) ?_
 refine m_if 15 ((m:Int)<128) (by kernel_rfl) (fun b5=>?_) (fun b5=>?_)
 ·
  refine mX 18 (Value.int .u8 (ub (UInt8.ofNat m))) (Value.int .u8 (IntKind.u8.wrap ((m:Nat):Int))) (w_8ofI m) ?_
  refine mT (x_bsl h0 [(UInt8.ofNat (((k*64+t)))),(UInt8.ofNat m)] (by kernel_rfl)) ?_
  rintro _ w7 ⟨g7,rfl,hw7,hg7,hq7,h7⟩
  refine mP (Value.slice (some ⟨g7,0,none⟩) 2 2) ?_
  have hz:=h7.blkOB 0 [(UInt8.ofNat (((k*64+t)))),(UInt8.ofNat m)] rfl (by unfold maxLen;simp)
  exact bpost_of hz 0 rfl (headB_lo k t m (by omega)).symm
 refine mX 21 (Value.int .u64 (((m:Nat):Int))) (Value.int .u64 (IntKind.u64.wrap ((m:Nat):Int))) (wrap64_nat' (by omega)) ?_
 refine mT (x_sb h0 107 [(Value.int .u64 (((m:Nat):Int)))] (by kernel_rfl) (short_any (((m))) (by omega) _) (shortB (((m)))) ((shortB (((m)))).length) rfl rfl) ?_
 rintro _ w9 ⟨A9,c9,rfl,h9⟩
 refine mW 26 (exec_add _ _ _ _ bO 128 (((shortB (((m)))).length:Int)) (by kernel_rfl) (by kernel_rfl) (((128+((shortB (((m)))).length):Nat):Int)) (by omega) (by omega) (by omega) _) ?_
 refine mX 27 (Value.int .u8 (ub (UInt8.ofNat (((128+((shortB (((m)))).length))))))) (Value.int .u8 (IntKind.u8.wrap ((((128+((shortB (((m)))).length))):Nat):Int))) (w_8ofI (((128+((shortB (((m)))).length))))) ?_
 refine mT (x_bsl h9 [(UInt8.ofNat (((k*64+t)))),(UInt8.ofNat (((128+((shortB (((m)))).length)))))] (by kernel_rfl)) ?_
 rintro _ w11 ⟨g11,rfl,hw11,hg11,hq11,h11⟩
 refine mT (x_bs h11 24 ([(Value.slice (some ⟨g11,0,none⟩) 2 2),(Value.slice A9 ((shortB (((m)))).length) c9)]) 2 (by kernel_rfl)) ?_
 rintro _ w12 ⟨g12,rfl,h12⟩
 refine mT (x_bytesE h12 62 [(Value.slice (some ⟨g12,0,none⟩) 2 2)] (by kernel_rfl) (joined_any (Value.slice (some ⟨g12,0,none⟩) 2 2) [[(UInt8.ofNat (((k*64+t)))),(UInt8.ofNat (((128+((shortB (((m)))).length)))))],shortB (((m)))] _ (bs2 (h12.at_ 0 rfl) (SB.blk (h12.at_ 1 rfl) (by kernel_rfl) (by kernel_rfl) (by kernel_rfl)) (h12.rd 0 rfl)) (by simp;omega)) (([(UInt8.ofNat (((k*64+t)))),(UInt8.ofNat (((128+((shortB (((m)))).length)))))])++(shortB (((m))))) ((([(UInt8.ofNat (((k*64+t)))),(UInt8.ofNat (((128+((shortB (((m)))).length)))))])++(shortB (((m))))).length) (by simp) rfl) ?_
 rintro _ w13 ⟨A13,c13,rfl,h13⟩
 refine mP (Value.slice A13 ((([(UInt8.ofNat (((k*64+t)))),(UInt8.ofNat (((128+((shortB (((m)))).length)))))])++(shortB (((m))))).length) c13) ?_
 exact bpost_of h13 0 rfl (headB_hi k t m (by omega)).symm
end
end Go.Proofs.YtdefpmmdpfpipaaGreat
