/- What functions leave,under names;calls. Over any program. -/
import Derived.Test.YtaoijkhndakppaaGreatCA5
set_option maxRecDepth 100000
set_option maxHeartbeats 4000000
namespace Go.Proofs.YtaoijkhndakppaaGreat
section
open Go.RowKit Go.QT
mutual
def AV.keys:AV->List Nat
 | .v _=>[]
 | .p k _=>[k]
 | .s k _ _ _=>[k]
 | .o k _=>[k]
 | .m k=>[k]
 | .w k _ _ _=>[k]
 | .c cs=>AV.keysL cs
 | .t cs=>AV.keysL cs
 | .i _ x=>AV.keys x
def AV.keysL:List AV->List Nat
 | []=>[]
 | x::r=>AV.keys x++AV.keysL r
end
mutual
theorem keys_ok{A:Nat->Prop}:∀ x:AV,x.ok A↔∀ k ∈ x.keys,A k
 | .v _=>by simp [AV.ok,AV.keys]
 | .p ..=>by simp [AV.ok,AV.keys]
 | .s ..=>by simp [AV.ok,AV.keys]
 | .o ..=>by simp [AV.ok,AV.keys]
 | .m _=>by simp [AV.ok,AV.keys]
 | .w ..=>by simp [AV.ok,AV.keys]
 | .c cs=>by simp only [AV.ok,AV.keys];exact keysL_ok cs
 | .t cs=>by simp only [AV.ok,AV.keys];exact keysL_ok cs
 | .i _ x=>by simp only [AV.ok,AV.keys];exact keys_ok x
theorem keysL_ok{A:Nat->Prop}:∀ l:List AV,AV.okL A l↔∀ k ∈ AV.keysL l,A k
 | []=>by simp [AV.okL,AV.keysL]
 | x::r=>by simp only [AV.okL,AV.keysL,List.mem_append];rw [keys_ok x,keysL_ok r];exact ⟨fun h k hk=>hk.elim (h.1 k) (h.2 k),fun h=>⟨fun k hk=>h k (.inl hk),fun k hk=>h k (.inr hk)⟩⟩
end
def memB(k:Nat):List Nat->Bool
 | []=>false
 | x::r=>bif Nat.beq k x then true else memB k r
theorem memB_mem{k:Nat}:∀ {l:List Nat},memB k l=true->k ∈ l
 | [],h=>by cases h
 | x::r,h=>by
   have h:(bif Nat.beq k x then true else memB k r)=true:=h
   cases hb:Nat.beq k x with
   | true=>rw [Nat.eq_of_beq_eq_true hb];exact List.mem_cons_self ..
   | false=>rw [hb] at h;exact List.mem_cons_of_mem _ (memB_mem h)
theorem memB_not{k:Nat}{l:List Nat}(h:memB k l=false):k ∉ l:=by
 induction l with
 | nil=>exact List.not_mem_nil
 | cons x r ih =>
   have h:(bif Nat.beq k x then true else memB k r)=false:=h
   cases hb:Nat.beq k x with
   | true=>rw [hb] at h;cases h
   | false =>
     rw [hb] at h
     intro hm
     rcases List.mem_cons.1 hm with rfl|hm
     · rw [Nat.beq_refl] at hb;cases hb
     exact ih h hm
/-! ### What is asked of the kernel -/
structure Ob where
 α:Type
 x:α
 y:α
def obOk(l:List Ob):Prop:=∀ o ∈ l,o.x=o.y
def obX(l:List Ob):List (Σ α:Type,α):=l.map fun o=>⟨o.α,o.x⟩
def obY(l:List Ob):List (Σ α:Type,α):=l.map fun o=>⟨o.α,o.y⟩
theorem ob_ok:∀ {l:List Ob},obX l=obY l->obOk l
 | [],_=>fun _ h=>by cases h
 | o::l,h=>by
   have h:(⟨o.α,o.x⟩:Σ α:Type,α)::obX l=⟨o.α,o.y⟩::obY l:=h
   injection h with h1 h2
   intro p hp
   rcases List.mem_cons.1 hp with rfl|hp
   · exact eq_of_heq (Sigma.mk.inj h1).2
   exact ob_ok h2 p hp
theorem obOk.app{l m:List Ob}(h:obOk (l++m)):obOk l/\obOk m:=⟨fun o ho=>h o (List.mem_append_left _ ho),fun o ho=>h o (List.mem_append_right _ ho)⟩
structure Out where
 v:AV
 H:List Ent
 md:List Nat
 ob:List Ob
def In8(b k:Nat):Prop:=b<=k/\k<b+16
/-- What an operation comes to, under names; new ones are b .. b + 7. -/
structure Tr(P:Program)(o:Oper)(ev:Operand->AV)(ro H:List Ent)(b:Nat)(u:Out):Prop where
 goes:∀ {A:Nat->Prop} {κ:Kp} {a:Act} {w w0:World} {F0:Ft},(∀ k,A k->¬ In8 b k)->(∀ y,(ev y).ok A)->(∀ e ∈ ro,e.ok A)->(∀ e ∈ H,e.ok A)->a.eval=(fun y=>(ev y).den κ)->HE F0 w0 w κ ro H ->
   OpTo P o a w (fun x w'=>∃ κ',AgR A u.md κ κ'/\x=u.v.den κ'/\HE F0 w0 w' κ' ro u.H)
 names:∀ {A:Nat->Prop},(∀ y,(ev y).ok A)->(∀ e ∈ ro,e.ok A)->(∀ e ∈ H,e.ok A)->u.v.ok (fun k=>A k∨In8 b k)/\∀ e ∈ u.H,e.ok (fun k=>A k∨In8 b k)
 keeps:∀ e ∈ H,e.key ∉ u.md->e ∈ u.H
/-! ### Values that need no world -/
mutual
/-- Values that hold no name. -/
def AV.rig:AV->Option Value
 | .v x=>some x
 | .c cs=>match AV.rigL cs with|some l=>some (.agg l.toArray)|none=>none
 | .t cs=>match AV.rigL cs with|some l=>some (.tuple l.toArray)|none=>none
 | .i T x=>match AV.rig x with|some y=>some (.iface T y)|none=>none
 | _=>none
def AV.rigL:List AV->Option (List Value)
 | []=>some []
 | x::r=>match AV.rig x,AV.rigL r with|some y,some l=>some (y::l)|_,_=>none
end
mutual
theorem rig_den(κ:Kp):∀ (x:AV) {u:Value},x.rig=some u->x.den κ=u
 | .v _,_,h=>Option.some.inj h
 | .p ..,_,h=>by cases h
 | .s ..,_,h=>by cases h
 | .o ..,_,h=>by cases h
 | .m _,_,h=>by cases h
 | .w ..,_,h=>by cases h
 | .c cs,u,h=>by
   unfold AV.rig at h
   cases h1:AV.rigL cs with
   | none=>rw [h1] at h;cases h
   | some l=>rw [h1] at h;injection h with h;rw [AV.den,rigL_den κ cs h1];exact h
 | .t cs,u,h=>by
   unfold AV.rig at h
   cases h1:AV.rigL cs with
   | none=>rw [h1] at h;cases h
   | some l=>rw [h1] at h;injection h with h;rw [AV.den,rigL_den κ cs h1];exact h
 | .i T x,u,h=>by
   unfold AV.rig at h
   cases h1:AV.rig x with
   | none=>rw [h1] at h;cases h
   | some y=>rw [h1] at h;injection h with h;rw [AV.den,rig_den κ x h1];exact h
theorem rigL_den(κ:Kp):∀ (l:List AV) {us:List Value},AV.rigL l=some us->AV.denL κ l=us
 | [],_,h=>Option.some.inj h
 | x::r,us,h=>by
   unfold AV.rigL at h
   cases h1:AV.rig x with
   | none=>rw [h1] at h;cases h
   | some y =>
     cases h2:AV.rigL r with
     | none=>rw [h1,h2] at h;cases h
     | some l=>rw [h1,h2] at h;injection h with h;rw [AV.denL,rig_den κ x h1,rigL_den κ r h2];exact h
end
/-- An operation on values that hold no name. -/
noncomputable def rgA (P:Program) (o:Oper) (ev:Operand->AV):Option Value:=
 match o.op with
 | .binOp _ _ y z _=>match (ev y).rig,(ev z).rig with
   | some _,some _=>pureE P o (fun q=>((ev q).rig).getD undef)
   | _,_=>none
 | .unOp _ _ y=>match (ev y).rig with
   | some _=>pureE P o (fun q=>((ev q).rig).getD undef)
   | none=>none
 | .convert _ _ y=>match ev y with
   | .v (.int _ _)=>pureE P o (fun q=>((ev q).rig).getD undef)
   | _=>none
 | _=>none
theorem pureE_run{P:Program}{o:Oper}{ρ:Operand->Value}{x:Value}(h:pureE P o ρ=some x)(W:World):(execOp ρ o).run P W=.ok (.value x) W:=by
 unfold pureE at h
 split at h
 · rename_i v hv;injection h with h;subst h;exact pureVal_run hv W
 cases h
theorem rgA_run{P:Program}{o:Oper}{ev:Operand->AV}{x:Value}(h:rgA P o ev=some x){κ:Kp}{a:Act}(ha:a.eval=fun y=>(ev y).den κ)(W:World):(execOp a.eval o).run P W=.ok (.value x) W:=by
 unfold rgA at h
 have gd:∀ {y:Operand} {u:Value},(ev y).rig=some u->a.eval y=((ev y).rig).getD undef:=fun {y u} hy=>by rw [ha,hy];exact rig_den κ _ hy
 split at h
 · rename_i k t y z u ho
   split at h
   · rename_i p q hp hq
     have h1:=pureE_run h W
     have e:execOp a.eval o=execOp (fun q=>((ev q).rig).getD undef) o:=by
       unfold execOp;simp only [ho];rw [gd hp,gd hq]
     rw [e];exact h1
   cases h
 · rename_i k t y ho
   split at h
   · rename_i p hp
     have h1:=pureE_run h W
     have e:execOp a.eval o=execOp (fun q=>((ev q).rig).getD undef) o:=by
       unfold execOp;simp only [ho];rw [gd hp]
     rw [e];exact h1
   cases h
 · rename_i s d y ho
   split at h
   · rename_i k n hy
     have h1:=pureE_run h W
     have e:execOp a.eval o=execOp (fun q=>((ev q).rig).getD undef) o:=by
       unfold execOp;simp only [ho];rw [gd (y:=y) (u:=.int k n) (by rw [hy];rfl)]
     rw [e];exact h1
   cases h
 cases h
/-- A name as a value that nothing else is. -/
def mk(j:Nat)(l:List Nat):Value:=.func (.yield j) #[] ((l.map fun n=>.int .i8 n).toArray)
mutual
def AV.lab:AV->Value
 | .v x=>x
 | .p k off=>mk 1 [k,off]
 | .s k off l q=>mk 2 [k,off,l,q]
 | .o k l=>mk 3 [k,l]
 | .m k=>mk 4 [k]
 | .w k off l d=>mk 5 [k,off,l,d]
 | .c cs=>.agg (AV.labL cs).toArray
 | .t cs=>.tuple (AV.labL cs).toArray
 | .i T x=>.iface T (AV.lab x)
def AV.labL:List AV->List Value
 | []=>[]
 | x::r=>AV.lab x::AV.labL r
end
def nth(l:List Value)(i:Nat):Nat:=match l[i]? with|some (.int _ n)=>n.toNat|_=>0
def ulS(x:Value):AV:=
 match x with
 | .func (.yield j) _ q=>match j with
   | 1=>.p (nth q.toList 0) (nth q.toList 1)
   | 2=>.s (nth q.toList 0) (nth q.toList 1) (nth q.toList 2) (nth q.toList 3)
   | 3=>.o (nth q.toList 0) (nth q.toList 1)
   | 4=>.m (nth q.toList 0)
   | 5=>.w (nth q.toList 0) (nth q.toList 1) (nth q.toList 2) (nth q.toList 3)
   | _=>.v x
 | x=>.v x
def isLb:Value->Bool
 | .func (.yield _) _ _=>true
 | _=>false
def hasLb:Value->Bool
 | .agg cs=>cs.toList.any isLb
 | x=>isLb x
def ulI(x:Value):AV:=
 match x with
 | .agg cs=>.c (cs.toList.map ulS)
 | x=>ulS x
def ulC(x:Value):AV:=
 match x with
 | .iface T y=>bif hasLb y then .i T (ulI y) else .v (.iface T y)
 | x=>ulS x
def ulT(x:Value):AV:=
 match x with
 | .agg cs=>.c (cs.toList.map ulC)
 | x=>ulC x
def ul(x:Value):AV:=
 match x with
 | .tuple l=>.t (l.toList.map ulT)
 | x=>ulT x
/-- As a value, but that its number is 0. -/
def AV.shp:AV->Value
 | .v x=>x
 | .p _ off=>pt 0 off
 | .s _ off l q=>.slice (some ⟨0,off,none⟩) l q
 | .o _ l=>.slice none l 0
 | .m _=>.map (some 0)
 | .w _ off l _=>.slice (some ⟨0,off,none⟩) l l
 | x=>x.lab
def AV.key1:AV->Nat
 | .p k _=>k
 | .s k _ _ _=>k
 | .w k _ _ _=>k
 | _=>0
def reK(k:Nat):Value->AV
 | .pointer (some ⟨_,off,none⟩)=>.p k off
 | .slice (some ⟨_,off,none⟩) l q=>.s k off l q
 | x=>.v x
def isDeep:AV->Bool | .p ..=>true | .s ..=>true | .w ..=>true|_=>false
/-- What it yields, told beforehand; the kernel tells whether it is so. -/
noncomputable def prA (P:Program) (o:Oper) (ev:Operand->AV):Option AV:=
 match o.op with
 | .nilCheck y=>some (ev y)
 | .fieldAddr _ y _=>match pureE P o (fun q=>(ev q).shp) with|some x=>some (bif isDeep (ev y) then reK (ev y).key1 x else .v x)|none=>none
 | .indexAddr _ y _=>match pureE P o (fun q=>(ev q).shp) with|some x=>some (bif isDeep (ev y) then reK (ev y).key1 x else .v x)|none=>none
 | .slice _ y _ _ _=>match pureE P o (fun q=>(ev q).shp) with|some x=>some (bif isDeep (ev y) then reK (ev y).key1 x else .v x)|none=>none
 | .call c=>match c.callee with
   | .builtin .len | .builtin .min=>match pureE P o (fun q=>(ev q).shp) with|some x=>some (.v x)|none=>none
   | _=>none
 | .binOp ..=>match pureE P o (fun q=>(ev q).shp) with|some x=>some (.v x)|none=>none
 | .extract .. | .field .. | .index .. | .build .. | .makeInterface .. | .typeAssert .. | .makeFunc ..=>match pureE P o (fun q=>(ev q).lab) with|some x=>some (ul x)|none=>none
 | _=>none
def obP(P:Program)(o:Oper)(ev:Operand->AV)(v:AV):Ob:=⟨Kp->Option Next,fun κ=>pureVal P (execOp (fun y=>(ev y).den κ) o),fun κ=>some (.value (v.den κ))⟩
theorem obP_run{P:Program}{o:Oper}{ev:Operand->AV}{v:AV}(h:(obP P o ev v).x=(obP P o ev v).y){κ:Kp}{a:Act}(ha:a.eval=fun y=>(ev y).den κ)(w:World):(execOp a.eval o).run P w=.ok (.value (v.den κ)) w:=by
 rw [ha];exact pureVal_run (congrFun h κ) w
def opnds(o:Oper):List Operand:=
 match o.op with
 | .move y | .assign y | .nilCheck y | .fieldAddr _ y _ | .convert _ _ y | .extract y _ | .field _ y _ | .makeInterface _ y | .typeAssert y _ _ _ | .unOp _ _ y=>[y]
 | .pick _ y z=>[y,z]
 | .indexAddr _ y z | .binOp _ _ y z _ | .index _ y z=>[y,z]
 | .slice _ y _ _ _=>[y]
 | .build _ ps | .buildSlice _ _ ps=>ps.toList.map (·.2)
 | .box _ y=>[y]
 | .makeFunc _ f q=>f.toList++q.toList
 | _=>[]
/-- All names of v are names of what the operation reads. -/
def subK(v:AV)(l:List AV):Bool:=v.keys.all fun k=>l.any fun x=>memB k x.keys
theorem subK_ok{v:AV}{l:List AV}(h:subK v l=true){A:Nat->Prop}(hl:∀ x ∈ l,x.ok A):v.ok A:=by
 refine (keys_ok v).2 fun k hk=>?_
 have h1:=List.all_eq_true.1 h k hk
 obtain ⟨x,hx,hm⟩:=List.any_eq_true.1 h1
 exact (keys_ok x).1 (hl x hx) k (memB_mem hm)
/-! ### Blocks -/
/-- The cells of a block, or of a row, that are told. -/
def Ent.cs?:Option Ent->Option (List AV)|some (.blk _ _ cs)=>some cs|some (.row _ _ _ _ cs)=>some cs|_=>none
noncomputable def ldA (P:Program) (o:Oper) (ev:Operand->AV) (L:List Ent):Option AV:=
 match o.op with
 | .load t y=>match ev y with
   | .p k off=>match Ent.cs? (findK k L) with
     | some cs=>match pureVal P (isAgg t) with
       | some false=>cs[off]?
       | _=>bif rowB P t (szT P t) && Nat.ble (off+szT P t) cs.length then some (.c ((cs.drop off).take (szT P t))) else none
     | none=>none
   | _=>none
 | _=>none
theorem cs_of{L:List Ent}{k:Nat}{cs:List AV}(h:Ent.cs? (findK k L)=some cs):∃ e ∈ L,e.key=k/\(∀ {κ:Kp} {w:World},(e.res κ).Φ w->∃ T rest,Blk w (κ k).n T (AV.denL κ cs++rest))/\∀ {A:Nat->Prop},e.ok A->AV.okL A cs:=by
 cases hf:findK k L with
 | none=>rw [hf] at h;cases h
 | some e =>
   rw [hf] at h
   obtain ⟨hm,hk⟩:=findK_mem hf
   cases e with
   | blk k' T ds =>
     have hk:k'=k:=hk
     subst hk
     injection h with h;subst h
     exact ⟨_,hm,rfl,fun {κ w} hb=>⟨T,[],by rw [List.append_nil];exact hb⟩,fun he=>he.2⟩
   | row k' T sz n ds =>
     have hk:k'=k:=hk
     subst hk
     injection h with h;subst h
     refine ⟨_,hm,rfl,fun {κ w} hb=>?_,fun he=>he.2⟩
     obtain ⟨rest,hr⟩:=rRow.blk (show (rRow (κ k').n T sz n (capK (κ k')) (AV.denL κ ds)).Φ w from hb)
     exact ⟨T,rest,hr⟩
   | _=>cases h
theorem denL_len(κ:Kp)(l:List AV):(AV.denL κ l).length=l.length:=by rw [denL_map,List.length_map]
theorem denL_get(κ:Kp)(l:List AV)(i:Nat):(AV.denL κ l)[i]?=l[i]?.map (AV.den κ):=by rw [denL_map,List.getElem?_map]
theorem denL_drop(κ:Kp)(l:List AV)(i:Nat):(AV.denL κ l).drop i=AV.denL κ (l.drop i):=by rw [denL_map,denL_map,List.map_drop]
theorem denL_take(κ:Kp)(l:List AV)(i:Nat):(AV.denL κ l).take i=AV.denL κ (l.take i):=by rw [denL_map,denL_map,List.map_take]
theorem denL_app(κ:Kp)(l m:List AV):AV.denL κ (l++m)=AV.denL κ l++AV.denL κ m:=by rw [denL_map,denL_map,denL_map,List.map_append]
theorem denL_set(κ:Kp)(l:List AV)(i:Nat)(x:AV):AV.denL κ (l.set i x)=(AV.denL κ l).set i (x.den κ):=by rw [denL_map,denL_map,List.map_set]
theorem ldA_run{P:Program}{o:Oper}{ev:Operand->AV}{L:List Ent}{v:AV}(h:ldA P o ev L=some v){κ:Kp}{a:Act}(ha:a.eval=fun y=>(ev y).den κ){W:World}(hL:∀ e ∈ L,(e.res κ).Φ W):(execOp a.eval o).run P W=.ok (.value (v.den κ)) W:=by
 unfold ldA at h
 split at h
 · rename_i t y ho
   split at h
   · rename_i k off hy
     split at h
     · rename_i cs hf
       obtain ⟨e,hm,_,hbk,_⟩:=cs_of hf
       obtain ⟨T,rest,hb⟩:=hbk (hL _ hm)
       have hx:a.eval y=pt (κ k).n off:=by rw [ha];simp only [hy];rfl
       split at h
       · rename_i ht
         have hlt:off<(AV.denL κ cs).length:=by rw [denL_len];exact (List.getElem?_eq_some_iff.1 h).1
         exact e_load hb t y ho off _ hx (by rw [List.getElem?_append_left hlt,denL_get,h];rfl) ht
       cases hc:(rowB P t (szT P t) && Nat.ble (off+szT P t) cs.length) with
       | false=>rw [hc] at h;cases h
       | true =>
         rw [hc] at h
         injection h with h;subst h
         rw [Bool.and_eq_true] at hc
         have hle:=Nat.le_of_ble_eq_true hc.2
         have hl:(AV.denL κ ((cs.drop off).take (szT P t))).length=szT P t:=by rw [denL_len,List.length_take,List.length_drop];omega
         have hd:off<=(AV.denL κ cs).length:=by rw [denL_len];omega
         have hd2:szT P t<=((AV.denL κ cs).drop off).length:=by rw [List.length_drop,denL_len];omega
         exact e_loads hb t y ho off (AV.denL κ ((cs.drop off).take (szT P t))) hx (by rw [hl,List.drop_append_of_le_length hd,List.take_append_of_le_length hd2,denL_drop,denL_take]) (by rw [hl];exact hc.1)
     cases h
   cases h
 cases h
theorem ldA_ok{P:Program}{o:Oper}{ev:Operand->AV}{L:List Ent}{v:AV}(h:ldA P o ev L=some v){A:Nat->Prop}(hL:∀ e ∈ L,e.ok A):v.ok A:=by
 unfold ldA at h
 split at h
 · split at h
   · split at h
     · rename_i cs hf
       obtain ⟨e,hm,_,_,hok⟩:=cs_of hf
       have hcs:=(okL_all A cs).1 (hok (hL _ hm))
       split at h
       · exact hcs v (List.mem_of_getElem? h)
       cases hc:(rowB P _ (szT P _) && Nat.ble (_+szT P _) cs.length) with
       | false=>rw [hc] at h;cases h
       | true =>
         rw [hc] at h
         injection h with h;subst h
         exact (okL_all A _).2 fun x hx=>hcs x (List.mem_of_mem_drop (List.mem_of_mem_take hx))
     cases h
   cases h
 cases h
/-- What is moved as it is. -/
def mvA(o:Oper)(ev:Operand->AV):Option AV:=
 match o.op with
 | .move y | .assign y=>some (ev y)
 | .pick c y z=>match ev c with | .v (.bool true)=>some (ev y) | .v (.bool false)=>some (ev z)|_=>none
 | _=>none
theorem mvA_run{P:Program}{o:Oper}{ev:Operand->AV}{v:AV}(h:mvA o ev=some v){κ:Kp}{a:Act}(ha:a.eval=fun y=>(ev y).den κ)(W:World):(execOp a.eval o).run P W=.ok (.value (v.den κ)) W:=by
 unfold mvA at h
 split at h
 · rename_i y ho;injection h with h;subst h;unfold execOp;simp only [ho,ha];rfl
 · rename_i y ho;injection h with h;subst h;unfold execOp;simp only [ho,ha];rfl
 · rename_i c y z ho
   split at h
   · rename_i hc;injection h with h;subst h;unfold execOp;simp only [ho,ha,hc];rfl
   · rename_i hc;injection h with h;subst h;unfold execOp;simp only [ho,ha,hc];rfl
   cases h
 cases h
theorem mvA_ok{o:Oper}{ev:Operand->AV}{v:AV}(h:mvA o ev=some v){A:Nat->Prop}(he:∀ y,(ev y).ok A):v.ok A:=by
 unfold mvA at h
 split at h
 · injection h with h;subst h;exact he _
 · injection h with h;subst h;exact he _
 · split at h
   · injection h with h;subst h;exact he _
   · injection h with h;subst h;exact he _
   cases h
 cases h
/-- A value that needs no world, or stands in L. -/
noncomputable def valA (P:Program) (o:Oper) (ev:Operand->AV) (L:List Ent):Option (AV × List Ob):=
 match mvA o ev with
 | some v=>some (v,[])
 | none=>match rgA P o ev with
   | some x=>some (.v x,[])
   | none=>match ldA P o ev L with
     | some v=>some (v,[])
     | none=>match prA P o ev with
       | some v=>bif subK v ((opnds o).map ev) then some (v,[obP P o ev v]) else none
       | none=>none
theorem valA_run{P:Program}{o:Oper}{ev:Operand->AV}{L:List Ent}{v:AV}{ob:List Ob}(h:valA P o ev L=some (v,ob))(hob:obOk ob){κ:Kp}{a:Act}(ha:a.eval=fun y=>(ev y).den κ){W:World}(hL:∀ e ∈ L,(e.res κ).Φ W):(execOp a.eval o).run P W=.ok (.value (v.den κ)) W:=by
 unfold valA at h
 split at h
 · rename_i v' hv;injection h with h;injection h with h1 h2;subst h1;exact mvA_run hv ha W
 split at h
 · rename_i x hx;injection h with h;injection h with h1 h2;subst h1;exact rgA_run hx ha W
 split at h
 · rename_i v' hv;injection h with h;injection h with h1 h2;subst h1;exact ldA_run hv ha hL
 split at h
 · rename_i v' hv
   cases hs:subK v' ((opnds o).map ev) with
   | false=>rw [hs] at h;cases h
   | true =>
     rw [hs] at h
     injection h with h;injection h with h1 h2;subst h1;subst h2
     exact obP_run (hob _ (List.mem_singleton.2 rfl)) ha W
 cases h
theorem valA_ok{P:Program}{o:Oper}{ev:Operand->AV}{L:List Ent}{v:AV}{ob:List Ob}(h:valA P o ev L=some (v,ob)){A:Nat->Prop}(he:∀ y,(ev y).ok A)(hL:∀ e ∈ L,e.ok A):v.ok A:=by
 unfold valA at h
 split at h
 · rename_i v' hv;injection h with h;injection h with h1 h2;subst h1;exact mvA_ok hv he
 split at h
 · injection h with h;injection h with h1 h2;subst h1;trivial
 split at h
 · rename_i v' hv;injection h with h;injection h with h1 h2;subst h1;exact ldA_ok hv hL
 split at h
 · rename_i v' hv
   cases hs:subK v' ((opnds o).map ev) with
   | false=>rw [hs] at h;cases h
   | true =>
     rw [hs] at h
     injection h with h;injection h with h1 h2;subst h1
     exact subK_ok hs fun x hx=>by obtain ⟨y,_,rfl⟩:=List.mem_map.1 hx;exact he y
 cases h
end
section
open Go.RowKit Go.QT
def upK(κ:Kp)(b:Nat)(kv:Kv):Kp:=fun k=>bif Nat.beq k b then kv else κ k
theorem upK_at(κ:Kp)(b:Nat)(kv:Kv):upK κ b kv b=kv:=by unfold upK;rw [Nat.beq_refl];rfl
theorem upK_ne(κ:Kp){b k:Nat}(kv:Kv)(h:k≠b):upK κ b kv k=κ k:=by
 unfold upK
 cases hb:Nat.beq k b with
 | true=>exact absurd (Nat.eq_of_beq_eq_true hb) h
 | false=>rfl
theorem upK_agr{A:Nat->Prop}(κ:Kp){b:Nat}(kv:Kv)(hA:∀ k,A k->¬ In8 b k):AgR A [] κ (upK κ b kv):=fun k hk=>by
 have:k≠b:=fun e=>hA k hk (by rw [e];exact ⟨Nat.le_refl _,by omega⟩)
 rw [upK_ne κ kv this];exact ⟨rfl,rfl,fun _=>rfl⟩
def Res.none_:Res where
 F:=fun _=>False
 Φ:=fun _=>True
 lt:=fun _ _ h=>h.elim
 keep:=fun _ _ _=>trivial
theorem cond_some.{u}{α:Type u}{c:Bool}{x y:α}:((bif c then some x else none)=some y)=(c=true/\x=y):=by cases c <;> simp
/-! ### A new block -/
structure Nw where
 T:TypeId
 cs:List AV
 v:AV
noncomputable def nwA (P:Program) (o:Oper) (ev:Operand->AV) (b:Nat):Option Nw:=
 match o.op with
 | .alloc .. | .box .. | .buildSlice .. | .makeSlice .. =>
   match newVal P (execOp (fun q=>(ev q).lab) o) with
   | some (.cells cs T _,f)=>match f 0 with
     | some (.value x)=>some ⟨T,cs.toList.map ulC,reK b x⟩
     | _=>none
   | _=>none
 | _=>none
def obN(P:Program)(o:Oper)(ev:Operand->AV)(b:Nat)(n:Nw):Ob:=⟨Kp->Option (Obj × (Nat->Option Next)),fun κ=>newVal P (execOp (fun y=>(ev y).den κ) o),fun κ=>some (.cells (AV.denL κ n.cs).toArray n.T,fun r=>some (.value (n.v.den (upK κ b ⟨r,none,Res.none_⟩))))⟩
theorem obN_run{P:Program}{o:Oper}{ev:Operand->AV}{b:Nat}{n:Nw}(h:(obN P o ev b n).x=(obN P o ev b n).y){κ:Kp}{a:Act}(ha:a.eval=fun y=>(ev y).den κ)(w:World):(execOp a.eval o).run P w=.ok (.value (n.v.den (upK κ b ⟨w.heap.size,none,Res.none_⟩))) (w.alloc (.cells (AV.denL κ n.cs).toArray n.T)):=by
 rw [ha];exact newVal_run (congrFun h κ) w rfl
def outN(b:Nat)(H:List Ent)(n:Nw)(ob:List Ob):Out:=⟨n.v,insK (.blk b n.T n.cs) H,[],ob⟩
theorem outN_tr{P:Program}{o:Oper}{ev:Operand->AV}{ro H:List Ent}{b:Nat}{n:Nw}{ob:List Ob}(h:(obN P o ev b n).x=(obN P o ev b n).y)(hs:subK (.c n.cs) ((opnds o).map ev)=true)(hv:n.v.keys.all (fun k=>Nat.beq k b)=true):Tr P o ev ro H b (outN b H n ob) where
 goes:=by
   intro A κ a w w0 F0 hA hev hro hH ha hh
   refine OpTo.run _ (obN_run h ha w) ?_
   have hcs:AV.okL A n.cs:=subK_ok (v:=.c n.cs) hs fun x hx=>by obtain ⟨y,_,rfl⟩:=List.mem_map.1 hx;exact hev y
   have hag:=upK_agr κ ⟨w.heap.size,none,Res.none_⟩ hA
   refine ⟨upK κ b ⟨w.heap.size,none,Res.none_⟩,hag,rfl,?_⟩
   have h1:=hh.ha.alloc n.T (AV.denL κ n.cs)
   have e:(Ent.blk b n.T n.cs).res (upK κ b ⟨w.heap.size,none,Res.none_⟩)=rBlk w.heap.size n.T (AV.denL κ n.cs):=by
     show rBlk (upK κ b ⟨w.heap.size,none,Res.none_⟩ b).n n.T _=_
     rw [upK_at,denL_agr hag.agr n.cs hcs]
   refine HE.perm (H:=.blk b n.T n.cs::H) ⟨?_,fun e he=>Ent.holds_agr hag (hro e he) List.not_mem_nil (hh.hr e he),fun e he=>?_⟩ (insK_perm _ _)
   · rw [List.map_cons,e,map_agr hag ro hro (fun _ _=>List.not_mem_nil),map_agr hag H hH (fun _ _=>List.not_mem_nil)];exact h1
   rcases List.mem_cons.1 he with rfl|he
   · trivial
   exact Ent.holds_agr hag (hH e he) List.not_mem_nil (hh.hh e he)
 names:=by
   intro A hev hro hH
   have hcs:AV.okL A n.cs:=subK_ok (v:=.c n.cs) hs fun x hx=>by obtain ⟨y,_,rfl⟩:=List.mem_map.1 hx;exact hev y
   refine ⟨(keys_ok _).2 fun k hk=>.inr ?_,fun e he=>?_⟩
   · have:=Nat.eq_of_beq_eq_true (List.all_eq_true.1 hv k hk)
     subst this;exact ⟨Nat.le_refl _,by omega⟩
   rcases List.mem_cons.1 ((insK_perm _ _).mem_iff.2 he) with rfl|he
   · exact ⟨.inr ⟨Nat.le_refl _,by omega⟩,okL_mono (fun _ h=>.inl h) _ hcs⟩
   exact Ent.ok_mono (fun _ h=>.inl h) (hH e he)
 keeps:=fun e he _=>(insK_perm _ _).mem_iff.1 (List.mem_cons_of_mem _ he)
/-! ### Stores -/
def one1:AV->Bool
 | .v (.agg _)=>false
 | .v (.tuple _)=>false
 | .c _=>false
 | .t _=>false
 | _=>true
theorem one1_den{x:AV}(h:one1 x=true)(κ:Kp):(x.den κ).oneCell'=true/\(x.den κ).cells=#[x.den κ]:=by
 cases x with
 | v y=>cases y <;> first|exact ⟨rfl,rfl⟩|cases h
 | c _=>cases h
 | t _=>cases h
 | _=>exact ⟨rfl,rfl⟩
/-- A row's cells. -/
def rowA:AV->Option (List AV)
 | .c cs=>some cs
 | .v (.agg cs)=>some (rg cs.toList)
 | _=>none
theorem rowA_den{x:AV}{l:List AV}(h:rowA x=some l)(κ:Kp):x.den κ=.agg (AV.denL κ l).toArray:=by
 cases x with
 | c cs=>injection h with h;subst h;rfl
 | v y =>
   cases y with
   | agg cs=>injection h with h;subst h;rw [denL_rg];rfl
   | _=>cases h
 | _=>cases h
theorem rowA_ok{A:Nat->Prop}{x:AV}{l:List AV}(h:rowA x=some l)(hx:x.ok A):AV.okL A l:=by
 cases x with
 | c cs=>injection h with h;subst h;exact hx
 | v y =>
   cases y with
   | agg cs =>
     injection h with h;subst h
     exact (okL_all A _).2 fun z hz=>by obtain ⟨u,_,rfl⟩:=List.mem_map.1 hz;trivial
   | _=>cases h
 | _=>cases h
/-- The block k has these cells now. -/
def setB(k:Nat)(cs:List AV):List Ent->List Ent
 | []=>[]
 | e::l=>bif Nat.beq e.key k then (match e with | .blk k T _=>.blk k T cs|x=>x)::l else e::setB k cs l
theorem setB_split{k:Nat}{k':Nat}{T:TypeId}{ds cs:List AV}:∀ {l:List Ent},findK k l=some (.blk k' T ds)->∃ l1 l2,l=l1++.blk k T ds::l2/\setB k cs l=l1++.blk k T cs::l2
 | [],h=>by cases h
 | e::l,h=>by
   have h:(bif Nat.beq e.key k then some e else findK k l)=some (.blk k' T ds):=h
   cases hb:Nat.beq e.key k with
   | true =>
     rw [hb] at h;injection h with h;subst h
     have:k'=k:=Nat.eq_of_beq_eq_true hb
     subst this
     refine ⟨[],l,rfl,?_⟩
     show (bif Nat.beq k' k' then _ else _)=_
     rw [Nat.beq_refl];rfl
   | false =>
     rw [hb] at h
     obtain ⟨l1,l2,h1,h2⟩:=setB_split (cs:=cs) h
     refine ⟨e::l1,l2,by rw [h1];rfl,?_⟩
     show (bif Nat.beq e.key k then _ else e::setB k cs l)=_
     rw [hb,h2];rfl
noncomputable def stA (P:Program) (o:Oper) (ev:Operand->AV) (H:List Ent):Option (Nat × List AV):=
 match o.op with
 | .store t y z=>match ev y with
   | .p k off=>match findK k H with
     | some (.blk _ _ cs)=>match rowA (ev z) with
       | some ds=>bif (P.info? t).map (·.size) == some ds.length && Nat.ble (off+ds.length) cs.length && ds.all one1 then some (k,cs.take off++ds++cs.drop (off+ds.length)) else none
       | none=>bif (P.info? t).map (·.size) == some 1 && Nat.blt off cs.length && one1 (ev z) then some (k,cs.set off (ev z)) else none
     | _=>none
   | _=>none
 | _=>none
theorem HE.setBlk{F0:Ft}{w0 w w':World}{κ:Kp}{ro H:List Ent}{k k':Nat}{T:TypeId}{ds cs:List AV}(h:HE F0 w0 w κ ro H)(hf:findK k H=some (.blk k' T ds))(hfr:Fr (fun q=>q=(κ k).n) w w')(hb:Blk w' (κ k).n T (AV.denL κ cs)):HE F0 w0 w' κ ro (setB k cs H):=by
 obtain ⟨l1,l2,h1,h2⟩:=setB_split (cs:=cs) hf
 have hp:H.Perm (.blk k T ds::(l1++l2)):=by rw [h1];exact List.perm_middle
 have hq:(Ent.blk k T cs::(l1++l2)).Perm (setB k cs H):=by rw [h2];exact List.perm_middle.symm
 have h3:=h.perm hp
 refine HE.perm (H:=.blk k T cs::(l1++l2)) ⟨?_,h.hr,fun e he=>?_⟩ hq
 · have h4:=h3.ha
   rw [List.map_cons] at h4
   exact h4.upd1 (fun _ h=>h) hfr (rBlk (κ k).n T (AV.denL κ cs)) hb (fun q hq=>.inl hq)
 rcases List.mem_cons.1 he with rfl|he
 · trivial
 exact h3.hh e (List.mem_cons_of_mem _ he)
theorem HE.blkOf{F0:Ft}{w0 w:World}{κ:Kp}{ro H:List Ent}{k k':Nat}{T:TypeId}{ds:List AV}(h:HE F0 w0 w κ ro H)(hf:findK k H=some (.blk k' T ds)):Blk w (κ k).n T (AV.denL κ ds):=by
 obtain ⟨hm,hk⟩:=findK_mem hf
 have hk:k'=k:=hk
 subst hk
 exact h.ha.own _ (List.mem_map.2 ⟨_,hm,rfl⟩)
theorem set_tr{P:Program}{o:Oper}{ev:Operand->AV}{ro H:List Ent}{b:Nat}{k k':Nat}{T:TypeId}{cs es:List AV}{v:Value}{ob:List Ob}(hf:findK k H=some (.blk k' T cs))(hes:∀ {A:Nat->Prop},(∀ y,(ev y).ok A)->AV.okL A cs->AV.okL A es)
   (hrun:∀ {κ:Kp} {a:Act} {w:World},a.eval=(fun y=>(ev y).den κ)->Blk w (κ k).n T (AV.denL κ cs)->∃ w',OpTo P o a w (fun u w2=>u=v/\w2=w')/\Fr (fun q=>q=(κ k).n) w w'/\Blk w' (κ k).n T (AV.denL κ es)):Tr P o ev ro H b ⟨.v v,setB k es H,[k],ob⟩:=by
 have hmem:=findK_mem hf
 obtain ⟨l1,l2,h1,h2⟩:=setB_split (cs:=es) hf
 refine ⟨fun {A κ a w w0 F0} hA hev hro hH ha hh=>?_,fun {A} hev hro hH=>⟨trivial,fun e he=>?_⟩,fun e he hne=>?_⟩
 · obtain ⟨w',h3,h4,h5⟩:=hrun ha (hh.blkOf hf)
   exact h3.mono fun u w2 ⟨e1,e2⟩=>⟨κ,AgR.refl _ _ _,e1,by rw [e2];exact hh.setBlk hf h4 h5⟩
 · have h3:=hH _ hmem.1
   rw [show k'=k from hmem.2] at h3
   have he:e ∈ l1++.blk k T es::l2:=by rw [← h2];exact he
   rcases List.mem_append.1 he with he|he
   · exact Ent.ok_mono (fun _ h=>.inl h) (hH e (by rw [h1];exact List.mem_append_left _ he))
   rcases List.mem_cons.1 he with rfl|he
   · exact ⟨.inl h3.1,okL_mono (fun _ h=>.inl h) _ (hes hev h3.2)⟩
   exact Ent.ok_mono (fun _ h=>.inl h) (hH e (by rw [h1];exact List.mem_append_right _ (List.mem_cons_of_mem _ he)))
 rw [h1] at he
 show e ∈ setB k es H
 rw [h2]
 rcases List.mem_append.1 he with he|he
 · exact List.mem_append_left _ he
 rcases List.mem_cons.1 he with rfl|he
 · exact absurd (List.mem_singleton.2 rfl) hne
 exact List.mem_append_right _ (List.mem_cons_of_mem _ he)
theorem row_ok{A:Nat->Prop}{cs ds:List AV}{off n:Nat}(hc:AV.okL A cs)(hd:AV.okL A ds):AV.okL A (cs.take off++ds++cs.drop n):=(okL_all A _).2 fun x hx=>by
 rcases List.mem_append.1 hx with hx|hx
 · rcases List.mem_append.1 hx with hx|hx
   · exact (okL_all A cs).1 hc x (List.mem_of_mem_take hx)
   exact (okL_all A ds).1 hd x hx
 exact (okL_all A cs).1 hc x (List.mem_of_mem_drop hx)
theorem row_set{w:World}{g:Nat}{T:TypeId}{κ:Kp}{cs ds:List AV}{off:Nat}(hb:Blk w g T (AV.denL κ cs)):Fr (fun q=>q=g) w (w.setRow g ((AV.denL κ cs).take off++AV.denL κ ds++(AV.denL κ cs).drop (off+(AV.denL κ ds).length)).toArray)/\Blk (w.setRow g ((AV.denL κ cs).take off++AV.denL κ ds++(AV.denL κ cs).drop (off+(AV.denL κ ds).length)).toArray) g T (AV.denL κ (cs.take off++ds++cs.drop (off+ds.length))):=by
 refine ⟨Fr.of_grown (only_setRow g _) (fun q hq=>by injection hq with hq;exact .inl hq.symm),?_⟩
 rw [denL_app,denL_app,← denL_take,← denL_drop]
 have:=hb.setRow ((AV.denL κ cs).take off++AV.denL κ ds++(AV.denL κ cs).drop (off+(AV.denL κ ds).length))
 rw [denL_len κ ds] at this ⊢
 exact this
theorem stA_tr{P:Program}{o:Oper}{ev:Operand->AV}{ro H:List Ent}{b:Nat}{k:Nat}{es:List AV}{ob:List Ob}(h:stA P o ev H=some (k,es)):Tr P o ev ro H b ⟨.v undef,setB k es H,[k],ob⟩:=by
 unfold stA at h
 split at h
 · rename_i t y z ho
   split at h
   · rename_i k0 off hy
     split at h
     · rename_i k' T cs hf
       have hy2:∀ κ:Kp,∀ a:Act,a.eval=(fun y=>(ev y).den κ)->a.eval y=pt (κ k0).n off:=fun κ a ha=>by rw [ha];simp only [hy];rfl
       split at h
       · rename_i ds hr
         cases hc:((P.info? t).map (·.size) == some ds.length && Nat.ble (off+ds.length) cs.length && ds.all one1) with
         | false=>rw [hc] at h;cases h
         | true =>
           rw [hc] at h
           injection h with h;injection h with h1 h2;subst h1;subst h2
           simp only [Bool.and_eq_true,beq_iff_eq] at hc
           obtain ⟨⟨hsz,hle⟩,hall⟩:=hc
           have hle:=Nat.le_of_ble_eq_true hle
           refine set_tr hf (fun hev hcs=>row_ok hcs (rowA_ok hr (hev z))) fun {κ a w} ha hb=>⟨_,OpTo.runs (exec_storeRow (P:=P) (o:=o) (a:=a) (w:=w) t y z ho (κ k0).n off (AV.denL κ ds) (hy2 κ a ha) (by rw [ha];exact rowA_den hr κ) T (AV.denL κ cs) hb (by rw [denL_len,denL_len];exact hle) (by rw [denL_len];exact hsz) (fun v hv=>by
             rw [denL_map] at hv
             obtain ⟨x,hx,rfl⟩:=List.mem_map.1 hv
             exact (one1_den (List.all_eq_true.1 hall x hx) κ).1)) ⟨rfl,rfl⟩,row_set hb⟩
       cases hc:((P.info? t).map (·.size) == some 1 && Nat.blt off cs.length && one1 (ev z)) with
       | false=>rw [hc] at h;cases h
       | true =>
         rw [hc] at h
         injection h with h;injection h with h1 h2;subst h1;subst h2
         simp only [Bool.and_eq_true,beq_iff_eq] at hc
         obtain ⟨⟨hsz,hlt⟩,hone⟩:=hc
         rw [Nat.blt_eq] at hlt
         refine set_tr hf (fun {A} hev hcs=>(okL_all A _).2 fun x hx=>?_) fun {κ a w} ha hb=>?_
         · rcases List.mem_or_eq_of_mem_set hx with hx|rfl
           · exact (okL_all A cs).1 hcs x hx
           exact hev z
         have h1:=one1_den hone κ
         refine ⟨_,OpTo.runs (exec_storeCell (P:=P) (o:=o) (a:=a) (w:=w) t y z ho (κ k0).n off ((ev z).den κ) (hy2 κ a ha) (by rw [ha]) T (AV.denL κ cs) hb (by rw [denL_len];exact hlt) hsz h1.1 h1.2) ⟨rfl,rfl⟩,Fr.setCell w (κ k0).n off ((ev z).den κ),?_⟩
         rw [denL_set];exact hb.set off _
     cases h
   cases h
 cases h
/-! ### clear -/
noncomputable def clA (P:Program) (o:Oper) (ev:Operand->AV) (H:List Ent):Option (Nat × List AV):=
 match o.op with
 | .call ⟨.builtin .clear,⟨[y]⟩,⟨[t]⟩⟩=>match ev y with
   | .s k off (l+1) _=>match findK k H with
     | some (.blk _ _ cs)=>match P.underlying t with
       | some (.slice E)=>match pureVal P (zeroValue E) with
         | some z=>bif Nat.ble (off+(Builtin.zeroCells z.cells (l+1)).toList.length) cs.length && (Builtin.zeroCells z.cells (l+1)).toList.all (·.oneCell') then some (k,cs.take off++rg (Builtin.zeroCells z.cells (l+1)).toList++cs.drop (off+(rg (Builtin.zeroCells z.cells (l+1)).toList).length)) else none
         | none=>none
       | _=>none
     | _=>none
   | _=>none
 | _=>none
theorem exec_clear{P:Program}{o:Oper}{a:Act}{w:World}(x:Operand)(t E:TypeId)(ho:o.op=.call { callee:=.builtin .clear,args:=#[x],argTypes:=#[t] })(g k n c:Nat)(hx:a.eval x=.slice (some ⟨g,k,none⟩) (n+1) c)(ht:P.underlying t=some (.slice E))(z:Value)(hz:pureVal P (zeroValue E)=some z)(ds:List Value)(hd:Builtin.zeroCells z.cells (n+1)=ds.toArray)
   (T:TypeId) (cs:List Value) (hb:Blk w g T cs) (hk:k+ds.length<=cs.length) (h1:ds.all (·.oneCell')=true):(execOp a.eval o).run P w=.ok (.value (.tuple #[])) (w.setRow g (cs.take k++ds++cs.drop (k+ds.length)).toArray):=by
 have hst:(storeCells ⟨g,k,none⟩ ds).run P w=.ok () (w.setRow g (cs.take k++ds++cs.drop (k+ds.length)).toArray):=by
   have:=run_storeCells_at (P:=P) g k T ds 0 cs.toArray w hb (by simpa using hk) (by simpa using h1)
   simp only [Nat.add_zero] at this
   simpa using this
 unfold execOp
 simp only [ho,resolve,invoke,builtin,Builtin.clear_,Sem.run_bind,Sem.run_pure,Result.andThen_ok,List.map_toArray,List.map_cons,List.map_nil,hx]
 simp [run_underlying ht,pureVal_run hz,hd,hst]
theorem clA_tr{P:Program}{o:Oper}{ev:Operand->AV}{ro H:List Ent}{b:Nat}{k:Nat}{es:List AV}{ob:List Ob}(h:clA P o ev H=some (k,es)):Tr P o ev ro H b ⟨.v (.tuple #[]),setB k es H,[k],ob⟩:=by
 unfold clA at h
 split at h
 · rename_i y t ho
   split at h
   · rename_i k0 off l q hy
     split at h
     · rename_i k' T cs hf
       split at h
       · rename_i E ht
         split at h
         · rename_i z hz
           rw [cond_some] at h
           obtain ⟨hc,h⟩:=h
           injection h with h1 h2;subst h1;subst h2
           rw [Bool.and_eq_true] at hc
           have hle:=Nat.le_of_ble_eq_true hc.1
           generalize hds:(Builtin.zeroCells z.cells (l+1)).toList=ds at hle hc
           refine set_tr hf (fun {A} _ hcs=>row_ok hcs ((okL_all A _).2 fun x hx=>by obtain ⟨u,_,rfl⟩:=List.mem_map.1 hx;trivial)) fun {κ a w} ha hb=>?_
           have hr:=exec_clear (P:=P) (o:=o) (a:=a) (w:=w) y t E ho (κ k0).n off l q (by rw [ha];simp only [hy];rfl) ht z hz ds (by rw [← hds]) T (AV.denL κ cs) hb (by rw [denL_len];exact hle) hc.2
           have h3:=row_set (ds:=rg ds) (off:=off) hb
           rw [denL_rg] at h3
           exact ⟨_,OpTo.run _ hr ⟨rfl,rfl⟩,h3⟩
         cases h
       cases h
     cases h
   cases h
 cases h
/-! ### append -/
/-- What is appended to: its length, its cells, what else there is, what it takes. -/
def apDst(sz:Nat)(T:TypeId)(H:List Ent):AV->Option (Nat × List AV × List Ent × List Nat)
 | .v (.slice none 0 0)=>some (0,[],H,[])
 | .w k 0 l 0=>match takeK1 k H with
   | some (.row _ T' sz' n cs,r)=>bif Nat.beq T' T && Nat.beq sz' sz && Nat.beq n l then some (n,cs,r,[k]) else none
   | _=>none
 | .s k 0 l c=>match takeK1 k H with
   | some (.blk _ T' cs,r)=>bif Nat.beq T' T && Nat.beq cs.length (c*sz) && Nat.ble l c && Nat.ble c 1000000 then some (l,cs.take (l*sz),r,[k]) else none
   | _=>none
 | _=>none
/-- What is appended. -/
def apSrc(sz:Nat)(L:List Ent):AV->Option (Nat × List AV)
 | .s k off m _=>match Ent.cs? (findK k L) with|some cs=>bif Nat.ble (off+m*sz) cs.length then some (m,(cs.drop off).take (m*sz)) else none|none=>none
 | .w k off m _=>match Ent.cs? (findK k L) with|some cs=>bif Nat.ble (off+m*sz) cs.length then some (m,(cs.drop off).take (m*sz)) else none|none=>none
 | _=>none
noncomputable def apA (P:Program) (o:Oper) (ev:Operand->AV) (ro H:List Ent) (b:Nat):Option Out:=
 match o.op with
 | .call ⟨.builtin .append,⟨[s,x]⟩,⟨[t,u]⟩⟩=>bif Nat.beq u t then
     match P.underlying t with
     | some (.slice E)=>match (P.info? E).map (fun i=>(i.zero,i.size,i.bytes)) with
       | some (some z,sz,bytes)=>match apDst sz E H (ev s) with
         | some (n,olds,r,md)=>match apSrc sz (H++ro) (ev x) with
           | some (m,news)=>bif Nat.blt 0 m && Nat.blt 0 sz && Nat.beq z.cells.size sz && news.all one1 && Nat.ble ((n+m)*bytes) 140737488355328 && Nat.ble (n+m) 1000000
             then some ⟨.w b 0 (n+m) 0,insK (.row b E sz (n+m) (olds++news)) r,md,[]⟩ else none
           | none=>none
         | none=>none
       | _=>none
     | _=>none
   else none
 | _=>none
theorem exec_append{P:Program}{o:Oper}{a:Act}{w:World}(s x:Operand)(t E:TypeId)(ho:o.op=.call { callee:=.builtin .append,args:=#[s,x],argTypes:=#[t,t] })(sz bytes:Nat)(z:Value)(ht:P.underlying t=some (.slice E))(hinf:(P.info? E).map (fun i=>(i.zero,i.size,i.bytes))=some (some z,sz,bytes))
   (hzs:z.cells.size=sz) (hsz:0<sz) (v:Value) (n:Nat) (olds:List Value) (hs:a.eval s=v) (hown:w.ownsRow 0 E sz v n olds) (A:Option Addr) (m c:Nat) (news:List Value) (hx:a.eval x=.slice A m c) (hr:Reads w w.heap.size sz A m news) (h1:∀ u ∈ news,u.oneCell'=true) (hm:0<n+m) (hlen:(n+m)*bytes<=140737488355328) (hlen2:n+m<=maxLen) :
   ∃ g cap w',(execOp a.eval o).run P w=.ok (.value (.slice (some ⟨g,0,none⟩) (n+m) cap)) w'/\w'.ownsRow 0 E sz (.slice (some ⟨g,0,none⟩) (n+m) cap) (n+m) (olds++news)/\w.grownBy w' v.ownBlock/\(v.ownBlock=some g∨g=w.heap.size):=by
 obtain ⟨i0,hi0,hz0,hz1,hz2⟩:=info_parts hinf
 obtain ⟨v',w',hrun,h2,h3,h4⟩:=run_append_any (P:=P) w 0 t o.type E i0 z sz bytes ht hi0 hz0 hz1 hz2 hzs hsz v n olds hown w.heap.size A m c news hr h1 hlen2 hlen (Nat.zero_le _)
 rcases h2.2 with ⟨_,h0⟩|⟨g,cap,cur,rfl,_⟩
 · omega
 refine ⟨g,cap,w',?_,h2,h3,?_⟩
 · unfold execOp
   simp only [ho,resolve,invoke,builtin,Sem.run_bind,Sem.run_pure,Result.andThen_ok,List.map_toArray,List.map_cons,List.map_nil,hs,hx,hrun]
 rcases h4 with h4|h4
 · exact .inl h4.symm
 right;injection h4
theorem AgR.weak{A:Nat->Prop}{md:List Nat}{κ κ':Kp}(h:AgR A [] κ κ'):AgR A md κ κ':=fun k hk=>⟨(h k hk).1,(h k hk).2.1,fun _=>(h k hk).2.2 List.not_mem_nil⟩
theorem cell_add{w:World}{g off j:Nat}{T:TypeId}{cs:List Value}(hb:Blk w g T cs):w.cell? ((⟨g,off,none⟩:Addr).add j)=cs[off+j]?:=by
 rw [Addr.add_lit];exact hb.cell _
theorem apSrc_reads{sz:Nat}{L:List Ent}{x:AV}{m:Nat}{news:List AV}(h:apSrc sz L x=some (m,news)):(∀ {κ:Kp} {w:World},(∀ e ∈ L,(e.res κ).Φ w)->∃ A c,x.den κ=.slice A m c/\Reads w w.heap.size sz A m (AV.denL κ news))/\∀ {A:Nat->Prop},(∀ e ∈ L,e.ok A)->AV.okL A news:=by
 have key:∀ (k off m':Nat),(match Ent.cs? (findK k L) with|some cs=>bif Nat.ble (off+m'*sz) cs.length then some (m',(cs.drop off).take (m'*sz)) else none|none=>none)=some (m,news)->(∀ {κ:Kp} {w:World},(∀ e ∈ L,(e.res κ).Φ w)->m'=m/\Reads w w.heap.size sz (some ⟨(κ k).n,off,none⟩) m (AV.denL κ news))/\∀ {A:Nat->Prop},(∀ e ∈ L,e.ok A)->AV.okL A news:=by
   intro k off m' h
   split at h
   · rename_i cs hf
     rw [cond_some] at h
     obtain ⟨hle,h⟩:=h
     injection h with h1 h2;subst h1;subst h2
     have hle:=Nat.le_of_ble_eq_true hle
     obtain ⟨e,hm,_,hbk,hok⟩:=cs_of hf
     refine ⟨fun {κ w} hL=>⟨rfl,?_,fun _=>?_⟩,fun {A} hL=>(okL_all A _).2 fun x hx=>(okL_all A cs).1 (hok (hL _ hm)) x (List.mem_of_mem_drop (List.mem_of_mem_take hx))⟩
     · rw [denL_len,List.length_take,List.length_drop];omega
     obtain ⟨T,rest,hb⟩:=hbk (hL _ hm)
     refine ⟨_,rfl,hb.lt,fun j u hu=>?_⟩
     rw [cell_add hb]
     rw [← denL_take,← denL_drop] at hu
     have hj:j<((List.drop off (AV.denL κ cs)).take (m'*sz)).length:=(List.getElem?_eq_some_iff.1 hu).1
     rw [List.length_take,List.length_drop,denL_len] at hj
     rw [List.getElem?_append_left (by rw [denL_len];omega),← hu,List.getElem?_take,if_pos (by omega),List.getElem?_drop]
   cases h
 unfold apSrc at h
 split at h
 · rename_i k off m' c
   obtain ⟨h1,h2⟩:=key k off m' h
   exact ⟨fun {κ w} hL=>by obtain ⟨e,hr⟩:=h1 hL;subst e;exact ⟨_,c,rfl,hr⟩,h2⟩
 · rename_i k off m' d
   obtain ⟨h1,h2⟩:=key k off m' h
   exact ⟨fun {κ w} hL=>by obtain ⟨e,hr⟩:=h1 hL;subst e;exact ⟨_,_,rfl,hr⟩,h2⟩
 cases h
/-- What is appended to, as one that is held. -/
theorem apDst_own{sz n:Nat}{T:TypeId}{H r:List Ent}{s:AV}{olds:List AV}{md:List Nat}(h:apDst sz T H s=some (n,olds,r,md)) :
   (∀ {F0:Ft} {w0 w:World} {κ:Kp} {ro:List Ent},HE F0 w0 w κ ro H->w.ownsRow 0 T sz (s.den κ) n (AV.denL κ olds)/\∃ q:Res,q.F=(fun g=>(s.den κ).ownBlock=some g)/\q.Ow/\HA F0 w0 w (ro.map (Ent.res κ)) (q::r.map (Ent.res κ))) /\
   (∀ {A:Nat->Prop},(∀ e ∈ H,e.ok A)->AV.okL A olds)/\(∀ e ∈ r,e ∈ H)/\∀ e ∈ H,e.key ∉ md->e ∈ r:=by
 unfold apDst at h
 split at h
 · injection h with h;injection h with h1 h;injection h with h2 h;injection h with h3 h4
   subst h1;subst h2;subst h3;subst h4
   refine ⟨fun {F0 w0 w κ ro} hh=>⟨⟨by simp [AV.denL],.inl ⟨rfl,rfl⟩⟩,rOV 0 1 (.slice none 0 0) [],rfl,fun _ h=>h,hh.ha.newS (Below.refl _ _) _ (((Hp.nil (fun _=>False) w).ovNil 0 1).own 0 _ rfl) (fun q hq=>(((Hp.nil (fun _=>False) w).ovNil 0 1).mine 0 _ rfl q hq).resolve_left id)⟩,fun _=>trivial,fun e he=>he,fun e he _=>he⟩
 · rename_i k l
   split at h
   · rename_i k' T' sz' n' cs r' ht
     rw [cond_some] at h
     obtain ⟨hc,h⟩:=h
     injection h with h1 h;injection h with h2 h;injection h with h3 h4
     subst h1;subst h2;subst h3;subst h4
     simp only [Bool.and_eq_true] at hc
     obtain ⟨⟨e1,e2⟩,e3⟩:=hc
     have e1:=Nat.eq_of_beq_eq_true e1
     have e2:=Nat.eq_of_beq_eq_true e2
     have e3:=Nat.eq_of_beq_eq_true e3
     subst e1;subst e2;subst e3
     obtain ⟨hp,hk⟩:=takeK1_perm ht
     have hk:k'=k:=hk
     subst hk
     refine ⟨fun {F0 w0 w κ ro} hh=>?_,fun {A} hH=>(hH _ (hp.mem_iff.2 (List.mem_cons_self ..))).2,fun e he=>hp.mem_iff.2 (List.mem_cons_of_mem _ he),fun e he hn=>?_⟩
     · have h9:=(hh.perm hp).ha
       refine ⟨by simp only [AV.den,Nat.sub_zero];exact h9.own _ (List.mem_cons_self ..),_,?_,fun _ h=>h,h9⟩
       funext g
       show (g=(κ k').n)=((Value.slice (some ⟨(κ k').n,0,none⟩) n' (capK (κ k')-0)).ownBlock=some g)
       exact propext ⟨fun h=>by rw [h];rfl,fun h=>by injection h with h;exact h.symm⟩
     rcases List.mem_cons.1 (hp.mem_iff.1 he) with rfl|he
     · exact absurd (List.mem_singleton.2 rfl) hn
     exact he
   cases h
 · rename_i k l c
   split at h
   · rename_i k' T' cs r' ht
     rw [cond_some] at h
     obtain ⟨hc,h⟩:=h
     injection h with h1 h;injection h with h2 h;injection h with h3 h4
     subst h1;subst h2;subst h3;subst h4
     simp only [Bool.and_eq_true] at hc
     obtain ⟨⟨⟨e1,e2⟩,e3⟩,e4⟩:=hc
     have e1:=Nat.eq_of_beq_eq_true e1
     have e2:=Nat.eq_of_beq_eq_true e2
     have e3:=Nat.le_of_ble_eq_true e3
     have e4:=Nat.le_of_ble_eq_true e4
     subst e1
     obtain ⟨hp,hk⟩:=takeK1_perm ht
     have hk:k'=k:=hk
     subst hk
     have hlc:l*sz<=c*sz:=Nat.mul_le_mul_right sz e3
     refine ⟨fun {F0 w0 w κ ro} hh=>?_,fun {A} hH=>(okL_all A _).2 fun x hx=>(okL_all A cs).1 (hH _ (hp.mem_iff.2 (List.mem_cons_self ..))).2 x (List.mem_of_mem_take hx),fun e he=>hp.mem_iff.2 (List.mem_cons_of_mem _ he),fun e he hn=>?_⟩
     · have h9:=(hh.perm hp).ha
       have hb:Blk w (κ k').n T' (AV.denL κ cs):=h9.own _ (List.mem_cons_self ..)
       refine ⟨⟨by rw [denL_len,List.length_take];omega,.inr ⟨(κ k').n,c,(AV.denL κ cs).toArray,rfl,Nat.zero_le _,hb,e3,by unfold maxLen;omega,by rw [List.size_toArray,denL_len,e2],by rw [← denL_take]⟩⟩,_,?_,fun _ h=>h,h9⟩
       funext g
       show (g=(κ k').n)=((Value.slice (some ⟨(κ k').n,0,none⟩) l c).ownBlock=some g)
       exact propext ⟨fun h=>by rw [h];rfl,fun h=>by injection h with h;exact h.symm⟩
     rcases List.mem_cons.1 (hp.mem_iff.1 he) with rfl|he
     · exact absurd (List.mem_singleton.2 rfl) hn
     exact he
   cases h
 cases h
theorem apA_tr{P:Program}{o:Oper}{ev:Operand->AV}{ro H:List Ent}{b:Nat}{u:Out}(h:apA P o ev ro H b=some u):Tr P o ev ro H b u:=by
 unfold apA at h
 split at h
 · rename_i s x t u' ho
   rw [Bool.cond_eq_ite] at h
   split at h
   · rename_i hu
     obtain rfl:=Nat.eq_of_beq_eq_true hu
     split at h
     · rename_i E hE
       split at h
       · rename_i z sz bytes hinf
         split at h
         · rename_i n olds r md hS
           split at h
           · rename_i m news hX
             rw [cond_some] at h
             obtain ⟨hc,h⟩:=h
             subst h
             simp only [Bool.and_eq_true] at hc
             obtain ⟨⟨⟨⟨⟨c1,c2⟩,c3⟩,c4⟩,c5⟩,c6⟩:=hc
             rw [Nat.blt_eq] at c1 c2
             have c3:=Nat.eq_of_beq_eq_true c3
             have c5:=Nat.le_of_ble_eq_true c5
             have c6:=Nat.le_of_ble_eq_true c6
             obtain ⟨sa,sb,sc,sd⟩:=apDst_own hS
             obtain ⟨xa,xb⟩:=apSrc_reads hX
             refine ⟨fun {A κ a w w0 F0} hA hev hro hH ha hh=>?_,fun {A} hev hro hH=>⟨.inr ⟨Nat.le_refl _,by omega⟩,fun e he=>?_⟩,fun e he hne=>(insK_perm _ _).mem_iff.1 (List.mem_cons_of_mem _ (sd e he hne))⟩
             · obtain ⟨hown,q,hqF,hqW,hp⟩:=sa hh
               obtain ⟨Ad,c,hxv,hr⟩:=xa (κ:=κ) (w:=w) fun e he=>by
                 rcases List.mem_append.1 he with he|he
                 · exact hh.ha.own _ (List.mem_map.2 ⟨e,he,rfl⟩)
                 exact hh.ha.red _ (List.mem_map.2 ⟨e,he,rfl⟩)
               obtain ⟨g,cap,w',hrun,h2,h3,h4⟩:=exec_append (P:=P) (o:=o) (a:=a) (w:=w) s x u' E ho sz bytes z hE hinf c3 c2 ((ev s).den κ) n (AV.denL κ olds) (by rw [ha]) hown Ad m c (AV.denL κ news) (by rw [ha];exact hxv) hr (fun v hv=>by
                 rw [denL_map] at hv
                 obtain ⟨y,hy,rfl⟩:=List.mem_map.1 hv
                 exact (one1_den (List.all_eq_true.1 c4 y hy) κ).1) (by omega) c5 (by unfold maxLen;omega)
               have hag:=upK_agr κ ⟨g,some ⟨cap,0,none⟩,Res.none_⟩ hA
               refine OpTo.run _ hrun ⟨upK κ b ⟨g,some ⟨cap,0,none⟩,Res.none_⟩,hag.weak,?_,?_⟩
               · show _=Value.slice (some ⟨(upK κ b _ b).n,0,none⟩) (n+m) (capK (upK κ b _ b)-0)
                 rw [upK_at];rfl
               have hrH:∀ e ∈ r,e.ok A:=fun e he=>hH e (sc e he)
               have hcs:AV.okL A (olds++news):=(okL_all A _).2 fun y hy=>by
                 rcases List.mem_append.1 hy with hy|hy
                 · exact (okL_all A _).1 (sb hH) y hy
                 exact (okL_all A _).1 (xb (A:=A) fun e he=>(List.mem_append.1 he).elim (hH e) (hro e)) y hy
               have h5:=hp.upd1 hqW (Fr.of_grown h3 (fun k hk=>.inl (by rw [hqF];exact hk))) (rRow g E sz (n+m) cap (AV.denL κ olds++AV.denL κ news)) h2 (fun k hk=>by
                 have hk:k=g:=hk
                 subst hk
                 rcases h4 with h4|h4
                 · left;rw [hqF];exact h4
                 right;omega)
               have e1:(Ent.row b E sz (n+m) (olds++news)).res (upK κ b ⟨g,some ⟨cap,0,none⟩,Res.none_⟩)=rRow g E sz (n+m) cap (AV.denL κ olds++AV.denL κ news):=by
                 show rRow (upK κ b _ b).n E sz (n+m) (capK (upK κ b _ b)) _=_
                 rw [upK_at,denL_agr hag.agr _ hcs,denL_app];rfl
               refine HE.perm (H:=.row b E sz (n+m) (olds++news)::r) ⟨?_,fun e he=>Ent.holds_agr hag (hro e he) List.not_mem_nil (hh.hr e he),fun e he=>?_⟩ (insK_perm _ _)
               · rw [List.map_cons,e1,map_agr hag ro hro (fun _ _=>List.not_mem_nil),map_agr hag r hrH (fun _ _=>List.not_mem_nil)];exact h5
               rcases List.mem_cons.1 he with rfl|he
               · trivial
               exact Ent.holds_agr hag (hrH e he) List.not_mem_nil (hh.hh e (sc e he))
             rcases List.mem_cons.1 ((insK_perm _ _).mem_iff.2 he) with rfl|he
             · refine ⟨.inr ⟨Nat.le_refl _,by omega⟩,okL_mono (fun _ h=>.inl h) _ ((okL_all A _).2 fun y hy=>?_)⟩
               rcases List.mem_append.1 hy with hy|hy
               · exact (okL_all A _).1 (sb hH) y hy
               exact (okL_all A _).1 (xb (A:=A) fun e he=>(List.mem_append.1 he).elim (hH e) (hro e)) y hy
             exact Ent.ok_mono (fun _ h=>.inl h) (hH e (sc e he))
           cases h
         cases h
       cases h
     cases h
   cases h
 cases h
/-! ### All of them -/
noncomputable def opA (P:Program) (o:Oper) (ev:Operand->AV) (ro H:List Ent) (b:Nat):Option Out:=
 match o.op with
 | .store ..=>match stA P o ev H with|some (k,es)=>some ⟨.v undef,setB k es H,[k],[]⟩|none=>none
 | .alloc .. | .box .. | .buildSlice .. | .makeSlice ..=>match nwA P o ev b with
   | some n=>bif subK (.c n.cs) ((opnds o).map ev) && n.v.keys.all (fun k=>Nat.beq k b) then some (outN b H n [obN P o ev b n]) else none
   | none=>none
 | .call ⟨.builtin .clear,_,_⟩=>match clA P o ev H with|some (k,es)=>some ⟨.v (.tuple #[]),setB k es H,[k],[]⟩|none=>none
 | .call ⟨.builtin .append,_,_⟩=>apA P o ev ro H b
 | _=>match valA P o ev (H++ro) with|some (v,ob)=>some ⟨v,H,[],ob⟩|none=>none
theorem valA_tr{P:Program}{o:Oper}{ev:Operand->AV}{ro H:List Ent}{b:Nat}{v:AV}{ob:List Ob}(h:valA P o ev (H++ro)=some (v,ob))(hob:obOk ob):Tr P o ev ro H b ⟨v,H,[],ob⟩ where
 goes:=by
   intro A κ a w w0 F0 hA hev hro hH ha hh
   refine OpTo.run _ (valA_run h hob ha fun e he=>?_) ⟨κ,AgR.refl _ _ _,rfl,hh⟩
   rcases List.mem_append.1 he with he|he
   · exact hh.ha.own _ (List.mem_map.2 ⟨e,he,rfl⟩)
   exact hh.ha.red _ (List.mem_map.2 ⟨e,he,rfl⟩)
 names:=by
   intro A hev hro hH
   refine ⟨ok_mono (fun _ h=>.inl h) _ (valA_ok h hev fun e he=>?_),fun e he=>Ent.ok_mono (fun _ h=>.inl h) (hH e he)⟩
   rcases List.mem_append.1 he with he|he
   · exact hH e he
   exact hro e he
 keeps:=fun e he _=>he
theorem opA_tr{P:Program}{o:Oper}{ev:Operand->AV}{ro H:List Ent}{b:Nat}{u:Out}(h:opA P o ev ro H b=some u)(hob:obOk u.ob):Tr P o ev ro H b u:=by
 unfold opA at h
 have hn:∀ {x:Option Nw},(match x with|some n=>bif subK (.c n.cs) ((opnds o).map ev) && n.v.keys.all (fun k=>Nat.beq k b) then some (outN b H n [obN P o ev b n]) else none|none=>none)=some u->Tr P o ev ro H b u:=by
   intro x h
   cases x with
   | none=>cases h
   | some n =>
     simp only at h
     cases hc:(subK (.c n.cs) ((opnds o).map ev) && n.v.keys.all (fun k=>Nat.beq k b)) with
     | false=>rw [hc] at h;cases h
     | true =>
       rw [hc] at h
       injection h with h;subst h
       rw [Bool.and_eq_true] at hc
       exact outN_tr (hob _ (List.mem_singleton.2 rfl)) hc.1 hc.2
 split at h
 · split at h
   · rename_i k es hs;injection h with h;subst h;exact stA_tr hs
   cases h
 · exact hn h
 · exact hn h
 · exact hn h
 · exact hn h
 · split at h
   · rename_i k es hs;injection h with h;subst h;exact clA_tr hs
   cases h
 · exact apA_tr h
 split at h
 · rename_i v ob hv;injection h with h;subst h;exact valA_tr hv hob
 cases h
end
section
open Go.RowKit Go.QT
/-- What a function is handed and leaves; names from nx on are new ones. -/
structure Sp where
 f:FuncId
 nx:Nat
 args:List AV
 ro:List Ent
 pre:List Ent
 v:AV
 post:List Ent
def foot(κ:Kp)(l:List Ent):Ft:=⟨fun q=>∃ r ∈ l.map (Ent.res κ),r.W q,fun q=>∃ r ∈ l.map (Ent.res κ),r.F q⟩
structure SpPost(s:Sp)(κ:Kp)(w:World)(e:Ending)(w':World):Prop where
 ex:∃ κ':Kp,Agr (· < s.nx) κ κ'/\e=.returned (s.v.den κ')/\HE (foot κ s.pre) w w' κ' [] s.post
structure Spec(P:Program)(s:Sp):Prop where
 calls:∀ κ w,HE (foot κ s.pre) w w κ s.ro s.pre->Calls P s.f (AV.denL κ s.args).toArray w (SpPost s κ w)
/-- An operation whose effect is told by hand. -/
structure Pl(P:Program) where
 key:Nat
 f:Oper->(Operand->AV)->List Ent->List Ent->Nat->Option Out
 ok:∀ {o ev ro H b u},f o ev ro H b=some u->obOk u.ob->Tr P o ev ro H b u
/-! ### Whose names are whose -/
def lk(m:List (Nat × Nat))(k:Nat):Option Nat:=
 match m with
 | []=>none
 | p::r=>bif Nat.beq p.1 k then some p.2 else lk r k
def ad(m:List (Nat × Nat))(k q:Nat):List (Nat × Nat):=match lk m k with|some _=>m|none=>(k,q)::m
mutual
def AV.uni:AV->AV->List (Nat × Nat)->List (Nat × Nat)
 | .p k _,y,z=>match y with | .p q _=>ad z k q|_=>z
 | .s k _ _ _,y,z=>match y with | .s q _ _ _=>ad z k q|_=>z
 | .o k _,y,z=>match y with | .o q _=>ad z k q|_=>z
 | .m k,y,z=>match y with | .m q=>ad z k q|_=>z
 | .w k _ _ _,y,z=>match y with | .w q _ _ _=>ad z k q|_=>z
 | .c cs,y,z=>match y with | .c ds=>AV.uniL cs ds z|_=>z
 | .t cs,y,z=>match y with | .t ds=>AV.uniL cs ds z|_=>z
 | .i _ x,y,z=>match y with | .i _ u=>AV.uni x u z|_=>z
 | .v _,_,z=>z
def AV.uniL:List AV->List AV->List (Nat × Nat)->List (Nat × Nat)
 | x::r,l,z=>match l with|y::q=>AV.uniL r q (AV.uni x y z) | []=>z
 | [],_,z=>z
end
def uniE(L:List Ent):List Ent->List (Nat × Nat)->List (Nat × Nat)
 | [],z=>z
 | .blk k _ cs::r,z=>match lk z k with
   | some q=>match findK q L with
     | some (.blk _ _ ds)=>uniE L r (AV.uniL cs ds z)
     | _=>uniE L r z
   | none=>uniE L r z
 | .opq _ _::r,z=>uniE L r z
 | .row k _ _ _ cs::r,z=>match lk z k with
   | some q=>match findK q L with
     | some (.row _ _ _ _ ds)=>uniE L r (AV.uniL cs ds z)
     | _=>uniE L r z
   | none=>uniE L r z
 | .rel k cs _::r,z=>match lk z k with
   | some q=>match findK q L with
     | some (.rel _ ds _)=>uniE L r (AV.uniL cs ds z)
     | _=>uniE L r z
   | none=>uniE L r z
def argsA(o:Oper)(ev:Operand->AV):List AV:=
 match o.op with
 | .call c=>(match c.callee with
   | .invoke y _=>(match ev y with | .i _ x=>[x] | .v (.iface _ x)=>[.v x] | _=>[])
   | _=>[])++(c.args.toList.map ev)
 | _=>[]
def sg(m:List (Nat × Nat))(nx b k:Nat):Nat:=bif Nat.blt k nx then (lk m k).getD k else b+(k-nx)
def findKs:List Nat->List Ent->Option (List Ent)
 | [],_=>some []
 | k::ks,l=>match findK k l,findKs ks l with|some e,some es=>some (e::es)|_,_=>none
theorem findKs_mem:∀ {ks:List Nat} {l es:List Ent},findKs ks l=some es->(∀ e ∈ es,e ∈ l)/\es.map Ent.key=ks
 | [],l,es,h=>by injection h with h;subst h;exact ⟨fun _ h=>absurd h List.not_mem_nil,rfl⟩
 | k::ks,l,es,h=>by
   have h:(match findK k l,findKs ks l with|some e,some es=>some (e::es)|_,_=>none)=some es:=h
   cases h1:findK k l with
   | none=>rw [h1] at h;cases h
   | some e =>
     cases h2:findKs ks l with
     | none=>rw [h1,h2] at h;cases h
     | some es' =>
       rw [h1,h2] at h
       injection h with h;subst h
       obtain ⟨h3,h4⟩:=findK_mem h1
       obtain ⟨h5,h6⟩:=findKs_mem h2
       refine ⟨fun e he=>?_,by rw [List.map_cons,h4,h6]⟩
       rcases List.mem_cons.1 he with rfl|he
       · exact h3
       exact h5 e he
def ndB:List Nat->Bool
 | []=>true
 | x::r=>!memB x r && ndB r
theorem ndB_ok:∀ {l:List Nat},ndB l=true->l.Nodup
 | [],_=>List.nodup_nil
 | x::r,h=>by
   rw [ndB,Bool.and_eq_true,Bool.not_eq_true'] at h
   exact List.nodup_cons.2 ⟨memB_not h.1,ndB_ok h.2⟩
def Ent.keys:Ent->List Nat | .blk k _ cs=>k::AV.keysL cs | .opq k _=>[k] | .row k _ _ _ cs=>k::AV.keysL cs | .rel k vs _=>k::AV.keysL vs
theorem Ent.keys_ok{A:Nat->Prop}{e:Ent}(h:e.ok A):∀ k ∈ e.keys,A k:=by
 cases e with
 | opq k C=>intro q hq;rw [List.mem_singleton.1 hq];exact h
 | _ =>
   intro q hq
   rcases List.mem_cons.1 hq with rfl|hq
   · exact h.1
   exact (keysL_ok _).1 h.2 q hq
mutual
theorem ren_keys(σ:Nat->Nat):∀ x:AV,(x.ren σ).keys=x.keys.map σ
 | .v _=>rfl
 | .p ..=>rfl
 | .s ..=>rfl
 | .o ..=>rfl
 | .m _=>rfl
 | .w _ _ _ _=>rfl
 | .c cs=>by simp only [AV.keys,AV.ren];exact renL_keys σ cs
 | .t cs=>by simp only [AV.keys,AV.ren];exact renL_keys σ cs
 | .i _ x=>by simp only [AV.keys,AV.ren];exact ren_keys σ x
theorem renL_keys(σ:Nat->Nat):∀ l:List AV,AV.keysL (AV.renL σ l)=(AV.keysL l).map σ
 | []=>rfl
 | x::r=>by simp only [AV.keysL,AV.renL,List.map_append];rw [ren_keys σ x,renL_keys σ r]
end
theorem Ent.ren_keys(σ:Nat->Nat)(e:Ent):(e.ren σ).keys=e.keys.map σ:=by
 cases e with
 | opq k C=>rfl
 | _=>simp only [Ent.ren,Ent.keys,List.map_cons];rw [renL_keys]
noncomputable def obC (P:Program) (o:Oper) (ev:Operand->AV) (f:FuncId) (args:List AV):Ob:=⟨Kp->Option Next,fun κ=>pureVal P (execOp (fun y=>(ev y).den κ) o),fun κ=>some (.enter f (AV.denL κ args).toArray)⟩
/-- A call of what is known. -/
noncomputable def callX (P:Program) (s:Sp) (m0:List (Nat × Nat)) (o:Oper) (ev:Operand->AV) (ro H:List Ent) (b:Nat):Option Out:=
 (fun σ:Nat->Nat =>
   match takeK (s.pre.map fun e=>σ e.key) H with
   | some (es,rest)=>match findKs (s.ro.map fun e=>σ e.key) (rest++ro) with
     | some rs=>bif ndB (s.pre.map fun e=>σ e.key) && rest.all (fun e=>!memB e.key (s.pre.map fun e=>σ e.key)) && ro.all (fun e=>!memB e.key (s.pre.map fun e=>σ e.key)) &&
         s.v.lt (s.nx+16) && s.post.all (Ent.lt (s.nx+16)) && s.post.all (fun e=>!Nat.blt e.key s.nx || memB e.key (s.pre.map Ent.key)) && (List.range s.nx).all (fun k=>(s.pre++s.ro).any fun e=>memB k e.keys) && s.pre.all (fun e=>Nat.blt e.key s.nx)
       then some ⟨s.v.ren σ,insKs (s.post.map (Ent.ren σ)) rest,s.pre.map fun e=>σ e.key,
         [obC P o ev s.f (AV.renL σ s.args),⟨List Ent,es,s.pre.map (Ent.ren σ)⟩,⟨List Ent,rs,s.ro.map (Ent.ren σ)⟩]⟩
       else none
     | none=>none
   | none=>none) (sg (uniE (H++ro) (s.pre++s.ro) (uniE (H++ro) (s.pre++s.ro) (AV.uniL s.args (argsA o ev) m0))) s.nx b)
def invK(s:Sp)(σ:Nat->Nat)(q:Nat):Option Nat:=(s.pre.map Ent.key).find? fun j=>Nat.beq (σ j) q
theorem inv_at{s:Sp}{σ:Nat->Nat}(hn:(s.pre.map fun e=>σ e.key).Nodup){k:Nat}(hk:k ∈ s.pre.map Ent.key):invK s σ (σ k)=some k:=by
 unfold invK
 have hn:((s.pre.map Ent.key).map σ).Nodup:=by rw [List.map_map];exact hn
 generalize s.pre.map Ent.key=l at hn hk ⊢
 induction l with
 | nil=>cases hk
 | cons x r ih =>
   rw [List.map_cons,List.nodup_cons] at hn
   rw [List.find?_cons]
   cases hb:Nat.beq (σ x) (σ k) with
   | true =>
     have he:=Nat.eq_of_beq_eq_true hb
     rcases List.mem_cons.1 hk with rfl|hk
     · rfl
     exact absurd (he ▸ List.mem_map.2 ⟨k,hk,rfl⟩) hn.1
   | false =>
     rcases List.mem_cons.1 hk with rfl|hk
     · rw [Nat.beq_refl] at hb;cases hb
     exact ih hn.2 hk
theorem inv_some{s:Sp}{σ:Nat->Nat}{q k:Nat}(h:invK s σ q=some k):k ∈ s.pre.map Ent.key/\σ k=q:=by
 unfold invK at h
 exact ⟨List.mem_of_find?_eq_some h,Nat.eq_of_beq_eq_true (by simpa using List.find?_some h)⟩
def callK(s:Sp)(σ:Nat->Nat)(b:Nat)(κ κc:Kp):Kp:=fun q =>
 if b<=q/\q<b+16 then κc (s.nx+(q-b)) else match invK s σ q with|some k=>⟨(κ q).n,(κ q).a,(κc k).r⟩|none=>κ q
theorem callX_tr{P:Program}{s:Sp}(hs:Spec P s){m0:List (Nat × Nat)}{o:Oper}{ev:Operand->AV}{ro H:List Ent}{b:Nat}{u:Out}(h:callX P s m0 o ev ro H b=some u)(hob:obOk u.ob):Tr P o ev ro H b u:=by
 unfold callX at h
 have hsg:∀ m,∀ k,¬ k<s.nx->sg m s.nx b k=b+(k-s.nx):=by
   intro m k hk
   unfold sg
   cases hb:Nat.blt k s.nx with
   | true=>rw [Nat.blt_eq] at hb;exact absurd hb hk
   | false=>rfl
 generalize hσ:sg (uniE (H++ro) (s.pre++s.ro) (uniE (H++ro) (s.pre++s.ro) (AV.uniL s.args (argsA o ev) m0))) s.nx b=σ at h
 have hsg:∀ k,¬ k<s.nx->σ k=b+(k-s.nx):=by rw [← hσ];exact hsg _
 clear hσ
 simp only at h
 split at h
 · rename_i es rest ht
   split at h
   · rename_i rs hf
     rw [cond_some] at h
     obtain ⟨hc,h⟩:=h
     subst h
     simp only [Bool.and_eq_true] at hc
     obtain ⟨⟨⟨⟨⟨⟨⟨hnd,hrest⟩,hro0⟩,hvl⟩,hpl⟩,hpk⟩,hcov⟩,hprek⟩:=hc
     have o1:=hob _ (List.mem_cons_self ..)
     have o2:es=s.pre.map (Ent.ren σ):=hob _ (List.mem_cons_of_mem _ (List.mem_cons_self ..))
     have o3:rs=s.ro.map (Ent.ren σ):=hob _ (List.mem_cons_of_mem _ (List.mem_cons_of_mem _ (List.mem_cons_self ..)))
     have hnd:=ndB_ok hnd
     obtain ⟨hperm,hkeys⟩:=takeK_perm ht
     obtain ⟨hrs,hrk⟩:=findKs_mem hf
     have hpre:∀ k ∈ s.pre.map Ent.key,k<s.nx:=fun k hk=>by
       obtain ⟨e,he,rfl⟩:=List.mem_map.1 hk
       have:=List.all_eq_true.1 hprek e he
       rwa [Nat.blt_eq] at this
     have hmd:∀ q,q ∉ (s.pre.map fun e=>σ e.key)->invK s σ q=none:=fun q hq=>by
       cases hi:invK s σ q with
       | none=>rfl
       | some k =>
         obtain ⟨h1,h2⟩:=inv_some hi
         obtain ⟨e,he,rfl⟩:=List.mem_map.1 h1
         exact absurd (List.mem_map.2 ⟨e,he,h2⟩) hq
     -- names that the call is handed
     have hA:∀ {A:Nat->Prop},(∀ e ∈ ro,e.ok A)->(∀ e ∈ H,e.ok A)->∀ k,k<s.nx->A (σ k):=by
       intro A hro hH k hk
       obtain ⟨e,he,h1⟩:=List.any_eq_true.1 (List.all_eq_true.1 hcov k (List.mem_range.2 hk))
       have h0:σ k ∈ (e.ren σ).keys:=by rw [Ent.ren_keys];exact List.mem_map.2 ⟨k,memB_mem h1,rfl⟩
       rcases List.mem_append.1 he with he|he
       · have h2:e.ren σ ∈ es:=by rw [o2];exact List.mem_map.2 ⟨e,he,rfl⟩
         exact Ent.keys_ok (hH _ (hperm.mem_iff.2 (List.mem_append_left _ h2))) _ h0
       have h2:e.ren σ ∈ rs:=by rw [o3];exact List.mem_map.2 ⟨e,he,rfl⟩
       rcases List.mem_append.1 (hrs _ h2) with h3|h3
       · exact Ent.keys_ok (hH _ (hperm.mem_iff.2 (List.mem_append_right _ h3))) _ h0
       exact Ent.keys_ok (hro _ h3) _ h0
     have hren:∀ {A:Nat->Prop},(∀ e ∈ ro,e.ok A)->(∀ e ∈ H,e.ok A)->∀ k,k<s.nx+16->A (σ k)∨In8 b (σ k):=by
       intro A hro hH k hk
       by_cases h1:k<s.nx
       · exact .inl (hA hro hH k h1)
       right;rw [hsg k h1];exact ⟨by omega,by omega⟩
     refine ⟨?_,?_,?_⟩
     · intro A κ a w w0 F0 hfr hev hro hH ha hh
       have hc0:pureVal P (execOp a.eval o)=some (.enter s.f (AV.denL (fun k=>κ (σ k)) s.args).toArray):=by
         rw [ha]
         have:pureVal P (execOp (fun y=>(ev y).den κ) o)=some (.enter s.f (AV.denL κ (AV.renL σ s.args)).toArray):=congrFun o1 κ
         rw [renL_den] at this
         exact this
       have h1:=hh.perm hperm
       have e1:es.map (Ent.res κ)=s.pre.map (Ent.res fun k=>κ (σ k)):=by
         rw [o2,List.map_map];exact List.map_congr_left fun e _=>Ent.ren_res κ σ e
       have e2:rs.map (Ent.res κ)=s.ro.map (Ent.res fun k=>κ (σ k)):=by
         rw [o3,List.map_map];exact List.map_congr_left fun e _=>Ent.ren_res κ σ e
       have h2:=h1.ha
       rw [List.map_append,e1] at h2
       have h3:HE (foot (fun k=>κ (σ k)) s.pre) w w (fun k=>κ (σ k)) s.ro s.pre:=by
         refine ⟨?_,fun e he=>?_,fun e he=>?_⟩
         · refine h2.carve fun r hr=>?_
           rw [← e2] at hr
           obtain ⟨e,he,rfl⟩:=List.mem_map.1 hr
           rcases List.mem_append.1 (hrs e he) with h3|h3
           · exact .inr (List.mem_map.2 ⟨e,h3,rfl⟩)
           exact .inl (List.mem_map.2 ⟨e,h3,rfl⟩)
         · have h4:e.ren σ ∈ rs:=by rw [o3];exact List.mem_map.2 ⟨e,he,rfl⟩
           rw [← Ent.ren_holds]
           rcases List.mem_append.1 (hrs _ h4) with h5|h5
           · exact h1.hh _ (List.mem_append_right _ h5)
           exact hh.hr _ h5
         have h4:e.ren σ ∈ es:=by rw [o2];exact List.mem_map.2 ⟨e,he,rfl⟩
         rw [← Ent.ren_holds]
         exact h1.hh _ (List.mem_append_left _ h4)
       refine OpTo.enter s.f (AV.denL (fun k=>κ (σ k)) s.args) hc0 (hs.calls _ w h3) fun e w' hq=>?_
       obtain ⟨κc,hag,he,hp⟩:=hq.ex
       subst he
       -- what the names stand for behind the call
       have hk8:∀ k,¬ k<s.nx->k<s.nx+16->callK s σ b κ κc (σ k)=κc k:=by
         intro k h4 h5
         unfold callK
         rw [hsg k h4,if_pos (by omega)]
         congr 1;omega
       have hna:∀ k,k<s.nx+16->(callK s σ b κ κc (σ k)).n=(κc k).n/\(callK s σ b κ κc (σ k)).a=(κc k).a:=by
         intro k hk
         by_cases h4:k<s.nx
         · have h5:¬ (b<=σ k/\σ k<b+16):=hfr _ (hA hro hH k h4)
           have h6:=hag k h4
           unfold callK
           rw [if_neg h5]
           cases invK s σ (σ k) <;> exact ⟨h6.1.symm,h6.2.symm⟩
         rw [hk8 k h4 hk];exact ⟨rfl,rfl⟩
       have hopq:∀ k,k<s.nx+16->(k<s.nx->k ∈ s.pre.map Ent.key)->callK s σ b κ κc (σ k)=κc k:=by
         intro k hk hkp
         by_cases h4:k<s.nx
         · have h5:¬ (b<=σ k/\σ k<b+16):=hfr _ (hA hro hH k h4)
           have h6:=hag k h4
           unfold callK
           rw [if_neg h5,inv_at hnd (hkp h4)]
           cases h7:κc k with
           | mk n a r =>
             rw [h7] at h6
             obtain ⟨h8,h9⟩:=h6
             simp only at h8 h9
             simp only [h7]
             rw [h8,h9]
         exact hk8 k h4 hk
       have hAg:AgR A (s.pre.map fun e=>σ e.key) κ (callK s σ b κ κc):=by
         intro q hq
         have h4:¬ (b<=q/\q<b+16):=hfr _ hq
         unfold callK
         rw [if_neg h4]
         refine ⟨by cases invK s σ q <;> rfl,by cases invK s σ q <;> rfl,fun hm=>?_⟩
         rw [hmd q hm]
       have okv:∀ x:AV,x.lt (s.nx+16)=true->(x.ren σ).den (callK s σ b κ κc)=x.den κc:=by
         intro x hx
         rw [ren_den]
         exact den_agr (A:=(· < s.nx+16)) (fun k hk=>hna k hk) x (lt_ok x hx)
       have oke:∀ e ∈ s.post,(e.ren σ).res (callK s σ b κ κc)=e.res κc/\(e.holds κc->(e.ren σ).holds (callK s σ b κ κc)):=by
         intro e he
         have h4:=List.all_eq_true.1 hpl e he
         have h5:=List.all_eq_true.1 hpk e he
         have h6:=Ent.ok_key (Ent.lt_ok h4)
         rw [Ent.ren_res,Ent.ren_holds]
         cases e with
         | blk k T cs =>
           refine ⟨?_,fun _=>trivial⟩
           have h7:=Ent.lt_ok h4
           simp only [Ent.res]
           rw [(hna k h6).1,denL_agr (A:=(· < s.nx+16)) (fun k hk=>hna k hk) cs h7.2]
         | opq k C =>
           have h7:callK s σ b κ κc (σ k)=κc k:=hopq k h6 fun h8=>by
             have h5:(!Nat.blt k s.nx || memB k (s.pre.map Ent.key))=true:=h5
             rw [Bool.or_eq_true,Bool.not_eq_true'] at h5
             rcases h5 with h5|h5
             · have:Nat.blt k s.nx=true:=by rw [Nat.blt_eq];exact h8
               rw [this] at h5;cases h5
             exact memB_mem h5
           simp only [Ent.res,Ent.holds]
           rw [h7];exact ⟨rfl,fun h=>h⟩
         | row k T sz n cs =>
           refine ⟨?_,fun _=>trivial⟩
           have h7:=Ent.lt_ok h4
           simp only [Ent.res,capK]
           rw [(hna k h6).1,(hna k h6).2,denL_agr (A:=(· < s.nx+16)) (fun k hk=>hna k hk) cs h7.2]
         | rel k vs C =>
           have h7:callK s σ b κ κc (σ k)=κc k:=hopq k h6 fun h8=>by
             have h5:(!Nat.blt k s.nx || memB k (s.pre.map Ent.key))=true:=h5
             rw [Bool.or_eq_true,Bool.not_eq_true'] at h5
             rcases h5 with h5|h5
             · have:Nat.blt k s.nx=true:=by rw [Nat.blt_eq];exact h8
               rw [this] at h5;cases h5
             exact memB_mem h5
           have h9:=Ent.lt_ok h4
           simp only [Ent.res,Ent.holds]
           rw [h7,denL_agr (A:=(· < s.nx+16)) (fun k hk=>hna k hk) vs h9.2];exact ⟨rfl,fun h=>h⟩
       refine ⟨_,rfl,callK s σ b κ κc,hAg,(okv s.v hvl).symm,?_⟩
       have h4:=h2.call hp.ha
       have mdk:∀ e ∈ rest,e.key ∉ (s.pre.map fun e=>σ e.key):=fun e he=>memB_not (by simpa using List.all_eq_true.1 hrest e he)
       have mdr:∀ e ∈ ro,e.key ∉ (s.pre.map fun e=>σ e.key):=fun e he=>memB_not (by simpa using List.all_eq_true.1 hro0 e he)
       have okr:∀ e ∈ rest,e.ok A:=fun e he=>hH e (hperm.mem_iff.2 (List.mem_append_right _ he))
       have e3:(s.post.map (Ent.ren σ)).map (Ent.res (callK s σ b κ κc))=s.post.map (Ent.res κc):=by
         rw [List.map_map];exact List.map_congr_left fun e he=>(oke e he).1
       refine HE.perm (H:=s.post.map (Ent.ren σ)++rest) ⟨?_,fun e he=>Ent.holds_agr hAg (hro e he) (mdr e he) (hh.hr e he),fun e he=>?_⟩ (insKs_perm _ _)
       · rw [List.map_append,e3,map_agr hAg rest okr mdk,map_agr hAg ro hro mdr];exact h4
       rcases List.mem_append.1 he with he|he
       · obtain ⟨e',he',rfl⟩:=List.mem_map.1 he
         exact (oke e' he').2 (hp.hh e' he')
       exact Ent.holds_agr hAg (okr e he) (mdk e he) (h1.hh e (List.mem_append_right _ he))
     · intro A hev hro hH
       refine ⟨ren_ok (fun k hk=>hren hro hH k hk) _ (lt_ok _ hvl),fun e he=>?_⟩
       rcases List.mem_append.1 ((insKs_perm _ _).mem_iff.2 he) with he|he
       · obtain ⟨e',he',rfl⟩:=List.mem_map.1 he
         exact Ent.ren_ok (fun k hk=>hren hro hH k hk) (Ent.lt_ok (List.all_eq_true.1 hpl e' he'))
       exact Ent.ok_mono (fun _ h=>.inl h) (hH e (hperm.mem_iff.2 (List.mem_append_right _ he)))
     intro e he hm
     rcases List.mem_append.1 (hperm.mem_iff.1 he) with h1|h1
     · exact absurd (by rw [← hkeys];exact List.mem_map.2 ⟨e,h1,rfl⟩) hm
     exact (insKs_perm _ _).mem_iff.1 (List.mem_append_right _ h1)
   cases h
 cases h
/-- A call, at the place key. -/
noncomputable def cA {P:Program} {s:Sp} (key:Nat) (hs:Spec P s) (m0:List (Nat × Nat):=[]):Pl P:=⟨key,callX P s m0,fun h hob=>callX_tr hs h hob⟩
/-- A value that is told in another way. -/
noncomputable def fixX (P:Program) (x y:Value) (o:Oper) (ev:Operand->AV) (ro H:List Ent) (b:Nat):Option Out:=
 match opA P o ev ro H b with
 | some u=>some ⟨.v y,u.H,u.md,⟨AV,u.v,.v x⟩::u.ob⟩
 | none=>none
noncomputable def fA {P:Program} {x y:Value} (key:Nat) (h:x=y):Pl P:=⟨key,fixX P x y,by
 intro o ev ro H b u hu hob
 unfold fixX at hu
 split at hu
 · rename_i u' hu'
   injection hu with hu;subst hu
   have h1:=opA_tr hu' fun o ho=>hob o (List.mem_cons_of_mem _ ho)
   have h2:u'.v=.v x:=hob _ (List.mem_cons_self ..)
   refine ⟨fun hA hev hro hH ha hh=>?_,fun hev hro hH=>⟨trivial,(h1.names hev hro hH).2⟩,h1.keeps⟩
   refine (h1.goes hA hev hro hH ha hh).mono fun v w' ⟨κ',k1,k2,k3⟩=>⟨κ',k1,?_,k3⟩
   rw [k2,h2];exact h
 cases hu⟩
end
end Go.Proofs.YtaoijkhndakppaaGreat
