/- The row of LoginShows: for every input the law returns true and what came in reads as it did. -/
import Derived.ChangeMaps5
import Derived.Test.YtaoijkhndakppaaGreatCB15
set_option maxRecDepth 100000
set_option maxHeartbeats 4000000
namespace Go.Proofs.YtaoijkhndakppaaGreat
section
open Go.RowKit Go.QT
/-- Keys that are told apart at once. -/
def kSame:Value->Value->Bool
 | .int _ a,.int _ b=>a == b
 | .string a,.string b=>a == b
 | _,_=>false
inductive KOk:TypeDesc->Value->Prop
 | int (k:IntKind) (n:Int):KOk (.int k) (.int k n)
 | str (s:ByteArray):KOk .string (.string s)
theorem same_ok{d:TypeDesc}{x y:Value}(h1:KOk d x)(h2:KOk d y):Instr.sameNow d x y=some (kSame x y):=by
 cases h1 with
 | int k n=>cases h2 with|int _ m=>simp [Instr.sameNow,kSame]
 | str s=>cases h2 with|str t=>rfl
/-- Where a key stands, and what is held of it. -/
def lookG(k:Value):List (Value × Value)->Nat->Option (Nat × Value)
 | [],_=>none
 | p::r,i=>if kSame k p.1 then some (i,p.2) else lookG k r (i+1)
theorem find_now{d:TypeDesc}{k:Value}(hx:KOk d k):∀ (es:List MapEntry) (ents:List (Value × Value)) (i:Nat),es.map (fun e=>(e.key,e.val))=ents->(∀ p ∈ ents,KOk d p.1)->Instr.findNow d k es i=some (lookG k ents i)
 | [],ents,i,h,_=>by
   have:ents=[]:=by simpa using h.symm
   subst this;rfl
 | e::es,[],i,h,_=>by simp at h
 | e::es,p::ents,i,h,hk=>by
   simp only [List.map_cons,List.cons.injEq] at h
   obtain ⟨h1,h2⟩:=h
   subst h1
   have ih:=find_now hx es ents (i+1) h2 (fun q hq=>hk q (List.mem_cons_of_mem _ hq))
   have hs:=same_ok hx (hk (e.key,e.val) (List.mem_cons_self ..))
   unfold Instr.findNow lookG
   rw [hs]
   cases kSame k e.key with
   | true=>rfl
   | false=>simp only [Bool.false_eq_true,if_false];exact ih
/-- Entries, each younger than those ahead of it. -/
structure MgOk(es:Array MapEntry)(clock:Nat)(d:TypeDesc)(ents:List (Value × Value)):Prop where
 me:es.toList.map (fun e=>(e.key,e.val))=ents
 ml:∀ p ∈ ents,KOk d p.1
 lt:∀ e ∈ es.toList,e.born<clock
def rMG(mb:Nat)(d:TypeDesc)(ents:List (Value × Value)):Res where
 F:=fun q=>q=mb
 Φ:=fun w=>∃ es clock,w.heap[mb]?=some (.map es clock)/\MgOk es clock d ents
 lt:=fun h q hq=>by
   obtain ⟨es,clock,hm,_⟩:=h
   subst hq
   exact (Array.getElem?_eq_some_iff.1 hm).1
 keep:=fun h _ hk=>by
   obtain ⟨es,clock,hm,ho⟩:=h
   exact ⟨es,clock,(hk mb rfl).trans hm,ho⟩
section
variable{P:Program}{F0:Nat->Prop}{w0 w w':World}{ro rs:List Res}{mb:Nat}{d:TypeDesc}{ents:List (Value × Value)}{o:Oper}{a:Act}{k:Value}{T Tk Te:TypeId}
theorem frMp(ob:Obj):Fr (fun q=>q=mb) w { w with heap:=w.heap.setIfInBounds mb ob }:=
 ⟨rfl,rfl,rfl,by simp,fun q _ hq=>by
   have:mb≠q:=fun e=>hq e.symm
   simp [this]⟩
theorem ck_ok(uk:P.underlying Tk=some d)(hk:KOk d k)(em:Bool)(n:Nat)(w:World):(Instr.checkKey em (n+1) Tk k).run P w=.ok () w:=by
 cases hk <;> (simp only [Instr.checkKey,Sem.run_bind,run_underlying uk,Result.andThen_ok];rfl)
theorem find_ok(uk:P.underlying Tk=some d)(hk:KOk d k){es:Array MapEntry}{clock:Nat}(h:MgOk es clock d ents)(w:World):(Instr.findKey Tk k es.toList).run P w=.ok (lookG k ents 0) w:=by
 simp only [Instr.findKey,Sem.run_bind,run_underlying uk,Result.andThen_ok,find_now hk _ _ 0 h.me h.ml]
 rfl
theorem e_lookG(h:(rMG mb d ents).Φ w)(x y:Operand)(ck:Bool)(ho:o.op=.lookup T x y ck)(uT:P.underlying T=some (.map Tk Te))(uk:P.underlying Tk=some d)(hx:a.eval x=.map (some mb))(hy:a.eval y=k)(hk:KOk d k)(z:Value)(hz:∀ W,(zeroValue Te).run P W=.ok z W)(v:Value)(ok:Bool)
   (hl:(match lookG k ents 0 with|some p=>(p.2,true)|none=>(z,false))=(v,ok)):(execOp a.eval o).run P w=.ok (.value (if ck then .tuple #[v,.bool ok] else v)) w:=by
 obtain ⟨es,clock,hm,hok⟩:=h
 have hobj:(getObj mb).run P w=.ok (.map es clock) w:=by simp [getObj,Sem.run,hm]
 unfold execOp
 simp only [ho,hx,hy,Instr.lookup,Sem.run_bind,run_underlying uT,Result.andThen_ok,hobj,Sem.run_pure,ck_ok uk hk _ 9999,find_ok uk hk hok]
 cases hq:lookG k ents 0 with
 | none =>
   rw [hq] at hl
   injection hl with h1 h2;subst h1;subst h2
   simp only [Sem.run_bind,hz,Result.andThen_ok,Sem.run_pure]
 | some p =>
   rw [hq] at hl
   injection hl with h1 h2;subst h1;subst h2
   rfl
theorem x_updG(h:Hp F0 w0 w ro rs)(i:Nat)(hi:rs[i]?=some (rMG mb d ents))(x y z:Operand)(ho:o.op=.mapUpdate T x y z)(uT:P.underlying T=some (.map Tk Te))(uk:P.underlying Tk=some d)(hx:a.eval x=.map (some mb))(hy:a.eval y=k)(hk:KOk d k)(hl:lookG k ents 0=none) :
   OpTo P o a w (fun v w'=>v=undef/\Hp F0 w0 w' ro (rs.set i (rMG mb d (ents++[(k,a.eval z)])))):=by
 obtain ⟨es,clock,hm,hok⟩:=h.own i _ hi
 have hlt:mb<w.heap.size:=(Array.getElem?_eq_some_iff.1 hm).1
 have hobj:(getObj mb).run P w=.ok (.map es clock) w:=by simp [getObj,Sem.run,hm]
 refine OpTo.runs (w':={ w with heap:=w.heap.setIfInBounds mb (.map (es.push { key:=k,val:=a.eval z,born:=clock }) (clock+1)) }) ?_ ⟨rfl,h.upd i hi (frMp _) (rMG mb d (ents++[(k,a.eval z)])) ⟨es.push { key:=k,val:=a.eval z,born:=clock },clock+1,by simp [hlt],⟨by rw [Array.toList_push,List.map_append,hok.me];rfl,fun p hp=>?_,fun e he=>?_⟩⟩ (fun q hq=>.inl hq)⟩
 · unfold execOp
   simp only [ho,hx,hy,Instr.mapUpdate,Sem.run_bind,run_underlying uT,Result.andThen_ok,hobj,ck_ok uk hk false 9999,find_ok uk hk hok,hl]
   simp [setObj,Sem.run,hm]
 · rcases List.mem_append.1 hp with hp|hp
   · exact hok.ml p hp
   rw [List.mem_singleton.1 hp];exact hk
 rw [Array.toList_push] at he
 rcases List.mem_append.1 he with he|he
 · exact Nat.lt_succ_of_lt (hok.lt e he)
 rw [List.mem_singleton.1 he];exact Nat.lt_succ_self _
end
/-! ### Under names -/
def mgC(d:TypeDesc)(ents:List (Value × Value))(kv:Kv):Prop:=kv.r=rMG kv.n d ents
/-- A map whose entries hold no name. -/
abbrev eMo(k:Nat)(d:TypeDesc)(ents:List (Value × Value)):Ent:=.opq k (mgC d ents)
section
variable{P:Program}{o:Oper}{ev:Operand->AV}{ro H:List Ent}{b:Nat}
/-- What turns one thing of which only a name is told. -/
theorem updO_tr{k:Nat}{C C':Kv->Prop}{u:Value}{r:List Ent}{ob:List Ob}(hf:takeK1 k H=some (.opq k C,r))(hr:r.all (fun e=>!Nat.beq e.key k)=true)(hro:ro.all (fun e=>!Nat.beq e.key k)=true)
   (h:∀ {κ:Kp} {a:Act} {w w0:World} {F0:Nat->Prop},a.eval=(fun y=>(ev y).den κ)->C (κ k)->Hp F0 w0 w (ro.map (Ent.res κ)) ((κ k).r::r.map (Ent.res κ))->OpTo P o a w (fun v w'=>v=u/\∃ q:Res,C' ⟨(κ k).n,(κ k).a,q⟩/\Hp F0 w0 w' (ro.map (Ent.res κ)) (q::r.map (Ent.res κ)))):Tr P o ev ro H b ⟨.v u,insK (.opq k C') r,[k],ob⟩:=by
 obtain ⟨hp,_⟩:=takeK1_perm hf
 have nk:∀ {l:List Ent},l.all (fun e=>!Nat.beq e.key k)=true->∀ e ∈ l,e.key ∉ [k]:=fun {l} hl e he hm=>by
   have h1:=List.all_eq_true.1 hl e he
   rw [List.mem_singleton.1 hm,Nat.beq_refl] at h1
   cases h1
 refine ⟨fun {A κ a w w0 F0} hA hev hroA hH ha hh=>?_,fun {A} hev hroA hH=>⟨trivial,fun e he=>?_⟩,fun e he hne=>?_⟩
 · have h9:=hh.perm hp
   refine (h ha (h9.hh _ (List.mem_cons_self ..)) h9.ha.hp).mono fun v w' ⟨e1,q,hC,hq⟩=>?_
   have hag:AgR A [k] κ (upK κ k ⟨(κ k).n,(κ k).a,q⟩):=fun j _=>by
     by_cases hj:j=k
     · subst hj;rw [upK_at];exact ⟨rfl,rfl,fun hn=>absurd (List.mem_singleton.2 rfl) hn⟩
     rw [upK_ne _ _ hj];exact ⟨rfl,rfl,fun _=>rfl⟩
   have hrA:∀ e ∈ r,e.ok A:=fun e he=>hH e (hp.mem_iff.2 (List.mem_cons_of_mem _ he))
   refine ⟨upK κ k ⟨(κ k).n,(κ k).a,q⟩,hag,e1,HE.perm (H:=.opq k C'::r) ⟨?_,fun e he=>Ent.holds_agr hag (hroA e he) (nk hro e he) (hh.hr e he),fun e he=>?_⟩ (insK_perm _ _)⟩
   · rw [List.map_cons,map_agr hag ro hroA (nk hro),map_agr hag r hrA (nk hr)]
     show HA _ _ _ _ ((upK κ k _ k).r::_)
     rw [upK_at];exact hq.ha
   rcases List.mem_cons.1 he with rfl|he
   · show C' (upK κ k _ k);rw [upK_at];exact hC
   exact Ent.holds_agr hag (hrA e he) (nk hr e he) (h9.hh e (List.mem_cons_of_mem _ he))
 · rcases List.mem_cons.1 ((insK_perm _ _).mem_iff.2 he) with rfl|he
   · exact .inl (hH _ (hp.mem_iff.2 (List.mem_cons_self ..)))
   exact Ent.ok_mono (fun _ h=>.inl h) (hH e (hp.mem_iff.2 (List.mem_cons_of_mem _ he)))
 rcases List.mem_cons.1 (hp.mem_iff.1 he) with rfl|he
 · exact absurd (List.mem_singleton.2 rfl) hne
 exact (insK_perm _ _).mem_iff.1 (List.mem_cons_of_mem _ he)
end
/-- A new map. -/
noncomputable def mkF (T:TypeId) (d:TypeDesc) (o:Oper) (_:Operand->AV) (_ H:List Ent) (b:Nat):Option Out:=
 match o.op with
 | .makeMap t none=>bif Nat.beq t T then some ⟨.m b,insK (eMo b d []) H,[],[]⟩ else none
 | _=>none
noncomputable def mkA {P:Program} (key:Nat) (T:TypeId) (d:TypeDesc):Pl P:=⟨key,mkF T d,by
 intro o ev ro H b u h _
 unfold mkF at h
 split at h
 · rename_i t ho
   rw [cond_some] at h
   obtain ⟨_,h⟩:=h
   subst h
   refine ⟨fun {A κ a w w0 F0} hA hev hro hH ha hh=>?_,fun {A} hev hro hH=>⟨.inr ⟨Nat.le_refl _,by omega⟩,fun e he=>?_⟩,fun e he _=>(insK_perm _ _).mem_iff.1 (List.mem_cons_of_mem _ he)⟩
   · have h1:(Instr.makeMap t none).run P w=.ok (.map (some w.heap.size)) (w.alloc (.map #[] 0)):=rfl
     have hag:=upK_agr κ ⟨w.heap.size,none,rMG w.heap.size d []⟩ hA
     refine OpTo.run (.map (some w.heap.size)) (w':=w.alloc (.map #[] 0)) ?_ ⟨upK κ b ⟨w.heap.size,none,rMG w.heap.size d []⟩,hag,?_,HE.perm (H:=eMo b d []::H) ⟨?_,fun e he=>Ent.holds_agr hag (hro e he) List.not_mem_nil (hh.hr e he),fun e he=>?_⟩ (insK_perm _ _)⟩
     · unfold execOp
       simp only [ho,Option.map_none,Sem.run_bind,h1,Result.andThen_ok,Sem.run_pure]
     · show _=Value.map (some (upK κ b _ b).n)
       rw [upK_at]
     · rw [List.map_cons,map_agr hag ro hro (fun _ _=>List.not_mem_nil),map_agr hag H hH (fun _ _=>List.not_mem_nil)]
       show HA _ _ _ _ ((upK κ b _ b).r::_)
       rw [upK_at]
       exact (hh.ha.hp.newS ((Below.refl _ _).alloc (Nat.le_refl _) _) (rMG w.heap.size d []) ⟨#[],0,heap_alloc_new w _,⟨rfl,by simp,by simp⟩⟩ (fun q hq=>by rw [show q=_ from hq];exact Nat.le_refl _)).ha
     rcases List.mem_cons.1 he with rfl|he
     · show mgC d [] (upK κ b _ b);rw [upK_at];rfl
     exact Ent.holds_agr hag (hH e he) List.not_mem_nil (hh.hh e he)
   rcases List.mem_cons.1 ((insK_perm _ _).mem_iff.2 he) with rfl|he
   · exact .inr ⟨Nat.le_refl _,by omega⟩
   exact Ent.ok_mono (fun _ h=>.inl h) (hH e he)
 cases h⟩
/-- It is asked for a key. -/
noncomputable def lkF (T:TypeId) (d:TypeDesc) (ents:List (Value × Value)) (k v:Value) (ok:Bool) (o:Oper) (ev:Operand->AV) (ro H:List Ent) (_:Nat):Option Out:=
 match o.op with
 | .lookup t x y ck=>match ev x with
   | .m j=>match findK j (H++ro) with
     | some e=>bif Nat.beq t T then some ⟨.v (if ck then .tuple #[v,.bool ok] else v),H,[],[⟨AV,ev y,.v k⟩,⟨Ent,e,eMo j d ents⟩]⟩ else none
     | none=>none
   | _=>none
 | _=>none
noncomputable def lkA {P:Program} (key:Nat) (T Tk Te:TypeId) (d:TypeDesc) (ents:List (Value × Value)) (k z v:Value) (ok:Bool) (uT:P.underlying T=some (.map Tk Te)) (uk:P.underlying Tk=some d) (hk:KOk d k) (hz:∀ W,(zeroValue Te).run P W=.ok z W)
   (hl:(match lookG k ents 0 with|some p=>(p.2,true)|none=>(z,false))=(v,ok)):Pl P:=⟨key,lkF T d ents k v ok,by
 intro o ev ro H b u h hob
 unfold lkF at h
 split at h
 · rename_i t x y ck ho
   split at h
   · rename_i j hx
     split at h
     · rename_i e hf
       rw [cond_some] at h
       obtain ⟨hc,h⟩:=h
       subst h
       obtain rfl:=Nat.eq_of_beq_eq_true hc
       have o1:ev y=.v k:=hob _ (List.mem_cons_self ..)
       have o2:e=eMo j d ents:=hob _ (List.mem_cons_of_mem _ (List.mem_cons_self ..))
       refine ⟨fun {A κ a w w0 F0} hA hev hro hH ha hh=>?_,fun {A} hev hro hH=>⟨trivial,fun e he=>Ent.ok_mono (fun _ h=>.inl h) (hH e he)⟩,fun e he _=>he⟩
       obtain ⟨h1,h2⟩:=hh.ent (e:=eMo j d ents) (by rw [← o2];exact (findK_mem hf).1)
       have h2:(κ j).r=rMG (κ j).n d ents:=h2
       have h1:((κ j).r).Φ w:=h1
       rw [h2] at h1
       exact OpTo.run _ (e_lookG h1 x y ck ho uT uk (by rw [ha];simp only [hx];rfl) (by rw [ha];simp only [o1];rfl) hk z hz v ok hl) ⟨κ,AgR.refl _ _ _,rfl,hh⟩
     cases h
   cases h
 cases h⟩
/-- A key comes in. -/
noncomputable def insF (T:TypeId) (d:TypeDesc) (ents:List (Value × Value)) (k v:Value) (o:Oper) (ev:Operand->AV) (ro H:List Ent) (_:Nat):Option Out:=
 match o.op with
 | .mapUpdate t x y z=>match ev x with
   | .m j=>match takeK1 j H with
     | some (e,r)=>bif Nat.beq t T && r.all (fun e=>!Nat.beq e.key j) && ro.all (fun e=>!Nat.beq e.key j) then some ⟨.v undef,insK (eMo j d (ents++[(k,v)])) r,[j],[⟨AV,ev y,.v k⟩,⟨AV,ev z,.v v⟩,⟨Ent,e,eMo j d ents⟩]⟩ else none
     | none=>none
   | _=>none
 | _=>none
noncomputable def insA {P:Program} (key:Nat) (T Tk Te:TypeId) (d:TypeDesc) (ents:List (Value × Value)) (k v:Value) (uT:P.underlying T=some (.map Tk Te)) (uk:P.underlying Tk=some d) (hk:KOk d k) (hl:lookG k ents 0=none):Pl P:=⟨key,insF T d ents k v,by
 intro o ev ro H b u h hob
 unfold insF at h
 split at h
 · rename_i t x y z ho
   split at h
   · rename_i j hx
     split at h
     · rename_i e r hf
       rw [cond_some] at h
       obtain ⟨hc,h⟩:=h
       subst h
       rw [Bool.and_eq_true,Bool.and_eq_true] at hc
       obtain ⟨⟨c1,c2⟩,c3⟩:=hc
       obtain rfl:=Nat.eq_of_beq_eq_true c1
       have o1:ev y=.v k:=hob _ (List.mem_cons_self ..)
       have o2:ev z=.v v:=hob _ (List.mem_cons_of_mem _ (List.mem_cons_self ..))
       have o3:e=eMo j d ents:=hob _ (List.mem_cons_of_mem _ (List.mem_cons_of_mem _ (List.mem_cons_self ..)))
       subst o3
       refine updO_tr hf c2 c3 fun {κ a w w0 F0} ha hC hp=>?_
       have hC:(κ j).r=rMG (κ j).n d ents:=hC
       rw [hC] at hp
       refine (x_updG hp 0 rfl x y z ho uT uk (by rw [ha];simp only [hx];rfl) (by rw [ha];simp only [o1];rfl) hk hl).mono fun u w' ⟨e1,h1⟩=>⟨e1,_,?_,h1⟩
       show rMG (κ j).n d (ents++[(k,a.eval z)])=rMG (κ j).n d (ents++[(k,v)])
       rw [ha];simp only [o2];rfl
     cases h
   cases h
 cases h⟩
end
section
open Go.RowKit Go.QT
section
variable{t s:STab}{K Ki Ky K4:Fin 16->UInt8}{us now ta q:Int}{l m:Bytes}{sl:List Sh}{e:Nat}
end
section
variable{s:STab}{K4:Fin 16->UInt8}{now sid:Int}{nb:Nat}{b β:Bytes}{me:ByteArray}
set_option maxRecDepth 100000
set_option maxHeartbeats 4000000
end
section
variable{t:STab}{K Ki Ky K4:Fin 16->UInt8}{now ta q sid fl a u r:Int}{l au b β:Bytes}{sl:List Sh}{nb e:Nat}{me f tn sv c1:ByteArray}
set_option maxRecDepth 100000
set_option maxHeartbeats 4000000
end
end
section
open Go.RowKit Go.QT
end
section
open Go.RowKit Go.QT
section
variable{t s:STab}{K Kk K0 Kn ka:Fin 16->UInt8}{nb n:Nat}{now ta q till nn fn ft:Int}{au b1 b β l:Bytes}{sl:List Sh}{us:List User}{nm nm0:ByteArray}{o o2:Option (ByteArray × Int)}{m ff:Bool}
set_option maxRecDepth 100000
set_option maxHeartbeats 4000000
end
end
section
open Go.RowKit Go.QT
set_option maxRecDepth 100000
set_option maxHeartbeats 4000000
end
section
open Go.RowKit Go.QT
section
variable{t:STab}{K Kk Kn ka kb K1 K2 K3:Fin 16->UInt8}{nb n:Nat}{nm pw:ByteArray}{now till nn st sq:Int}{b0 b1 b2 pre:Bytes}{us:List User}
set_option maxRecDepth 100000
set_option maxHeartbeats 4000000
end
end
section
open Go.RowKit Go.QT
theorem selfKey(K:Fin 16->UInt8)(W:World):(Op.equalIn 10000 41 (.agg (vb (kl K)).toArray) (.agg (vb (kl K)).toArray)).run Tryz.prog W=.ok true W:=by
 rw [run_equalIn16 9998 41 (kl K) (kl K) W (by kernel_rfl) (kl_len K) (kl_len K)];simp
theorem exec_selfN{P:Program}{o:Oper}{a:Act}(t:TypeId)(cs:List Value)(x y:Operand)(t':TypeId)(ho:o.op=.binOp .neq t x y t')(hx:a.eval x=.agg cs.toArray)(hy:a.eval y=.agg cs.toArray)(hg:P.eqGuardType P.depth t=false)(hs:∀ W,(Op.equalIn 10000 t (.agg cs.toArray) (.agg cs.toArray)).run P W=.ok true W)(W:World) :
   (execOp a.eval o).run P W=.ok (.value (.bool false)) W:=by
 unfold execOp
 simp only [ho,hx,hy,Sem.run_bind,run_eqGuard_agg W _ t _ _ _ _ hg,Result.andThen_ok,run_neq_struct,hs,Sem.run_pure]
 rfl
noncomputable def snF (T:TypeId) (cs:List Value) (o:Oper) (ev:Operand->AV) (_ H:List Ent) (_:Nat):Option Out:=
 match o.op with
 | .binOp .neq t x y _=>bif Nat.beq t T then some ⟨.v (.bool false),H,[],[⟨AV,ev x,.c (rg cs)⟩,⟨AV,ev y,.c (rg cs)⟩]⟩ else none
 | _=>none
noncomputable def snA (key:Nat) (T:TypeId) (cs:List Value) (hs:∀ W,(Op.equalIn 10000 T (.agg cs.toArray) (.agg cs.toArray)).run Tryz.prog W=.ok true W) (hg:Tryz.prog.eqGuardType Tryz.prog.depth T=false):Pl Tryz.prog:=⟨key,snF T cs,by
 intro o ev ro H b u h hob
 unfold snF at h
 split at h
 · rename_i t x y t' ho
   rw [cond_some] at h
   obtain ⟨hc,h⟩:=h
   subst h
   obtain rfl:=Nat.eq_of_beq_eq_true hc
   have o1:ev x=.c (rg cs):=hob _ (List.mem_cons_self ..)
   have o2:ev y=.c (rg cs):=hob _ (List.mem_cons_of_mem _ (List.mem_cons_self ..))
   exact pv_tr fun κ a w ha=>exec_selfN _ cs x y _ ho (by rw [ha];simp only [o1];rw [AV.den,denL_rg]) (by rw [ha];simp only [o2];rw [AV.den,denL_rg]) hg hs w
 cases h⟩
theorem kyG:Tryz.prog.eqGuardType Tryz.prog.depth 41=false:=by kernel_rfl
/-! ### Finish -/
section
variable{s:STab}{K:Fin 16->UInt8}{n e:Nat}{l:Bytes}{sid t q:Int}{me peer fr tn:ByteArray}
set_option maxRecDepth 100000
set_option maxHeartbeats 4000000
theorem loSeq_s(c:Cl):Spec Tryz.prog ⟨25,3,[.p 1 0],[],[.blk 1 51 (c.c 2)],aI c.q,[.blk 1 51 (c.c 2)]⟩:=s1 []
end
section
variable{Kk ka kb K1 K2 K3 K4:Fin 16->UInt8}{t t1:STab}{sid now wn:Int}{bx:List SSealed}{b b1 c1 e1:Bytes}
theorem gl{n:Nat}{y:SSealed}(h:bx.length=n):(bx++[y])[n]?=some y:=by
 rw [← h,List.getElem?_append_right (Nat.le_refl _),Nat.sub_self];rfl
set_option maxRecDepth 100000
set_option maxHeartbeats 4000000
end
end
section
open Go.RowKit Go.QT
/-- A law that holds nothing. -/
theorem law_s{f:FuncId}{al:List AV}{args:Array Value}(h:Spec Tryz.prog ⟨f,0,al,[],[],aB true,[]⟩)(W:World)(ha:∀ κ,(AV.denL κ al).toArray=args):Calls Tryz.prog f args W (DPost W (.bool true)):=by
 have κ:Kp:=fun _=>⟨0,none,rSB (.slice none 0 0) []⟩
 have h0:=h.calls κ W ⟨by rw [foot_nil];exact (Hp.nil _ W).ha,fun e he=>absurd he List.not_mem_nil,fun e he=>absurd he List.not_mem_nil⟩
 rw [ha κ] at h0
 refine h0.mono fun e w' ⟨κ',_,e1,h1⟩=>⟨e1,?_⟩
 have h2:=h1.ha.hp
 rw [foot_nil] at h2
 exact h2.below0
section
variable{pw:ByteArray}{now x y:Int}
set_option maxRecDepth 100000
set_option maxHeartbeats 4000000
end
end
section
open Go.RowKit Go.QT
/-- string(b). -/
noncomputable def cvF (l:Bytes) (o:Oper) (ev:Operand->AV) (ro H:List Ent) (_:Nat):Option Out:=
 match o.op with
 | .convert t u x=>match ev x with
   | .o j n=>match findK j (H++ro) with
     | some e=>bif Nat.beq t 25 && Nat.beq u 9 then some ⟨.v (.string ⟨l.toArray⟩),H,[],[⟨Nat,n,l.length⟩,⟨Ent,e,eB j l⟩]⟩ else none
     | none=>none
   | _=>none
 | _=>none
noncomputable def cvA (key:Nat) (l:Bytes):Pl Tryz.prog:=⟨key,cvF l,by
 intro o ev ro H b u h hob
 unfold cvF at h
 split at h
 · rename_i t u' x ho
   split at h
   · rename_i j n hx
     split at h
     · rename_i e hf
       rw [cond_some] at h
       obtain ⟨hc,h⟩:=h
       subst h
       rw [Bool.and_eq_true] at hc
       have e1:=Nat.eq_of_beq_eq_true hc.1
       have e2:=Nat.eq_of_beq_eq_true hc.2
       subst e1;subst e2
       have o1:n=l.length:=hob _ (List.mem_cons_self ..)
       have o2:e=eB j l:=hob _ (List.mem_cons_of_mem _ (List.mem_cons_self ..))
       subst o1
       refine ⟨fun {A κ a w w0 F0} hA hev hro hH ha hh=>?_,fun {A} hev hro hH=>⟨trivial,fun e he=>Ent.ok_mono (fun _ h=>.inl h) (hH e he)⟩,fun e he _=>he⟩
       have hsb:=sb_ent (j:=j) (l:=l) hh (by rw [← o2];exact (findK_mem hf).1)
       exact OpTo.run _ (exec_sb_conv x ho (.slice (κ j).a l.length (κ j).n) l (by rw [ha];simp only [hx];rfl) hsb) ⟨κ,AgR.refl _ _ _,rfl,hh⟩
     cases h
   cases h
 cases h⟩
/-! ### Numbers that were told -/
theorem lookG_int{m:Int}{es:List (Value × Value)}{p:Int}{v:Value}:∀ i,lookG (.int .i64 m) es i=none->lookG (.int .i64 m) (es++[(.int .i64 p,v)]) i=if m=p then some (i+es.length,v) else none:=by
 induction es with
 | nil =>
   intro i _
   by_cases h:m=p
   · subst h;simp [lookG,kSame]
   simp [lookG,kSame,h]
 | cons q r ih =>
   intro i hn
   unfold lookG at hn
   cases hk:kSame (.int .i64 m) q.1 with
   | true=>rw [hk] at hn;simp at hn
   | false =>
     rw [hk] at hn
     simp only [Bool.false_eq_true,if_false] at hn
     have h1:=ih (i+1) hn
     rw [List.cons_append]
     unfold lookG
     rw [hk]
     simp only [Bool.false_eq_true,if_false,h1,List.length_cons]
     split
     · congr 2;omega
     rfl
/-- Behind i rounds. -/
structure ShI(n:Nat) where
 i:Nat
 s:STab
 bx:List SSealed
 es:List (Value × Value)
 T:TS s (1+2*i) bx []
 lb:bx.length=i
 sm:s.sums.length<=i
 le:i<=n
 no:∀ m:Nat,2*i+1<m->lookG (.int .i64 (m:Int)) es 0=none
abbrev clSh(q:Int):Cl:={ Cl.new bANN with q:=q }
section
variable{s:STab}{K K2 Kn:Fin 16->UInt8}{now:Int}{nb n:Nat}{x:Int}{b:Bytes}
set_option maxRecDepth 100000
set_option maxHeartbeats 4000000
theorem showsCall_s(c:Cl)(us:Int){sid:Int}(hr:Room 9 s)(hsm:s.sums.length<=1000)(hq:0<=c.q/\c.q<=1000000)(hm:Nm2 bANN bBOB sid)(hnm:c.nm.size<=1000)(hnb:s.boxes.length=nb)(hb:packB (.authent c.nm now (c.q+1) K2 (mkB 100 (s.sumAt (wrV (callD bANN bBOB sid))+1)))=.inr b) :
   Spec Tryz.prog ⟨22,3,[.p 1 0,aI now,.c (aK K),aI us,.c (aK K2),.i 67 (.c [aS bANN,aS bBOB,aI sid])],[],[eT 0 s,.blk 1 51 (c.c 2)],.t [.o 3 16,aI 0],[eT 0 (shS s (wrV (callD bANN bBOB sid)) K us b),.blk 1 51 (c.shown.c 2),eB 3 (mkB 98 (nb+1))]⟩:=
 s1 [fA 1004 (w64 (x:=c.q+1) (by omega) (by omega)),cTb 2021 (sumCall_s hm hsm),cTb 2024 (sealAuth_s (K:=K) (us:=us) hb (n:=nb) (by rw [dig_boxes];exact hnb) (Room.digest (β:=wrV (callD bANN bBOB sid)) hr).ok (by omega) (by rw [mkB_len];decide))]
/-- What the law holds, round by round. -/
noncomputable def Jsh (now:Int) (n:Nat) (K:Fin 16->UInt8):Fm (ShI n):=⟨fun x=>[(0,aI now),(5,.p 0 0),(6,.p 1 0),(7,.p 3 0),(8,.m 4),(33,aI (n:Int)),(34,aI (x.i:Int))],fun x=>[eMo 4 (.int .i64) x.es,.blk 3 41 (aK K),.blk 2 162 st0,.blk 1 51 ((clSh (x.i:Int)).c 2),eT 0 x.s],5⟩
theorem uSm:Tryz.prog.underlying 65=some (.map 2 3):=by kernel_rfl
theorem uI6:Tryz.prog.underlying 2=some (.int .i64):=by kernel_rfl
theorem zIn(W:World):(zeroValue 3).run Tryz.prog W=.ok (.int .i64 0) W:=by kernel_rfl
end
end
section
open Go.RowKit Go.QT
section
variable{K:Fin 16->UInt8}{now tm:Int}{n:Nat}
theorem shows_a(h:now<0):Spec Tryz.prog ⟨4,0,[aI now,aI tm],[],[],aB true,[]⟩:=s1 [cA 1000 alive17_s [],fA 3001 (isT h)]
theorem shows_b(h:¬ now<0)(h2:549755813888<now):Spec Tryz.prog ⟨4,0,[aI now,aI tm],[],[],aB true,[]⟩:=s1 [cA 1000 alive17_s [],fA 3001 (isF h),fA 3004 (isT h2)]
abbrev bSh(i:Nat):Bytes:=wrV (callD bANN bBOB (i:Int))
/-- A round. -/
structure ShR(now:Int)(n:Nat)(K K2 Kn:Fin 16->UInt8)(x:ShI n)(b:Bytes)(s2:STab):Prop where
 k2:kl K2=mkB 107 (x.s.keys.length+1)
 a:Spec Tryz.prog ⟨22,3,[.p 1 0,aI now,.c (aK K),aI (x.i:Int),.c (aK K2),.i 67 (.c [aS bANN,aS bBOB,aI (x.i:Int)])],[],[eT 0 (x.s.add SFrom.fresh),.blk 1 51 ((clSh (x.i:Int)).c 2)],.t [.o 3 16,aI 0],[eT 0 s2,.blk 1 51 ((clSh (x.i:Int)).shown.c 2),eB 3 (mkB 98 (x.i+1))]⟩
 o:openTh s2 (kl K) (x.i:Int) (mkB 98 (x.i+1))=.inr (.authent bANN now ((x.i:Int)+1) K2 (mkB 100 (s2.sumAt (bSh x.i)+1)))
 nu:Spec Tryz.prog ⟨24,1,[tI],[],[eT 0 s2],aI ((2*x.i+3:Nat):Int),[eT 0 (s2.add SFrom.fresh)]⟩
 su:Spec Tryz.prog ⟨26,1,[tI,.i 67 (.c [aS bANN,aS bBOB,aI (x.i:Int)])],[],[eT 0 (s2.add SFrom.fresh)],.o 1 16,[eT 0 ((s2.add SFrom.fresh).digest (bSh x.i)),eB 1 (mkB 100 (s2.sumAt (bSh x.i)+1))]⟩
 ok:TabOk s2
 rm:x.s.keys.length<1000000
 T:TS ((s2.add SFrom.fresh).digest (bSh x.i)) (1+2*(x.i+1)) (x.bx++[⟨kl K,(x.i:Int),b⟩]) []
 sm:((s2.add SFrom.fresh).digest (bSh x.i)).sums.length<=x.i+1
theorem shR(hnow:0<=now/\now<=549755813888)(hn:n<=15)(x:ShI n)(hi:x.i<n):∃ K2 Kn b s2,ShR now n K K2 Kn x b s2:=by
 have T:=x.T
 have hkl:x.s.keys.length=1+2*x.i:=T.keys
 have hxn:=x.le
 obtain ⟨K2,h2⟩:=ex_key (x.s.keys.length+1)
 obtain ⟨Kn,h3⟩:=ex_key (2*x.i+3)
 have hm:Nm2 bANN bBOB (x.i:Int):=⟨⟨right_ann,by decide⟩,⟨right_bob,by decide⟩,inN_is (by omega) (by omega)⟩
 obtain ⟨b,q0⟩:=pack_authent (s:=bANN) (t:=now) (q:=(x.i:Int)+1) (K:=K2) (c:=mkB 100 ((x.s.add SFrom.fresh).sumAt (bSh x.i)+1)) (rightM_is right_ann (by intro z hz;simp only [List.mem_cons,List.not_mem_nil,or_false] at hz;apply inN_is <;> omega)) (by decide) (by rw [mkB_len];decide)
 have hlb:=x.lb
 have r9:Room 9 (x.s.add SFrom.fresh):=(T.add (f:=SFrom.fresh) rfl).room 9 (by omega) (by omega)
 have hsm:=x.sm
 have a:=showsCall_s (s:=x.s.add SFrom.fresh) (K:=K) (K2:=K2) (now:=now) (nb:=x.i) (b:=b) (clSh (x.i:Int)) (x.i:Int) r9 (by show x.s.sums.length<=1000;omega) (show (0:Int)<=(x.i:Int)/\(x.i:Int)<=1000000 by omega) hm (show (3:Nat)<=1000 by decide) ((congrArg List.length T.boxes).trans hlb) q0
 have T2:TS (shS (x.s.add SFrom.fresh) (bSh x.i) K (x.i:Int) b) (1+2*x.i+1) (x.bx++[⟨kl K,(x.i:Int),b⟩]) []:=((T.add (f:=SFrom.fresh) rfl).dig (bSh x.i)).seal rfl (pack_le6 q0)
 have hl2:(x.bx++[⟨kl K,(x.i:Int),b⟩]:List SSealed).length=x.i+1:=by rw [List.length_append,hlb,List.length_singleton]
 have hsk:SK (shS (x.s.add SFrom.fresh) (bSh x.i) K (x.i:Int) b) (bSh x.i) ((x.s.add SFrom.fresh).sumAt (bSh x.i)):=sk_new (s:=x.s.add SFrom.fresh) (β:=bSh x.i)
 have hs2:(shS (x.s.add SFrom.fresh) (bSh x.i) K (x.i:Int) b).sums.length<=x.i+1:=dig_len (s:=x.s.add SFrom.fresh) (β:=bSh x.i) (n:=x.i) hsm
 generalize hS:shS (x.s.add SFrom.fresh) (bSh x.i) K (x.i:Int) b=s2 at *
 have hsk3:SK (s2.add SFrom.fresh) (bSh x.i) ((x.s.add SFrom.fresh).sumAt (bSh x.i)):=hsk
 have T3:=T2.add (f:=SFrom.fresh) rfl
 have su:=sumCall_s (st:=s2.add SFrom.fresh) hm (by show s2.sums.length<=1000;omega)
 have nu:=number_s (s:=s2) (n:=2*x.i+3) (K:=Kn) (by rw [h3,T2.keys];congr 1;omega) (by rw [T2.keys];omega) (by omega)
 rw [show (s2.add SFrom.fresh).sumAt (wrV (callD bANN bBOB (x.i:Int)))=s2.sumAt (bSh x.i) from rfl] at su
 rw [← hsk.1] at q0
 refine ⟨K2,Kn,b,s2,h2,a,T2.opn (i:=x.i) (by rw [← hlb];exact gl rfl) q0 (by omega),nu,su,(T2.room 9 (by omega) (by rw [hl2];omega)).ok,by omega,?_,?_⟩
 · have:=T3.dig (bSh x.i)
   rw [show 1+2*(x.i+1)=1+2*x.i+1+1 from by omega];exact this
 rw [dig_old hsk3];exact hs2
/-- Behind the round. -/
def ShI.next{s2:STab}{b:Bytes}{K2 Kn:Fin 16->UInt8}(x:ShI n)(h:x.i<n)(R:ShR now n K K2 Kn x b s2):ShI n:=
 ⟨x.i+1,(s2.add SFrom.fresh).digest (bSh x.i),x.bx++[⟨kl K,(x.i:Int),b⟩],x.es++[(.int .i64 ((2*x.i+3:Nat):Int),.int .i64 1)],R.T,by rw [List.length_append,x.lb,List.length_singleton],R.sm,h,fun m hm=>by
   rw [lookG_int 0 (x.no m (by omega)),if_neg (by omega)]⟩
set_option maxRecDepth 100000
set_option maxHeartbeats 4000000
theorem shows_go(h0:¬ now<0)(h1:¬ 549755813888<now)(ht:Value.int .i64 (bits .and .i64 tm ((15:Nat):Int))=.int .i64 (n:Int))(hn:n<=15)(hK:kl K=mkB 107 1):Spec Tryz.prog ⟨4,0,[aI now,aI tm],[],[],aB true,[]⟩:=by
 refine sE (fun κ w=>?_)
 refine kL (C:=cx Tryz.prog ⟨4,0,[aI now,aI tm],[],[],aB true,[]⟩ κ w) [cA 1000 alive17_s [],fA 3001 (isF h0),fA 3004 (isF h1),cA 5000 sNew_s [],cA 6002 (loNew_s bANN STab.empty) [],cA 7001 (fresh_s (s:=STab.empty) hK (by decide)) [],mkA 8000 65 (.int .i64),fA 9001 ht] [] (Jsh now n K) (fun x=>n-x.i)
   ⟨0,STab.empty.add SFrom.fresh,[],[],TS.empty.add rfl,rfl,Nat.le_refl _,Nat.zero_le _,fun _ _=>rfl⟩ [] (fun Kp x y hKp=>?_) (fun x=>by kernel_rfl)
 refine kIf [] [] 35 ((x.i:Int)<(n:Int)) (fun hi=>?_) (fun _=>kEnd [])
 have hi:x.i<n:=by omega
 obtain ⟨K2,Kn,b,s2,R⟩:=shR (K:=K) (now:=now) ⟨by omega,by omega⟩ hn x hi
 have l1:=lookG_int (m:=((2*x.i+3:Nat):Int)) (es:=x.es) (p:=((2*x.i+3:Nat):Int)) (v:=.int .i64 1) 0 (x.no _ (by omega))
 rw [if_pos rfl] at l1
 have oa:=openAuth_s (K:=K) (us:=(x.i:Int)) R.o R.ok
 rw [mkB_len,mkB_len] at oa
 exact kK [cA 12001 (fresh_s (s:=x.s) R.k2 R.rm) [],cA 14007 R.a [],cA 15005 oa [],cA 16002 R.nu [],lkA 17002 65 2 3 (.int .i64) x.es (.int .i64 ((2*x.i+3:Nat):Int)) (.int .i64 0) (.int .i64 0) false uSm uI6 (.int _ _) zIn (by rw [x.no _ (by omega)]),insA 17004 65 2 3 (.int .i64) x.es (.int .i64 ((2*x.i+3:Nat):Int)) (.int .i64 1) uSm uI6 (.int _ _) (x.no _ (by omega)),
   fA 18015 (neI now),fA 18021 (w64 (x:=(x.i:Int)+1) (by omega) (by omega)),fA 18022 (neI ((x.i:Int)+1)),cA 18026 (loSeq_s (clSh (x.i:Int)).shown) [],fA 18029 (neI ((x.i:Int)+1)),snA 18035 41 _ (selfKey K2) kyG,cvA 18040 (mkB 100 (s2.sumAt (bSh x.i)+1)),cA 18045 R.su [],cvA 18046 (mkB 100 (s2.sumAt (bSh x.i)+1)),fA 18047 (neS ⟨(mkB 100 (s2.sumAt (bSh x.i)+1)).toArray⟩),
   lkA 18052 65 2 3 (.int .i64) (x.es++[(.int .i64 ((2*x.i+3:Nat):Int),.int .i64 1)]) (.int .i64 ((2*x.i+3:Nat):Int)) (.int .i64 0) (.int .i64 1) true uSm uI6 (.int _ _) zIn (by rw [l1]),fA 18057 (isF (show ¬ ((2*x.i+3:Nat):Int)<0 by omega)),fA 18061 (isF (show ¬ (1099511627776:Int)<=((2*x.i+3:Nat):Int) by omega)),fA 20000 (w64 (x:=(x.i:Int)+1) (by omega) (by omega))]
   (x.next hi R) (fun a w hin=>hKp (x.next hi R) a w (show n-(x.i+1)<n-x.i by omega) hin)
end
theorem loginShows_all(now tm:Int)(W:World):Calls Tryz.prog 4 #[.int .i64 now,.int .i64 tm] W (DPost W (.bool true)):=by
 by_cases h0:now<0
 · exact law_s (shows_a h0) W fun _=>rfl
 by_cases h1:549755813888<now
 · exact law_s (shows_b h0 h1) W fun _=>rfl
 obtain ⟨n,hn,hn1⟩:=and_mask tm 15 (by decide)
 obtain ⟨K,hK⟩:=ex_key 1
 exact law_s (shows_go h0 h1 (by rw [hn]) hn1 hK) W fun _=>rfl
end
section
open Go.ChangeShapes Go.WideShapes Go.ChangeAt Go.RowKit
theorem loginShows_lifted(os:Os)(started:os.Started)(H:Type)(enc:TypeId × Value->H) :
   ReturnsInHanded {} Tryz.checked os 4 .any (Rows.loginShowsSpec.pre6 enc Tryz.prog Tryz.f4 Rows.loginShowsRow.domain false) (Rows.loginShowsSpec.post enc Tryz.prog Tryz.f4 false true false false):=by
 refine returnsInHanded_of_change (C:=Tryz.checked) Tryz.own started (by kernel_rfl) Tryz.func4
   (ChangeSpec.witness6 (enc:=enc) (C:=Tryz.checked) false ⟨#[],#[.int .i64 0,.int .i64 0],[]⟩ 8 (by kernel_rfl) (by kernel_rfl) (by kernel_rfl) (by kernel_rfl)) ?_
 intro W base args ds gs before hval0 hW hcnd _
 have hval:∀ (j:Nat) t v,Tryz.f4.params[j]?=some t->args[j]?=some v->Value.okWide Tryz.prog W .any base t v:=hval0
 have hpost:∀ W',Below W.heap.size W W'->Rows.loginShowsSpec.post enc Tryz.prog Tryz.f4 false true false false W args (.bool true) W':=fun W' hb =>
   law_post Tryz.laidOut (by kernel_rfl) Tryz.underlying4 rfl rfl (fun ds hds=>by
     have hn:ds.length=2:=hds
     match ds,hn with
     | [_,_],_=>rfl) hW hb
 obtain ⟨p,q,hA0,hV,rfl,hfz,hnd⟩:=hW
 have hA:DataW.TrodAll enc Tryz.prog W 0 (fun _=>true) true Tryz.f4.params.toList args.toList ds p:=hA0
 rw [Tryz.params4] at hA hval
 clear hA0 hval0
 obtain ⟨v0,v1,d0,d1,p0,p1,rfl,rfl,rfl,h0,h1⟩:=trodAll_two hA
 obtain ⟨n0,rfl,rfl,rfl,hn0⟩:=open_int (t:=2) (k:=.i64) (by kernel_rfl) (hval 0 2 v0 rfl rfl) h0
 obtain ⟨n1,rfl,rfl,rfl,hn1⟩:=open_int (t:=3) (k:=.i64) (by kernel_rfl) (hval 1 3 v1 rfl rfl) h1
 refine (loginShows_all n0 n1 W).mono fun e W' ⟨he,hw⟩=>?_
 subst he
 exact ⟨_,rfl,hpost W' hw⟩
theorem loginShows_holds:Rows.LoginShowsSaid:=
 OpenClaim.holds_of_wide 4 Tryz.f4 rfl rfl rfl rfl rfl rfl rfl ⟨rfl,rfl,rfl,rfl,rfl⟩ rfl rfl rfl rfl rfl (by kernel_rfl) Tryz.func4 (by kernel_rfl)
   (of_decide_eq_true (by kernel_rfl)) (by unfold Func.isWrapper;first|(rw [if_pos (by decide +kernel)];kernel_rfl)|(rw [if_neg (by decide +kernel)];exact ⟨rfl,rfl⟩))
   (fun os started H enc _=>loginShows_lifted os started H enc)
end
end Go.Proofs.YtaoijkhndakppaaGreat
