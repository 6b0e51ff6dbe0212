/- Steps of a walk,with what is held in memory: over any program. What an operation yields without a look at the world is left to the kernel. -/
import Derived.Test.YtaoijkhndakppaaGreatRows
import Derived.WalkKit
import Derived.WalkSpells
import Derived.WalkLawsBesides
import Derived.Handy
import Derived.Lib.Hide
import Derived.Deep.Draws
import Derived.Laws.Rows
import Derived.Laws.Tables
import Derived.Laws.AppendOwn
import Derived.Deep.MidRow
import Derived.Laws.CopyRow
import Derived.BigQuiet
import Derived.Below
import Derived.Laws.OwnMore
import Derived.Deep.AppendLies
import Derived.Maps.AppendAt
import Derived.RegionTactic
import Derived.OwnWalk
import Derived.StillTail
import Derived.Deep.Quiet
import Derived.Deep.DeepCutAuto
import Derived.OrdersHeld
import Derived.Tactics
import Derived.Tactics2
import Derived.BigFrame
set_option maxRecDepth 100000
set_option maxHeartbeats 4000000
namespace Go.Proofs.YtaoijkhndakppaaGreat
section
abbrev Bytes:=List UInt8
/-- A byte as an index. -/
@[irreducible] def nb (a:UInt8):Nat:=a.toNat
/-- A byte of a row; 0 behind its end. -/
def gb(l:Bytes)(i:Nat):UInt8:=l.getD i 0
def dbl(b:UInt8):UInt8:=if 128<=b then (b <<< 1) ^^^ 27 else b <<< 1
def prodLoop:Nat->UInt8->UInt8->UInt8->UInt8
 | 0,_,_,p=>p
 | k+1,a,b,p=>if b=0 then p else prodLoop k (dbl a) (b >>> 1) (if b &&& 1=1 then p ^^^ a else p)
def prod(a b:UInt8):UInt8:=prodLoop 8 a b 0
/-- The keys: 176 bytes. The i-th byte of key n. -/
def keyByte(B:Bytes)(K was:Bytes)(r:UInt8)(n i:Nat):UInt8:=
 let x:=gb was i
 let x:=if 4<=i then x ^^^ gb K (16*n+(i-4)) else x ^^^ gb B (nb (gb was (12+(i+1)%4)))
 if i=0 then x ^^^ r else x
def keyRow(B K was:Bytes)(r:UInt8)(n:Nat):Nat->Bytes
 | 0=>K
 | i+1=>(keyRow B K was r n i).set (16*n+i) (keyByte B (keyRow B K was r n i) was r n i)
def keysTo(B k:Bytes):Nat->Bytes × UInt8
 | 0=>(k++List.replicate 160 0,1)
 | n+1=>(keyRow B (keysTo B k n).1 (((keysTo B k n).1.drop (16*n)).take 16) (keysTo B k n).2 (n+1) 16,dbl (keysTo B k n).2)
def keys(B k:Bytes):Bytes:=(keysTo B k 10).1
/-- The first i bytes of s, held against those of K from o on. -/
def addTo(s K:Bytes)(o:Nat):Nat->Bytes
 | 0=>s
 | i+1=>(addTo s K o i).set i (gb (addTo s K o i) i ^^^ gb K (o+i))
def subTo(B s:Bytes):Nat->Bytes
 | 0=>List.replicate 16 0
 | i+1=>(subTo B s i).set i (gb B (nb (gb s ((i+4*(i%4))%16))))
def mixCol(t:Bytes)(at_:Nat):Bytes:=
 let a:=gb t at_;let b:=gb t (at_+1);let c:=gb t (at_+2);let d:=gb t (at_+3)
 (((t.set at_ (prod a 2 ^^^ prod b 3 ^^^ c ^^^ d)).set (at_+1) (a ^^^ prod b 2 ^^^ prod c 3 ^^^ d)).set (at_+2) (a ^^^ b ^^^ prod c 2 ^^^ prod d 3)).set (at_+3) (prod a 3 ^^^ b ^^^ c ^^^ prod d 2)
def mixTo(t:Bytes):Nat->Bytes
 | 0=>t
 | i+1=>mixCol (mixTo t i) (4*i)
/-- s, whose first i bytes are t's, held against K from o on. -/
def putTo(s t K:Bytes)(o:Nat):Nat->Bytes
 | 0=>s
 | i+1=>(putTo s t K o i).set i (gb t i ^^^ gb K (o+i))
def roundsTo(B K b:Bytes):Nat->Bytes
 | 0=>addTo b K 0 16
 | n+1=>putTo (roundsTo B K b n) (if n+1<10 then mixTo (subTo B (roundsTo B K b n) 16) 4 else subTo B (roundsTo B K b n) 16) K (16*(n+1)) 16
def blk(B K b:Bytes):Bytes:=roundsTo B K b 10
end
section
/-- A fact kept from the walk. -/
structure Hd(p:Prop):Prop where
 out:p
/-- A byte as the walk's number. -/
@[irreducible] def ub (a:UInt8):Int:=(a.toNat:Int)
/-- A number as a byte. -/
def toB(x:Int):UInt8:=UInt8.ofNat x.toNat
@[simp] theorem u8_ub (a:UInt8):toB (ub a)=a:=by simp [toB,ub]
theorem nb_lt(a:UInt8):nb a<256:=by unfold nb;exact a.toNat_lt
@[simp] theorem ub_mod (a:UInt8):ub a % 256=ub a:=by have:=a.toNat_lt;unfold ub;omega
theorem ub_inj{a b:UInt8}:ub a=ub b↔a=b:=by
 constructor
 · intro h;have:=congrArg toB h;simpa using this
 rintro rfl;rfl
theorem ub_beq(a b:UInt8):(ub a == ub b)=(a == b):=by
 rw [Bool.eq_iff_iff];simp [ub_inj]
theorem ub_bv(a:UInt8):((a.toBitVec.toNat:Nat):Int)=ub a:=by unfold ub;rfl
theorem ofInt8(a:UInt8):BitVec.ofInt 8 (ub a)=a.toBitVec:=by
 unfold ub;rw [BitVec.ofInt_natCast];exact BitVec.eq_of_toNat_eq (by simp)
theorem bits_xor8(a b:UInt8):bits .xor .u8 (ub a) (ub b)=ub (a ^^^ b):=by
 show IntKind.u8.wrap ((BitVec.ofInt 8 (ub a) ^^^ BitVec.ofInt 8 (ub b)).toNat:Int)=_
 rw [ofInt8,ofInt8,IntKind.wrap_u8,← UInt8.toBitVec_xor,ub_bv,ub_mod]
theorem bits_or8(a b:UInt8):bits .or .u8 (ub a) (ub b)=ub (a ||| b):=by
 show IntKind.u8.wrap ((BitVec.ofInt 8 (ub a) ||| BitVec.ofInt 8 (ub b)).toNat:Int)=_
 rw [ofInt8,ofInt8,IntKind.wrap_u8,← UInt8.toBitVec_or,ub_bv,ub_mod]
theorem bits_and8(a b:UInt8):bits .and .u8 (ub a) (ub b)=ub (a &&& b):=by
 show IntKind.u8.wrap ((BitVec.ofInt 8 (ub a) &&& BitVec.ofInt 8 (ub b)).toNat:Int)=_
 rw [ofInt8,ofInt8,IntKind.wrap_u8,← UInt8.toBitVec_and,ub_bv,ub_mod]
end
section
open Go.RowKit
/-- Bytes as values. -/
def vb(l:Bytes):List Value:=l.map fun x=>Value.int .u8 (ub x)
@[simp] theorem vb_length (l:Bytes):(vb l).length=l.length:=by simp [vb]
@[simp] theorem vb_nil:vb []=[]:=rfl
@[simp] theorem vb_cons (a:UInt8) (l:Bytes):vb (a::l)=Value.int .u8 (ub a)::vb l:=rfl
theorem vb_append(l m:Bytes):vb (l++m)=vb l++vb m:=by simp [vb]
theorem vb_set(l:Bytes)(i:Nat)(v:UInt8):(vb l).set i (Value.int .u8 (ub v))=vb (l.set i v):=by
 simp [vb,List.map_set]
theorem vb_get(l:Bytes)(i:Nat)(h:i<l.length):(vb l)[i]?=some (.int .u8 (ub (gb l i))):=by
 simp [vb,gb,h]
/-- Block b is just the cells cs. -/
def Blk(w:World)(b:Nat)(T:TypeId)(cs:List Value):Prop:=w.heap[b]?=some (.cells cs.toArray T (0,0))
def Row(w:World)(b:Nat)(T:TypeId)(l:Bytes):Prop:=Blk w b T (vb l)
section
variable{w w':World}{b:Nat}{T:TypeId}{cs:List Value}{l:Bytes}
theorem Blk.lt(h:Blk w b T cs):b<w.heap.size:=by
 rcases Nat.lt_or_ge b w.heap.size with h' | h'
 · exact h'
 unfold Blk at h;rw [Array.getElem?_eq_none h'] at h;cases h
theorem Blk.cell(h:Blk w b T cs)(i:Nat):w.cell? ⟨b,i,none⟩=cs[i]?:=by
 rw [cell_of_row w b i _ T (0,0) h];simp
theorem Blk.frozen(h:Blk w b T cs)(i:Nat):w.frozen? ⟨b,i,none⟩=false:=by
 unfold Blk at h;simp [World.frozen?,h]
theorem Blk.new(w:World)(T:TypeId)(cs:List Value):Blk (w.alloc (.cells cs.toArray T)) w.heap.size T cs:=heap_alloc_new w _
theorem Blk.alloc(h:Blk w b T cs)(o:Obj):Blk (w.alloc o) b T cs:=(Below.heap_alloc w o b h.lt).trans h
theorem Blk.set(h:Blk w b T cs)(i:Nat)(u:Value):Blk (w.setCell ⟨b,i,none⟩ u) b T (cs.set i u):=by
 unfold Blk at h ⊢
 simp [World.setCell,Array.getElem?_modify,h]
theorem Blk.far(h:Blk w b T cs){p:Addr}(hp:b≠p.block)(u:Value):Blk (w.setCell p u) b T cs:=(Below.heap_setCell w p u b hp).trans h
theorem Blk.below{B:Nat}(h:Blk w b T cs)(hb:Below B w w')(hg:b<B):Blk w' b T cs:=(hb.block b hg).trans h
theorem Blk.grown{row:Option Nat}(h:Blk w b T cs)(hb:w.grownBy w' row)(hg:some b≠row):Blk w' b T cs:=(hb.block b h.lt hg).trans h
theorem Row.cell(h:Row w b T l){i:Nat}(hi:i<l.length):w.cell? ⟨b,i,none⟩=some (.int .u8 (ub (gb l i))):=by
 rw [Blk.cell h,vb_get l i hi]
theorem Row.lt(h:Row w b T l):b<w.heap.size:=Blk.lt h
theorem Row.drewN(h:Row w b T l)(n:Nat):Row (w.drewN n) b T l:=h
theorem Row.alloc(h:Row w b T l)(o:Obj):Row (w.alloc o) b T l:=Blk.alloc h o
theorem Row.far(h:Row w b T l){p:Addr}(hp:b≠p.block)(u:Value):Row (w.setCell p u) b T l:=Blk.far h hp u
theorem Row.below{B:Nat}(h:Row w b T l)(hb:Below B w w')(hg:b<B):Row w' b T l:=Blk.below h hb hg
theorem Row.grown'{row:Option Nat}(h:Row w b T l)(hb:w.grownBy w' row)(hg:some b≠row):Row w' b T l:=Blk.grown h hb hg
theorem Row.new(w:World)(T:TypeId)(l:Bytes):Row (w.alloc (.cells (vb l).toArray T)) w.heap.size T l:=heap_alloc_new w _
theorem below_drewN{B:Nat}{a w:World}(h:Below B a w)(n:Nat):Below B a (w.drewN n):=⟨h.os,h.tape,h.output,h.size,h.block⟩
end
theorem Blk.setRow{w:World}{b:Nat}{T:TypeId}{cs:List Value}(h:Blk w b T cs)(ds:List Value):Blk (w.setRow b ds.toArray) b T ds:=setRow_heap w b _ _ T _ h
theorem vb_zeros(n:Nat):vb (List.replicate n 0)=List.replicate n (.int .u8 0):=by
 have:ub 0=0:=by unfold ub;rfl
 simp [vb,this]
theorem new2(w:World)(X:Obj)(T:TypeId)(cs:Array Value):((w.alloc X).alloc (.cells cs T)).heap[w.heap.size+1]?=some (.cells cs T (0,0)):=by
 have:=heap_alloc_new (w.alloc X) (.cells cs T);simpa using this
theorem only_refl(a:World)(row:Option Nat):a.grownBy a row:=⟨rfl,rfl,rfl,Nat.le_refl _,fun _ _ _=>rfl⟩
theorem only_setCell{a w:World}{g:Nat}(h:a.grownBy w (some g)){p:Addr}(hp:p.block=g∨a.heap.size<=p.block)(u:Value):a.grownBy (w.setCell p u) (some g):=
 ⟨h.os,h.tape,h.output,by simpa [World.setCell] using h.size,fun i hi hne=>(Below.heap_setCell w p u i (by
   rintro rfl
   rcases hp with hp|hp
   · exact hne (by rw [hp])
   omega)).trans (h.block i hi hne)⟩
end
section
open Go.RowKit
/-- What is not in F is as it was. -/
structure Fr(F:Nat->Prop)(w w':World):Prop where
 os:w'.os=w.os
 tape:w'.tape=w.tape
 output:w'.output=w.output
 size:w.heap.size<=w'.heap.size
 block:∀ k,k<w.heap.size->¬ F k->w'.heap[k]?=w.heap[k]?
section
variable{F G:Nat->Prop}{w w' w'':World}
theorem Fr.refl(F:Nat->Prop)(w:World):Fr F w w:=⟨rfl,rfl,rfl,Nat.le_refl _,fun _ _ _=>rfl⟩
theorem Fr.trans(h:Fr F w w')(k:Fr G w' w'')(hg:∀ i,G i->F i∨w.heap.size<=i):Fr F w w'':=
 ⟨k.os.trans h.os,k.tape.trans h.tape,k.output.trans h.output,Nat.le_trans h.size k.size,fun i hi hF =>
   (k.block i (Nat.lt_of_lt_of_le hi h.size) (fun hG=>by rcases hg i hG with h1|h1;exact hF h1;omega)).trans (h.block i hi hF)⟩
theorem Fr.of_below(F:Nat->Prop)(h:Below w.heap.size w w'):Fr F w w':=⟨h.os,h.tape,h.output,h.size,fun i hi _=>h.block i hi⟩
theorem Fr.of_grown{row:Option Nat}(h:w.grownBy w' row)(hr:∀ k,row=some k->F k∨w.heap.size<=k):Fr F w w':=
 ⟨h.os,h.tape,h.output,h.size,fun i hi hF=>h.block i hi (fun e=>by rcases hr i e.symm with h1|h1;exact hF h1;omega)⟩
theorem Fr.below{B:Nat}(h:Fr F w w')(hF:∀ i,F i->B<=i)(hB:B<=w.heap.size):Below B w w':=
 ⟨h.os,h.tape,h.output,h.size,fun i hi=>h.block i (by omega) (fun hh=>by have:=hF i hh;omega)⟩
theorem Fr.then_below(h:Fr F w w')(hb:Below w'.heap.size w' w''):Fr F w w'':=
 h.trans (Fr.of_below (fun _=>False) hb) (fun _ hh=>hh.elim)
theorem Fr.then_grown{row:Option Nat}(h:Fr F w w')(hg:w'.grownBy w'' row)(hr:∀ k,row=some k->F k∨w.heap.size<=k):Fr F w w'':=
 h.trans (G:=fun k=>row=some k) (Fr.of_grown hg (fun _k hk=>.inl hk)) (fun i hi=>hr i hi)
theorem Fr.drewN(h:Fr F w w')(n:Nat):Fr F w (w'.drewN n):=⟨h.os,h.tape,h.output,h.size,h.block⟩
end
end
section
open Go.RowKit
/-- A thing in memory: its blocks, and what is true of it. -/
structure Res where
 F:Nat->Prop
 Φ:World->Prop
 lt:∀ {w:World},Φ w->∀ q,F q->q<w.heap.size
 keep:∀ {w w':World},Φ w->w.heap.size<=w'.heap.size->(∀ q,F q->w'.heap[q]?=w.heap[q]?)->Φ w'
 /-- Those of its blocks that may be turned; the others are shared. -/
 W:Nat->Prop:=F
 hW:∀ q,W q->F q:=by exact fun _ h=>h
def Res.dj(r s:Res):Prop:=∀ q,r.F q->¬ s.F q
theorem Res.dj.symm{r s:Res}(h:r.dj s):s.dj r:=fun q h1 h2=>h q h2 h1
/-- rs: what may be turned; ro: what is only read. -/
structure Hp(F0:Nat->Prop)(w0 w:World)(ro rs:List Res):Prop where
 fr:Fr F0 w0 w
 own:∀ (i:Nat) (r:Res),rs[i]?=some r->r.Φ w
 mine:∀ (i:Nat) (r:Res),rs[i]?=some r->∀ q,r.F q->F0 q∨w0.heap.size<=q
 dis:∀ (i j:Nat) (r s:Res),rs[i]?=some r->rs[j]?=some s->i≠j->r.dj s
 red:∀ (i:Nat) (r:Res),ro[i]?=some r->r.Φ w
 rdis:∀ (i j:Nat) (r s:Res),ro[i]?=some r->rs[j]?=some s->r.dj s
section
variable{F0:Nat->Prop}{w0 w w':World}{ro rs:List Res}
theorem Hp.nil(F0:Nat->Prop)(w:World):Hp F0 w w [] []:=⟨Fr.refl _ _,by simp,by simp,by simp,by simp,by simp⟩
theorem Hp.at_(h:Hp F0 w0 w ro rs)(i:Nat){r:Res}(hi:rs[i]?=some r):r.Φ w:=h.own i r hi
theorem Hp.rd(h:Hp F0 w0 w ro rs)(i:Nat){r:Res}(hi:ro[i]?=some r):r.Φ w:=h.red i r hi
/-- New blocks change nothing. -/
theorem Hp.below(h:Hp F0 w0 w ro rs)(hb:Below w.heap.size w w'):Hp F0 w0 w' ro rs where
 fr:=h.fr.then_below hb
 own:=fun i r hi=>r.keep (h.own i r hi) hb.size fun q hq=>hb.block q (r.lt (h.own i r hi) q hq)
 mine:=h.mine
 dis:=h.dis
 red:=fun i r hi=>r.keep (h.red i r hi) hb.size fun q hq=>hb.block q (r.lt (h.red i r hi) q hq)
 rdis:=h.rdis
theorem Hp.drewN(h:Hp F0 w0 w ro rs)(n:Nat):Hp F0 w0 (w.drewN n) ro rs:=h.below (below_drewN (Below.refl _ _) n)
/-- A new thing that may be turned. -/
theorem Hp.newS(h:Hp F0 w0 w ro rs)(hb:Below w.heap.size w w')(r:Res)(hr:r.Φ w')(hF:∀ q,r.F q->w.heap.size<=q):Hp F0 w0 w' ro (r::rs) where
 fr:=h.fr.then_below hb
 own:=fun i s hi=>by
   cases i with
   | zero=>injection hi with hi;subst hi;exact hr
   | succ i=>exact (h.below hb).own i s hi
 mine:=fun i s hi q hq=>by
   cases i with
   | zero=>injection hi with hi;subst hi;exact .inr (Nat.le_trans h.fr.size (hF q hq))
   | succ i=>exact h.mine i s hi q hq
 dis:=fun i j a b hi hj hne=>by
   cases i with
   | zero =>
     cases j with
     | zero=>exact absurd rfl hne
     | succ j =>
       injection hi with hi;subst hi
       exact fun q h1 h2=>absurd (b.lt (h.own j b hj) q h2) (Nat.not_lt.2 (hF q h1))
   | succ i =>
     cases j with
     | zero =>
       injection hj with hj;subst hj
       exact fun q h1 h2=>absurd (a.lt (h.own i a hi) q h1) (Nat.not_lt.2 (hF q h2))
     | succ j=>exact h.dis i j a b hi hj (fun e=>hne (by rw [e]))
 red:=(h.below hb).red
 rdis:=fun i j a b hi hj=>by
   cases j with
   | zero =>
     injection hj with hj;subst hj
     exact fun q h1 h2=>absurd (a.lt (h.red i a hi) q h1) (Nat.not_lt.2 (hF q h2))
   | succ j=>exact h.rdis i j a b hi hj
/-- A new thing that is only read. -/
theorem Hp.newR(h:Hp F0 w0 w ro rs)(hb:Below w.heap.size w w')(r:Res)(hr:r.Φ w')(hF:∀ q,r.F q->w.heap.size<=q):Hp F0 w0 w' (r::ro) rs where
 fr:=h.fr.then_below hb
 own:=(h.below hb).own
 mine:=h.mine
 dis:=h.dis
 red:=fun i s hi=>by
   cases i with
   | zero=>injection hi with hi;subst hi;exact hr
   | succ i=>exact (h.below hb).red i s hi
 rdis:=fun i j a b hi hj=>by
   cases i with
   | zero =>
     injection hi with hi;subst hi
     exact fun q h1 h2=>absurd (b.lt (h.own j b hj) q h2) (Nat.not_lt.2 (hF q h1))
   | succ i=>exact h.rdis i j a b hi hj
/-- Something that is read, and has no block that may be turned. -/
theorem Hp.addR(h:Hp F0 w0 w ro rs)(r:Res)(hr:r.Φ w)(hd:∀ (j:Nat) (s:Res),rs[j]?=some s->r.dj s):Hp F0 w0 w (r::ro) rs where
 fr:=h.fr
 own:=h.own
 mine:=h.mine
 dis:=h.dis
 red:=fun i s hi=>by
   cases i with
   | zero=>injection hi with hi;subst hi;exact hr
   | succ i=>exact h.red i s hi
 rdis:=fun i j a b hi hj=>by
   cases i with
   | zero=>injection hi with hi;subst hi;exact hd j b hj
   | succ i=>exact h.rdis i j a b hi hj
/-- A part of what is read. -/
theorem Hp.sub(h:Hp F0 w0 w ro rs)(i:Nat){s:Res}(hi:ro[i]?=some s)(r:Res)(hr:r.Φ w)(hF:∀ q,r.F q->s.F q):Hp F0 w0 w (r::ro) rs:=
 h.addR r hr fun j t ht q h1 h2=>h.rdis i j s t hi ht q (hF q h1) h2
/-- Something that may be turned, at first. -/
theorem Hp.addS(h:Hp F0 w0 w ro rs)(r:Res)(hr:r.Φ w)(hm:∀ q,r.F q->F0 q∨w0.heap.size<=q)(hd:∀ (j:Nat) (s:Res),rs[j]?=some s->r.dj s)(hd2:∀ (j:Nat) (s:Res),ro[j]?=some s->r.dj s):Hp F0 w0 w ro (r::rs) where
 fr:=h.fr
 own:=fun i s hi=>by
   cases i with
   | zero=>injection hi with hi;subst hi;exact hr
   | succ i=>exact h.own i s hi
 mine:=fun i s hi=>by
   cases i with
   | zero=>injection hi with hi;subst hi;exact hm
   | succ i=>exact h.mine i s hi
 dis:=fun i j a b hi hj hne=>by
   cases i with
   | zero =>
     cases j with
     | zero=>exact absurd rfl hne
     | succ j=>injection hi with hi;subst hi;exact hd j b hj
   | succ i =>
     cases j with
     | zero=>injection hj with hj;subst hj;exact (hd i a hi).symm
     | succ j=>exact h.dis i j a b hi hj (fun e=>hne (by rw [e]))
 red:=h.red
 rdis:=fun i j a b hi hj=>by
   cases j with
   | zero=>injection hj with hj;subst hj;exact (hd2 i a hi).symm
   | succ j=>exact h.rdis i j a b hi hj
/-- One thing is turned. -/
theorem Hp.upd(h:Hp F0 w0 w ro rs)(i:Nat){r:Res}(hi:rs[i]?=some r)(hf:Fr r.F w w')(r':Res)(hr:r'.Φ w')(hF:∀ q,r'.F q->r.F q∨w.heap.size<=q):Hp F0 w0 w' ro (rs.set i r'):=by
 have hil:i<rs.length:=(List.getElem?_eq_some_iff.1 hi).1
 have key:∀ (j:Nat) (s:Res),(rs.set i r')[j]?=some s->(j=i/\s=r')∨(j≠i/\rs[j]?=some s):=by
   intro j s hj
   by_cases e:j=i
   · subst e;left;rw [List.getElem?_set_self hil] at hj;exact ⟨rfl,by injection hj with hj;exact hj.symm⟩
   right;rw [List.getElem?_set_ne (Ne.symm e)] at hj;exact ⟨e,hj⟩
 have keepS:∀ (j:Nat) (s:Res),rs[j]?=some s->j≠i->s.Φ w':=fun j s hj hne =>
   s.keep (h.own j s hj) hf.size fun q hq=>hf.block q (s.lt (h.own j s hj) q hq) (h.dis j i s r hj hi hne q hq)
 refine ⟨h.fr.trans hf (fun q hq=>h.mine i r hi q hq),?_,?_,?_,?_,?_⟩
 · intro j s hj
   rcases key j s hj with ⟨_,rfl⟩|⟨hne,hj⟩
   · exact hr
   exact keepS j s hj hne
 · intro j s hj q hq
   rcases key j s hj with ⟨_,rfl⟩|⟨hne,hj⟩
   · rcases hF q hq with h1|h1
     · exact h.mine i r hi q h1
     exact .inr (Nat.le_trans h.fr.size h1)
   exact h.mine j s hj q hq
 · intro j k a b hj hk hne
   have two:∀ (m:Nat) (c:Res),rs[m]?=some c->m≠i->r'.dj c:=fun m c hm hmi q h1 h2=>by
     rcases hF q h1 with h3|h3
     · exact h.dis i m r c hi hm (Ne.symm hmi) q h3 h2
     exact absurd (c.lt (h.own m c hm) q h2) (Nat.not_lt.2 h3)
   rcases key j a hj with ⟨e1,ea⟩|⟨h1,hj1⟩
   · rcases key k b hk with ⟨e2,_⟩|⟨h2,hk1⟩
     · exact absurd (e1.trans e2.symm) hne
     rw [ea];exact two k b hk1 h2
   rcases key k b hk with ⟨e2,eb⟩|⟨h2,hk1⟩
   · rw [eb];exact (two j a hj1 h1).symm
   exact h.dis j k a b hj1 hk1 hne
 · intro j s hj
   exact s.keep (h.red j s hj) hf.size fun q hq=>hf.block q (s.lt (h.red j s hj) q hq) (h.rdis j i s r hj hi q hq)
 intro j k a b hj hk
 rcases key k b hk with ⟨_,rfl⟩|⟨_,hk⟩
 · intro q h1 h2
   rcases hF q h2 with h3|h3
   · exact h.rdis j i a r hj hi q h1 h3
   exact absurd (a.lt (h.red j a hj) q h1) (Nat.not_lt.2 h3)
 exact h.rdis j k a b hj hk
/-- One thing is forgotten. -/
theorem get_erase{l:List Res}{i j:Nat}{s:Res}(h:(l.eraseIdx i)[j]?=some s):∃ k,l[k]?=some s/\k≠i/\(k=if j<i then j else j+1):=by
 rw [List.getElem?_eraseIdx] at h
 split at h
 · rename_i hlt;exact ⟨j,h,by omega,by rw [if_pos hlt]⟩
 rename_i hge;exact ⟨j+1,h,by omega,by rw [if_neg hge]⟩
theorem Hp.drop(h:Hp F0 w0 w ro rs)(i:Nat):Hp F0 w0 w ro (rs.eraseIdx i) where
 fr:=h.fr
 own:=fun j s hj=>by obtain ⟨k,hk,_⟩:=get_erase hj;exact h.own k s hk
 mine:=fun j s hj=>by obtain ⟨k,hk,_⟩:=get_erase hj;exact h.mine k s hk
 dis:=fun j k a b hj hk hne=>by
   obtain ⟨j',hj',_,e1⟩:=get_erase hj
   obtain ⟨k',hk',_,e2⟩:=get_erase hk
   refine h.dis j' k' a b hj' hk' ?_
   rw [e1,e2];split <;> split <;> omega
 red:=h.red
 rdis:=fun j k a b hj hk=>by obtain ⟨k',hk',_⟩:=get_erase hk;exact h.rdis j k' a b hj hk'
theorem Hp.below0(h:Hp (fun _=>False) w0 w ro rs):Below w0.heap.size w0 w:=h.fr.below (fun _ hf=>hf.elim) (Nat.le_refl _)
theorem Hp.ro1(r:Res){w:World}(hr:r.Φ w):Hp (fun _=>False) w w [r] []:=(Hp.nil _ w).addR r hr (by simp)
/-- One thing alone. -/
theorem Hp.one(r:Res){w:World}(hr:r.Φ w):Hp r.F w w [] [r]:=
 (Hp.nil r.F w).addS r hr (fun q hq=>.inl hq) (by simp) (by simp)
/-- What a call leaves, that was given the thing at i. -/
theorem Hp.call1{rs':List Res}(h:Hp F0 w0 w ro rs)(i:Nat){r:Res}(hi:rs[i]?=some r)(hc:Hp r.F w w' [] rs'):Hp F0 w0 w' ro (rs'++rs.eraseIdx i):=by
 have hrs:∀ (j:Nat) (s:Res),(rs'++rs.eraseIdx i)[j]?=some s->(j<rs'.length/\rs'[j]?=some s)∨(∃ k,j=rs'.length+k/\(rs.eraseIdx i)[k]?=some s):=by
   intro j s hj
   by_cases hlt:j<rs'.length
   · left;exact ⟨hlt,by rwa [List.getElem?_append_left hlt] at hj⟩
   right;exact ⟨j-rs'.length,by omega,by rwa [List.getElem?_append_right (by omega)] at hj⟩
 have keepS:∀ (s:Res) (k:Nat),rs[k]?=some s->k≠i->s.Φ w':=fun s k hk hne =>
   s.keep (h.own k s hk) hc.fr.size fun q hq=>hc.fr.block q (s.lt (h.own k s hk) q hq) (h.dis k i s r hk hi hne q hq)
 have new:∀ (j:Nat) (s:Res),rs'[j]?=some s->∀ q,s.F q->r.F q∨w.heap.size<=q:=hc.mine
 have cross:∀ (j:Nat) (s:Res) (k:Nat) (t:Res),rs'[j]?=some s->rs[k]?=some t->k≠i->s.dj t:=fun j s k t hj hk hne q h1 h2=>by
   rcases new j s hj q h1 with h3|h3
   · exact h.dis i k r t hi hk (Ne.symm hne) q h3 h2
   exact absurd (t.lt (h.own k t hk) q h2) (Nat.not_lt.2 h3)
 refine ⟨h.fr.trans hc.fr (fun q hq=>h.mine i r hi q hq),?_,?_,?_,?_,?_⟩
 · intro j s hj
   rcases hrs j s hj with ⟨_,hj⟩|⟨k,_,hk⟩
   · exact hc.own j s hj
   obtain ⟨k',hk',hne,_⟩:=get_erase hk;exact keepS s k' hk' hne
 · intro j s hj q hq
   rcases hrs j s hj with ⟨_,hj⟩|⟨k,_,hk⟩
   · rcases new j s hj q hq with h3|h3
     · exact h.mine i r hi q h3
     exact .inr (Nat.le_trans h.fr.size h3)
   obtain ⟨k',hk',hne,_⟩:=get_erase hk;exact h.mine k' s hk' q hq
 · intro j k a b hj hk hne
   rcases hrs j a hj with ⟨_,hj'⟩|⟨j2,ej,hj'⟩
   · rcases hrs k b hk with ⟨_,hk'⟩|⟨k2,ek,hk'⟩
     · exact hc.dis j k a b hj' hk' hne
     obtain ⟨k3,hk3,hne3,_⟩:=get_erase hk';exact cross j a k3 b hj' hk3 hne3
   obtain ⟨j3,hj3,hnej,e1⟩:=get_erase hj'
   rcases hrs k b hk with ⟨_,hk'⟩|⟨k2,ek,hk'⟩
   · exact (cross k b j3 a hk' hj3 hnej).symm
   obtain ⟨k3,hk3,hne3,e2⟩:=get_erase hk'
   refine h.dis j3 k3 a b hj3 hk3 ?_
   rw [e1,e2];split <;> split <;> omega
 · intro j s hj
   exact s.keep (h.red j s hj) hc.fr.size fun q hq=>hc.fr.block q (s.lt (h.red j s hj) q hq) (h.rdis j i s r hj hi q hq)
 intro j k a b hj hk
 rcases hrs k b hk with ⟨_,hk'⟩|⟨k2,ek,hk'⟩
 · intro q h1 h2
   rcases new k b hk' q h2 with h3|h3
   · exact h.rdis j i a r hj hi q h1 h3
   exact absurd (a.lt (h.red j a hj) q h1) (Nat.not_lt.2 h3)
 obtain ⟨k3,hk3,_⟩:=get_erase hk';exact h.rdis j k3 a b hj hk3
/-- What a call leaves that was given nothing to turn. -/
theorem Hp.call0{rs':List Res}(h:Hp F0 w0 w ro rs)(hc:Hp (fun _=>False) w w' [] rs'):Hp F0 w0 w' ro (rs'++rs):=by
 have hb:Below w.heap.size w w':=hc.fr.below (fun _ hf=>hf.elim) (Nat.le_refl _)
 have h1:=h.below hb
 have new:∀ (j:Nat) (s:Res),rs'[j]?=some s->∀ q,s.F q->w.heap.size<=q:=fun j s hj q hq=>(hc.mine j s hj q hq).elim (fun hf=>hf.elim) id
 have hrs:∀ (j:Nat) (s:Res),(rs'++rs)[j]?=some s->(j<rs'.length/\rs'[j]?=some s)∨(rs'.length<=j/\rs[j-rs'.length]?=some s):=by
   intro j s hj
   by_cases hlt:j<rs'.length
   · left;exact ⟨hlt,by rwa [List.getElem?_append_left hlt] at hj⟩
   right;exact ⟨by omega,by rwa [List.getElem?_append_right (by omega)] at hj⟩
 have cross:∀ (j:Nat) (s:Res) (k:Nat) (t:Res),rs'[j]?=some s->rs[k]?=some t->s.dj t:=fun j s k t hj hk q h2 h3 =>
   absurd (t.lt (h.own k t hk) q h3) (Nat.not_lt.2 (new j s hj q h2))
 refine ⟨h1.fr,?_,?_,?_,h1.red,?_⟩
 · intro j s hj
   rcases hrs j s hj with ⟨_,hj⟩|⟨_,hj⟩
   · exact hc.own j s hj
   exact h1.own _ s hj
 · intro j s hj q hq
   rcases hrs j s hj with ⟨_,hj⟩|⟨_,hj⟩
   · exact .inr (Nat.le_trans h.fr.size (new j s hj q hq))
   exact h.mine _ s hj q hq
 · intro j k a b hj hk hne
   rcases hrs j a hj with ⟨_,hj'⟩|⟨ej,hj'⟩
   · rcases hrs k b hk with ⟨_,hk'⟩|⟨ek,hk'⟩
     · exact hc.dis j k a b hj' hk' hne
     exact cross j a _ b hj' hk'
   rcases hrs k b hk with ⟨_,hk'⟩|⟨ek,hk'⟩
   · exact (cross k b _ a hk' hj').symm
   exact h.dis _ _ a b hj' hk' (by omega)
 intro j k a b hj hk
 rcases hrs k b hk with ⟨_,hk'⟩|⟨ek,hk'⟩
 · exact fun q h2 h3=>absurd (a.lt (h.red j a hj) q h2) (Nat.not_lt.2 (new k b hk' q h3))
 exact h.rdis j _ a b hj hk'
/-- Two things held as one, and a thing held as two. -/
theorem Hp.join(h:Hp F0 w0 w ro rs)(i j:Nat){r s:Res}(hi:rs[i]?=some r)(hj:rs[j]?=some s)(hij:i<j)(t:Res)(ht:t.Φ w)(hF:∀ q,t.F q->r.F q∨s.F q) :
   Hp F0 w0 w ro (t::(rs.eraseIdx j).eraseIdx i):=by
 refine ((h.drop j).drop i).addS t ht (fun q hq=>?_) (fun k u hk=>?_) (fun k u hk q h1 h2=>?_)
 · rcases hF q hq with h1|h1
   · exact h.mine i r hi q h1
   exact h.mine j s hj q h1
 · obtain ⟨k1,hk1,hne1,e1⟩:=get_erase hk
   obtain ⟨k2,hk2,hne2,e2⟩:=get_erase hk1
   intro q h1 h2
   rcases hF q h1 with h3|h3
   · refine h.dis i k2 r u hi hk2 ?_ q h3 h2
     rw [e2];split <;> omega
   exact h.dis j k2 s u hj hk2 (Ne.symm hne2) q h3 h2
 rcases hF q h1 with h3|h3
 · exact h.rdis k i u r hk hi q h2 h3
 exact h.rdis k j u s hk hj q h2 h3
/-- Only some of the things, in another order. -/
theorem Hp.sel(h:Hp F0 w0 w ro rs)(is js:List Nat){ro' rs':List Res}(hnd:decide is.Nodup=true)(h1:js.filterMap (ro[·]?)=ro')(h2:is.map (rs[·]?)=rs'.map some):Hp F0 w0 w ro' rs':=by
 have hnd:=of_decide_eq_true hnd
 have key:∀ (i:Nat) (r:Res),rs'[i]?=some r->∃ k:Nat,is[i]?=some k/\rs[k]?=some r:=by
   intro i r hi
   have h3:(rs'.map some)[i]?=some (some r):=by rw [List.getElem?_map,hi];rfl
   rw [← h2,List.getElem?_map] at h3
   cases hk:is[i]? with
   | none=>rw [hk] at h3;cases h3
   | some k=>rw [hk] at h3;injection h3 with h3;exact ⟨k,rfl,h3⟩
 have keyR:∀ (i:Nat) (r:Res),ro'[i]?=some r->∃ k:Nat,ro[k]?=some r:=by
   intro i r hi
   subst h1
   have hm:=List.mem_of_getElem? hi
   rw [List.mem_filterMap] at hm
   obtain ⟨k,_,hk⟩:=hm
   exact ⟨k,hk⟩
 refine ⟨h.fr,?_,?_,?_,?_,?_⟩
 · intro i r hi;obtain ⟨k,_,hk⟩:=key i r hi;exact h.own k r hk
 · intro i r hi;obtain ⟨k,_,hk⟩:=key i r hi;exact h.mine k r hk
 · intro i j r s hi hj hij
   obtain ⟨k,hk1,hk⟩:=key i r hi
   obtain ⟨m,hm1,hm⟩:=key j s hj
   refine h.dis k m r s hk hm ?_
   rintro rfl
   have h3:=List.getElem?_eq_some_iff.1 hk1
   obtain ⟨h3,h4⟩:=h3
   exact hij ((List.getElem?_inj h3 hnd).1 (by rw [hk1,hm1]))
 · intro i r hi;obtain ⟨k,hk⟩:=keyR i r hi;exact h.red k r hk
 intro i j r s hi hj;obtain ⟨k,hk⟩:=keyR i r hi;obtain ⟨m,_,hm⟩:=key j s hj;exact h.rdis k m r s hk hm
theorem Hp.weaken(h:Hp F0 w0 w ro rs){F:Nat->Prop}(hF:∀ q,F0 q->F q):Hp F w0 w ro rs:=
 { h with
   fr:=⟨h.fr.os,h.fr.tape,h.fr.output,h.fr.size,fun k hk hn=>h.fr.block k hk (fun h0=>hn (hF k h0))⟩
   mine:=fun i r hi q hq=>(h.mine i r hi q hq).imp_left (hF q) }
end
end
section
open Go.RowKit
section
variable{P:Program}{ops:Array Oper}{rest:List Oper}{o:Oper}{a:Act}{w:World}{Q:Exit->Act->World->Prop}
theorem Blk.range{b:Nat}{T:TypeId}{cs ds:List Value}{k:Nat}(h:Blk w b T cs)(hd:∀ j v,ds[j]?=some v->cs[k+j]?=some v):w.rangeAt b k ds:=fun j v hj=>by
 rw [Blk.cell h];exact hd j v hj
theorem slice_get(cs:List Value)(k n:Nat):∀ j v,((cs.drop k).take n)[j]?=some v->cs[k+j]?=some v:=fun j v h=>by
 rw [List.getElem?_take] at h
 split at h
 · rwa [List.getElem?_drop] at h
 cases h
/-- A load of a row out of a block. -/
theorem wl_load(hgd:o.guard=none)(ty:TypeId)(x:Operand)(ho:o.op=.load ty x)
   (b k:Nat) (hx:a.eval x=.pointer (some ⟨b,k,none⟩)) (T:TypeId) (cs ds:List Value) (d:TypeDesc) (hb:Blk w b T cs) (hd:∀ j v,ds[j]?=some v->cs[k+j]?=some v)
   (hu:P.underlying ty=some d) (hr:d.isRow=true) (hi:(P.info? ty).map (·.size)=some ds.length)
   (h:wpList P ops Q rest (a.put o.dst (.agg ds.toArray)) w):wpList P ops Q (o::rest) a w:=
 wpList_load_mid hgd ty x ho b k hx ds d (hb.range hd) hu hr hi h
theorem run_storeVar_blk(b k:Nat)(T:TypeId)(cs vs:List Value)(ty:TypeId)(hb:Blk w b T cs)(hk:k+vs.length<=cs.length)(hi:(P.info? ty).map (·.size)=some vs.length)(h1:∀ v ∈ vs,v.oneCell'=true) :
   (storeVar ty ⟨b,k,none⟩ (.agg vs.toArray)).run P w=.ok () (w.setRow b (cs.take k++vs++cs.drop (k+vs.length)).toArray):=by
 have:=run_storeCells_at (P:=P) b k T vs 0 cs.toArray w hb (by simpa using hk) h1
 simp only [Nat.add_zero] at this
 cases hq:P.info? ty with
 | none=>simp [hq] at hi
 | some i =>
   have hs:vs.length=i.size:=by simp [hq] at hi;omega
   simp [storeVar,sizeOf,typeInfo,hq,Value.cells,hs,this]
/-- A store of a row into a block. -/
theorem wl_store(hgd:o.guard=none)(ty:TypeId)(x y:Operand)(ho:o.op=.store ty x y)
   (b k:Nat) (vs:List Value) (hx:a.eval x=.pointer (some ⟨b,k,none⟩)) (hy:a.eval y=.agg vs.toArray) (T:TypeId) (cs:List Value) (hb:Blk w b T cs) (hk:k+vs.length<=cs.length)
   (hi:(P.info? ty).map (·.size)=some vs.length) (h1:∀ v ∈ vs,v.oneCell'=true)
   (h:wpList P ops Q rest (a.put o.dst undef) (w.setRow b (cs.take k++vs++cs.drop (k+vs.length)).toArray)):wpList P ops Q (o::rest) a w:=
 wpList_plain hgd fun K hK=>by
   unfold Oper.wp execOp
   simp only [ho,hx,hy,Instr.storeAt,Instr.sureAddr,Sem.run_bind,Sem.run_pure,Result.andThen_ok,run_storeVar_blk b k T cs vs ty hb hk hi h1]
   exact hK _ _ h
theorem only_setRow{w:World}(b:Nat)(cs:Array Value):w.grownBy (w.setRow b cs) (some b):=
 ⟨rfl,rfl,rfl,by simp,fun k _ hk=>setRow_other w b k cs (fun e=>hk (by rw [e]))⟩
/-- A store of a row into a block: of the world behind it just this is known. -/
theorem wl_storeW(hgd:o.guard=none)(ty:TypeId)(x y:Operand)(ho:o.op=.store ty x y)
   (b k:Nat) (vs:List Value) (hx:a.eval x=.pointer (some ⟨b,k,none⟩)) (hy:a.eval y=.agg vs.toArray) (T:TypeId) (cs ds:List Value) (hb:Blk w b T cs) (hk:k+vs.length<=cs.length)
   (hi:(P.info? ty).map (·.size)=some vs.length) (h1:∀ v ∈ vs,v.oneCell'=true) (hds:ds=cs.take k++vs++cs.drop (k+vs.length))
   (h:∀ w',Blk w' b T ds->w.grownBy w' (some b)->w'.heap.size=w.heap.size->wpList P ops Q rest (a.put o.dst undef) w'):wpList P ops Q (o::rest) a w:=by
 subst hds
 exact wl_store hgd ty x y ho b k vs hx hy T cs hb hk hi h1 (h _ (Blk.setRow hb _) (only_setRow b _) (by simp))
end
theorem vb_ones(l:Bytes):∀ v ∈ vb l,v.oneCell'=true:=by
 intro v hv
 simp only [vb,List.mem_map] at hv
 obtain ⟨x,_,rfl⟩:=hv
 rfl
end
section
open Go.RowKit
theorem block_of_add(a:Addr)(n:Nat):(a.add n).block=a.block:=by unfold Addr.add;split <;> rfl
def Reads(w:World)(B size:Nat)(A:Option Addr)(n:Nat)(xs:List Value):Prop:=
 xs.length=n*size/\(0<n->∃ ad,A=some ad/\ad.block<B/\∀ j u,xs[j]?=some u->w.cell? (ad.add j)=some u)
section
variable{w w':World}{B B' size n:Nat}{A:Option Addr}{xs:List Value}
end
section
variable{P:Program}(w:World)
theorem run_append_of_nil(base:Nat)(t ty e:TypeId)(i:TypeInfo)(size:Nat)(ht:P.underlying t=some (.slice e))(hi:P.info? e=some i)
   (v:Value) (n:Nat) (xs:List Value) (hown:w.ownsRow base e size v n xs) (c:Nat):(Builtin.append_ #[t,t] ty #[v,.slice none 0 c]).run P w=.ok v w:=by
 rcases hown.2 with ⟨rfl,rfl⟩|⟨g,cap,cur,rfl,_,_,hnc,_⟩
 · simp [Builtin.append_,run_underlying ht,sizeOf,typeInfo,hi,Builtin.lenOf,Builtin.firstCells]
 simp [Builtin.append_,run_underlying ht,sizeOf,typeInfo,hi,Builtin.lenOf,Builtin.firstCells,hnc,storeCells]
theorem run_append_any(base:Nat)(t ty e:TypeId)(i:TypeInfo)(z:Value)(size bytes:Nat)(ht:P.underlying t=some (.slice e))(hi:P.info? e=some i)(hz:i.zero=some z)
   (hsize:i.size=size) (hby:i.bytes=bytes) (hzs:z.cells.size=size) (hsz:0<size)
   (v:Value) (n:Nat) (xs:List Value) (hown:w.ownsRow base e size v n xs)
   (B:Nat) (A:Option Addr) (m c:Nat) (news:List Value) (hr:Reads w B size A m news) (h1:∀ u ∈ news,u.oneCell'=true)
   (h63:n+m<=maxLen) (hbytes:(n+m)*bytes<=140737488355328) (hbase:base<=w.heap.size) :
   ∃ v' w',(Builtin.append_ #[t,t] ty #[v,.slice A m c]).run P w=.ok v' w'/\w'.ownsRow base e size v' (n+m) (xs++news)/\w.grownBy w' v.ownBlock /\
     (v'.ownBlock=v.ownBlock∨v'.ownBlock=some w.heap.size):=by
 rcases A with _|ad
 · have hm:m=0:=by
     rcases Nat.eq_zero_or_pos m with h0|h0
     · exact h0
     obtain ⟨ad,h,_⟩:=hr.2 h0
     cases h
   subst hm
   have hn:news=[]:=List.eq_nil_of_length_eq_zero (by simpa using hr.1)
   subst hn
   exact ⟨v,w,run_append_of_nil w base t ty e i size ht hi v n xs hown c,by simpa using hown,World.grownBy.refl w _,.inl rfl⟩
 have hcells:∀ j u,news[j]?=some u->w.cell? (ad.add j)=some u:=by
   intro j u hu
   rcases Nat.eq_zero_or_pos m with h0|h0
   · subst h0
     have hn:news=[]:=List.eq_nil_of_length_eq_zero (by simpa using hr.1)
     subst hn
     simp at hu
   obtain ⟨ad',h,_,hc⟩:=hr.2 h0
   injection h with h
   subst h
   exact hc j u hu
 obtain ⟨v',w',hrun,h2,h3,_,h5⟩:=run_append_own_at (P:=P) w base t ty e i z size bytes ht hi hz hsize hby hzs hsz v n xs hown ad m c news hr.1 hcells h1 h63 hbytes hbase
 exact ⟨v',w',hrun,h2,h3,h5⟩
theorem wp_append_any{o:Oper}{a:Act}{K:Act->World->Prop}{Q:Exit->Act->World->Prop}(s x:Operand)(t:TypeId)
   (ho:o.op=.call { callee:=.builtin .append,args:=#[s,x],argTypes:=#[t,t] })
   (base:Nat) (e:TypeId) (i:TypeInfo) (z:Value) (size bytes:Nat) (ht:P.underlying t=some (.slice e)) (hi:P.info? e=some i) (hz:i.zero=some z)
   (hsize:i.size=size) (hby:i.bytes=bytes) (hzs:z.cells.size=size) (hsz:0<size)
   (v:Value) (n:Nat) (xs:List Value) (hs:a.eval s=v) (hown:w.ownsRow base e size v n xs)
   (B:Nat) (A:Option Addr) (m c:Nat) (news:List Value) (hx:a.eval x=.slice A m c) (hr:Reads w B size A m news) (h1:∀ u ∈ news,u.oneCell'=true)
   (h63:n+m<=maxLen) (hbytes:(n+m)*bytes<=140737488355328) (hbase:base<=w.heap.size)
   (h:∀ v' w',w'.ownsRow base e size v' (n+m) (xs++news)->w.grownBy w' v.ownBlock->(v'.ownBlock=v.ownBlock∨v'.ownBlock=some w.heap.size)->K (a.put o.dst v') w'):o.wp P a w K Q:=by
 obtain ⟨v',w',hrun,h2,h3,h4⟩:=run_append_any (P:=P) w base t o.type e i z size bytes ht hi hz hsize hby hzs hsz v n xs hown B A m c news hr h1 h63 hbytes hbase
 unfold Oper.wp execOp
 simp only [ho,resolve,invoke,builtin,Sem.run_bind,Sem.run_pure,Result.andThen_ok,List.map_toArray,List.map_cons,List.map_nil,hs,hx,hrun]
 exact h v' w' h2 h3 h4
theorem wpList_append_any{ops:Array Oper}{rest:List Oper}{o:Oper}{a:Act}{Q:Exit->Act->World->Prop}(hgd:o.guard=none)(s x:Operand)(t:TypeId)
   (ho:o.op=.call { callee:=.builtin .append,args:=#[s,x],argTypes:=#[t,t] })
   (base:Nat) (e:TypeId) (i:TypeInfo) (z:Value) (size bytes:Nat) (ht:P.underlying t=some (.slice e)) (hi:P.info? e=some i) (hz:i.zero=some z)
   (hsize:i.size=size) (hby:i.bytes=bytes) (hzs:z.cells.size=size) (hsz:0<size)
   (v:Value) (n:Nat) (xs:List Value) (hs:a.eval s=v) (hown:w.ownsRow base e size v n xs)
   (B:Nat) (A:Option Addr) (m c:Nat) (news:List Value) (hx:a.eval x=.slice A m c) (hr:Reads w B size A m news) (h1:∀ u ∈ news,u.oneCell'=true)
   (h63:n+m<=maxLen) (hbytes:(n+m)*bytes<=140737488355328) (hbase:base<=w.heap.size)
   (h:∀ v' w',w'.ownsRow base e size v' (n+m) (xs++news)->w.grownBy w' v.ownBlock->(v'.ownBlock=v.ownBlock∨v'.ownBlock=some w.heap.size)->wpList P ops Q rest (a.put o.dst v') w'):wpList P ops Q (o::rest) a w:=
 wpList_plain hgd fun _ hK=>wp_append_any w s x t ho base e i z size bytes ht hi hz hsize hby hzs hsz v n xs hs hown B A m c news hx hr h1 h63 hbytes hbase fun v' w' h2 h3 h4=>hK _ _ (h v' w' h2 h3 h4)
end
end
end Go.Proofs.YtaoijkhndakppaaGreat
section
namespace Go.QT
open Go
section
variable{P:Program}{ops:Array Oper}{md:Region.Mode}{C:World->Prop}
/-- The head's other operations, by their numbers. -/
def headB(md:Region.Mode)(ops:Array Oper)(n g:Nat):List Nat->Array Bool->Bool
 | [],listed=>Region.seqB md ops g n listed
 | i::r,listed=>decide (i<n) && (Region.ready md ops listed).contains i && Region.free md ops listed i && headB md ops n g r (listed.setIfInBounds i true)
end
end Go.QT
end
namespace Go.Proofs.YtaoijkhndakppaaGreat
section
open Go.RowKit
/-- The slice value v reads as the bytes l. -/
def SB(w:World)(v:Value)(l:Bytes):Prop:=
 ∃ A c,v=.slice A l.length c/\l.length<=c/\c<=maxLen/\(l≠[]->∃ b o,A=some ⟨b,o,none⟩/\b<w.heap.size/\∀ i,i<l.length->w.cell? ⟨b,o+i,none⟩=some (.int .u8 (ub (gb l i))))
section
variable{w w':World}{v:Value}{l:Bytes}
theorem SB.keep(h:SB w v l)(hs:w.heap.size<=w'.heap.size)(hk:∀ b o,b<w.heap.size->w'.cell? ⟨b,o,none⟩=w.cell? ⟨b,o,none⟩):SB w' v l:=by
 obtain ⟨A,c,rfl,hc,hm,h⟩:=h
 refine ⟨A,c,rfl,hc,hm,fun hl=>?_⟩
 obtain ⟨b,o,hA,hb,hcell⟩:=h hl
 exact ⟨b,o,hA,by omega,fun i hi=>(hk b _ hb).trans (hcell i hi)⟩
theorem SB.below(h:SB w v l)(hb:Below w.heap.size w w'):SB w' v l:=h.keep hb.size fun _ _ h=>hb.cell h
theorem SB.alloc(h:SB w v l)(o:Obj):SB (w.alloc o) v l:=h.below ((Below.refl _ _).alloc (Nat.le_refl _) o)
theorem SB.nil(w:World)(c:Nat)(hc:c<=maxLen)(A:Option Addr):SB w (.slice A 0 c) []:=⟨A,c,rfl,Nat.zero_le _,hc,fun h=>absurd rfl h⟩
theorem SB.row{b T:Nat}(h:Row w b T l)(hl:l.length<=maxLen):SB w (.slice (some ⟨b,0,none⟩) l.length l.length) l:=
 ⟨_,_,rfl,Nat.le_refl _,hl,fun _=>⟨b,0,rfl,h.lt,fun i hi=>by rw [Nat.zero_add];exact h.cell hi⟩⟩
/-- What the call owns reads as its bytes. -/
theorem SB.own{base:Nat}(h:w.ownsRow base 5 1 v l.length (vb l)):SB w v l:=by
 obtain ⟨_,h⟩:=h
 rcases h with ⟨rfl,hl⟩|⟨g,cap,cur,rfl,_,hg,hn,hm,_,htk⟩
 · have:l=[]:=List.eq_nil_of_length_eq_zero hl
   subst this
   exact ⟨none,0,rfl,Nat.le_refl _,by unfold maxLen;omega,fun h=>absurd rfl h⟩
 refine ⟨_,cap,rfl,hn,hm,fun _=>⟨g,0,rfl,?_,fun i hi=>?_⟩⟩
 · rcases Nat.lt_or_ge g w.heap.size with h' | h'
   · exact h'
   rw [Array.getElem?_eq_none h'] at hg;cases hg
 rw [Nat.zero_add,cell_of_row w g i cur 5 (0,0) hg]
 have h1:(cur.toList.take (l.length*1))[i]?=(vb l)[i]?:=by rw [htk]
 rw [List.getElem?_take,if_pos (by omega),vb_get l i hi] at h1
 simpa using h1
theorem SB.open_(h:SB w v l)(hl:l≠[]):∃ b o c,v=.slice (some ⟨b,o,none⟩) l.length c/\l.length<=c/\c<=maxLen/\b<w.heap.size/\∀ i,i<l.length->w.cell? ⟨b,o+i,none⟩=some (.int .u8 (ub (gb l i))):=by
 obtain ⟨A,c,rfl,hc,hm,h⟩:=h
 obtain ⟨b,o,rfl,hb,hcell⟩:=h hl
 exact ⟨b,o,c,rfl,hc,hm,hb,hcell⟩
/-- As the append's law asks it. -/
theorem SB.reads{A:Option Addr}{n c:Nat}(h:SB w (.slice A n c) l):n=l.length/\Reads w w.heap.size 1 A n (vb l):=by
 obtain ⟨A',c',e,_,_,h⟩:=h
 injection e with e1 e2 e3
 subst e1;subst e2;subst e3
 refine ⟨rfl,by simp,fun hn=>?_⟩
 obtain ⟨b,o,rfl,hb,hc⟩:=h (by rintro rfl;simp at hn)
 refine ⟨_,rfl,hb,fun j u hu=>?_⟩
 rw [Addr.add_mid]
 have hj:j<l.length:=by
   rcases Nat.lt_or_ge j l.length with h' | h'
   · exact h'
   rw [List.getElem?_eq_none (by simpa using h')] at hu;cases hu
 rw [vb_get l j hj] at hu
 rw [hc j hj,hu]
end
end
section
open Go.RowKit
theorem ty28:Tryz.prog.underlying 25=some (.slice 5):=by kernel_rfl
theorem i5:(Tryz.prog.info? 5).map (fun i=>(i.zero,i.size,i.bytes))=some (some (.int .u8 0),1,1):=by kernel_rfl
/-- The slice value v is a row of the call's own, from block base on, and reads as l. -/
def OB(w:World)(base:Nat)(v:Value)(l:Bytes):Prop:=w.ownsRow base 5 1 v l.length (vb l)
section
variable{w w':World}{base:Nat}{v:Value}{l:Bytes}
theorem OB.nil(w:World)(base:Nat):OB w base (.slice none 0 0) []:=⟨by simp,.inl ⟨rfl,rfl⟩⟩
theorem OB.sb(h:OB w base v l):SB w v l:=SB.own h
theorem OB.open_(h:OB w base v l)(hl:l≠[]):∃ g cap,v=.slice (some ⟨g,0,none⟩) l.length cap/\base<=g/\g<w.heap.size/\l.length<=cap/\cap<=maxLen /\
   ∀ i,i<l.length->w.cell? ⟨g,i,none⟩=some (.int .u8 (ub (gb l i))):=by
 have hs:=SB.own h
 rcases h.2 with ⟨_,h0⟩|⟨g,cap,cur,rfl,hb,hg,hn,hm,_⟩
 · exact absurd (List.eq_nil_of_length_eq_zero h0) hl
 obtain ⟨A,c,e,_,_,hc⟩:=hs
 obtain ⟨b,o,hA,hlt,hcell⟩:=hc hl
 injection e with e1 e2 e3
 rw [hA] at e1
 injection e1 with e1
 injection e1 with e4 e5
 subst e4;subst e5
 exact ⟨_,_,rfl,hb,hlt,hn,hm,fun i hi=>by have:=hcell i hi;rwa [Nat.zero_add] at this⟩
theorem OB.own(h:OB w base v l):∀ k,v.ownBlock=some k->base<=k/\k<w.heap.size:=by
 intro k hk
 rcases h.2 with ⟨rfl,_⟩|⟨g,cap,cur,rfl,hb,hg,_⟩
 · simp [Value.ownBlock] at hk
 have:g=k:=by simpa [Value.ownBlock] using hk
 subst this
 refine ⟨hb,?_⟩
 rcases Nat.lt_or_ge g w.heap.size with h' | h'
 · exact h'
 rw [Array.getElem?_eq_none h'] at hg;cases hg
theorem OB.mono{base':Nat}(h:OB w base v l)(hb:base'<=base):OB w base' v l:=by
 obtain ⟨h1,h2⟩:=h
 refine ⟨h1,?_⟩
 rcases h2 with h2|⟨g,cap,cur,rfl,hg,r⟩
 · exact .inl h2
 exact .inr ⟨g,cap,cur,rfl,by omega,r⟩
theorem OB.set{g n c:Nat}(h:OB w base (.slice (some ⟨g,0,none⟩) n c) l)(i:Nat)(b:UInt8):OB (w.setCell ⟨g,i,none⟩ (.int .u8 (ub b))) base (.slice (some ⟨g,0,none⟩) n c) (l.set i b):=by
 obtain ⟨h1,h2⟩:=h
 refine ⟨by simp,?_⟩
 rcases h2 with ⟨e,_⟩|⟨g',cap,cur,e,hg,hh,hn,hm,hs,ht⟩
 · cases e
 injection e with e1 e2 e3
 injection e1 with e1
 injection e1 with e1
 subst e1;subst e3
 refine .inr ⟨g,c,cur.setIfInBounds i (.int .u8 (ub b)),by rw [e2];simp,hg,?_,by simpa using hn,hm,by simpa using hs,?_⟩
 · exact heap_setCell_same w g i cur 5 _ hh
 rw [← vb_set,← ht]
 simp only [Array.toList_setIfInBounds,List.length_set]
 rw [List.take_set]
theorem OB.frozen_{g n c:Nat}(h:OB w base (.slice (some ⟨g,0,none⟩) n c) l)(i:Nat):w.frozen? ⟨g,i,none⟩=false:=by
 rcases h.2 with ⟨e,_⟩|⟨g',cap,cur,e,hg,hh,_⟩
 · cases e
 injection e with e1 e2 e3
 injection e1 with e1
 injection e1 with e1
 subst e1
 simp [World.frozen?,hh]
theorem OB.keep(h:OB w base v l)(hk:∀ k,v.ownBlock=some k->w'.heap[k]?=w.heap[k]?):OB w' base v l:=by
 obtain ⟨h1,h2⟩:=h
 refine ⟨h1,?_⟩
 rcases h2 with h2|⟨g,cap,cur,rfl,hb,hg,r⟩
 · exact .inl h2
 exact .inr ⟨g,cap,cur,rfl,hb,by rw [hk g rfl];exact hg,r⟩
theorem OB.below(h:OB w base v l)(hb:Below w.heap.size w w'):OB w' base v l:=h.keep fun k hk=>hb.block k (h.own k hk).2
theorem OB.alloc(h:OB w base v l)(o:Obj):OB (w.alloc o) base v l:=h.below ((Below.refl _ _).alloc (Nat.le_refl _) o)
theorem OB.grown{row:Option Nat}(h:OB w base v l)(hg:w.grownBy w' row)(hr:∀ k,v.ownBlock=some k->some k≠row):OB w' base v l:=h.keep fun k hk=>hg.block k (h.own k hk).2 (hr k hk)
theorem OB.grownBelow{a:World}{B:Nat}(h:OB w base v l)(hb:Below B a w)(hg:w.grownBy w' v.ownBlock)(hB:B<=base)(hB2:B<=a.heap.size):Below B a w':=
 hb.grown hg (Nat.le_trans hB2 hb.size) (fun k hk=>Nat.le_trans hB (h.own k hk).1)
/-- Two slices of the call's own that share no block. -/
def Disj(v u:Value):Prop:=∀ q,v.ownBlock=some q->u.ownBlock≠some q
theorem OB.far(h:OB w base v l){p:Addr}(hp:∀ q,v.ownBlock=some q->q≠p.block)(x:Value):OB (w.setCell p x) base v l:=
 h.keep fun k hk=>Below.heap_setCell w p x k (hp k hk)
theorem OB.new(w:World)(b:Nat)(l:Bytes)(hl:l.length<=maxLen)(h:Row w b 5 l)(hb:base<=b):OB w base (.slice (some ⟨b,0,none⟩) l.length l.length) l:=
 ⟨by simp,.inr ⟨b,l.length,(vb l).toArray,rfl,hb,h,Nat.le_refl _,hl,by simp,by simp [List.take_of_length_le]⟩⟩
end
section
variable{ops:Array Oper}{rest:List Oper}{o:Oper}{a:Act}{w:World}{Q:Exit->Act->World->Prop}
/-- append of a slice that reads as bytes. -/
theorem wl_append(hgd:o.guard=none)(s x:Operand)(ho:o.op=.call { callee:=.builtin .append,args:=#[s,x],argTypes:=#[25,25] })
   (base:Nat) (v u:Value) (l m:Bytes) (hs:a.eval s=v) (hx:a.eval x=u) (hv:OB w base v l) (hu:SB w u m) (hlen:l.length+m.length<=140737488355328) (hbase:base<=w.heap.size)
   (h:∀ v' w',OB w' base v' (l++m)->w.grownBy w' v.ownBlock->(v'.ownBlock=v.ownBlock∨v'.ownBlock=some w.heap.size)->wpList Tryz.prog ops Q rest (a.put o.dst v') w'):wpList Tryz.prog ops Q (o::rest) a w:=by
 obtain ⟨i0,hi0,hz0,hz1,hz2⟩:=info_parts i5
 obtain ⟨A,c,rfl,hc,hm,hcell⟩:=hu
 have hr:=(SB.reads (w:=w) (A:=A) (n:=m.length) (c:=c) ⟨A,c,rfl,hc,hm,hcell⟩).2
 refine wpList_append_any w hgd s x 25 ho base 5 i0 _ 1 1 ty28 hi0 hz0 hz1 hz2 rfl (by omega) v l.length (vb l) hs hv w.heap.size A m.length c (vb m) hx hr (vb_ones m) (by unfold maxLen;omega) (by omega) hbase ?_
 intro v' w' h1 h2 h3
 refine h v' w' ?_ h2 h3
 unfold OB
 rw [List.length_append,vb_append]
 exact h1
end
end
end Go.Proofs.YtaoijkhndakppaaGreat
section
namespace Go.QT
open Go
section
variable{P:Program}{ops:Array Oper}{md:Region.Mode}{S:World->Prop}{Q:Exit->Act->World->Prop}
/-! ### Step by step,where more than one may come up -/
theorem wp_region_any_held{id:Nat}{a:Act}{w:World}{l:List Oper}(S:World->Prop)(hm:P.follows .mixedOrders=true)
   (h:wpAnyH P .any l.toArray Q S l.length (Array.replicate l.length false) a (w.drewN 1)):(Code.region id l.toArray true).wp P Q a w:=by
 refine wp_region_held (S:=S) hm ?_
 have e:l.toArray.size=l.length:=by simp
 rw [e]
 exact h
theorem anyH_val{i:Nat}{o:Oper}{f:Nat}{listed:Array Bool}{a:Act}{w:World}(v:Value)(hi:ops[i]?=some o)(hs:Region.noSelect ops=true)(hf:Region.free md ops listed i=true)(hr:(Region.ready md ops listed).contains i=true)
   (hQ:∀ c d v a w,Q (.panic c) (Act.put a d v) w->Q (.panic c) a w) (hw:Region.wanted o (yielded ops a.tmps)=true) (hS:S w)
   (hv:∀ W,S W->(execOp a.eval o).run P W=.ok (.value v) W) (h:wpAnyH P md ops Q S f (listed.setIfInBounds i true) (a.put o.dst v) w):wpAnyH P md ops Q S (f+1) listed a w:=
 wpAnyH_take hi hs hf hr (fun c a w h=>hQ c _ _ a w h) (.inl ⟨hw,hv⟩) hS h
end
end Go.QT
end
section
namespace Go.QT
open Go
section
variable{P:Program}{ops:Array Oper}{md:Region.Mode}{S:World->Prop}{Q:Exit->Act->World->Prop}
/-- An operation whose guard says no. -/
theorem anyH_skip{i:Nat}{o:Oper}{f:Nat}{listed:Array Bool}{a:Act}{w:World}(hi:ops[i]?=some o)(hs:Region.noSelect ops=true)(hf:Region.free md ops listed i=true)(hr:(Region.ready md ops listed).contains i=true)
   (hQ:∀ c d v a w,Q (.panic c) (Act.put a d v) w->Q (.panic c) a w) (hw:Region.wanted o (yielded ops a.tmps)=false) (hS:S w)
   (h:wpAnyH P md ops Q S f (listed.setIfInBounds i true) (a.put o.dst undef) w):wpAnyH P md ops Q S (f+1) listed a w:=
 wpAnyH_take hi hs hf hr (fun c a w h=>hQ c _ _ a w h) (.inr ⟨hw,rfl⟩) hS h
/-- A function of the program's own text. -/
def goB (P : Program) (f : FuncId) : Bool := match P.funcs[f]? with | some fn => !(fn.name == "runtime.NumGoroutine") && fn.body.isSome | none => false
theorem run_callFunc_go{f:FuncId}(h:goB P f=true)(args:Array Value)(w:World):(callFunc f args).run P w=.ok (.enter f args) w:=by
 unfold goB at h
 cases hf:P.funcs[f]? with
 | none=>simp [hf] at h
 | some fn =>
   rw [hf] at h
   simp only [Bool.and_eq_true,Bool.not_eq_true'] at h
   have h2:fn.body.isNone=false:=by cases hb:fn.body with|none=>simp [hb] at h|some b=>rfl
   simp only [callFunc,Sem.run_bind,run_program,Result.andThen_ok,hf,h.1,h2,Bool.false_eq_true,if_false,Sem.run_pure]
theorem exec_call{o:Oper}{a:Act}{w:World}(fn:FuncId)(xl:List Operand)(ats:Array TypeId)(ho:o.op=.call { callee:=.value (.func fn),args:=xl.toArray,argTypes:=ats })(al:List Value)(hargs:xl.map a.eval=al)(hg:goB P fn=true) :
   (execOp a.eval o).run P w=.ok (.enter fn al.toArray) w:=by
 obtain ⟨dst,op,type,pos,after,guard⟩:=o
 simp only at ho
 subst ho
 rw [execOp_call_go]
 have e:(#[]++xl.toArray.map a.eval++#[]:Array Value)=al.toArray:=by
   rw [← hargs];simp
 rw [e]
 exact run_callFunc_go hg _ _
/-- A call that comes up alone. -/
theorem anyH_call{i:Nat}{o:Oper}{f:Nat}{listed:Array Bool}{a:Act}{w:World}{R:Ending->World->Prop}(hi:ops[i]?=some o)(hr:Region.ready md ops listed=[i])(hw:Region.wanted o (yielded ops a.tmps)=true)
   (fn:FuncId) (xl:List Operand) (ats:Array TypeId) (ho:o.op=.call { callee:=.value (.func fn),args:=xl.toArray,argTypes:=ats }) (al:List Value) (hargs:xl.map a.eval=al) (hg:goB P fn=true)
   (hcall:Calls P fn al.toArray w R) (h:∀ e w',R e w'->∃ v,e=.returned v/\S w'/\wpAnyH P md ops Q S f (listed.setIfInBounds i true) (a.put o.dst v) w'):wpAnyH P md ops Q S (f+1) listed a w:=by
 refine wpAnyH_all hr (by simp) fun j hj=>?_
 have hji:j=i:=by simpa using hj
 subst hji
 unfold wpOp
 simp only [hi]
 rw [if_pos hw]
 refine .inl ?_
 unfold Oper.wp
 rw [exec_call fn xl ats ho al hargs hg,Oper.upon_enter]
 refine hcall.mono fun e w' hR=>?_
 obtain ⟨v,rfl,hS,hn⟩:=h e w' hR
 exact ⟨hS,hn⟩
/-- One of two. -/
theorem wpOp_call{i:Nat}{o:Oper}{K:Act->World->Prop}{a:Act}{w:World}{R:Ending->World->Prop}(hi:ops[i]?=some o)(hw:Region.wanted o (yielded ops a.tmps)=true)
   (fn:FuncId) (xl:List Operand) (ats:Array TypeId) (ho:o.op=.call { callee:=.value (.func fn),args:=xl.toArray,argTypes:=ats }) (al:List Value) (hargs:xl.map a.eval=al) (hg:goB P fn=true)
   (hcall:Calls P fn al.toArray w R) (h:∀ e w',R e w'->∃ v,e=.returned v/\K (a.put o.dst v) w'):wpOp P ops Q i K a w:=by
 unfold wpOp
 simp only [hi]
 rw [if_pos hw]
 refine .inl ?_
 unfold Oper.wp
 rw [exec_call fn xl ats ho al hargs hg,Oper.upon_enter]
 refine hcall.mono fun e w' hR=>?_
 obtain ⟨v,rfl,hn⟩:=h e w' hR
 exact hn
/-- A call in a plain region. -/
theorem wl_call{o:Oper}{rest:List Oper}{a:Act}{w:World}{R:Ending->World->Prop}(hgd:o.guard=none)
   (fn:FuncId) (xl:List Operand) (ats:Array TypeId) (ho:o.op=.call { callee:=.value (.func fn),args:=xl.toArray,argTypes:=ats }) (al:List Value) (hargs:xl.map a.eval=al) (hg:goB P fn=true)
   (hcall:Calls P fn al.toArray w R) (h:∀ e w',R e w'->∃ v,e=.returned v/\wpList P ops Q rest (a.put o.dst v) w'):wpList P ops Q (o::rest) a w:=
 wpList_plain hgd fun K hK=>by
   unfold Oper.wp
   rw [exec_call fn xl ats ho al hargs hg,Oper.upon_enter]
   refine hcall.mono fun e w' hR=>?_
   obtain ⟨v,rfl,hn⟩:=h e w' hR
   exact hK _ _ hn
/-! The same,the slot named. -/
theorem oH_val{i:Nat}{o:Oper}{f:Nat}{listed:Array Bool}{a:Act}{w:World}(d:Option Tmp)(v:Value)(hi:ops[i]?=some o)(hd:o.dst=d)(hs:Region.noSelect ops=true)(hf:Region.free md ops listed i=true)(hr:(Region.ready md ops listed).contains i=true)
   (hQ:∀ c d v a w,Q (.panic c) (Act.put a d v) w->Q (.panic c) a w) (hw:Region.wanted o (yielded ops a.tmps)=true) (hS:S w)
   (hv:∀ W,S W->(execOp a.eval o).run P W=.ok (.value v) W) (h:wpAnyH P md ops Q S f (listed.setIfInBounds i true) (a.put d v) w):wpAnyH P md ops Q S (f+1) listed a w:=by
 subst hd;exact anyH_val v hi hs hf hr hQ hw hS hv h
theorem oH_skip{i:Nat}{o:Oper}{f:Nat}{listed:Array Bool}{a:Act}{w:World}(d:Option Tmp)(hi:ops[i]?=some o)(hd:o.dst=d)(hs:Region.noSelect ops=true)(hf:Region.free md ops listed i=true)(hr:(Region.ready md ops listed).contains i=true)
   (hQ:∀ c d v a w,Q (.panic c) (Act.put a d v) w->Q (.panic c) a w) (hw:Region.wanted o (yielded ops a.tmps)=false) (hS:S w)
   (h:wpAnyH P md ops Q S f (listed.setIfInBounds i true) (a.put d undef) w):wpAnyH P md ops Q S (f+1) listed a w:=by
 subst hd;exact anyH_skip hi hs hf hr hQ hw hS h
theorem oH_call{i:Nat}{o:Oper}{f:Nat}{listed:Array Bool}{a:Act}{w:World}{R:Ending->World->Prop}(d:Option Tmp)(hi:ops[i]?=some o)(hd:o.dst=d)(hr:Region.ready md ops listed=[i])(hw:Region.wanted o (yielded ops a.tmps)=true)
   (fn:FuncId) (xl:List Operand) (ats:Array TypeId) (ho:o.op=.call { callee:=.value (.func fn),args:=xl.toArray,argTypes:=ats }) (al:List Value) (hargs:xl.map a.eval=al) (hg:goB P fn=true)
   (hcall:Calls P fn al.toArray w R) (h:∀ e w',R e w'->∃ v,e=.returned v/\S w'/\wpAnyH P md ops Q S f (listed.setIfInBounds i true) (a.put d v) w'):wpAnyH P md ops Q S (f+1) listed a w:=by
 subst hd;exact anyH_call hi hr hw fn xl ats ho al hargs hg hcall h
/-- What changes the world, come up alone: by its run. -/
theorem oH_run{i:Nat}{o:Oper}{f:Nat}{listed:Array Bool}{a:Act}{w w':World}(d:Option Tmp)(v:Value)(hi:ops[i]?=some o)(hd:o.dst=d)(hr:Region.ready md ops listed=[i])(hw:Region.wanted o (yielded ops a.tmps)=true)
   (hv:(execOp a.eval o).run P w=.ok (.value v) w') (hS:S w') (h:wpAnyH P md ops Q S f (listed.setIfInBounds i true) (a.put d v) w'):wpAnyH P md ops Q S (f+1) listed a w:=by
 subst hd
 refine wpAnyH_all hr (by simp) fun j hj=>?_
 have hji:j=i:=by simpa using hj
 subst hji
 unfold wpOp
 simp only [hi]
 rw [if_pos hw]
 refine .inl ?_
 unfold Oper.wp
 rw [hv,Oper.upon_value]
 exact ⟨hS,h⟩
theorem oH_begin{id:Nat}{a:Act}{w:World}{l:List Oper}{n:Nat}(S:World->Prop)(hm:P.follows .mixedOrders=true)(hn:l.length=n)
   (h:wpAnyH P .any l.toArray Q S n (Array.replicate n false) a (w.drewN 1)):(Code.region id l.toArray true).wp P Q a w:=by
 subst hn;exact wp_region_any_held S hm h
end
end Go.QT
end
namespace Go.Proofs.YtaoijkhndakppaaGreat
section
open Go.RowKit Go.QT
structure OV(w:World)(base:Nat)(E:TypeId)(sz:Nat)(v:Value)(xs:List (List Value)):Prop where
 own:w.ownsRow base E sz v xs.length xs.flatten
 len:∀ x ∈ xs,x.length=sz
 one:∀ x ∈ xs,∀ u ∈ x,u.oneCell'=true
section
variable{w w':World}{base:Nat}{E:TypeId}{sz:Nat}{v:Value}{xs:List (List Value)}
theorem OV.nil(w:World)(base:Nat)(E sz:Nat):OV w base E sz (.slice none 0 0) []:=⟨⟨by simp,.inl ⟨rfl,rfl⟩⟩,by simp,by simp⟩
theorem OV.block(h:OV w base E sz v xs):∀ k,v.ownBlock=some k->base<=k/\k<w.heap.size:=by
 intro k hk
 rcases h.own.2 with ⟨rfl,_⟩|⟨g,cap,cur,rfl,hb,hg,_⟩
 · simp [Value.ownBlock] at hk
 have:g=k:=by simpa [Value.ownBlock] using hk
 subst this
 refine ⟨hb,?_⟩
 rcases Nat.lt_or_ge g w.heap.size with h' | h'
 · exact h'
 rw [Array.getElem?_eq_none h'] at hg;cases hg
theorem OV.keep(h:OV w base E sz v xs)(hk:∀ k,v.ownBlock=some k->w'.heap[k]?=w.heap[k]?):OV w' base E sz v xs:=by
 refine ⟨⟨h.own.1,?_⟩,h.len,h.one⟩
 rcases h.own.2 with h2|⟨g,cap,cur,rfl,hb,hg,r⟩
 · exact .inl h2
 exact .inr ⟨g,cap,cur,rfl,hb,by rw [hk g rfl];exact hg,r⟩
theorem OV.below(h:OV w base E sz v xs)(hb:Below w.heap.size w w'):OV w' base E sz v xs:=h.keep fun k hk=>hb.block k (h.block k hk).2
theorem OV.alloc(h:OV w base E sz v xs)(o:Obj):OV (w.alloc o) base E sz v xs:=h.below ((Below.refl _ _).alloc (Nat.le_refl _) o)
theorem OV.far(h:OV w base E sz v xs){p:Addr}(hp:∀ q,v.ownBlock=some q->q≠p.block)(x:Value):OV (w.setCell p x) base E sz v xs:=
 h.keep fun k hk=>Below.heap_setCell w p x k (hp k hk)
theorem OV.form(h:OV w base E sz v xs):∃ A cap,v=.slice A xs.length cap/\xs.length<=cap/\cap<=maxLen:=by
 rcases h.own.2 with ⟨rfl,h0⟩|⟨g,cap,cur,rfl,hb,hg,h1,h2,_⟩
 · exact ⟨none,0,by rw [h0],by omega,by unfold maxLen;omega⟩
 exact ⟨_,cap,rfl,h1,h2⟩
theorem flat_at(sz:Nat):∀ (xs:List (List Value)) (_:∀ x ∈ xs,x.length=sz) (i j:Nat) (hi:i<xs.length),j<sz->xs.flatten[i*sz+j]?=xs[i][j]?
 | [],_,_,_,h,_=>by simp at h
 | x::xs,hl,0,j,_,hj=>by
   have:x.length=sz:=hl x (by simp)
   simp [List.getElem?_append_left (show j<x.length by omega)]
 | x::xs,hl,i+1,j,h,hj=>by
   have hx:x.length=sz:=hl x (by simp)
   have:=flat_at sz xs (fun y hy=>hl y (by simp [hy])) i j (by simpa using h) hj
   simp only [List.flatten_cons,List.getElem_cons_succ]
   rw [List.getElem?_append_right (by rw [hx,Nat.add_mul];omega),hx,← this]
   congr 1
   rw [Nat.add_mul];omega
/-- An element's cells. -/
theorem OV.at_(h:OV w base E sz v xs){i:Nat}(hi:i<xs.length):∃ g cap,v=.slice (some ⟨g,0,none⟩) xs.length cap/\base<=g/\g<w.heap.size/\xs.length<=cap/\cap<=maxLen /\
   (∃ cur:List Value,Blk w g E cur/\∀ j,j<sz->cur[i*sz+j]?=xs[i][j]?):=by
 have hb:=h.block
 rcases h.own.2 with ⟨rfl,h0⟩|⟨g,cap,cur,rfl,hbg,hg,h1,h2,h3,h4⟩
 · omega
 refine ⟨g,cap,rfl,hbg,(hb g rfl).2,h1,h2,cur.toList,by unfold Blk;simpa using hg,fun j hj=>?_⟩
 have hf:=flat_at sz xs h.len i j hi hj
 rw [← hf,← h4,List.getElem?_take,if_pos ?_]
 have:(i+1)*sz<=xs.length*sz:=Nat.mul_le_mul_right sz hi
 rw [Nat.add_mul] at this
 omega
end
section
variable{P:Program}{w:World}
/-- append of one element, which lies in a block of its own. -/
theorem OV.push{o:Oper}{a:Act}(s x:Operand)(t:TypeId)(ho:o.op=.call { callee:=.builtin .append,args:=#[s,x],argTypes:=#[t,t] })
   (base:Nat) (E sz bytes:Nat) (z:Value) (ht:P.underlying t=some (.slice E)) (hi:(P.info? E).map (fun i=>(i.zero,i.size,i.bytes))=some (some z,sz,bytes)) (hzs:z.cells.size=sz) (hsz:0<sz)
   (v:Value) (xs:List (List Value)) (hs:a.eval s=v) (hv:OV w base E sz v xs) (b:Nat) (T:TypeId) (news:List Value) (c:Nat) (hx:a.eval x=.slice (some ⟨b,0,none⟩) 1 c) (hb:Blk w b T news) (hn:news.length=sz) (h1:∀ u ∈ news,u.oneCell'=true)
   (hlen:(xs.length+1)*bytes<=140737488355328) (hlen2:xs.length<maxLen) (hbase:base<=w.heap.size) :
   ∃ v' w',(execOp a.eval o).run P w=.ok (.value v') w'/\OV w' base E sz v' (xs++[news])/\w.grownBy w' v.ownBlock/\(v'.ownBlock=v.ownBlock∨v'.ownBlock=some w.heap.size):=by
 obtain ⟨i0,hi0,hz0,hz1,hz2⟩:=info_parts hi
 have hr:Reads w w.heap.size sz (some ⟨b,0,none⟩) 1 news:=⟨by simp [hn],fun _=>⟨_,rfl,hb.lt,fun j u hu=>by rw [Addr.add_mid,Nat.zero_add,hb.cell,hu]⟩⟩
 obtain ⟨v',w',hrun,h2,h3,h4⟩:=run_append_any (P:=P) w base t o.type E i0 z sz bytes ht hi0 hz0 hz1 hz2 hzs hsz v xs.length xs.flatten hv.own w.heap.size (some ⟨b,0,none⟩) 1 c news hr h1 (by omega) hlen hbase
 refine ⟨v',w',?_,⟨?_,?_,?_⟩,h3,h4⟩
 · unfold execOp
   simp only [ho,resolve,invoke,builtin,Sem.run_bind,Sem.run_pure,Result.andThen_ok,List.map_toArray,List.map_cons,List.map_nil,hs,hx,hrun]
 · simpa using h2
 · intro y hy
   simp only [List.mem_append,List.mem_singleton] at hy
   rcases hy with hy|rfl
   · exact hv.len y hy
   exact hn
 intro y hy
 simp only [List.mem_append,List.mem_singleton] at hy
 rcases hy with hy|rfl
 · exact hv.one y hy
 exact h1
theorem wl_runs{ops:Array Oper}{rest:List Oper}{o:Oper}{a:Act}{w':World}{Q:Exit->Act->World->Prop}(hgd:o.guard=none)(hv:(execOp a.eval o).run P w=.ok .skip w')(h:wpList P ops Q rest (a.put o.dst undef) w'):wpList P ops Q (o::rest) a w:=
 wpList_plain hgd fun K hK=>by
   unfold Oper.wp
   rw [hv]
   exact hK _ _ h
/-- What runs to a value, in a walk. -/
theorem wl_run{ops:Array Oper}{rest:List Oper}{o:Oper}{a:Act}{w':World}{Q:Exit->Act->World->Prop}(hgd:o.guard=none)(v:Value)(hv:(execOp a.eval o).run P w=.ok (.value v) w')(h:wpList P ops Q rest (a.put o.dst v) w'):wpList P ops Q (o::rest) a w:=
 wpList_plain hgd fun K hK=>by
   unfold Oper.wp
   rw [hv]
   exact hK _ _ h
end
end
section
open Go.RowKit Go.QT
variable{P:Program}{ops:Array Oper}{rest:List Oper}{o:Oper}{a:Act}{w w':World}{Q:Exit->Act->World->Prop}
theorem wl_runG(hw:Region.wanted o (yielded ops a.tmps)=true)(v:Value)(hv:(execOp a.eval o).run P w=.ok (.value v) w')(h:wpList P ops Q rest (a.put o.dst v) w'):wpList P ops Q (o::rest) a w:=
 wpList_step fun K hK=>by
   rw [if_pos hw]
   unfold Oper.wp
   rw [hv]
   exact hK _ _ h
theorem wl_valG(hw:Region.wanted o (yielded ops a.tmps)=true)(v:Value)(hv:(execOp a.eval o).run P w=.ok (.value v) w)(h:wpList P ops Q rest (a.put o.dst v) w):wpList P ops Q (o::rest) a w:=wl_runG hw v hv h
theorem wl_skipG(hw:Region.wanted o (yielded ops a.tmps)=false)(h:wpList P ops Q rest (a.put o.dst undef) w):wpList P ops Q (o::rest) a w:=
 wpList_step fun K hK=>by
   rw [if_neg (by rw [hw];simp)]
   exact hK _ _ h
end
section
open Go.RowKit
theorem exec_load{P:Program}{o:Oper}{a:Act}(ty:TypeId)(x:Operand)(ho:o.op=.load ty x)(b k:Nat)(hx:a.eval x=.pointer (some ⟨b,k,none⟩))(T:TypeId)(cs ds:List Value)(d:TypeDesc){W:World}(hb:Blk W b T cs)
   (hd:∀ j v,ds[j]?=some v->cs[k+j]?=some v) (hu:P.underlying ty=some d) (hr:d.isRow=true) (hi:(P.info? ty).map (·.size)=some ds.length):(execOp a.eval o).run P W=.ok (.value (.agg ds.toArray)) W:=by
 unfold execOp
 simp only [ho,hx,Instr.loadAt,Instr.sureAddr,Sem.run_bind,Sem.run_pure,Result.andThen_ok,run_loadVar_mid W b k ty ds d (hb.range hd) hu hr hi]
end
section
open Go.RowKit
/-- A store of one cell. -/
theorem exec_storeCell{P:Program}{o:Oper}{a:Act}{w:World}(t:TypeId)(x y:Operand)(ho:o.op=.store t x y)(b k:Nat)(v:Value)(hx:a.eval x=.pointer (some ⟨b,k,none⟩))(hy:a.eval y=v)(T:TypeId)(cs:List Value)(hb:Blk w b T cs)(hk:k<cs.length)
   (hi:(P.info? t).map (·.size)=some 1) (h1:v.oneCell'=true) (hv:v.cells=#[v]):(execOp a.eval o).run P w=.ok .skip (w.setCell ⟨b,k,none⟩ v):=by
 have hc:w.cell? ⟨b,k,none⟩=some cs[k]:=by rw [hb.cell];simp [hk]
 have hf:=hb.frozen k
 have hadd:∀ p:Addr,p.add 0=p:=by intro p;cases p with|mk b o s=>cases s <;> simp [Addr.add]
 have hst:(storeVar t ⟨b,k,none⟩ v).run P w=.ok () (w.setCell ⟨b,k,none⟩ v):=by
   cases hq:P.info? t with
   | none=>simp [hq] at hi
   | some i =>
     have hs:i.size=1:=by simpa [hq] using hi
     simp [storeVar,sizeOf,typeInfo,hq,hv,hs,storeCells,hadd,run_store P w _ v _ h1,hc,hf]
 unfold execOp
 simp only [ho,hx,hy,Instr.storeAt,Instr.sureAddr,Sem.run_bind,Sem.run_pure,Result.andThen_ok,hst]
/-- A store of a row. -/
theorem exec_storeRow{P:Program}{o:Oper}{a:Act}{w:World}(ty:TypeId)(x y:Operand)(ho:o.op=.store ty x y)(b k:Nat)(vs:List Value)(hx:a.eval x=.pointer (some ⟨b,k,none⟩))(hy:a.eval y=.agg vs.toArray)(T:TypeId)(cs:List Value)(hb:Blk w b T cs)(hk:k+vs.length<=cs.length)
   (hi:(P.info? ty).map (·.size)=some vs.length) (h1:∀ v ∈ vs,v.oneCell'=true):(execOp a.eval o).run P w=.ok .skip (w.setRow b (cs.take k++vs++cs.drop (k+vs.length)).toArray):=by
 unfold execOp
 simp only [ho,hx,hy,Instr.storeAt,Instr.sureAddr,Sem.run_bind,Sem.run_pure,Result.andThen_ok,run_storeVar_blk b k T cs vs ty hb hk hi h1]
end
end Go.Proofs.YtaoijkhndakppaaGreat
section
namespace Go.QT
open Go Go.Proofs.YtaoijkhndakppaaGreat
section
variable{P:Program}{ops:Array Oper}{Q:Exit->Act->World->Prop}{md:Region.Mode}{S:World->Prop}{p:Nat}
def wpAnyT(P:Program)(md:Region.Mode)(ops:Array Oper)(Q:Exit->Act->World->Prop)(S:World->Prop)(p:Nat):Nat->Array Bool->Act->World->Prop
 | 0,listed,a,w=>Region.ready md ops listed=[]/\Q .normal a w
 | fuel+1,listed,a,w =>
   (Region.ready md ops listed=[]->Q .normal a w) /\
   ∀ i ∈ Region.ready md ops listed,wpOp P ops Q i (fun a' w'=>(i<p->S w')/\wpAnyT P md ops Q S p fuel (listed.setIfInBounds i true) a' w') a w
theorem wpAny_of_T:∀ (fuel:Nat) (listed:Array Bool) (a:Act) (w:World),wpAnyT P md ops Q S p fuel listed a w->wpAny P md ops Q fuel listed a w
 | 0,_,_,_,h=>h
 | fuel+1,_,_,_,h=>⟨h.1,fun i hi=>wpOp_mono (fun a' w' h'=>wpAny_of_T fuel _ a' w' h'.2) (h.2 i hi)⟩
/-- Whatever stands in the second phase waits for all of the first. -/
def phaseB(md:Region.Mode)(ops:Array Oper)(p:Nat):Bool:=
 (List.range ops.size).all fun j=>decide (j<p) || (List.range p).all fun i=>Region.waitsFor md ops j i
theorem wpAnyT_first{i:Nat}{oi:Oper}{v:Value}(hi:ops[i]?=some oi)(hsel:∀ (j:Nat) (o:Oper) cs b,ops[j]?=some o->o.op≠.select cs b)
   (hQ:∀ c a w,Q (.panic c) (a.put oi.dst v) w->Q (.panic c) a w) (hip:i<p) (hph:phaseB md ops p=true) :
   ∀ (fuel:Nat) (listed:Array Bool) (a:Act) (w:World),
     (∀ j oj,ops[j]?=some oj->j≠i->listed.getD j true=false->(∀ e ∈ oj.after,Region.binds md e=true->e.on≠i)->oi.apart ops oj=true) ->
     i ∈ Region.ready md ops listed->YieldsIf P ops S oi v a->S w ->
     wpAnyT P md ops Q S p fuel (listed.setIfInBounds i true) (a.put oi.dst v) w->wpAnyT P md ops Q S p (fuel+1) listed a w:=by
 intro fuel
 induction fuel with
 | zero =>
   intro listed a w _ hr hy hS H
   refine ⟨fun h=>(by rw [h] at hr;cases hr),fun j hj=>?_⟩
   by_cases hji:j=i
   · subst hji;exact hy.wpOp hi hS ⟨fun _=>hS,H⟩
   have:=ready_mono hj hji
   rw [H.1] at this
   cases this
 | succ fuel ih =>
   intro listed a w hfree hr hy hS H
   refine ⟨fun h=>(by rw [h] at hr;cases hr),fun j hj=>?_⟩
   by_cases hji:j=i
   · subst hji;exact hy.wpOp hi hS ⟨fun _=>hS,H⟩
   have h1:=H.2 j (ready_mono hj hji)
   obtain ⟨hjun,oj,hoj,hall⟩:=mem_ready.1 hj
   have hnot:∀ e ∈ oj.after,Region.binds md e=true->e.on≠i:=fun e he hb heq=>by
     have h1:=hall e he hb
     have h0:=(mem_ready.1 hr).1
     rw [heq] at h1
     rcases Nat.lt_or_ge i listed.size with h' | h'
     · simp [h'] at h0 h1;rw [h0] at h1;cases h1
     simp [Array.getElem?_eq_none h'] at h1
   have hjp:j<p:=by
     have hjs:j<ops.size:=(Array.getElem?_eq_some_iff.1 hoj).1
     have h2:=List.all_eq_true.1 hph j (List.mem_range.2 hjs)
     simp only [Bool.or_eq_true,decide_eq_true_eq] at h2
     rcases h2 with h2|h2
     · exact h2
     have h3:=List.all_eq_true.1 h2 i (List.mem_range.2 hip)
     obtain ⟨o',ho',e,he,hb,hon⟩:=Region.waitsFor_spec h3
     have:o'=oj:=Option.some.inj (ho'.symm.trans hoj)
     subst this
     exact absurd hon (hnot e he hb)
   have h2:=wpOp_putIf hoj (hfree j oj hoj hji hjun hnot) (fun cs b=>hsel i oi cs b hi) (fun cs b=>hsel j oj cs b hoj) hQ hy h1
   have hfree':∀ k ok,ops[k]?=some ok->k≠i->(listed.setIfInBounds j true).getD k true=false ->
       (∀ e ∈ ok.after,Region.binds md e=true->e.on≠i)->oi.apart ops ok=true:=fun k ok hk hki hun hno=>by
     refine hfree k ok hk hki ?_ hno
     by_cases hjk:j=k
     · subst hjk;exact hjun
     rw [getD_set_ne true hjk] at hun;exact hun
   refine wpOp_mono (fun a' w' h3=>⟨h3.2.1,ih (listed.setIfInBounds j true) a' w' hfree' (ready_mono hr (Ne.symm hji)) h3.1 (h3.2.1 hjp) ?_⟩) h2
   rw [Array.setIfInBounds_comm _ _ hji]
   exact h3.2.2
theorem pH_begin{id:Nat}{a:Act}{w:World}{l:List Oper}{n:Nat}(p:Nat)(S:World->Prop)(hm:P.follows .mixedOrders=true)(hn:l.length=n)
   (h:wpAnyT P .any l.toArray Q S p n (Array.replicate n false) a (w.drewN 1)):(Code.region id l.toArray true).wp P Q a w:=by
 subst hn
 refine wp_region_any hm (wpAny_of_T (S:=S) (p:=p) _ _ _ _ ?_)
 have e:l.toArray.size=l.length:=by simp
 rw [e]
 exact h
theorem pH_take{i:Nat}{o:Oper}{f:Nat}{listed:Array Bool}{a:Act}{w:World}(d:Option Tmp)(v:Value)(hi:ops[i]?=some o)(hd:o.dst=d)(hs:Region.noSelect ops=true)(hf:Region.free md ops listed i=true)(hr:(Region.ready md ops listed).contains i=true)
   (hph:phaseB md ops p=true) (hip:decide (i<p)=true) (hQ:∀ c d v a w,Q (.panic c) (Act.put a d v) w->Q (.panic c) a w) (hy:YieldsIf P ops S o v a) (hS:S w)
   (h:wpAnyT P md ops Q S p f (listed.setIfInBounds i true) (a.put d v) w):wpAnyT P md ops Q S p (f+1) listed a w:=by
 subst hd
 exact wpAnyT_first hi (Region.noSelect_spec hs) (fun c a w h=>hQ c _ _ a w h) (of_decide_eq_true hip) hph f listed a w (Region.free_spec hi hf) (by simpa using hr) hy hS h
theorem pH_val{i:Nat}{o:Oper}{f:Nat}{listed:Array Bool}{a:Act}{w:World}(d:Option Tmp)(v:Value)(hi:ops[i]?=some o)(hd:o.dst=d)(hs:Region.noSelect ops=true)(hf:Region.free md ops listed i=true)(hr:(Region.ready md ops listed).contains i=true)
   (hph:phaseB md ops p=true) (hip:decide (i<p)=true) (hQ:∀ c d v a w,Q (.panic c) (Act.put a d v) w->Q (.panic c) a w) (hw:Region.wanted o (yielded ops a.tmps)=true) (hS:S w)
   (hv:∀ W,S W->(execOp a.eval o).run P W=.ok (.value v) W) (h:wpAnyT P md ops Q S p f (listed.setIfInBounds i true) (a.put d v) w):wpAnyT P md ops Q S p (f+1) listed a w:=
 pH_take d v hi hd hs hf hr hph hip hQ (.inl ⟨hw,hv⟩) hS h
theorem pH_skip{i:Nat}{o:Oper}{f:Nat}{listed:Array Bool}{a:Act}{w:World}(d:Option Tmp)(hi:ops[i]?=some o)(hd:o.dst=d)(hs:Region.noSelect ops=true)(hf:Region.free md ops listed i=true)(hr:(Region.ready md ops listed).contains i=true)
   (hph:phaseB md ops p=true) (hip:decide (i<p)=true) (hQ:∀ c d v a w,Q (.panic c) (Act.put a d v) w->Q (.panic c) a w) (hw:Region.wanted o (yielded ops a.tmps)=false) (hS:S w)
   (h:wpAnyT P md ops Q S p f (listed.setIfInBounds i true) (a.put d undef) w):wpAnyT P md ops Q S p (f+1) listed a w:=
 pH_take d undef hi hd hs hf hr hph hip hQ (.inr ⟨hw,rfl⟩) hS h
theorem pH_all{rs:List Nat}{f:Nat}{listed:Array Bool}{a:Act}{w:World}(hr:Region.ready md ops listed=rs)(hne:rs.isEmpty=false)
   (h:∀ i ∈ rs,wpOp P ops Q i (fun a' w'=>(i<p->S w')/\wpAnyT P md ops Q S p f (listed.setIfInBounds i true) a' w') a w):wpAnyT P md ops Q S p (f+1) listed a w:=
 ⟨fun h0=>absurd hne (by rw [← hr,h0];simp),hr ▸ h⟩
theorem pOp_run{i:Nat}{o:Oper}{K:Act->World->Prop}{a:Act}{w w':World}(d:Option Tmp)(v:Value)(hi:ops[i]?=some o)(hd:o.dst=d)(hw:Region.wanted o (yielded ops a.tmps)=true)
   (hv:(execOp a.eval o).run P w=.ok (.value v) w') (h:K (a.put d v) w'):wpOp P ops Q i K a w:=by
 subst hd
 unfold wpOp
 simp only [hi]
 rw [if_pos hw]
 refine .inl ?_
 unfold Oper.wp
 rw [hv,Oper.upon_value]
 exact h
theorem pOp_skipv{i:Nat}{o:Oper}{K:Act->World->Prop}{a:Act}{w w':World}(d:Option Tmp)(hi:ops[i]?=some o)(hd:o.dst=d)(hw:Region.wanted o (yielded ops a.tmps)=true)
   (hv:(execOp a.eval o).run P w=.ok .skip w') (h:K (a.put d undef) w'):wpOp P ops Q i K a w:=by
 subst hd
 unfold wpOp
 simp only [hi]
 rw [if_pos hw]
 refine .inl ?_
 unfold Oper.wp
 rw [hv,Oper.upon_skip]
 exact h
theorem pH_run{i:Nat}{o:Oper}{f:Nat}{listed:Array Bool}{a:Act}{w w':World}(d:Option Tmp)(v:Value)(hi:ops[i]?=some o)(hd:o.dst=d)(hr:Region.ready md ops listed=[i])(hw:Region.wanted o (yielded ops a.tmps)=true)
   (hv:(execOp a.eval o).run P w=.ok (.value v) w') (hS:i<p->S w') (h:wpAnyT P md ops Q S p f (listed.setIfInBounds i true) (a.put d v) w'):wpAnyT P md ops Q S p (f+1) listed a w:=
 pH_all hr rfl fun j hj=>by
   have hji:j=i:=by simpa using hj
   subst hji
   exact pOp_run d v hi hd hw hv ⟨hS,h⟩
theorem pH_runs{i:Nat}{o:Oper}{f:Nat}{listed:Array Bool}{a:Act}{w w':World}(d:Option Tmp)(hi:ops[i]?=some o)(hd:o.dst=d)(hr:Region.ready md ops listed=[i])(hw:Region.wanted o (yielded ops a.tmps)=true)
   (hv:(execOp a.eval o).run P w=.ok .skip w') (hS:i<p->S w') (h:wpAnyT P md ops Q S p f (listed.setIfInBounds i true) (a.put d undef) w'):wpAnyT P md ops Q S p (f+1) listed a w:=
 pH_all hr rfl fun j hj=>by
   have hji:j=i:=by simpa using hj
   subst hji
   exact pOp_skipv d hi hd hw hv ⟨hS,h⟩
theorem pH_call{i:Nat}{o:Oper}{f:Nat}{listed:Array Bool}{a:Act}{w:World}{R:Ending->World->Prop}(d:Option Tmp)(hi:ops[i]?=some o)(hd:o.dst=d)(hr:Region.ready md ops listed=[i])(hw:Region.wanted o (yielded ops a.tmps)=true)
   (fn:FuncId) (xl:List Operand) (ats:Array TypeId) (ho:o.op=.call { callee:=.value (.func fn),args:=xl.toArray,argTypes:=ats }) (al:List Value) (hargs:xl.map a.eval=al) (hg:goB P fn=true)
   (hcall:Calls P fn al.toArray w R) (h:∀ e w',R e w'->∃ v,e=.returned v/\(i<p->S w')/\wpAnyT P md ops Q S p f (listed.setIfInBounds i true) (a.put d v) w'):wpAnyT P md ops Q S p (f+1) listed a w:=
 pH_all hr rfl fun j hj=>by
   have hji:j=i:=by simpa using hj
   subst hji
   subst hd
   exact wpOp_call hi hw fn xl ats ho al hargs hg hcall fun e w' hR=>by
     obtain ⟨v,he,hS,hn⟩:=h e w' hR
     exact ⟨v,he,hS,hn⟩
theorem pH_done{listed:Array Bool}{a:Act}{w:World}(hr:Region.ready md ops listed=[])(h:Q .normal a w) :
   ∀ fuel,wpAnyT P md ops Q S p fuel listed a w
 | 0=>⟨hr,h⟩
 | _+1=>⟨fun _=>h,by rw [hr];simp⟩
theorem pH_pushV{i f:Nat}{o:Oper}{listed:Array Bool}{a:Act}{w:World}(d:Option Tmp)(hio:ops[i]?=some o)(hd:o.dst=d)(hr:Region.ready md ops listed=[i])(hw:Region.wanted o (yielded ops a.tmps)=true)(s x:Operand)(t:TypeId)(ho:o.op=.call { callee:=.builtin .append,args:=#[s,x],argTypes:=#[t,t] })
   (base:Nat) (E sz bytes:Nat) (z:Value) (ht:P.underlying t=some (.slice E)) (hi:(P.info? E).map (fun i=>(i.zero,i.size,i.bytes))=some (some z,sz,bytes)) (hzs:z.cells.size=sz) (hsz:0<sz)
   (v:Value) (xs:List (List Value)) (hs:a.eval s=v) (hv:OV w base E sz v xs) (b:Nat) (T:TypeId) (news:List Value) (c:Nat) (hx:a.eval x=.slice (some ⟨b,0,none⟩) 1 c) (hb:Blk w b T news) (hn:news.length=sz) (h1:∀ u ∈ news,u.oneCell'=true)
   (hlen:(xs.length+1)*bytes<=140737488355328) (hlen2:xs.length<maxLen) (hbase:base<=w.heap.size)
   (h:∀ v' w',OV w' base E sz v' (xs++[news])->w.grownBy w' v.ownBlock->(v'.ownBlock=v.ownBlock∨v'.ownBlock=some w.heap.size)->(i<p->S w')/\wpAnyT P md ops Q S p f (listed.setIfInBounds i true) (a.put d v') w'):wpAnyT P md ops Q S p (f+1) listed a w:=by
 obtain ⟨v',w',hrun,h2,h3,h4⟩:=OV.push (P:=P) s x t ho base E sz bytes z ht hi hzs hsz v xs hs hv b T news c hx hb hn h1 hlen hlen2 hbase
 have hh:=h v' w' h2 h3 h4
 exact pH_run d v' hio hd hr hw hrun hh.1 hh.2
end
end Go.QT
end
namespace Go.Proofs.YtaoijkhndakppaaGreat
section
open Go.RowKit Go.QT
/-! ### Words -/
def pt(b k:Nat):Value:=.pointer (some ⟨b,k,none⟩)
def rBlk(g:Nat)(T:TypeId)(cs:List Value):Res where
  F:=fun q=>q=g
  Φ:=fun w=>Blk w g T cs
  lt:=fun h q hq=>by subst hq;exact h.lt
  keep:=fun h _ hk=>(hk g rfl).trans h
def rOB(v:Value)(l:Bytes):Res where
  F:=fun q=>v.ownBlock=some q
  Φ:=fun w=>OB w 0 v l
  lt:=fun h q hq=>(OB.own h q hq).2
  keep:=fun h _ hk=>OB.keep h hk
def rOV(E:TypeId)(sz:Nat)(v:Value)(xs:List (List Value)):Res where
  F:=fun q=>v.ownBlock=some q
  Φ:=fun w=>OV w 0 E sz v xs
  lt:=fun h q hq=>(h.block q hq).2
  keep:=fun h _ hk=>h.keep hk
def rSB(v:Value)(l:Bytes):Res where
  F:=fun q=>l≠[] ∧ v.ownBlock=some q
  Φ:=fun w=>SB w v l
  lt:=fun h q hq=>by
    obtain ⟨A,c,rfl,hc,hm,h⟩:=h
    obtain ⟨b,o,rfl,hb,_⟩:=h hq.1
    have:b=q:=by simpa [Value.ownBlock] using hq.2
    omega
  keep:=fun h hs hk=>by
    obtain ⟨A,c,rfl,hc,hm,h⟩:=h
    refine ⟨A,c,rfl,hc,hm,fun hl=>?_⟩
    obtain ⟨b,o,rfl,hb,hcell⟩:=h hl
    exact ⟨b,o,rfl,by omega,fun i hi=>(World.cell?_of_block (hk b ⟨hl,rfl⟩)).trans (hcell i hi)⟩
/-- Sixteen bytes whose places the kernel can see. -/
def kl(K:Fin 16 → UInt8):Bytes:=List.ofFn K
theorem kl_len(K:Fin 16 → UInt8):(kl K).length=16:=by simp [kl]
theorem kl_of(l:Bytes)(h:l.length=16):∃ K,l=kl K:=by
  refine ⟨fun i=>l[i.val]'(by have:=i.isLt;omega),?_⟩
  apply List.ext_getElem
  · simp [kl,h]
  intro i h1 h2;simp only [kl,List.getElem_ofFn]
/-! ### What needs no world -/
def pureVal(P:Program){α:Type}:Sem α → Option α
  | .pure a=>some a
  | .program k=>pureVal P (k P)
  | .mark _ k=>pureVal P k
  | _=>none
theorem pureVal_run{P:Program}{α:Type}{s:Sem α}{a:α}(h:pureVal P s=some a)(w:World):s.run P w=.ok a w:=by
  induction s with
  | pure b=>simp only [pureVal,Option.some.injEq] at h;subst h;rfl
  | program k ih=>exact ih P h
  | mark m k ih=>exact ih h
  | _=>simp [pureVal] at h
def pureOp(P:Program)(o:Oper)(a:Act):Option Value:=
  match pureVal P (execOp a.eval o) with
  | some (.value v)=>some v
  | _=>none
theorem pureOp_run{P:Program}{o:Oper}{a:Act}{v:Value}(h:pureOp P o a=some v)(w:World):(execOp a.eval o).run P w=.ok (.value v) w:=by
  unfold pureOp at h
  split at h
  · rename_i u hu
    injection h with h;subst h
    exact pureVal_run hu w
  cases h
theorem e_is{P:Program}{o:Oper}{a:Act}{v u:Value}(h:pureOp P o a=some v)(e:v=u){w:World}:(execOp a.eval o).run P w=.ok (.value u) w:=by subst e;exact pureOp_run h w
section
variable{P:Program}{ops:Array Oper}{rest l l':List Oper}{o:Oper}{a:Act}{w w':World}{Q:Exit → Act → World → Prop}{R:Value → World → Prop}
/-- What is to be shown of the operations of a region that are still to come. -/
structure WL(P:Program)(ops:Array Oper)(Q:Exit → Act → World → Prop)(l:List Oper)(a:Act)(w:World):Prop where
  run:wpList P ops Q l a w
theorem reg_lit{id:Nat}(h:WL P l.toArray Q l a w):(Code.region id l.toArray false).wp P Q a w:=wp_region_lit h.run
/-! ### What an operation comes to -/
structure OpTo(P:Program)(o:Oper)(a:Act)(w:World)(R:Value → World → Prop):Prop where
  goes:∀ (next:Act → World → Prop) (Q:Exit → Act → World → Prop),(∀ v w',R v w' → next (a.put o.dst v) w') → o.wp P a w next Q
theorem OpTo.run(v:Value)(hv:(execOp a.eval o).run P w=.ok (.value v) w')(hr:R v w'):OpTo P o a w R:=⟨fun next Q k=>by
  unfold Oper.wp;rw [hv];exact k _ _ hr⟩
theorem OpTo.runs(hv:(execOp a.eval o).run P w=.ok .skip w')(hr:R undef w'):OpTo P o a w R:=⟨fun next Q k=>by
  unfold Oper.wp;rw [hv];exact k _ _ hr⟩
/-- A call, told by the kernel. -/
theorem OpTo.enter{C:Ending → World → Prop}(fn:FuncId)(al:List Value)(hp:pureVal P (execOp a.eval o)=some (.enter fn al.toArray))(hc:Calls P fn al.toArray w C)(h:∀ e w',C e w' → ∃ v,e=.returned v ∧ R v w'):OpTo P o a w R:=⟨fun next Q k=>by
  unfold Oper.wp
  rw [pureVal_run hp w,Oper.upon_enter]
  refine hc.mono fun e w' hR=>?_
  obtain ⟨v,rfl,hn⟩:=h e w' hR
  exact k _ _ hn⟩
/-- What makes one block. -/
def newVal(P:Program){α:Type}:Sem α → Option (Obj × (Nat → Option α))
  | .new o k=>some (o,fun r=>pureVal P (k r))
  | .program k=>newVal P (k P)
  | .mark _ k=>newVal P k
  | _=>none
theorem newVal_run{P:Program}{α:Type}{s:Sem α}{o:Obj}{k:Nat → Option α}{a:α}(h:newVal P s=some (o,k))(w:World)(hk:k w.heap.size=some a):s.run P w=.ok a (w.alloc o):=by
  induction s with
  | new o' k' ih =>
    simp only [newVal,Option.some.injEq,Prod.mk.injEq] at h
    obtain ⟨rfl,rfl⟩:=h
    exact pureVal_run hk _
  | program k' ih=>exact ih P h
  | mark m k' ih=>exact ih h
  | _=>simp [newVal] at h
theorem OpTo.mono{R':Value → World → Prop}(h:OpTo P o a w R)(k:∀ v w',R v w' → R' v w'):OpTo P o a w R':=⟨fun next Q n=>h.goes next Q fun v w' hr=>n v w' (k v w' hr)⟩
/-- A step of a plain region. -/
theorem wl_to(hw:Region.wanted o (yielded ops a.tmps)=true)(h:OpTo P o a w R)(k:∀ v w',R v w' → WL P ops Q rest (a.put o.dst v) w'):WL P ops Q (o::rest) a w:=
  ⟨wpList_step fun K hK=>by
    rw [if_pos hw]
    exact h.goes _ _ fun v w' hr=>hK _ _ (k v w' hr).run⟩
/-- One that leaves the world. -/
theorem wl_v(hw:Region.wanted o (yielded ops a.tmps)=true)(v:Value)(hv:(execOp a.eval o).run P w=.ok (.value v) w)(k:WL P ops Q rest (a.put o.dst v) w):WL P ops Q (o::rest) a w:=
  ⟨wl_runG hw v hv k.run⟩
/-! ### Operations on what is held -/
variable{F0:Nat → Prop}{w0:World}{ro rs:List Res}
theorem Hp.alloc(h:Hp F0 w0 w ro rs)(T:TypeId)(cs:List Value):Hp F0 w0 (w.alloc (.cells cs.toArray T)) ro (rBlk w.heap.size T cs::rs):=
  h.newS ((Below.refl _ _).alloc (Nat.le_refl _) _) (rBlk w.heap.size T cs) (Blk.new w T cs) (fun q hq=>by rw [show q=_ from hq];exact Nat.le_refl _)
theorem x_new(h:Hp F0 w0 w ro rs)(T:TypeId)(cs:List Value)(f:Nat → Value)(hn:newVal P (execOp a.eval o)=some (.cells cs.toArray T,fun r=>some (.value (f r)))) :
    OpTo P o a w (fun v w'=>∃ g,v=f g ∧ Hp F0 w0 w' ro (rBlk g T cs::rs)):=
  OpTo.run (f w.heap.size) (newVal_run hn w rfl) ⟨_,rfl,h.alloc T cs⟩
/-- A load of one cell of a block that is held. -/
theorem e_load{g:Nat}{T:TypeId}{cs:List Value}(hb:Blk w g T cs)(t:TypeId)(x:Operand)(ho:o.op=.load t x)(k:Nat)(v:Value)(hx:a.eval x=pt g k)(hk:cs[k]?=some v)(ht:pureVal P (isAgg t)=some false) :
    (execOp a.eval o).run P w=.ok (.value v) w:=by
  have hc:w.cell? ⟨g,k,none⟩=some v:=(hb.cell k).trans hk
  have hl:(loadVar t ⟨g,k,none⟩).run P w=.ok v w:=by simp [loadVar,pureVal_run ht,hc]
  unfold execOp
  simp only [ho,hx,pt,Instr.loadAt,Instr.sureAddr,Sem.run_bind,Sem.run_pure,Result.andThen_ok,hl]
def rowB(P:Program)(t:TypeId)(n:Nat):Bool:=(match P.underlying t with|some d=>d.isRow|none=>false) && ((P.info? t).map (·.size) == some n)
theorem rowB_spec{t:TypeId}{n:Nat}(h:rowB P t n=true):∃ d,P.underlying t=some d ∧ d.isRow=true ∧ (P.info? t).map (·.size)=some n:=by
  unfold rowB at h
  simp only [Bool.and_eq_true,beq_iff_eq] at h
  obtain ⟨h1,h2⟩:=h
  cases hd:P.underlying t with
  | none=>rw [hd] at h1;cases h1
  | some d=>rw [hd] at h1;exact ⟨d,rfl,h1,h2⟩
/-- A load of a row. -/
theorem e_loads{g:Nat}{T:TypeId}{cs:List Value}(hb:Blk w g T cs)(t:TypeId)(x:Operand)(ho:o.op=.load t x)(k:Nat)(ds:List Value)(hx:a.eval x=pt g k)(hk:(cs.drop k).take ds.length=ds)(hB:rowB P t ds.length=true):(execOp a.eval o).run P w=.ok (.value (.agg ds.toArray)) w:=by
  obtain ⟨d,hu,hr,hi⟩:=rowB_spec hB
  exact exec_load t x ho g k hx T cs ds d hb (fun j v hj=>slice_get cs k ds.length j v (by rw [hk];exact hj)) hu hr hi
theorem Fr.setCell(w:World)(g k:Nat)(v:Value):Fr (fun q=>q=g) w (w.setCell ⟨g,k,none⟩ v):=
  Fr.of_grown (only_setCell (only_refl w (some g)) (.inl rfl) v) (fun q hq=>by injection hq with hq;exact .inl hq.symm)
/-- A store into a block that is held. -/
theorem x_store(h:Hp F0 w0 w ro rs)(i:Nat){g:Nat}{T:TypeId}{cs:List Value}(hi:rs[i]?=some (rBlk g T cs))(t:TypeId)(x y:Operand)(ho:o.op=.store t x y)(k:Nat)(v:Value)(es:List Value)(hx:a.eval x=pt g k)(hy:a.eval y=v)(hk:decide (k<cs.length)=true)
    (hsz:(P.info? t).map (·.size)=some 1) (h1:v.oneCell'=true) (hv:v.cells=#[v]) (he:es=cs.set k v) :
    OpTo P o a w (fun _ w'=>Hp F0 w0 w' ro (rs.set i (rBlk g T es))):=by
  subst he
  have hb:Blk w g T cs:=h.own i _ hi
  refine OpTo.runs (w':=w.setCell ⟨g,k,none⟩ v) (exec_storeCell t x y ho g k v hx hy T cs hb (of_decide_eq_true hk) hsz h1 hv) ?_
  exact h.upd i hi (Fr.setCell w g k v) (rBlk g T (cs.set k v)) (hb.set k v) (fun q hq=>.inl hq)
theorem x_stores(h:Hp F0 w0 w ro rs)(i:Nat){g:Nat}{T:TypeId}{cs:List Value}(hi:rs[i]?=some (rBlk g T cs))(t:TypeId)(x y:Operand)(ho:o.op=.store t x y)(k:Nat)(ds es:List Value)(hx:a.eval x=pt g k)(hy:a.eval y=.agg ds.toArray)(hk:decide (k+ds.length ≤ cs.length)=true)
    (hsz:(P.info? t).map (·.size)=some ds.length) (h1:ds.all (·.oneCell')=true) (he:es=cs.take k++ds++cs.drop (k+ds.length)) :
    OpTo P o a w (fun _ w'=>Hp F0 w0 w' ro (rs.set i (rBlk g T es))):=by
  have hb:Blk w g T cs:=h.own i _ hi
  subst he
  refine OpTo.runs (exec_storeRow t x y ho g k ds hx hy T cs hb (of_decide_eq_true hk) hsz (by simpa using h1)) ?_
  exact h.upd i hi (Fr.of_grown (only_setRow g _) (fun q hq=>by injection hq with hq;exact .inl hq.symm)) _ (hb.setRow _) (fun q hq=>.inl hq)
/-! ### Regions that draw their order -/
def marks(L:Array Bool)(is:List Nat):Array Bool:=is.foldl (fun L i=>L.setIfInBounds i true) L
section
variable{md:Region.Mode}{S:World → Prop}{p:Nat}{L:Array Bool}
def bl(n m:Nat):Array Bool:=((List.range n).map (Nat.testBit m)).toArray
/-- What leaves the world, as long as S holds of it. -/
theorem pH_v{f:Nat}(i:Nat)(d:Option Tmp)(v:Value)(L':Array Bool)(hL:marks L [i]=L')(hi:ops[i]?=some o)(hd:o.dst=d)(hs:Region.noSelect ops=true)(hf:Region.free md ops L i=true)(hr:(Region.ready md ops L).contains i=true)
    (hph:phaseB md ops p=true) (hip:decide (i<p)=true) (hQ:∀ c d v a w,Q (.panic c) (Act.put a d v) w → Q (.panic c) a w) (hw:Region.wanted o (yielded ops a.tmps)=true) (hS:S w)
    (hv:∀ W,S W → (execOp a.eval o).run P W=.ok (.value v) W) (k:wpAnyT P md ops Q S p f L' (a.put d v) w):wpAnyT P md ops Q S p (f+1) L a w:=by
  subst hL;exact pH_val d v hi hd hs hf hr hph hip hQ hw hS hv k
/-- What comes up alone. -/
theorem pH_to{f:Nat}(i:Nat)(d:Option Tmp)(L':Array Bool)(hL:marks L [i]=L')(hi:ops[i]?=some o)(hd:o.dst=d)(hr:Region.ready md ops L=[i])(hw:Region.wanted o (yielded ops a.tmps)=true)
    (h:OpTo P o a w R) (k:∀ v w',R v w' → (i<p → S w') ∧ wpAnyT P md ops Q S p f L' (a.put d v) w'):wpAnyT P md ops Q S p (f+1) L a w:=by
  subst hL;subst hd
  refine pH_all hr rfl fun j hj=>?_
  have hji:j=i:=by simpa using hj
  subst hji
  unfold wpOp
  simp only [hi]
  rw [if_pos hw]
  exact .inl (h.goes _ _ fun v w' hr=>k v w' hr)
theorem pH_op{f:Nat}(i:Nat)(d:Option Tmp)(L':Array Bool)(hL:marks L [i]=L')(hi:ops[i]?=some o)(hd:o.dst=d)(hw:Region.wanted o (yielded ops a.tmps)=true)
    (h:OpTo P o a w R) (k:∀ v w',R v w' → (i<p → S w') ∧ wpAnyT P md ops Q S p f L' (a.put d v) w') :
    wpOp P ops Q i (fun a' w'=>(i<p → S w') ∧ wpAnyT P md ops Q S p f (L.setIfInBounds i true) a' w') a w:=by
  subst hL;subst hd
  unfold wpOp
  simp only [hi]
  rw [if_pos hw]
  exact .inl (h.goes _ _ fun v w' hr=>k v w' hr)
/-- Two come up together. -/
theorem pH_or{f:Nat}(i j:Nat)(hr:Region.ready md ops L=[i,j])
    (h1:wpOp P ops Q i (fun a' w'=>(i<p → S w') ∧ wpAnyT P md ops Q S p f (L.setIfInBounds i true) a' w') a w)
    (h2:wpOp P ops Q j (fun a' w'=>(j<p → S w') ∧ wpAnyT P md ops Q S p f (L.setIfInBounds j true) a' w') a w):wpAnyT P md ops Q S p (f+1) L a w:=by
  refine pH_all hr rfl fun k hk=>?_
  rcases List.mem_cons.1 hk with rfl|hk
  · exact h1
  have:k=j:=by simpa using hk
  subst this;exact h2
theorem pH_go{F0:Nat → Prop}{w0:World}{ro rs:List Res}(h:Hp F0 w0 w ro rs){id:Nat}{n:Nat}(p:Nat)(S:World → Prop)(hm:P.follows .mixedOrders=true)(hn:l.length=n)(hL:Array.replicate n false=bl n 0)(hs:Region.noSelect l.toArray=true)(hph:phaseB .any l.toArray p=true)
    (k:Region.noSelect l.toArray=true → phaseB .any l.toArray p=true → ∀ w',Hp F0 w0 w' ro rs → wpAnyT P .any l.toArray Q S p n (bl n 0) a w'):(Code.region id l.toArray true).wp P Q a w:=
  pH_begin p S hm hn (hL ▸ k hs hph _ (h.drewN 1))
end
/-! ### Control -/
theorem wl_end(hl:l=[])(h:Q .normal a w):WL P ops Q l a w:=by subst hl;exact ⟨h⟩
theorem seq_n{c:Code}{K:Act → World → Prop}(hK:∀ a w,c.wp P Q a w → K a w)(h:c.wp P Q a w):Exit.then K Q .normal a w:=hK _ _ h
theorem seq_e{K:Act → World → Prop}{e:Nat}(h:Q (.exit e) a w):Exit.then K Q (.exit e) a w:=h
theorem blk_n{i:Nat}(h:Q .normal a w):Exit.inBlock i Q .normal a w:=h
theorem blk_e{i:Nat}(h:Q .normal a w):Exit.inBlock i Q (.exit i) a w:=by
  show (if i=i then Q .normal a w else Q (.exit i) a w)
  rw [if_pos rfl];exact h
def dead(a:Act):Nat → Value:=fun i=>a.tmps.getD i undef
theorem least{p:Nat → Prop}(h:∃ m,p m):∃ m,p m ∧ ∀ k,p k → m ≤ k:=by
  obtain ⟨m,hm⟩:=h
  induction m using Nat.strongRecOn with
  | _ m ih =>
    by_cases hk:∃ k,k<m ∧ p k
    · obtain ⟨k,hlt,hp⟩:=hk;exact ih k hlt hp
    exact ⟨m,hm,fun k hp=>Nat.le_of_not_lt fun hlt=>hk ⟨k,hlt,hp⟩⟩
open Classical in
noncomputable def leastN (p:Nat → Prop):Nat:=if h:∃ m,p m then (least h).choose else 0
theorem leastN_spec{p:Nat → Prop}(h:∃ m,p m):p (leastN p) ∧ ∀ k,p k → leastN p ≤ k:=by
  unfold leastN;rw [dif_pos h];exact (least h).choose_spec
/-- A loop: J m x a w holds at its head, where m goes down. -/
theorem wp_loopm{c:Code}(J:Nat → (Nat → Value) → Act → World → Prop)(h0:∃ m,J m (dead a) a w)
    (round:∀ m x a w,J m x a w → c.wp P (Exit.then (fun a' w'=>∃ m',m'<m ∧ J m' (dead a') a' w') Q) a w):(Code.loop c).wp P Q a w:=by
  refine wp_loop (fun a w=>∃ m,J m (dead a) a w) (fun a w=>leastN fun m=>J m (dead a) a w) h0 ?_
  intro a w h
  refine wp_mono (round _ _ a w (leastN_spec h).1) fun e a' w' hq=>?_
  cases e with
  | normal =>
    obtain ⟨m',hlt,hJ⟩:=hq
    exact ⟨⟨m',hJ⟩,Nat.lt_of_le_of_lt ((leastN_spec ⟨m',hJ⟩).2 m' hJ) hlt⟩
  | _=>exact hq
variable{x y:Code}
/-! ### Results -/
def resOne(tmps:Array Value):ResultVar → Sem Value
  | .tmp t=>pure (tmps.getD t undef)
  | .cell a t=>do loadVar t (← asAddr (tmps.getD a undef))
theorem results_eq(fn:Func)(tmps:Array Value):results fn tmps=(do
    let vs ← fn.results.mapM (resOne tmps)
    pure (if h:vs.size=1 then vs[0] else .tuple vs)):=by
  unfold results
  congr 1
theorem rtmp{tmps:Array Value}{t:Tmp}{v:Value}(h:tmps.getD t undef=v):(resOne tmps (.tmp t)).run P w=.ok v w:=by
  subst h;rfl
theorem rcell{tmps:Array Value}{p:Tmp}{t:TypeId}{g:Nat}{T:TypeId}{cs:List Value}(hb:Blk w g T cs)(h:tmps.getD p undef=pt g 0)(hB:rowB P t cs.length=true):(resOne tmps (.cell p t)).run P w=.ok (.agg cs.toArray) w:=by
  obtain ⟨d,hu,hr,hi⟩:=rowB_spec hB
  have hl:=run_loadVar_mid (P:=P) w g 0 t cs d (hb.range (fun j v hj=>by rw [Nat.zero_add];exact hj)) hu hr hi
  unfold resOne
  simp only [h,pt,asAddr,Sem.run_bind,Sem.run_pure,Result.andThen_ok,hl]
theorem post_0{fn:Func}{R:Ending → World → Prop}(hf:fn.results=#[])(hd:a.defers=[])(hr:R (.returned (.tuple #[])) w):bodyPost P fn R .ret a w:=
  ⟨hd,_,by rw [results_eq,hf];simp,hr⟩
theorem post_1{fn:Func}{R:Ending → World → Prop}{r:ResultVar}{v:Value}(hf:fn.results=#[r])(hd:a.defers=[])(h1:(resOne a.tmps r).run P w=.ok v w)(hr:R (.returned v) w):bodyPost P fn R .ret a w:=
  ⟨hd,v,by rw [results_eq,hf];simp [h1],hr⟩
theorem post_2{fn:Func}{R:Ending → World → Prop}{r s:ResultVar}{v u:Value}(hf:fn.results=#[r,s])(hd:a.defers=[])(h1:(resOne a.tmps r).run P w=.ok v w)(h2:(resOne a.tmps s).run P w=.ok u w)
    (hr:R (.returned (.tuple #[v,u])) w):bodyPost P fn R .ret a w:=
  ⟨hd,_,by rw [results_eq,hf];simp [h1,h2],hr⟩
theorem post_3{fn:Func}{R:Ending → World → Prop}{r s t:ResultVar}{v u x:Value}(hf:fn.results=#[r,s,t])(hd:a.defers=[])(h1:(resOne a.tmps r).run P w=.ok v w)(h2:(resOne a.tmps s).run P w=.ok u w)(h3:(resOne a.tmps t).run P w=.ok x w)
    (hr:R (.returned (.tuple #[v,u,x])) w):bodyPost P fn R .ret a w:=
  ⟨hd,_,by rw [results_eq,hf];simp [h1,h2,h3],hr⟩
def act0(l:List Value)(n:Nat):Act:={ tmps:=(l++List.replicate n undef).toArray,defers:=[] }
theorem enter{f:FuncId}{fn:Func}{c:Code}{args:List Value}{R:Ending → World → Prop}(n:Nat)(hf:P.funcs[f]?=some fn)(hb:fn.body=some c)(hn:fn.ntmps-args.length=n)
    (h:c.wp P (bodyPost P fn R) (act0 args n) w):Calls P f args.toArray w R:=by
  refine calls_of_wp hf hb ?_
  have e:({ tmps:=args.toArray++Array.replicate (fn.ntmps-args.toArray.size) undef,defers:=[] }:Act)=act0 args n:=by
    subst hn
    simp [act0]
  rw [e];exact h
end
theorem rce{P:Program}{w:World}{tmps:Array Value}{p:Tmp}{t:TypeId}{g:Nat}{T:TypeId}{cs:List Value}(hb:Blk w g T cs)(h:tmps.getD p undef=pt g 0:=by kernel_rfl)(hB:rowB P t cs.length=true:=by kernel_rfl):(resOne tmps (.cell p t)).run P w=.ok (.agg cs.toArray) w:=rcell hb h hB
theorem xN{P:Program}{F0:Nat → Prop}{w0 w:World}{ro rs:List Res}{a:Act}{o:Oper}(h:Hp F0 w0 w ro rs)(T:TypeId)(cs:List Value)(hn:newVal P (execOp a.eval o)=some (.cells cs.toArray T,fun r=>some (.value (pt r 0))):=by kernel_rfl) :
    OpTo P o a w (fun v w'=>∃ g,v=pt g 0 ∧ Hp F0 w0 w' ro (rBlk g T cs::rs)):=x_new h T cs (fun r=>pt r 0) hn
theorem rtm{P:Program}{w:World}{tmps:Array Value}{t:Tmp}(v:Value)(h:tmps.getD t undef=v:=by kernel_rfl):(resOne tmps (.tmp t)).run P w=.ok v w:=rtmp h
theorem cF{P:Program}{Q:Exit → Act → World → Prop}{a:Act}{w:World}{c:Operand}{x y:Code}(h:y.wp P Q a w)(hc:a.eval c=.bool false:=by kernel_rfl):(Code.cond c x y).wp P Q a w:=wp_cond_false hc h
theorem cT{P:Program}{Q:Exit → Act → World → Prop}{a:Act}{w:World}{c:Operand}{x y:Code}(h:x.wp P Q a w)(hc:a.eval c=.bool true:=by kernel_rfl):(Code.cond c x y).wp P Q a w:=wp_cond_true hc h
theorem eL{P:Program}{w:World}{a:Act}{o:Oper}{g:Nat}{T:TypeId}{cs:List Value}(hb:Blk w g T cs)(t:TypeId)(x:Operand)(k:Nat)(v:Value)(ho:o.op=.load t x:=by kernel_rfl)(hx:a.eval x=pt g k:=by kernel_rfl)(hk:cs[k]?=some v:=by kernel_rfl)(ht:pureVal P (isAgg t)=some false:=by kernel_rfl) :
    (execOp a.eval o).run P w=.ok (.value v) w:=e_load hb t x ho k v hx hk ht
theorem eLs{P:Program}{w:World}{a:Act}{o:Oper}{g:Nat}{T:TypeId}{cs:List Value}(hb:Blk w g T cs)(t:TypeId)(x:Operand)(k:Nat)(ds:List Value)(ho:o.op=.load t x:=by kernel_rfl)(hx:a.eval x=pt g k:=by kernel_rfl)(hk:(cs.drop k).take ds.length=ds:=by kernel_rfl)(hB:rowB P t ds.length=true:=by kernel_rfl):(execOp a.eval o).run P w=.ok (.value (.agg ds.toArray)) w:=e_loads hb t x ho k ds hx hk hB
theorem xSt{P:Program}{F0:Nat → Prop}{w0 w:World}{ro rs:List Res}{a:Act}{o:Oper}(h:Hp F0 w0 w ro rs)(i:Nat){g:Nat}{T:TypeId}{cs:List Value}(t:TypeId)(x y:Operand)(k:Nat)(v:Value)(es:List Value)(hi:rs[i]?=some (rBlk g T cs):=by rfl)(ho:o.op=.store t x y:=by kernel_rfl)(hx:a.eval x=pt g k:=by kernel_rfl)(hy:a.eval y=v:=by kernel_rfl)(hk:decide (k<cs.length)=true:=by kernel_rfl)
    (hsz:(P.info? t).map (·.size)=some 1:=by kernel_rfl) (h1:v.oneCell'=true:=by rfl) (hv:v.cells=#[v]:=by rfl) (he:es=cs.set k v:=by kernel_rfl) :
    OpTo P o a w (fun _ w'=>Hp F0 w0 w' ro (rs.set i (rBlk g T es))):=x_store h i hi t x y ho k v es hx hy hk hsz h1 hv he
theorem xSs{P:Program}{F0:Nat → Prop}{w0 w:World}{ro rs:List Res}{a:Act}{o:Oper}(h:Hp F0 w0 w ro rs)(i:Nat){g:Nat}{T:TypeId}{cs:List Value}(t:TypeId)(x y:Operand)(k:Nat)(ds es:List Value)(hi:rs[i]?=some (rBlk g T cs):=by rfl)(ho:o.op=.store t x y:=by kernel_rfl)(hx:a.eval x=pt g k:=by kernel_rfl)(hy:a.eval y=.agg ds.toArray:=by kernel_rfl)(hk:decide (k+ds.length ≤ cs.length)=true:=by kernel_rfl)
    (hsz:(P.info? t).map (·.size)=some ds.length:=by kernel_rfl) (h1:ds.all (·.oneCell')=true:=by kernel_rfl) (he:es=cs.take k++ds++cs.drop (k+ds.length):=by kernel_rfl) :
    OpTo P o a w (fun _ w'=>Hp F0 w0 w' ro (rs.set i (rBlk g T es))):=x_stores h i hi t x y ho k ds es hx hy hk hsz h1 he
section
variable{P:Program}{ops:Array Oper}{Q:Exit → Act → World → Prop}{md:Region.Mode}{S:World → Prop}{p:Nat}
theorem oV{i:Nat}{o:Oper}{f:Nat}{listed:Array Bool}{a:Act}{w:World}(d:Option Tmp)(v:Value)(hi:ops[i]?=some o)(hd:o.dst=d)(hS:S w)(hv:∀ W,S W → (execOp a.eval o).run P W=.ok (.value v) W)(h:wpAnyH P md ops Q S f (listed.setIfInBounds i true) (a.put d v) w)(hs:Region.noSelect ops=true:=by kernel_rfl)(hf:Region.free md ops listed i=true:=by kernel_rfl)(hr:(Region.ready md ops listed).contains i=true:=by kernel_rfl)
    (hQ:∀ c d v a w,Q (.panic c) (Act.put a d v) w → Q (.panic c) a w:=by exact fun _ d _ _ _ h=>by cases d <;> exact h) (hw:Region.wanted o (yielded ops a.tmps)=true:=by kernel_rfl):wpAnyH P md ops Q S (f+1) listed a w:=oH_val d v hi hd hs hf hr hQ hw hS hv h
theorem oK{i:Nat}{o:Oper}{f:Nat}{listed:Array Bool}{a:Act}{w:World}(d:Option Tmp)(hi:ops[i]?=some o)(hd:o.dst=d)(hS:S w)(h:wpAnyH P md ops Q S f (listed.setIfInBounds i true) (a.put d undef) w)(hs:Region.noSelect ops=true:=by kernel_rfl)(hf:Region.free md ops listed i=true:=by kernel_rfl)(hr:(Region.ready md ops listed).contains i=true:=by kernel_rfl)
    (hQ:∀ c d v a w,Q (.panic c) (Act.put a d v) w → Q (.panic c) a w:=by exact fun _ d _ _ _ h=>by cases d <;> exact h) (hw:Region.wanted o (yielded ops a.tmps)=false:=by kernel_rfl):wpAnyH P md ops Q S (f+1) listed a w:=oH_skip d hi hd hs hf hr hQ hw hS h
theorem pV{i:Nat}{o:Oper}{f:Nat}{listed:Array Bool}{a:Act}{w:World}(d:Option Tmp)(v:Value)(hi:ops[i]?=some o)(hd:o.dst=d)(hS:S w)(hv:∀ W,S W → (execOp a.eval o).run P W=.ok (.value v) W)(h:wpAnyT P md ops Q S p f (listed.setIfInBounds i true) (a.put d v) w)(hs:Region.noSelect ops=true:=by kernel_rfl)(hf:Region.free md ops listed i=true:=by kernel_rfl)(hr:(Region.ready md ops listed).contains i=true:=by kernel_rfl)
    (hph:phaseB md ops p=true:=by kernel_rfl) (hip:decide (i<p)=true:=by kernel_rfl) (hQ:∀ c d v a w,Q (.panic c) (Act.put a d v) w → Q (.panic c) a w:=by exact fun _ d _ _ _ h=>by cases d <;> exact h) (hw:Region.wanted o (yielded ops a.tmps)=true:=by kernel_rfl):wpAnyT P md ops Q S p (f+1) listed a w:=pH_val d v hi hd hs hf hr hph hip hQ hw hS hv h
theorem wE{l:List Oper}{a:Act}{w:World}{c:Code}{K:Act → World → Prop}(hK:∀ a w,c.wp P Q a w → K a w)(h:c.wp P Q a w)(hl:l=[]:=by exact rfl):WL P ops (Exit.then K Q) l a w:=wl_end hl (seq_n hK h)
theorem wR{id:Nat}{l:List Oper}{a:Act}{w:World}{y:Code}(h:∀ K:Act → World → Prop,(∀ a w,y.wp P Q a w → K a w) → WL P l.toArray (Exit.then K Q) l a w):(Code.seq (Code.region id l.toArray false) y).wp P Q a w:=wp_seq_k fun K hK=>reg_lit (h K hK)
theorem u1{α:Type}(l:List α)(i:Nat)(a:α):l.toArray.setIfInBounds i a=(l.set i a).toArray:=List.setIfInBounds_toArray l i a
theorem u2{α:Type}(x:α)(l:List α)(i:Nat)(a:α):(x::l).set (i+1) a=x::l.set i a:=List.set_cons_succ ..
theorem u3{α:Type}(x:α)(l:List α)(a:α):(x::l).set 0 a=a::l:=List.set_cons_zero ..
end
abbrev D(n:Int):Value:=.int .i64 n
abbrev O:Value:=.int .i64 0
abbrev V:Value:=.bool false
abbrev I:Value:=.bool true
abbrev nS:Value:=.slice none 0 0
abbrev eS:Value:=.string ByteArray.empty
abbrev zD(n:Int):Value:=.int .i64 n
abbrev zO:Value:=.int .i64 0
abbrev zV:Value:=.bool false
abbrev zI:Value:=.bool true
abbrev zN:Value:=.slice none 0 0
abbrev zE:Value:=.string ByteArray.empty
end
end Go.Proofs.YtaoijkhndakppaaGreat
