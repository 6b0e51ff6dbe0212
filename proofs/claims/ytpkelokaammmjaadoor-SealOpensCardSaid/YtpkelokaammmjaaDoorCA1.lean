/- A region that draws its order: an operation whose guard says no. (Texts laid one behind the other: AesFn, U8, Mem, Fr, Hp, Law, Words, QT, SB, OB, Ord, Ord2.) -/
import Derived.Test.YtpkelokaammmjaaDoorRows
import Derived.WalkKit
import Derived.WalkSpells
import Derived.WalkLawsBesides
import Derived.Handy
import Derived.Lib.Hide
import Derived.Deep.Draws
import Derived.Laws.Rows
import Derived.Laws.Tables
import Derived.Laws.AppendOwn
import Derived.Deep.MidRow
import Derived.Laws.CopyRow
import Derived.BigQuiet
import Derived.Below
import Derived.Laws.OwnMore
import Derived.Deep.AppendLies
import Derived.Maps.AppendAt
import Derived.RegionTactic
import Derived.OwnWalk
import Derived.StillTail
import Derived.Deep.Quiet
import Derived.Deep.DeepCutAuto
import Derived.OrdersHeld
import Derived.Tactics
import Derived.Tactics2
import Derived.BigFrame
/-! What the functions of package aes compute, as plain functions on lists of bytes. No program in sight. -/
section
namespace Go.Proofs.YtpkelokaammmjaaDoor
abbrev Bytes := List UInt8
/-- A byte as an index. -/
@[irreducible] def nb (a : UInt8) : Nat := a.toNat
/-- A byte of a row; 0 behind its end. -/
def gb (l : Bytes) (i : Nat) : UInt8 := l.getD i 0
def dbl (b : UInt8) : UInt8 := if 128 ≤ b then (b <<< 1) ^^^ 27 else b <<< 1
def prodLoop : Nat → UInt8 → UInt8 → UInt8 → UInt8
  | 0, _, _, p => p
  | k+1, a, b, p => if b = 0 then p else prodLoop k (dbl a) (b >>> 1) (if b &&& 1 = 1 then p ^^^ a else p)
def prod (a b : UInt8) : UInt8 := prodLoop 8 a b 0
def sh1 (q : UInt8) : UInt8 := q ^^^ (q <<< 1)
def sh2 (q : UInt8) : UInt8 := q ^^^ (q <<< 2)
def sh4 (q : UInt8) : UInt8 := q ^^^ (q <<< 4)
/-- One round of 'box': what becomes of q. -/
def boxQ (q : UInt8) : UInt8 := if 128 ≤ sh4 (sh2 (sh1 q)) then sh4 (sh2 (sh1 q)) ^^^ 9 else sh4 (sh2 (sh1 q))
def rot (q : UInt8) (n : Nat) : UInt8 := (q <<< (UInt8.ofNat n)) ||| (q >>> (UInt8.ofNat (8-n)))
def boxX (q : UInt8) : Nat → UInt8
  | 0 => q
  | n+1 => boxX q n ^^^ rot q (n+1)
structure BoxSt where
  p : UInt8
  q : UInt8
  out : Bytes
def boxStep (s : BoxSt) : BoxSt :=
  let p := s.p ^^^ dbl s.p
  let q := boxQ s.q
  ⟨p, q, s.out.set (nb p) (boxX q 4 ^^^ 99)⟩
def boxTo : Nat → BoxSt
  | 0 => ⟨1, 1, List.replicate 256 0⟩
  | n+1 => boxStep (boxTo n)
def sbox : Bytes := (boxTo 255).out.set 0 99
/-- The keys: 176 bytes. The i-th byte of key n. -/
def keyByte (B : Bytes) (K was : Bytes) (r : UInt8) (n i : Nat) : UInt8 :=
  let x := gb was i
  let x := if 4 ≤ i then x ^^^ gb K (16*n+(i-4)) else x ^^^ gb B (nb (gb was (12+(i+1)%4)))
  if i = 0 then x ^^^ r else x
def keyRow (B K was : Bytes) (r : UInt8) (n : Nat) : Nat → Bytes
  | 0 => K
  | i+1 => (keyRow B K was r n i).set (16*n+i) (keyByte B (keyRow B K was r n i) was r n i)
def keysTo (B k : Bytes) : Nat → Bytes × UInt8
  | 0 => (k ++ List.replicate 160 0, 1)
  | n+1 => (keyRow B (keysTo B k n).1 (((keysTo B k n).1.drop (16*n)).take 16) (keysTo B k n).2 (n+1) 16, dbl (keysTo B k n).2)
def keys (B k : Bytes) : Bytes := (keysTo B k 10).1
/-- The first i bytes of s, held against those of K from o on. -/
def addTo (s K : Bytes) (o : Nat) : Nat → Bytes
  | 0 => s
  | i+1 => (addTo s K o i).set i (gb (addTo s K o i) i ^^^ gb K (o+i))
def subTo (B s : Bytes) : Nat → Bytes
  | 0 => List.replicate 16 0
  | i+1 => (subTo B s i).set i (gb B (nb (gb s ((i+4*(i%4))%16))))
def mixCol (t : Bytes) (at_ : Nat) : Bytes :=
  let a := gb t at_; let b := gb t (at_+1); let c := gb t (at_+2); let d := gb t (at_+3)
  (((t.set at_ (prod a 2 ^^^ prod b 3 ^^^ c ^^^ d)).set (at_+1) (a ^^^ prod b 2 ^^^ prod c 3 ^^^ d)).set (at_+2) (a ^^^ b ^^^ prod c 2 ^^^ prod d 3)).set (at_+3) (prod a 3 ^^^ b ^^^ c ^^^ prod d 2)
def mixTo (t : Bytes) : Nat → Bytes
  | 0 => t
  | i+1 => mixCol (mixTo t i) (4*i)
/-- s, whose first i bytes are t's, held against K from o on. -/
def putTo (s t K : Bytes) (o : Nat) : Nat → Bytes
  | 0 => s
  | i+1 => (putTo s t K o i).set i (gb t i ^^^ gb K (o+i))
def roundsTo (B K b : Bytes) : Nat → Bytes
  | 0 => addTo b K 0 16
  | n+1 => putTo (roundsTo B K b n) (if n+1 < 10 then mixTo (subTo B (roundsTo B K b n) 16) 4 else subTo B (roundsTo B K b n) 16) K (16*(n+1)) 16
def blk (B K b : Bytes) : Bytes := roundsTo B K b 10
/-- A number of sixteen bytes, one more: from place i on down. -/
def incFrom (f : Bytes) : Nat → Bytes
  | 0 => f
  | i+1 => if gb f i + 1 = 0 then incFrom (f.set i 0) i else f.set i (gb f i + 1)
def inc (f : Bytes) : Bytes := incFrom f 16
/-- The row 'out', whose bytes from at on, sixteen at most, are held against the pad. -/
def padTo (out pad : Bytes) (at_ : Nat) : Nat → Bytes
  | 0 => out
  | i+1 => (padTo out pad at_ i).set (at_+i) (gb (padTo out pad at_ i) (at_+i) ^^^ gb pad i)
def streamTo (B K f b : Bytes) : Nat → Bytes × Bytes
  | 0 => (b, f)
  | n+1 => (padTo (streamTo B K f b n).1 (blk B K (streamTo B K f b n).2) (16*n) (min 16 (b.length-16*n)), inc (streamTo B K f b n).2)
def stream (B K f b : Bytes) : Bytes := (streamTo B K f b ((b.length+15)/16)).1
end Go.Proofs.YtpkelokaammmjaaDoor
end
/-! Bytes in a walk: a byte stands as 'ub a', a being a UInt8. -/
section
namespace Go.Proofs.YtpkelokaammmjaaDoor
/-- A fact kept from the walk. -/
structure Hd (p : Prop) : Prop where
  out : p
/-- A byte as the walk's number. -/
@[irreducible] def ub (a : UInt8) : Int := (a.toNat : Int)
/-- A number as a byte. -/
def toB (x : Int) : UInt8 := UInt8.ofNat x.toNat
@[simp] theorem u8_ub (a : UInt8) : toB (ub a) = a := by simp [toB, ub]
theorem ub_u8 {x : Int} (h0 : 0 ≤ x) (h1 : x ≤ 255) : ub (toB x) = x := by simp [toB, ub]; omega
@[simp] theorem ub_nonneg (a : UInt8) : 0 ≤ ub a := by unfold ub; omega
@[simp] theorem ub_le (a : UInt8) : ub a ≤ 255 := by have := a.toNat_lt; unfold ub; omega
@[simp] theorem ub_lt (a : UInt8) : ub a < 256 := by have := a.toNat_lt; unfold ub; omega
@[simp] theorem ub_toNat (a : UInt8) : (ub a).toNat = nb a := by simp [ub, nb]
theorem nb_lt (a : UInt8) : nb a < 256 := by unfold nb; exact a.toNat_lt
@[simp] theorem ub_mod (a : UInt8) : ub a % 256 = ub a := by have := a.toNat_lt; unfold ub; omega
theorem ub_inj {a b : UInt8} : ub a = ub b ↔ a = b := by
  constructor
  · intro h; have := congrArg toB h; simpa using this
  · rintro rfl; rfl
theorem ub_beq (a b : UInt8) : (ub a == ub b) = (a == b) := by
  rw [Bool.eq_iff_iff]; simp [ub_inj]
theorem ub_bv (a : UInt8) : ((a.toBitVec.toNat : Nat) : Int) = ub a := by unfold ub; rfl
theorem ofInt8 (a : UInt8) : BitVec.ofInt 8 (ub a) = a.toBitVec := by
  unfold ub; rw [BitVec.ofInt_natCast]; exact BitVec.eq_of_toNat_eq (by simp)
theorem bits_xor8 (a b : UInt8) : bits .xor .u8 (ub a) (ub b) = ub (a ^^^ b) := by
  show IntKind.u8.wrap ((BitVec.ofInt 8 (ub a) ^^^ BitVec.ofInt 8 (ub b)).toNat : Int) = _
  rw [ofInt8, ofInt8, IntKind.wrap_u8, ← UInt8.toBitVec_xor, ub_bv, ub_mod]
theorem bits_or8 (a b : UInt8) : bits .or .u8 (ub a) (ub b) = ub (a ||| b) := by
  show IntKind.u8.wrap ((BitVec.ofInt 8 (ub a) ||| BitVec.ofInt 8 (ub b)).toNat : Int) = _
  rw [ofInt8, ofInt8, IntKind.wrap_u8, ← UInt8.toBitVec_or, ub_bv, ub_mod]
theorem bits_and8 (a b : UInt8) : bits .and .u8 (ub a) (ub b) = ub (a &&& b) := by
  show IntKind.u8.wrap ((BitVec.ofInt 8 (ub a) &&& BitVec.ofInt 8 (ub b)).toNat : Int) = _
  rw [ofInt8, ofInt8, IntKind.wrap_u8, ← UInt8.toBitVec_and, ub_bv, ub_mod]
/-- What holds of 256 bytes, one by one, holds of every byte. -/
theorem all8 (p : UInt8 → Bool) (h : (List.range 256).all (fun n => p (UInt8.ofNat n)) = true) (a : UInt8) : p a = true := by
  have := List.all_eq_true.1 h a.toNat (List.mem_range.2 a.toNat_lt)
  simpa using this
end Go.Proofs.YtpkelokaammmjaaDoor
end
/-! Rows of bytes in memory. 'Row w b T l': block b is just the bytes l. -/
section
namespace Go.Proofs.YtpkelokaammmjaaDoor
open Go.RowKit
/-- Bytes as values. -/
def vb (l : Bytes) : List Value := l.map fun x => Value.int .u8 (ub x)
@[simp] theorem vb_length (l : Bytes) : (vb l).length = l.length := by simp [vb]
@[simp] theorem vb_nil : vb [] = [] := rfl
@[simp] theorem vb_cons (a : UInt8) (l : Bytes) : vb (a :: l) = Value.int .u8 (ub a) :: vb l := rfl
theorem vb_append (l m : Bytes) : vb (l ++ m) = vb l ++ vb m := by simp [vb]
theorem vb_set (l : Bytes) (i : Nat) (v : UInt8) : (vb l).set i (Value.int .u8 (ub v)) = vb (l.set i v) := by
  simp [vb, List.map_set]
theorem vb_get (l : Bytes) (i : Nat) (h : i < l.length) : (vb l)[i]? = some (.int .u8 (ub (gb l i))) := by
  simp [vb, gb, h]
theorem gb_append_left (l m : Bytes) (i : Nat) (h : i < l.length) : gb (l ++ m) i = gb l i := by
  simp [gb, List.getElem?_append_left h]
theorem gb_append_right (l m : Bytes) (i : Nat) (h : l.length ≤ i) : gb (l ++ m) i = gb m (i - l.length) := by
  simp [gb, List.getElem?_append_right h]
/-- Block b is just the cells cs. -/
def Blk (w : World) (b : Nat) (T : TypeId) (cs : List Value) : Prop := w.heap[b]? = some (.cells cs.toArray T (0, 0))
def Row (w : World) (b : Nat) (T : TypeId) (l : Bytes) : Prop := Blk w b T (vb l)
section
variable {w w' : World} {b : Nat} {T : TypeId} {cs : List Value} {l : Bytes}
theorem Blk.lt (h : Blk w b T cs) : b < w.heap.size := by
  rcases Nat.lt_or_ge b w.heap.size with h' | h'
  · exact h'
  · unfold Blk at h; rw [Array.getElem?_eq_none h'] at h; cases h
theorem Blk.cell (h : Blk w b T cs) (i : Nat) : w.cell? ⟨b, i, none⟩ = cs[i]? := by
  rw [cell_of_row w b i _ T (0, 0) h]; simp
theorem Blk.frozen (h : Blk w b T cs) (i : Nat) : w.frozen? ⟨b, i, none⟩ = false := by
  unfold Blk at h; simp [World.frozen?, h]
theorem Blk.new (w : World) (T : TypeId) (cs : List Value) : Blk (w.alloc (.cells cs.toArray T)) w.heap.size T cs := heap_alloc_new w _
theorem Blk.drew (h : Blk w b T cs) : Blk w.drew b T cs := h
theorem Blk.drewN (h : Blk w b T cs) (n : Nat) : Blk (w.drewN n) b T cs := h
theorem Blk.alloc (h : Blk w b T cs) (o : Obj) : Blk (w.alloc o) b T cs := (Below.heap_alloc w o b h.lt).trans h
theorem Blk.set (h : Blk w b T cs) (i : Nat) (u : Value) : Blk (w.setCell ⟨b, i, none⟩ u) b T (cs.set i u) := by
  unfold Blk at h ⊢
  simp [World.setCell, Array.getElem?_modify, h]
theorem Blk.far (h : Blk w b T cs) {p : Addr} (hp : b ≠ p.block) (u : Value) : Blk (w.setCell p u) b T cs := (Below.heap_setCell w p u b hp).trans h
theorem Blk.below {B : Nat} (h : Blk w b T cs) (hb : Below B w w') (hg : b < B) : Blk w' b T cs := (hb.block b hg).trans h
theorem Blk.grown {row : Option Nat} (h : Blk w b T cs) (hb : w.grownBy w' row) (hg : some b ≠ row) : Blk w' b T cs := (hb.block b h.lt hg).trans h
theorem Row.cell (h : Row w b T l) {i : Nat} (hi : i < l.length) : w.cell? ⟨b, i, none⟩ = some (.int .u8 (ub (gb l i))) := by
  rw [Blk.cell h, vb_get l i hi]
theorem Row.frozen (h : Row w b T l) (i : Nat) : w.frozen? ⟨b, i, none⟩ = false := Blk.frozen h i
theorem Row.set (h : Row w b T l) (i : Nat) (v : UInt8) : Row (w.setCell ⟨b, i, none⟩ (.int .u8 (ub v))) b T (l.set i v) := by
  have := Blk.set h i (.int .u8 (ub v)); rw [vb_set] at this; exact this
theorem Row.lt (h : Row w b T l) : b < w.heap.size := Blk.lt h
theorem Row.drewN (h : Row w b T l) (n : Nat) : Row (w.drewN n) b T l := h
theorem Row.drew (h : Row w b T l) : Row w.drew b T l := h
theorem Row.alloc (h : Row w b T l) (o : Obj) : Row (w.alloc o) b T l := Blk.alloc h o
theorem Row.far (h : Row w b T l) {p : Addr} (hp : b ≠ p.block) (u : Value) : Row (w.setCell p u) b T l := Blk.far h hp u
theorem Row.below {B : Nat} (h : Row w b T l) (hb : Below B w w') (hg : b < B) : Row w' b T l := Blk.below h hb hg
theorem Row.grown' {row : Option Nat} (h : Row w b T l) (hb : w.grownBy w' row) (hg : some b ≠ row) : Row w' b T l := Blk.grown h hb hg
theorem Row.new (w : World) (T : TypeId) (l : Bytes) : Row (w.alloc (.cells (vb l).toArray T)) w.heap.size T l := heap_alloc_new w _
theorem below_drewN {B : Nat} {a w : World} (h : Below B a w) (n : Nat) : Below B a (w.drewN n) := ⟨h.os, h.tape, h.output, h.size, h.block⟩
end
theorem Blk.setRow {w : World} {b : Nat} {T : TypeId} {cs : List Value} (h : Blk w b T cs) (ds : List Value) : Blk (w.setRow b ds.toArray) b T ds := setRow_heap w b _ _ T _ h
theorem Blk.setRow_far {w : World} {b g : Nat} {T : TypeId} {cs : List Value} (h : Blk w b T cs) (hg : b ≠ g) (ds : Array Value) : Blk (w.setRow g ds) b T cs := (setRow_other w g b ds hg).trans h
theorem below_setRow' {B g : Nat} {w0 w : World} (hb : Below B w0 w) (hBg : B ≤ g) (cs : Array Value) : Below B w0 (w.setRow g cs) :=
  hb.trans ⟨rfl, rfl, rfl, by simp [World.setRow], fun k hk => setRow_other w g k cs (by omega)⟩
theorem vb_one (l : Bytes) : (vb l).toArray.all (·.oneCell') = true := by
  simp [vb, Value.oneCell']
theorem vb_zeros (n : Nat) : vb (List.replicate n 0) = List.replicate n (.int .u8 0) := by
  have : ub 0 = 0 := by unfold ub; rfl
  simp [vb, this]
theorem new1 (w : World) (T : TypeId) (cs : Array Value) : (w.alloc (.cells cs T)).heap[w.heap.size]? = some (.cells cs T (0, 0)) := heap_alloc_new w _
theorem new2 (w : World) (X : Obj) (T : TypeId) (cs : Array Value) : ((w.alloc X).alloc (.cells cs T)).heap[w.heap.size + 1]? = some (.cells cs T (0, 0)) := by
  have := heap_alloc_new (w.alloc X) (.cells cs T); simpa using this
theorem new3 (w : World) (X Y : Obj) (T : TypeId) (cs : Array Value) : (((w.alloc X).alloc Y).alloc (.cells cs T)).heap[w.heap.size + 2]? = some (.cells cs T (0, 0)) := by
  have := heap_alloc_new ((w.alloc X).alloc Y) (.cells cs T); simpa using this
theorem only_refl (a : World) (row : Option Nat) : a.grownBy a row := ⟨rfl, rfl, rfl, Nat.le_refl _, fun _ _ _ => rfl⟩
theorem only_drewN {a w : World} {row : Option Nat} (h : a.grownBy w row) (n : Nat) : a.grownBy (w.drewN n) row := ⟨h.os, h.tape, h.output, h.size, h.block⟩
theorem only_alloc {a w : World} {row : Option Nat} (h : a.grownBy w row) (o : Obj) : a.grownBy (w.alloc o) row :=
  ⟨h.os, h.tape, h.output, Nat.le_trans h.size (by simp), fun i hi hne => (Below.heap_alloc w o i (Nat.lt_of_lt_of_le hi h.size)).trans (h.block i hi hne)⟩
theorem only_setCell {a w : World} {g : Nat} (h : a.grownBy w (some g)) {p : Addr} (hp : p.block = g ∨ a.heap.size ≤ p.block) (u : Value) : a.grownBy (w.setCell p u) (some g) :=
  ⟨h.os, h.tape, h.output, by simpa [World.setCell] using h.size, fun i hi hne => (Below.heap_setCell w p u i (by
    rintro rfl
    rcases hp with hp | hp
    · exact hne (by rw [hp])
    · omega)).trans (h.block i hi hne)⟩
theorem only_of_below {a w : World} (h : Below a.heap.size a w) (row : Option Nat) : a.grownBy w row := ⟨h.os, h.tape, h.output, h.size, fun i hi _ => h.block i hi⟩
@[simp] theorem size_drewN (w : World) (n : Nat) : (w.drewN n).heap.size = w.heap.size := rfl
end Go.Proofs.YtpkelokaammmjaaDoor
end
/-! What is as it was, but for some blocks. -/
section
namespace Go.Proofs.YtpkelokaammmjaaDoor
open Go.RowKit
/-- What is not in F is as it was. -/
structure Fr (F : Nat → Prop) (w w' : World) : Prop where
  os : w'.os = w.os
  tape : w'.tape = w.tape
  output : w'.output = w.output
  size : w.heap.size ≤ w'.heap.size
  block : ∀ k, k < w.heap.size → ¬ F k → w'.heap[k]? = w.heap[k]?
section
variable {F G : Nat → Prop} {w w' w'' : World}
theorem Fr.refl (F : Nat → Prop) (w : World) : Fr F w w := ⟨rfl, rfl, rfl, Nat.le_refl _, fun _ _ _ => rfl⟩
theorem Fr.trans (h : Fr F w w') (k : Fr G w' w'') (hg : ∀ i, G i → F i ∨ w.heap.size ≤ i) : Fr F w w'' :=
  ⟨k.os.trans h.os, k.tape.trans h.tape, k.output.trans h.output, Nat.le_trans h.size k.size, fun i hi hF =>
    (k.block i (Nat.lt_of_lt_of_le hi h.size) (fun hG => by rcases hg i hG with h1 | h1; exact hF h1; omega)).trans (h.block i hi hF)⟩
theorem Fr.of_below (F : Nat → Prop) (h : Below w.heap.size w w') : Fr F w w' := ⟨h.os, h.tape, h.output, h.size, fun i hi _ => h.block i hi⟩
theorem Fr.of_grown {row : Option Nat} (h : w.grownBy w' row) (hr : ∀ k, row = some k → F k ∨ w.heap.size ≤ k) : Fr F w w' :=
  ⟨h.os, h.tape, h.output, h.size, fun i hi hF => h.block i hi (fun e => by rcases hr i e.symm with h1 | h1; exact hF h1; omega)⟩
theorem Fr.below {B : Nat} (h : Fr F w w') (hF : ∀ i, F i → B ≤ i) (hB : B ≤ w.heap.size) : Below B w w' :=
  ⟨h.os, h.tape, h.output, h.size, fun i hi => h.block i (by omega) (fun hh => by have := hF i hh; omega)⟩
theorem Fr.then_below (h : Fr F w w') (hb : Below w'.heap.size w' w'') : Fr F w w'' :=
  h.trans (Fr.of_below (fun _ => False) hb) (fun _ hh => hh.elim)
theorem Fr.then_grown {row : Option Nat} (h : Fr F w w') (hg : w'.grownBy w'' row) (hr : ∀ k, row = some k → F k ∨ w.heap.size ≤ k) : Fr F w w'' :=
  h.trans (G := fun k => row = some k) (Fr.of_grown hg (fun _k hk => .inl hk)) (fun i hi => hr i hi)
theorem Fr.drewN (h : Fr F w w') (n : Nat) : Fr F w (w'.drewN n) := ⟨h.os, h.tape, h.output, h.size, h.block⟩
end
end Go.Proofs.YtpkelokaammmjaaDoor
end
/-! What a call holds in memory: things of its own, things that are only read, and what is as it was. Over any program. -/
section
namespace Go.Proofs.YtpkelokaammmjaaDoor
open Go.RowKit
/-- A thing in memory: its blocks, and what is true of it. -/
structure Res where
  F : Nat → Prop
  Φ : World → Prop
  lt : ∀ {w : World}, Φ w → ∀ q, F q → q < w.heap.size
  keep : ∀ {w w' : World}, Φ w → w.heap.size ≤ w'.heap.size → (∀ q, F q → w'.heap[q]? = w.heap[q]?) → Φ w'
def Res.dj (r s : Res) : Prop := ∀ q, r.F q → ¬ s.F q
theorem Res.dj.symm {r s : Res} (h : r.dj s) : s.dj r := fun q h1 h2 => h q h2 h1
/-- rs: what may be turned; ro: what is only read. -/
structure Hp (F0 : Nat → Prop) (w0 w : World) (ro rs : List Res) : Prop where
  fr : Fr F0 w0 w
  own : ∀ (i : Nat) (r : Res), rs[i]? = some r → r.Φ w
  mine : ∀ (i : Nat) (r : Res), rs[i]? = some r → ∀ q, r.F q → F0 q ∨ w0.heap.size ≤ q
  dis : ∀ (i j : Nat) (r s : Res), rs[i]? = some r → rs[j]? = some s → i ≠ j → r.dj s
  red : ∀ (i : Nat) (r : Res), ro[i]? = some r → r.Φ w
  rdis : ∀ (i j : Nat) (r s : Res), ro[i]? = some r → rs[j]? = some s → r.dj s
section
variable {F0 : Nat → Prop} {w0 w w' : World} {ro rs : List Res}
theorem Hp.nil (F0 : Nat → Prop) (w : World) : Hp F0 w w [] [] := ⟨Fr.refl _ _, by simp, by simp, by simp, by simp, by simp⟩
theorem Hp.at_ (h : Hp F0 w0 w ro rs) (i : Nat) {r : Res} (hi : rs[i]? = some r) : r.Φ w := h.own i r hi
theorem Hp.rd (h : Hp F0 w0 w ro rs) (i : Nat) {r : Res} (hi : ro[i]? = some r) : r.Φ w := h.red i r hi
theorem Hp.size (h : Hp F0 w0 w ro rs) : w0.heap.size ≤ w.heap.size := h.fr.size
/-- New blocks change nothing. -/
theorem Hp.below (h : Hp F0 w0 w ro rs) (hb : Below w.heap.size w w') : Hp F0 w0 w' ro rs where
  fr := h.fr.then_below hb
  own := fun i r hi => r.keep (h.own i r hi) hb.size fun q hq => hb.block q (r.lt (h.own i r hi) q hq)
  mine := h.mine
  dis := h.dis
  red := fun i r hi => r.keep (h.red i r hi) hb.size fun q hq => hb.block q (r.lt (h.red i r hi) q hq)
  rdis := h.rdis
theorem Hp.drewN (h : Hp F0 w0 w ro rs) (n : Nat) : Hp F0 w0 (w.drewN n) ro rs := h.below (below_drewN (Below.refl _ _) n)
/-- A new thing that may be turned. -/
theorem Hp.newS (h : Hp F0 w0 w ro rs) (hb : Below w.heap.size w w') (r : Res) (hr : r.Φ w') (hF : ∀ q, r.F q → w.heap.size ≤ q) : Hp F0 w0 w' ro (r :: rs) where
  fr := h.fr.then_below hb
  own := fun i s hi => by
    cases i with
    | zero => injection hi with hi; subst hi; exact hr
    | succ i => exact (h.below hb).own i s hi
  mine := fun i s hi q hq => by
    cases i with
    | zero => injection hi with hi; subst hi; exact .inr (Nat.le_trans h.fr.size (hF q hq))
    | succ i => exact h.mine i s hi q hq
  dis := fun i j a b hi hj hne => by
    cases i with
    | zero =>
      cases j with
      | zero => exact absurd rfl hne
      | succ j =>
        injection hi with hi; subst hi
        exact fun q h1 h2 => absurd (b.lt (h.own j b hj) q h2) (Nat.not_lt.2 (hF q h1))
    | succ i =>
      cases j with
      | zero =>
        injection hj with hj; subst hj
        exact fun q h1 h2 => absurd (a.lt (h.own i a hi) q h1) (Nat.not_lt.2 (hF q h2))
      | succ j => exact h.dis i j a b hi hj (fun e => hne (by rw [e]))
  red := (h.below hb).red
  rdis := fun i j a b hi hj => by
    cases j with
    | zero =>
      injection hj with hj; subst hj
      exact fun q h1 h2 => absurd (a.lt (h.red i a hi) q h1) (Nat.not_lt.2 (hF q h2))
    | succ j => exact h.rdis i j a b hi hj
/-- A new thing that is only read. -/
theorem Hp.newR (h : Hp F0 w0 w ro rs) (hb : Below w.heap.size w w') (r : Res) (hr : r.Φ w') (hF : ∀ q, r.F q → w.heap.size ≤ q) : Hp F0 w0 w' (r :: ro) rs where
  fr := h.fr.then_below hb
  own := (h.below hb).own
  mine := h.mine
  dis := h.dis
  red := fun i s hi => by
    cases i with
    | zero => injection hi with hi; subst hi; exact hr
    | succ i => exact (h.below hb).red i s hi
  rdis := fun i j a b hi hj => by
    cases i with
    | zero =>
      injection hi with hi; subst hi
      exact fun q h1 h2 => absurd (b.lt (h.own j b hj) q h2) (Nat.not_lt.2 (hF q h1))
    | succ i => exact h.rdis i j a b hi hj
/-- Something that is read, and has no block that may be turned. -/
theorem Hp.addR (h : Hp F0 w0 w ro rs) (r : Res) (hr : r.Φ w) (hd : ∀ (j : Nat) (s : Res), rs[j]? = some s → r.dj s) : Hp F0 w0 w (r :: ro) rs where
  fr := h.fr
  own := h.own
  mine := h.mine
  dis := h.dis
  red := fun i s hi => by
    cases i with
    | zero => injection hi with hi; subst hi; exact hr
    | succ i => exact h.red i s hi
  rdis := fun i j a b hi hj => by
    cases i with
    | zero => injection hi with hi; subst hi; exact hd j b hj
    | succ i => exact h.rdis i j a b hi hj
/-- A part of what is read. -/
theorem Hp.sub (h : Hp F0 w0 w ro rs) (i : Nat) {s : Res} (hi : ro[i]? = some s) (r : Res) (hr : r.Φ w) (hF : ∀ q, r.F q → s.F q) : Hp F0 w0 w (r :: ro) rs :=
  h.addR r hr fun j t ht q h1 h2 => h.rdis i j s t hi ht q (hF q h1) h2
/-- Something that may be turned, at first. -/
theorem Hp.addS (h : Hp F0 w0 w ro rs) (r : Res) (hr : r.Φ w) (hm : ∀ q, r.F q → F0 q ∨ w0.heap.size ≤ q) (hd : ∀ (j : Nat) (s : Res), rs[j]? = some s → r.dj s) (hd2 : ∀ (j : Nat) (s : Res), ro[j]? = some s → r.dj s) : Hp F0 w0 w ro (r :: rs) where
  fr := h.fr
  own := fun i s hi => by
    cases i with
    | zero => injection hi with hi; subst hi; exact hr
    | succ i => exact h.own i s hi
  mine := fun i s hi => by
    cases i with
    | zero => injection hi with hi; subst hi; exact hm
    | succ i => exact h.mine i s hi
  dis := fun i j a b hi hj hne => by
    cases i with
    | zero =>
      cases j with
      | zero => exact absurd rfl hne
      | succ j => injection hi with hi; subst hi; exact hd j b hj
    | succ i =>
      cases j with
      | zero => injection hj with hj; subst hj; exact (hd i a hi).symm
      | succ j => exact h.dis i j a b hi hj (fun e => hne (by rw [e]))
  red := h.red
  rdis := fun i j a b hi hj => by
    cases j with
    | zero => injection hj with hj; subst hj; exact (hd2 i a hi).symm
    | succ j => exact h.rdis i j a b hi hj
/-- One thing is turned. -/
theorem Hp.upd (h : Hp F0 w0 w ro rs) (i : Nat) {r : Res} (hi : rs[i]? = some r) (hf : Fr r.F w w') (r' : Res) (hr : r'.Φ w') (hF : ∀ q, r'.F q → r.F q ∨ w.heap.size ≤ q) : Hp F0 w0 w' ro (rs.set i r') := by
  have hil : i < rs.length := (List.getElem?_eq_some_iff.1 hi).1
  have key : ∀ (j : Nat) (s : Res), (rs.set i r')[j]? = some s → (j = i ∧ s = r') ∨ (j ≠ i ∧ rs[j]? = some s) := by
    intro j s hj
    by_cases e : j = i
    · subst e; left; rw [List.getElem?_set_self hil] at hj; exact ⟨rfl, by injection hj with hj; exact hj.symm⟩
    · right; rw [List.getElem?_set_ne (Ne.symm e)] at hj; exact ⟨e, hj⟩
  have keepS : ∀ (j : Nat) (s : Res), rs[j]? = some s → j ≠ i → s.Φ w' := fun j s hj hne =>
    s.keep (h.own j s hj) hf.size fun q hq => hf.block q (s.lt (h.own j s hj) q hq) (h.dis j i s r hj hi hne q hq)
  refine ⟨h.fr.trans hf (fun q hq => h.mine i r hi q hq), ?_, ?_, ?_, ?_, ?_⟩
  · intro j s hj
    rcases key j s hj with ⟨_, rfl⟩ | ⟨hne, hj⟩
    · exact hr
    · exact keepS j s hj hne
  · intro j s hj q hq
    rcases key j s hj with ⟨_, rfl⟩ | ⟨hne, hj⟩
    · rcases hF q hq with h1 | h1
      · exact h.mine i r hi q h1
      · exact .inr (Nat.le_trans h.fr.size h1)
    · exact h.mine j s hj q hq
  · intro j k a b hj hk hne
    have two : ∀ (m : Nat) (c : Res), rs[m]? = some c → m ≠ i → r'.dj c := fun m c hm hmi q h1 h2 => by
      rcases hF q h1 with h3 | h3
      · exact h.dis i m r c hi hm (Ne.symm hmi) q h3 h2
      · exact absurd (c.lt (h.own m c hm) q h2) (Nat.not_lt.2 h3)
    rcases key j a hj with ⟨e1, ea⟩ | ⟨h1, hj1⟩
    · rcases key k b hk with ⟨e2, _⟩ | ⟨h2, hk1⟩
      · exact absurd (e1.trans e2.symm) hne
      · rw [ea]; exact two k b hk1 h2
    · rcases key k b hk with ⟨e2, eb⟩ | ⟨h2, hk1⟩
      · rw [eb]; exact (two j a hj1 h1).symm
      · exact h.dis j k a b hj1 hk1 hne
  · intro j s hj
    exact s.keep (h.red j s hj) hf.size fun q hq => hf.block q (s.lt (h.red j s hj) q hq) (h.rdis j i s r hj hi q hq)
  · intro j k a b hj hk
    rcases key k b hk with ⟨_, rfl⟩ | ⟨_, hk⟩
    · intro q h1 h2
      rcases hF q h2 with h3 | h3
      · exact h.rdis j i a r hj hi q h1 h3
      · exact absurd (a.lt (h.red j a hj) q h1) (Nat.not_lt.2 h3)
    · exact h.rdis j k a b hj hk
/-- One thing is forgotten. -/
theorem get_erase {l : List Res} {i j : Nat} {s : Res} (h : (l.eraseIdx i)[j]? = some s) : ∃ k, l[k]? = some s ∧ k ≠ i ∧ (k = if j < i then j else j + 1) := by
  rw [List.getElem?_eraseIdx] at h
  split at h
  · rename_i hlt; exact ⟨j, h, by omega, by rw [if_pos hlt]⟩
  · rename_i hge; exact ⟨j + 1, h, by omega, by rw [if_neg hge]⟩
theorem Hp.drop (h : Hp F0 w0 w ro rs) (i : Nat) : Hp F0 w0 w ro (rs.eraseIdx i) where
  fr := h.fr
  own := fun j s hj => by obtain ⟨k, hk, _⟩ := get_erase hj; exact h.own k s hk
  mine := fun j s hj => by obtain ⟨k, hk, _⟩ := get_erase hj; exact h.mine k s hk
  dis := fun j k a b hj hk hne => by
    obtain ⟨j', hj', _, e1⟩ := get_erase hj
    obtain ⟨k', hk', _, e2⟩ := get_erase hk
    refine h.dis j' k' a b hj' hk' ?_
    rw [e1, e2]; split <;> split <;> omega
  red := h.red
  rdis := fun j k a b hj hk => by obtain ⟨k', hk', _⟩ := get_erase hk; exact h.rdis j k' a b hj hk'
theorem Hp.dropR (h : Hp F0 w0 w ro rs) (i : Nat) : Hp F0 w0 w (ro.eraseIdx i) rs where
  fr := h.fr
  own := h.own
  mine := h.mine
  dis := h.dis
  red := fun j s hj => by obtain ⟨k, hk, _⟩ := get_erase hj; exact h.red k s hk
  rdis := fun j k a b hj hk => by obtain ⟨j', hj', _⟩ := get_erase hj; exact h.rdis j' k a b hj' hk
/-- What is not turned any more. -/
theorem Hp.share (h : Hp F0 w0 w ro rs) (i : Nat) {r : Res} (hi : rs[i]? = some r) : Hp F0 w0 w (r :: ro) (rs.eraseIdx i) :=
  (h.drop i).addR r (h.own i r hi) fun j s hj => by
    obtain ⟨k, hk, hne, _⟩ := get_erase hj
    exact h.dis i k r s hi hk (Ne.symm hne)
theorem Hp.below0 (h : Hp (fun _ => False) w0 w ro rs) : Below w0.heap.size w0 w := h.fr.below (fun _ hf => hf.elim) (Nat.le_refl _)
theorem Hp.ro1 (r : Res) {w : World} (hr : r.Φ w) : Hp (fun _ => False) w w [r] [] := (Hp.nil _ w).addR r hr (by simp)
/-- One thing alone. -/
theorem Hp.one (r : Res) {w : World} (hr : r.Φ w) : Hp r.F w w [] [r] :=
  (Hp.nil r.F w).addS r hr (fun q hq => .inl hq) (by simp) (by simp)
theorem Hp.two (r s : Res) {w : World} (hr : r.Φ w) (hs : s.Φ w) (hd : r.dj s) : Hp (fun q => r.F q ∨ s.F q) w w [] [r, s] :=
  ((Hp.nil _ w).addS s hs (fun q hq => .inl (.inr hq)) (by simp) (by simp)).addS r hr (fun q hq => .inl (.inl hq)) (fun j t ht => by
    cases j with
    | zero => injection ht with ht; subst ht; exact hd
    | succ j => simp at ht) (by simp)
/-- What a call leaves, that was given the thing at i. -/
theorem Hp.call1 {rs' : List Res} (h : Hp F0 w0 w ro rs) (i : Nat) {r : Res} (hi : rs[i]? = some r) (hc : Hp r.F w w' [] rs') : Hp F0 w0 w' ro (rs' ++ rs.eraseIdx i) := by
  have hrs : ∀ (j : Nat) (s : Res), (rs' ++ rs.eraseIdx i)[j]? = some s → (j < rs'.length ∧ rs'[j]? = some s) ∨ (∃ k, j = rs'.length + k ∧ (rs.eraseIdx i)[k]? = some s) := by
    intro j s hj
    by_cases hlt : j < rs'.length
    · left; exact ⟨hlt, by rwa [List.getElem?_append_left hlt] at hj⟩
    · right; exact ⟨j - rs'.length, by omega, by rwa [List.getElem?_append_right (by omega)] at hj⟩
  have keepS : ∀ (s : Res) (k : Nat), rs[k]? = some s → k ≠ i → s.Φ w' := fun s k hk hne =>
    s.keep (h.own k s hk) hc.fr.size fun q hq => hc.fr.block q (s.lt (h.own k s hk) q hq) (h.dis k i s r hk hi hne q hq)
  have new : ∀ (j : Nat) (s : Res), rs'[j]? = some s → ∀ q, s.F q → r.F q ∨ w.heap.size ≤ q := hc.mine
  have cross : ∀ (j : Nat) (s : Res) (k : Nat) (t : Res), rs'[j]? = some s → rs[k]? = some t → k ≠ i → s.dj t := fun j s k t hj hk hne q h1 h2 => by
    rcases new j s hj q h1 with h3 | h3
    · exact h.dis i k r t hi hk (Ne.symm hne) q h3 h2
    · exact absurd (t.lt (h.own k t hk) q h2) (Nat.not_lt.2 h3)
  refine ⟨h.fr.trans hc.fr (fun q hq => h.mine i r hi q hq), ?_, ?_, ?_, ?_, ?_⟩
  · intro j s hj
    rcases hrs j s hj with ⟨_, hj⟩ | ⟨k, _, hk⟩
    · exact hc.own j s hj
    · obtain ⟨k', hk', hne, _⟩ := get_erase hk; exact keepS s k' hk' hne
  · intro j s hj q hq
    rcases hrs j s hj with ⟨_, hj⟩ | ⟨k, _, hk⟩
    · rcases new j s hj q hq with h3 | h3
      · exact h.mine i r hi q h3
      · exact .inr (Nat.le_trans h.fr.size h3)
    · obtain ⟨k', hk', hne, _⟩ := get_erase hk; exact h.mine k' s hk' q hq
  · intro j k a b hj hk hne
    rcases hrs j a hj with ⟨_, hj'⟩ | ⟨j2, ej, hj'⟩
    · rcases hrs k b hk with ⟨_, hk'⟩ | ⟨k2, ek, hk'⟩
      · exact hc.dis j k a b hj' hk' hne
      · obtain ⟨k3, hk3, hne3, _⟩ := get_erase hk'; exact cross j a k3 b hj' hk3 hne3
    · obtain ⟨j3, hj3, hnej, e1⟩ := get_erase hj'
      rcases hrs k b hk with ⟨_, hk'⟩ | ⟨k2, ek, hk'⟩
      · exact (cross k b j3 a hk' hj3 hnej).symm
      · obtain ⟨k3, hk3, hne3, e2⟩ := get_erase hk'
        refine h.dis j3 k3 a b hj3 hk3 ?_
        rw [e1, e2]; split <;> split <;> omega
  · intro j s hj
    exact s.keep (h.red j s hj) hc.fr.size fun q hq => hc.fr.block q (s.lt (h.red j s hj) q hq) (h.rdis j i s r hj hi q hq)
  · intro j k a b hj hk
    rcases hrs k b hk with ⟨_, hk'⟩ | ⟨k2, ek, hk'⟩
    · intro q h1 h2
      rcases new k b hk' q h2 with h3 | h3
      · exact h.rdis j i a r hj hi q h1 h3
      · exact absurd (a.lt (h.red j a hj) q h1) (Nat.not_lt.2 h3)
    · obtain ⟨k3, hk3, _⟩ := get_erase hk'; exact h.rdis j k3 a b hj hk3
/-- What a call leaves that was given nothing to turn. -/
theorem Hp.call0 {rs' : List Res} (h : Hp F0 w0 w ro rs) (hc : Hp (fun _ => False) w w' [] rs') : Hp F0 w0 w' ro (rs' ++ rs) := by
  have hb : Below w.heap.size w w' := hc.fr.below (fun _ hf => hf.elim) (Nat.le_refl _)
  have h1 := h.below hb
  have new : ∀ (j : Nat) (s : Res), rs'[j]? = some s → ∀ q, s.F q → w.heap.size ≤ q := fun j s hj q hq => (hc.mine j s hj q hq).elim (fun hf => hf.elim) id
  have hrs : ∀ (j : Nat) (s : Res), (rs' ++ rs)[j]? = some s → (j < rs'.length ∧ rs'[j]? = some s) ∨ (rs'.length ≤ j ∧ rs[j - rs'.length]? = some s) := by
    intro j s hj
    by_cases hlt : j < rs'.length
    · left; exact ⟨hlt, by rwa [List.getElem?_append_left hlt] at hj⟩
    · right; exact ⟨by omega, by rwa [List.getElem?_append_right (by omega)] at hj⟩
  have cross : ∀ (j : Nat) (s : Res) (k : Nat) (t : Res), rs'[j]? = some s → rs[k]? = some t → s.dj t := fun j s k t hj hk q h2 h3 =>
    absurd (t.lt (h.own k t hk) q h3) (Nat.not_lt.2 (new j s hj q h2))
  refine ⟨h1.fr, ?_, ?_, ?_, h1.red, ?_⟩
  · intro j s hj
    rcases hrs j s hj with ⟨_, hj⟩ | ⟨_, hj⟩
    · exact hc.own j s hj
    · exact h1.own _ s hj
  · intro j s hj q hq
    rcases hrs j s hj with ⟨_, hj⟩ | ⟨_, hj⟩
    · exact .inr (Nat.le_trans h.fr.size (new j s hj q hq))
    · exact h.mine _ s hj q hq
  · intro j k a b hj hk hne
    rcases hrs j a hj with ⟨_, hj'⟩ | ⟨ej, hj'⟩
    · rcases hrs k b hk with ⟨_, hk'⟩ | ⟨ek, hk'⟩
      · exact hc.dis j k a b hj' hk' hne
      · exact cross j a _ b hj' hk'
    · rcases hrs k b hk with ⟨_, hk'⟩ | ⟨ek, hk'⟩
      · exact (cross k b _ a hk' hj').symm
      · exact h.dis _ _ a b hj' hk' (by omega)
  · intro j k a b hj hk
    rcases hrs k b hk with ⟨_, hk'⟩ | ⟨ek, hk'⟩
    · exact fun q h2 h3 => absurd (a.lt (h.red j a hj) q h2) (Nat.not_lt.2 (new k b hk' q h3))
    · exact h.rdis j _ a b hj hk'
/-- Two things are turned. -/
theorem Hp.upd2 (h : Hp F0 w0 w ro rs) (i j : Nat) {r s r' s' : Res} (hi : rs[i]? = some r) (hj : rs[j]? = some s) (hij : i ≠ j) (hc : Hp (fun q => r.F q ∨ s.F q) w w' [] [r', s']) : Hp F0 w0 w' ro ((rs.set i r').set j s') := by
  have hil : i < rs.length := (List.getElem?_eq_some_iff.1 hi).1
  have hjl : j < rs.length := (List.getElem?_eq_some_iff.1 hj).1
  have key : ∀ (k : Nat) (t : Res), ((rs.set i r').set j s')[k]? = some t → (k = i ∧ t = r') ∨ (k = j ∧ t = s') ∨ (k ≠ i ∧ k ≠ j ∧ rs[k]? = some t) := by
    intro k t hk
    by_cases e : k = j
    · subst e; right; left; rw [List.getElem?_set_self (by simpa using hjl)] at hk; exact ⟨rfl, by injection hk with hk; exact hk.symm⟩
    · rw [List.getElem?_set_ne (Ne.symm e)] at hk
      by_cases e2 : k = i
      · subst e2; left; rw [List.getElem?_set_self hil] at hk; exact ⟨rfl, by injection hk with hk; exact hk.symm⟩
      · right; right; rw [List.getElem?_set_ne (Ne.symm e2)] at hk; exact ⟨e2, e, hk⟩
  have R' : r'.Φ w' := hc.own 0 r' rfl
  have S' : s'.Φ w' := hc.own 1 s' rfl
  have FR : ∀ q, r'.F q → (r.F q ∨ s.F q) ∨ w.heap.size ≤ q := hc.mine 0 r' rfl
  have FS : ∀ q, s'.F q → (r.F q ∨ s.F q) ∨ w.heap.size ≤ q := hc.mine 1 s' rfl
  have D' : r'.dj s' := hc.dis 0 1 r' s' rfl rfl (by decide)
  have keepS : ∀ (k : Nat) (t : Res), rs[k]? = some t → k ≠ i → k ≠ j → t.Φ w' := fun k t hk h1 h2 =>
    t.keep (h.own k t hk) hc.fr.size fun q hq => hc.fr.block q (t.lt (h.own k t hk) q hq) (fun hh => hh.elim (h.dis k i t r hk hi h1 q hq) (h.dis k j t s hk hj h2 q hq))
  have mine2 : ∀ q, (r.F q ∨ s.F q) → F0 q ∨ w0.heap.size ≤ q := fun q hq => hq.elim (h.mine i r hi q) (h.mine j s hj q)
  have far : ∀ (u : Res), (∀ q, u.F q → (r.F q ∨ s.F q) ∨ w.heap.size ≤ q) → ∀ (k : Nat) (t : Res), rs[k]? = some t → k ≠ i → k ≠ j → u.dj t := fun u hu k t hk h1 h2 q hq hq2 => by
    rcases hu q hq with (h3 | h3) | h3
    · exact h.dis k i t r hk hi h1 q hq2 h3
    · exact h.dis k j t s hk hj h2 q hq2 h3
    · exact absurd (t.lt (h.own k t hk) q hq2) (Nat.not_lt.2 h3)
  have rfar : ∀ (u : Res), (∀ q, u.F q → (r.F q ∨ s.F q) ∨ w.heap.size ≤ q) → ∀ (k : Nat) (t : Res), ro[k]? = some t → t.dj u := fun u hu k t hk q hq2 hq => by
    rcases hu q hq with (h3 | h3) | h3
    · exact h.rdis k i t r hk hi q hq2 h3
    · exact h.rdis k j t s hk hj q hq2 h3
    · exact absurd (t.lt (h.red k t hk) q hq2) (Nat.not_lt.2 h3)
  refine ⟨h.fr.trans hc.fr mine2, ?_, ?_, ?_, ?_, ?_⟩
  · intro k t hk
    rcases key k t hk with ⟨_, rfl⟩ | ⟨_, rfl⟩ | ⟨h1, h2, hk⟩
    · exact R'
    · exact S'
    · exact keepS k t hk h1 h2
  · intro k t hk q hq
    rcases key k t hk with ⟨_, rfl⟩ | ⟨_, rfl⟩ | ⟨h1, h2, hk⟩
    · exact (FR q hq).elim (mine2 q) (fun h3 => .inr (Nat.le_trans h.fr.size h3))
    · exact (FS q hq).elim (mine2 q) (fun h3 => .inr (Nat.le_trans h.fr.size h3))
    · exact h.mine k t hk q hq
  · intro k m t u hk hm hne
    rcases key k t hk with ⟨e1, et⟩ | ⟨e1, et⟩ | ⟨h1, h2, hk1⟩
    · rcases key m u hm with ⟨e2, _⟩ | ⟨e2, eu⟩ | ⟨h3, h4, hm1⟩
      · exact absurd (e1.trans e2.symm) hne
      · rw [et, eu]; exact D'
      · rw [et]; exact far _ FR m u hm1 h3 h4
    · rcases key m u hm with ⟨e2, eu⟩ | ⟨e2, _⟩ | ⟨h3, h4, hm1⟩
      · rw [et, eu]; exact D'.symm
      · exact absurd (e1.trans e2.symm) hne
      · rw [et]; exact far _ FS m u hm1 h3 h4
    · rcases key m u hm with ⟨e2, eu⟩ | ⟨e2, eu⟩ | ⟨h3, h4, hm1⟩
      · rw [eu]; exact (far _ FR k t hk1 h1 h2).symm
      · rw [eu]; exact (far _ FS k t hk1 h1 h2).symm
      · exact h.dis k m t u hk1 hm1 hne
  · intro k t hk
    exact t.keep (h.red k t hk) hc.fr.size fun q hq => hc.fr.block q (t.lt (h.red k t hk) q hq) (fun hh => hh.elim (h.rdis k i t r hk hi q hq) (h.rdis k j t s hk hj q hq))
  · intro k m t u hk hm
    rcases key m u hm with ⟨_, rfl⟩ | ⟨_, rfl⟩ | ⟨_, _, hm⟩
    · exact rfar _ FR k t hk
    · exact rfar _ FS k t hk
    · exact h.rdis k m t u hk hm
/-- Two things held as one, and a thing held as two. -/
theorem Hp.join (h : Hp F0 w0 w ro rs) (i j : Nat) {r s : Res} (hi : rs[i]? = some r) (hj : rs[j]? = some s) (hij : i < j) (t : Res) (ht : t.Φ w) (hF : ∀ q, t.F q → r.F q ∨ s.F q) :
    Hp F0 w0 w ro (t :: (rs.eraseIdx j).eraseIdx i) := by
  refine ((h.drop j).drop i).addS t ht (fun q hq => ?_) (fun k u hk => ?_) (fun k u hk q h1 h2 => ?_)
  · rcases hF q hq with h1 | h1
    · exact h.mine i r hi q h1
    · exact h.mine j s hj q h1
  · obtain ⟨k1, hk1, hne1, e1⟩ := get_erase hk
    obtain ⟨k2, hk2, hne2, e2⟩ := get_erase hk1
    intro q h1 h2
    rcases hF q h1 with h3 | h3
    · refine h.dis i k2 r u hi hk2 ?_ q h3 h2
      rw [e2]; split <;> omega
    · exact h.dis j k2 s u hj hk2 (Ne.symm hne2) q h3 h2
  · rcases hF q h1 with h3 | h3
    · exact h.rdis k i u r hk hi q h2 h3
    · exact h.rdis k j u s hk hj q h2 h3
/-- Only some of the things, in another order. -/
theorem Hp.sel (h : Hp F0 w0 w ro rs) (is js : List Nat) {ro' rs' : List Res} (hnd : decide is.Nodup = true) (h1 : js.filterMap (ro[·]?) = ro') (h2 : is.map (rs[·]?) = rs'.map some) : Hp F0 w0 w ro' rs' := by
  have hnd := of_decide_eq_true hnd
  have key : ∀ (i : Nat) (r : Res), rs'[i]? = some r → ∃ k : Nat, is[i]? = some k ∧ rs[k]? = some r := by
    intro i r hi
    have h3 : (rs'.map some)[i]? = some (some r) := by rw [List.getElem?_map, hi]; rfl
    rw [← h2, List.getElem?_map] at h3
    cases hk : is[i]? with
    | none => rw [hk] at h3; cases h3
    | some k => rw [hk] at h3; injection h3 with h3; exact ⟨k, rfl, h3⟩
  have keyR : ∀ (i : Nat) (r : Res), ro'[i]? = some r → ∃ k : Nat, ro[k]? = some r := by
    intro i r hi
    subst h1
    have hm := List.mem_of_getElem? hi
    rw [List.mem_filterMap] at hm
    obtain ⟨k, _, hk⟩ := hm
    exact ⟨k, hk⟩
  refine ⟨h.fr, ?_, ?_, ?_, ?_, ?_⟩
  · intro i r hi; obtain ⟨k, _, hk⟩ := key i r hi; exact h.own k r hk
  · intro i r hi; obtain ⟨k, _, hk⟩ := key i r hi; exact h.mine k r hk
  · intro i j r s hi hj hij
    obtain ⟨k, hk1, hk⟩ := key i r hi
    obtain ⟨m, hm1, hm⟩ := key j s hj
    refine h.dis k m r s hk hm ?_
    rintro rfl
    have h3 := List.getElem?_eq_some_iff.1 hk1
    obtain ⟨h3, h4⟩ := h3
    exact hij ((List.getElem?_inj h3 hnd).1 (by rw [hk1, hm1]))
  · intro i r hi; obtain ⟨k, hk⟩ := keyR i r hi; exact h.red k r hk
  · intro i j r s hi hj; obtain ⟨k, hk⟩ := keyR i r hi; obtain ⟨m, _, hm⟩ := key j s hj; exact h.rdis k m r s hk hm
theorem Hp.weaken (h : Hp F0 w0 w ro rs) {F : Nat → Prop} (hF : ∀ q, F0 q → F q) : Hp F w0 w ro rs :=
  { h with
    fr := ⟨h.fr.os, h.fr.tape, h.fr.output, h.fr.size, fun k hk hn => h.fr.block k hk (fun h0 => hn (hF k h0))⟩
    mine := fun i r hi q hq => (h.mine i r hi q hq).imp_left (hF q) }
end
end Go.Proofs.YtpkelokaammmjaaDoor
end
/-! Whole rows out of and into a block that is known whole, as steps of a walk. Over any program. -/
section
namespace Go.Proofs.YtpkelokaammmjaaDoor
open Go.RowKit
section
variable {P : Program} {ops : Array Oper} {rest : List Oper} {o : Oper} {a : Act} {w : World} {Q : Exit → Act → World → Prop}
theorem Blk.range {b : Nat} {T : TypeId} {cs ds : List Value} {k : Nat} (h : Blk w b T cs) (hd : ∀ j v, ds[j]? = some v → cs[k + j]? = some v) : w.rangeAt b k ds := fun j v hj => by
  rw [Blk.cell h]; exact hd j v hj
theorem slice_get (cs : List Value) (k n : Nat) : ∀ j v, ((cs.drop k).take n)[j]? = some v → cs[k + j]? = some v := fun j v h => by
  rw [List.getElem?_take] at h
  split at h
  · rwa [List.getElem?_drop] at h
  · cases h
/-- A load of a row out of a block. -/
theorem wl_load (hgd : o.guard = none) (ty : TypeId) (x : Operand) (ho : o.op = .load ty x)
    (b k : Nat) (hx : a.eval x = .pointer (some ⟨b, k, none⟩)) (T : TypeId) (cs ds : List Value) (d : TypeDesc) (hb : Blk w b T cs) (hd : ∀ j v, ds[j]? = some v → cs[k + j]? = some v)
    (hu : P.underlying ty = some d) (hr : d.isRow = true) (hi : (P.info? ty).map (·.size) = some ds.length)
    (h : wpList P ops Q rest (a.put o.dst (.agg ds.toArray)) w) : wpList P ops Q (o :: rest) a w :=
  wpList_load_mid hgd ty x ho b k hx ds d (hb.range hd) hu hr hi h
/-- The same behind a guard that says yes. -/
theorem wl_loadG (hw : Region.wanted o (yielded ops a.tmps) = true) (ty : TypeId) (x : Operand) (ho : o.op = .load ty x)
    (b k : Nat) (hx : a.eval x = .pointer (some ⟨b, k, none⟩)) (T : TypeId) (cs ds : List Value) (d : TypeDesc) (hb : Blk w b T cs) (hd : ∀ j v, ds[j]? = some v → cs[k + j]? = some v)
    (hu : P.underlying ty = some d) (hr : d.isRow = true) (hi : (P.info? ty).map (·.size) = some ds.length)
    (h : wpList P ops Q rest (a.put o.dst (.agg ds.toArray)) w) : wpList P ops Q (o :: rest) a w :=
  BigFrame.wpList_want hw fun _ hK => wp_load_mid ty x ho b k hx ds d (hb.range hd) hu hr hi (hK _ _ h)
theorem run_storeVar_blk (b k : Nat) (T : TypeId) (cs vs : List Value) (ty : TypeId) (hb : Blk w b T cs) (hk : k + vs.length ≤ cs.length) (hi : (P.info? ty).map (·.size) = some vs.length) (h1 : ∀ v ∈ vs, v.oneCell' = true) :
    (storeVar ty ⟨b, k, none⟩ (.agg vs.toArray)).run P w = .ok () (w.setRow b (cs.take k ++ vs ++ cs.drop (k + vs.length)).toArray) := by
  have := run_storeCells_at (P := P) b k T vs 0 cs.toArray w hb (by simpa using hk) h1
  simp only [Nat.add_zero] at this
  cases hq : P.info? ty with
  | none => simp [hq] at hi
  | some i =>
    have hs : vs.length = i.size := by simp [hq] at hi; omega
    simp [storeVar, sizeOf, typeInfo, hq, Value.cells, hs, this]
/-- A store of a row into a block. -/
theorem wl_store (hgd : o.guard = none) (ty : TypeId) (x y : Operand) (ho : o.op = .store ty x y)
    (b k : Nat) (vs : List Value) (hx : a.eval x = .pointer (some ⟨b, k, none⟩)) (hy : a.eval y = .agg vs.toArray) (T : TypeId) (cs : List Value) (hb : Blk w b T cs) (hk : k + vs.length ≤ cs.length)
    (hi : (P.info? ty).map (·.size) = some vs.length) (h1 : ∀ v ∈ vs, v.oneCell' = true)
    (h : wpList P ops Q rest (a.put o.dst undef) (w.setRow b (cs.take k ++ vs ++ cs.drop (k + vs.length)).toArray)) : wpList P ops Q (o :: rest) a w :=
  wpList_plain hgd fun K hK => by
    unfold Oper.wp execOp
    simp only [ho, hx, hy, Instr.storeAt, Instr.sureAddr, Sem.run_bind, Sem.run_pure, Result.andThen_ok, run_storeVar_blk b k T cs vs ty hb hk hi h1]
    exact hK _ _ h
theorem only_setRow {w : World} (b : Nat) (cs : Array Value) : w.grownBy (w.setRow b cs) (some b) :=
  ⟨rfl, rfl, rfl, by simp, fun k _ hk => setRow_other w b k cs (fun e => hk (by rw [e]))⟩
/-- A store of a row into a block: of the world behind it just this is known. -/
theorem wl_storeW (hgd : o.guard = none) (ty : TypeId) (x y : Operand) (ho : o.op = .store ty x y)
    (b k : Nat) (vs : List Value) (hx : a.eval x = .pointer (some ⟨b, k, none⟩)) (hy : a.eval y = .agg vs.toArray) (T : TypeId) (cs ds : List Value) (hb : Blk w b T cs) (hk : k + vs.length ≤ cs.length)
    (hi : (P.info? ty).map (·.size) = some vs.length) (h1 : ∀ v ∈ vs, v.oneCell' = true) (hds : ds = cs.take k ++ vs ++ cs.drop (k + vs.length))
    (h : ∀ w', Blk w' b T ds → w.grownBy w' (some b) → w'.heap.size = w.heap.size → wpList P ops Q rest (a.put o.dst undef) w') : wpList P ops Q (o :: rest) a w := by
  subst hds
  exact wl_store hgd ty x y ho b k vs hx hy T cs hb hk hi h1 (h _ (Blk.setRow hb _) (only_setRow b _) (by simp))
/-- The load, in a region whose order is drawn: the head's operations. -/
theorem q_load {Q : Act → Prop} (hgd : o.guard = none) (ty : TypeId) (x : Operand) (ho : o.op = .load ty x)
    (b k : Nat) (hx : a.eval x = .pointer (some ⟨b, k, none⟩)) (T : TypeId) (cs ds : List Value) (d : TypeDesc) (hb : Blk w b T cs) (hd : ∀ j v, ds[j]? = some v → cs[k + j]? = some v)
    (hu : P.underlying ty = some d) (hr : d.isRow = true) (hi : (P.info? ty).map (·.size) = some ds.length)
    (h : wpQuiet P ops (fun w' => ∃ n, w' = w.drewN n) Q rest (a.put o.dst (.agg ds.toArray))) : wpQuiet P ops (fun w' => ∃ n, w' = w.drewN n) Q (o :: rest) a := by
  refine wpQuiet_step fun K hK => ?_
  rw [if_pos (by simp [Region.wanted, hgd])]
  refine ⟨_, fun w' hw' => ?_, hK _ h⟩
  obtain ⟨n, rfl⟩ := hw'
  have hr' := run_loadVar_mid (P := P) (w.drewN n) b k ty ds d ((Blk.drewN hb n).range hd) hu hr hi
  unfold Oper.quietAt execOp
  simp only [ho, hx, Instr.loadAt, Instr.sureAddr, Sem.run_bind, Sem.run_pure, Result.andThen_ok, hr']
  exact ⟨rfl, rfl⟩
end
theorem vb_ones (l : Bytes) : ∀ v ∈ vb l, v.oneCell' = true := by
  intro v hv
  simp only [vb, List.mem_map] at hv
  obtain ⟨x, _, rfl⟩ := hv
  rfl
end Go.Proofs.YtpkelokaammmjaaDoor
end
/-! A slice that reads as a list; append of such a one onto a row of the call's own. (After the guide's page of words to copy.) -/
section
namespace Go.Proofs.YtpkelokaammmjaaDoor
open Go.RowKit
theorem block_of_add (a : Addr) (n : Nat) : (a.add n).block = a.block := by unfold Addr.add; split <;> rfl
theorem add_of_add (a : Addr) (i j : Nat) : (a.add i).add j = a.add (i + j) := by
  unfold Addr.add
  by_cases hi : i = 0 <;> by_cases hj : j = 0 <;> simp [hi, hj, Nat.add_assoc]

def Reads (w : World) (B size : Nat) (A : Option Addr) (n : Nat) (xs : List Value) : Prop :=
  xs.length = n * size ∧ (0 < n → ∃ ad, A = some ad ∧ ad.block < B ∧ ∀ j u, xs[j]? = some u → w.cell? (ad.add j) = some u)

section
variable {w w' : World} {B B' size n : Nat} {A : Option Addr} {xs : List Value}
theorem Reads.none_ : Reads w B size A 0 [] := ⟨by simp, fun h => absurd h (by omega)⟩
theorem Reads.at_ {k : Nat} (h : Reads w B 1 A n xs) (hk : k < n) : ∃ ad u, A = some ad ∧ ad.block < B ∧ xs[k]? = some u ∧ w.cell? (ad.add k) = some u := by
  obtain ⟨ad, e, hb, hc⟩ := h.2 (by omega)
  have hl : k < xs.length := by have := h.1; omega
  exact ⟨ad, xs[k], e, hb, List.getElem?_eq_getElem hl, hc k _ (List.getElem?_eq_getElem hl)⟩
theorem Reads.keep (h : Reads w B size A n xs) (hk : ∀ p : Addr, p.block < B → w'.cell? p = w.cell? p) : Reads w' B size A n xs :=
  ⟨h.1, fun hn => by
    obtain ⟨ad, e, hb, hc⟩ := h.2 hn
    exact ⟨ad, e, hb, fun j u hu => (hk _ (by rw [block_of_add]; exact hb)).trans (hc j u hu)⟩⟩
theorem Reads.more (h : Reads w B size A n xs) (hB : B ≤ B') : Reads w B' size A n xs :=
  ⟨h.1, fun hn => by
    obtain ⟨ad, e, hb, hc⟩ := h.2 hn
    exact ⟨ad, e, by omega, hc⟩⟩
theorem Reads.below (h : Reads w B size A n xs) (hb : Below B w w') : Reads w' B size A n xs := h.keep fun _ hp => hb.cell hp
theorem Reads.drew (h : Reads w B size A n xs) : Reads w.drew B size A n xs := h
theorem Reads.drewN (h : Reads w B size A n xs) (k : Nat) : Reads (w.drewN k) B size A n xs := h
theorem Reads.alloc (h : Reads w B size A n xs) (hB : B ≤ w.heap.size) (o : Obj) : Reads (w.alloc o) B size A n xs := h.keep fun p hp => World.cell?_alloc_lt w o p (by omega)
theorem Reads.setCell (h : Reads w B size A n xs) {p : Addr} (hB : B ≤ p.block) (u : Value) : Reads (w.setCell p u) B size A n xs :=
  h.keep fun q hq => World.cell?_setCell_other w p q u (fun e => by subst e; omega)
theorem Reads.grown (h : Reads w B size A n xs) {row : Option Nat} (hg : w.grownBy w' row) (hB : B ≤ w.heap.size) (hr : ∀ g, row = some g → B ≤ g) : Reads w' B size A n xs :=
  h.keep fun p hp => World.cell?_of_block (hg.block p.block (by omega) (fun e => by have := hr _ e.symm; omega))
theorem Reads.cut (h : Reads w B size A n xs) {k cap : Nat} (hk : k ≤ n) (hc : n ≤ cap) :
    Reads w B size (if cap = k then A else A.map (·.add (k * size))) (n - k) (xs.drop (k * size)) := by
  refine ⟨by rw [List.length_drop, h.1, Nat.sub_mul], fun hn => ?_⟩
  obtain ⟨ad, rfl, hb, hcell⟩ := h.2 (by omega)
  rw [if_neg (by omega)]
  refine ⟨ad.add (k * size), rfl, by rw [block_of_add]; exact hb, fun j u hu => ?_⟩
  rw [add_of_add]
  exact hcell _ u (by rw [← hu, List.getElem?_drop])
theorem Reads.of_own {base : Nat} {e : TypeId} {c : Nat} (h : w.ownsRow base e size (.slice A n c) n xs) : Reads w w.heap.size size A n xs := by
  refine ⟨h.1, fun hn => ?_⟩
  obtain ⟨g, cap, hv, _, hlt⟩ := h.form hn
  have hA : A = some ⟨g, 0, none⟩ := by injection hv
  subst hA
  exact ⟨_, rfl, hlt, h.cells (g := g) rfl⟩
end
section
variable {P : Program} (w : World)

theorem run_append_of_nil (base : Nat) (t ty e : TypeId) (i : TypeInfo) (size : Nat) (ht : P.underlying t = some (.slice e)) (hi : P.info? e = some i)
    (v : Value) (n : Nat) (xs : List Value) (hown : w.ownsRow base e size v n xs) (c : Nat) : (Builtin.append_ #[t, t] ty #[v, .slice none 0 c]).run P w = .ok v w := by
  rcases hown.2 with ⟨rfl, rfl⟩ | ⟨g, cap, cur, rfl, _, _, hnc, _⟩
  · simp [Builtin.append_, run_underlying ht, sizeOf, typeInfo, hi, Builtin.lenOf, Builtin.firstCells]
  · simp [Builtin.append_, run_underlying ht, sizeOf, typeInfo, hi, Builtin.lenOf, Builtin.firstCells, hnc, storeCells]

theorem run_append_any (base : Nat) (t ty e : TypeId) (i : TypeInfo) (z : Value) (size bytes : Nat) (ht : P.underlying t = some (.slice e)) (hi : P.info? e = some i) (hz : i.zero = some z)
    (hsize : i.size = size) (hby : i.bytes = bytes) (hzs : z.cells.size = size) (hsz : 0 < size)
    (v : Value) (n : Nat) (xs : List Value) (hown : w.ownsRow base e size v n xs)
    (B : Nat) (A : Option Addr) (m c : Nat) (news : List Value) (hr : Reads w B size A m news) (h1 : ∀ u ∈ news, u.oneCell' = true)
    (h63 : n + m ≤ maxLen) (hbytes : (n + m) * bytes ≤ 140737488355328) (hbase : base ≤ w.heap.size) :
    ∃ v' w', (Builtin.append_ #[t, t] ty #[v, .slice A m c]).run P w = .ok v' w' ∧ w'.ownsRow base e size v' (n + m) (xs ++ news) ∧ w.grownBy w' v.ownBlock ∧
      (v'.ownBlock = v.ownBlock ∨ v'.ownBlock = some w.heap.size) := by
  rcases A with _ | ad
  · have hm : m = 0 := by
      rcases Nat.eq_zero_or_pos m with h0 | h0
      · exact h0
      · obtain ⟨ad, h, _⟩ := hr.2 h0
        cases h
    subst hm
    have hn : news = [] := List.eq_nil_of_length_eq_zero (by simpa using hr.1)
    subst hn
    exact ⟨v, w, run_append_of_nil w base t ty e i size ht hi v n xs hown c, by simpa using hown, World.grownBy.refl w _, .inl rfl⟩
  · have hcells : ∀ j u, news[j]? = some u → w.cell? (ad.add j) = some u := by
      intro j u hu
      rcases Nat.eq_zero_or_pos m with h0 | h0
      · subst h0
        have hn : news = [] := List.eq_nil_of_length_eq_zero (by simpa using hr.1)
        subst hn
        simp at hu
      · obtain ⟨ad', h, _, hc⟩ := hr.2 h0
        injection h with h
        subst h
        exact hc j u hu
    obtain ⟨v', w', hrun, h2, h3, _, h5⟩ := run_append_own_at (P := P) w base t ty e i z size bytes ht hi hz hsize hby hzs hsz v n xs hown ad m c news hr.1 hcells h1 h63 hbytes hbase
    exact ⟨v', w', hrun, h2, h3, h5⟩

theorem wp_append_any {o : Oper} {a : Act} {K : Act → World → Prop} {Q : Exit → Act → World → Prop} (s x : Operand) (t : TypeId)
    (ho : o.op = .call { callee := .builtin .append, args := #[s, x], argTypes := #[t, t] })
    (base : Nat) (e : TypeId) (i : TypeInfo) (z : Value) (size bytes : Nat) (ht : P.underlying t = some (.slice e)) (hi : P.info? e = some i) (hz : i.zero = some z)
    (hsize : i.size = size) (hby : i.bytes = bytes) (hzs : z.cells.size = size) (hsz : 0 < size)
    (v : Value) (n : Nat) (xs : List Value) (hs : a.eval s = v) (hown : w.ownsRow base e size v n xs)
    (B : Nat) (A : Option Addr) (m c : Nat) (news : List Value) (hx : a.eval x = .slice A m c) (hr : Reads w B size A m news) (h1 : ∀ u ∈ news, u.oneCell' = true)
    (h63 : n + m ≤ maxLen) (hbytes : (n + m) * bytes ≤ 140737488355328) (hbase : base ≤ w.heap.size)
    (h : ∀ v' w', w'.ownsRow base e size v' (n + m) (xs ++ news) → w.grownBy w' v.ownBlock → (v'.ownBlock = v.ownBlock ∨ v'.ownBlock = some w.heap.size) → K (a.put o.dst v') w') : o.wp P a w K Q := by
  obtain ⟨v', w', hrun, h2, h3, h4⟩ := run_append_any (P := P) w base t o.type e i z size bytes ht hi hz hsize hby hzs hsz v n xs hown B A m c news hr h1 h63 hbytes hbase
  unfold Oper.wp execOp
  simp only [ho, resolve, invoke, builtin, Sem.run_bind, Sem.run_pure, Result.andThen_ok, List.map_toArray, List.map_cons, List.map_nil, hs, hx, hrun]
  exact h v' w' h2 h3 h4

theorem wpList_append_any {ops : Array Oper} {rest : List Oper} {o : Oper} {a : Act} {Q : Exit → Act → World → Prop} (hgd : o.guard = none) (s x : Operand) (t : TypeId)
    (ho : o.op = .call { callee := .builtin .append, args := #[s, x], argTypes := #[t, t] })
    (base : Nat) (e : TypeId) (i : TypeInfo) (z : Value) (size bytes : Nat) (ht : P.underlying t = some (.slice e)) (hi : P.info? e = some i) (hz : i.zero = some z)
    (hsize : i.size = size) (hby : i.bytes = bytes) (hzs : z.cells.size = size) (hsz : 0 < size)
    (v : Value) (n : Nat) (xs : List Value) (hs : a.eval s = v) (hown : w.ownsRow base e size v n xs)
    (B : Nat) (A : Option Addr) (m c : Nat) (news : List Value) (hx : a.eval x = .slice A m c) (hr : Reads w B size A m news) (h1 : ∀ u ∈ news, u.oneCell' = true)
    (h63 : n + m ≤ maxLen) (hbytes : (n + m) * bytes ≤ 140737488355328) (hbase : base ≤ w.heap.size)
    (h : ∀ v' w', w'.ownsRow base e size v' (n + m) (xs ++ news) → w.grownBy w' v.ownBlock → (v'.ownBlock = v.ownBlock ∨ v'.ownBlock = some w.heap.size) → wpList P ops Q rest (a.put o.dst v') w') : wpList P ops Q (o :: rest) a w :=
  wpList_plain hgd fun _ hK => wp_append_any w s x t ho base e i z size bytes ht hi hz hsize hby hzs hsz v n xs hs hown B A m c news hx hr h1 h63 hbytes hbase fun v' w' h2 h3 h4 => hK _ _ (h v' w' h2 h3 h4)

theorem step_append_any {ops : Array Oper} {o : Oper} {a : Act} {K : Act → World → Prop} {Q : Exit → Act → World → Prop} {E : Prop} (hgd : o.guard = none) (s x : Operand) (t : TypeId)
    (ho : o.op = .call { callee := .builtin .append, args := #[s, x], argTypes := #[t, t] })
    (base : Nat) (e : TypeId) (i : TypeInfo) (z : Value) (size bytes : Nat) (ht : P.underlying t = some (.slice e)) (hi : P.info? e = some i) (hz : i.zero = some z)
    (hsize : i.size = size) (hby : i.bytes = bytes) (hzs : z.cells.size = size) (hsz : 0 < size)
    (v : Value) (n : Nat) (xs : List Value) (hs : a.eval s = v) (hown : w.ownsRow base e size v n xs)
    (B : Nat) (A : Option Addr) (m c : Nat) (news : List Value) (hx : a.eval x = .slice A m c) (hr : Reads w B size A m news) (h1 : ∀ u ∈ news, u.oneCell' = true)
    (h63 : n + m ≤ maxLen) (hbytes : (n + m) * bytes ≤ 140737488355328) (hbase : base ≤ w.heap.size)
    (h : ∀ v' w', w'.ownsRow base e size v' (n + m) (xs ++ news) → w.grownBy w' v.ownBlock → (v'.ownBlock = v.ownBlock ∨ v'.ownBlock = some w.heap.size) → K (a.put o.dst v') w') :
    if Region.wanted o (yielded ops a.tmps) = true then Oper.wp P o a w K Q else E := by
  have hw : Region.wanted o (yielded ops a.tmps) = true := by simp [Region.wanted, hgd]
  rw [if_pos hw]
  exact wp_append_any w s x t ho base e i z size bytes ht hi hz hsize hby hzs hsz v n xs hs hown B A m c news hx hr h1 h63 hbytes hbase h
end
end Go.Proofs.YtpkelokaammmjaaDoor
end
/-! A region that draws its order: its first n operations only read (or call what only draws), the others come in one forced order. One walk in the text's order serves every order. Plain theorems over any program. -/
section
namespace Go.QT
open Go
section
variable {P : Program} {ops : Array Oper} {md : Region.Mode} {C : World → Prop}

def anyQL (P : Program) (md : Region.Mode) (ops : Array Oper) (C : World → Prop) (n : Nat) (L : Array Bool → Act → Prop) : Nat → Array Bool → Act → Prop
  | 0, listed, a => L listed a
  | f + 1, listed, a =>
    Region.ready md ops listed ≠ [] ∧ ∀ i ∈ Region.ready md ops listed, i < n ∧ qOp P ops C i (anyQL P md ops C n L f (listed.setIfInBounds i true)) a

theorem any_of_head {n g : Nat} {L : Array Bool → Act → Prop} {Q' : Exit → Act → World → Prop} (hL : ∀ listed a w, C w → L listed a → wpAny P md ops Q' g listed a w) :
    ∀ (f : Nat) (listed : Array Bool) (a : Act) (w : World), C w → anyQL P md ops C n L f listed a → wpAny P md ops Q' (f + g) listed a w
  | 0, listed, a, w, hw, h => by rw [Nat.zero_add]; exact hL _ _ _ hw h
  | f + 1, listed, a, w, hw, h => by
    rw [show f + 1 + g = (f + g) + 1 by omega]
    exact ⟨fun h0 => absurd h0 h.1, fun i hi => wpOp_of_qOp hw (fun a' w' hw' h' => any_of_head hL f _ a' w' hw' h') (h.2 i hi).2⟩

theorem anyQL_first {n i : Nat} {oi : Oper} {v : Value} {L : Array Bool → Act → Prop} (hi : ops[i]? = some oi) (hsel : ∀ (j : Nat) (o : Oper) cs b, ops[j]? = some o → o.op ≠ .select cs b)
    (hs : Region.sinkB md ops n = true) (hc : Region.chainB md ops n = true) (hn : n < ops.size) (hin : i < n)
    (hdone : ∀ listed a, L listed a → ∀ j ∈ Region.ready md ops listed, n ≤ j) :
    ∀ (f : Nat) (listed : Array Bool) (a : Act), HeadInv md ops n listed →
      (∀ j oj, ops[j]? = some oj → j ≠ i → listed.getD j true = false → (∀ e ∈ oj.after, Region.binds md e = true → e.on ≠ i) → oi.apart ops oj = true) →
      i ∈ Region.ready md ops listed → YieldsIn P ops C oi v a →
      anyQL P md ops C n L f (listed.setIfInBounds i true) (a.put oi.dst v) → anyQL P md ops C n L (f + 1) listed a := by
  intro f
  induction f with
  | zero =>
    intro listed a inv _ hr hy H
    have hun := (mem_ready.1 hr).1
    refine ⟨fun h => (by rw [h] at hr; cases hr), fun j hj => ?_⟩
    have hjn : j < n := by
      rcases Nat.lt_or_ge j n with h | h
      · exact h
      · exact absurd hj (tail_waits hs hc hn inv _ i rfl hin hun j h)
    refine ⟨hjn, ?_⟩
    by_cases hji : j = i
    · subst hji; exact hy.qOp hi H
    · have := hdone _ _ H j (ready_mono hj hji)
      omega
  | succ f ih =>
    intro listed a inv hfree hr hy H
    have hun := (mem_ready.1 hr).1
    refine ⟨fun h => (by rw [h] at hr; cases hr), fun j hj => ?_⟩
    have hjn : j < n := by
      rcases Nat.lt_or_ge j n with h | h
      · exact h
      · exact absurd hj (tail_waits hs hc hn inv _ i rfl hin hun j h)
    refine ⟨hjn, ?_⟩
    by_cases hji : j = i
    · subst hji; exact hy.qOp hi H
    · have h1 := (H.2 j (ready_mono hj hji)).2
      obtain ⟨hjun, oj, hoj, hall⟩ := mem_ready.1 hj
      have hnot : ∀ e ∈ oj.after, Region.binds md e = true → e.on ≠ i := fun e he hb heq => by
        have h1 := hall e he hb
        rw [heq, getD_both hun] at h1
        cases h1
      have h2 := qOp_put hoj (hfree j oj hoj hji hjun hnot) (fun cs b => hsel i oi cs b hi) (fun cs b => hsel j oj cs b hoj) hy h1
      have hfree' : ∀ k ok, ops[k]? = some ok → k ≠ i → (listed.setIfInBounds j true).getD k true = false →
          (∀ e ∈ ok.after, Region.binds md e = true → e.on ≠ i) → oi.apart ops ok = true := fun k ok hk hki hun hno => by
        refine hfree k ok hk hki ?_ hno
        by_cases hjk : j = k
        · subst hjk; exact hjun
        · rw [getD_set_ne true hjk] at hun; exact hun
      refine qOp_mono (fun a' h3 => ih (listed.setIfInBounds j true) a' (inv.set hj hjn) hfree' (ready_mono hr (Ne.symm hji)) h3.1 ?_) h2
      rw [Array.setIfInBounds_comm _ _ hji]
      exact h3.2

theorem anyQL_lex {n g : Nat} {Lq : Act → Prop} (hsel : Region.noSelect ops = true) (hs : Region.sinkB md ops n = true) (hc : Region.chainB md ops n = true) (hn : n < ops.size) :
    ∀ (l : List Oper) (k : Nat) (listed : Array Bool) (a : Act), (∀ j, j < l.length → l[j]? = ops[k + j]?) → k + l.length = n → HeadInv md ops n listed →
    Region.lexHead md ops g l.length k listed = true → wpQuiet P ops C Lq l a →
    anyQL P md ops C n (fun listed' a' => Region.seqB md ops g n listed' = true ∧ Lq a') l.length listed a
  | [], k, listed, a, _, hk, _, hB, h => by
    have : k = n := by simpa using hk
    subst this
    exact ⟨by simpa [Region.lexHead] using hB, h⟩
  | o :: l, k, listed, a, hl, hk, inv, hB, h => by
    have h0 : ops[k]? = some o := by simpa using (hl 0 (by simp)).symm
    simp only [List.length_cons, Region.lexHead, Bool.and_eq_true] at hB
    obtain ⟨⟨hr, hf⟩, hB'⟩ := hB
    have hkn : k < n := by simp only [List.length_cons] at hk; omega
    have hr' : k ∈ Region.ready md ops listed := by simpa using hr
    have hst : qOp P ops C k (wpQuiet P ops C Lq l) a := by unfold qOp; simp only [h0]; exact h
    obtain ⟨v, hy, hK⟩ := yieldsIn_of_qOp h0 hst
    exact anyQL_first h0 (Region.noSelect_spec hsel) hs hc hn hkn (fun listed' a' hL => seqB_ready hL.1) l.length listed a inv (Region.free_spec h0 hf) hr' hy
      (anyQL_lex hsel hs hc hn l (k + 1) _ _ (fun j hj => by have := hl (j + 1) (by simp; omega); simpa [Nat.add_assoc, Nat.add_comm 1 j] using this) (by simp only [List.length_cons] at hk; omega) (inv.set hr' hkn) hB' hK)

/-- The head only reads, the tail is forced: the head by 'wpQuiet', the tail by 'wpList'. -/
theorem wp_region_qt {id : Nat} {Q : Exit → Act → World → Prop} {a : Act} {w : World} {l : List Oper} (n : Nat) (hm : P.follows .mixedOrders = true) (hB : Region.lexTailB .any l.toArray n = true)
    (h : wpQuiet P l.toArray (fun w' => ∃ k, w' = w.drewN k) (fun a' => ∀ w', (∃ k, w' = w.drewN k) → wpList P l.toArray Q (l.drop n) a' w') (l.take n) a) : (Code.region id l.toArray true).wp P Q a w := by
  simp only [Region.lexTailB, Bool.and_eq_true, decide_eq_true_eq] at hB
  obtain ⟨⟨⟨⟨hsel, hn⟩, hs⟩, hc⟩, hlex⟩ := hB
  have hn' : n < l.length := by simpa using hn
  have htl : (l.take n).length = n := by simp; omega
  have hdl : (l.drop n).length = l.toArray.size - n := by simp
  have inv0 : HeadInv .any l.toArray n (Array.replicate l.toArray.size false) :=
    ⟨by simp, fun j oj _ hl => (by rw [getD_replicate_false] at hl; cases hl), fun t _ ht => getD_in (by simpa using ht) (getD_replicate_false _ _)⟩
  have H := anyQL_lex (md := .any) (g := l.toArray.size - n) hsel hs hc hn (l.take n) 0 _ a (fun j hj => by
    have hj' : j < n := by rw [htl] at hj; exact hj
    simp [hj']) (by simpa using htl) inv0 (by rw [htl]; exact hlex) h
  refine wp_region_any hm ?_
  have := any_of_head (C := fun w' => ∃ k, w' = w.drewN k) (Q' := Q) (g := l.toArray.size - n) (fun listed a' w' hw' hL => by
    have := wpAny_of_seq (md := .any) (Q' := Q) (l.drop n) n listed a' w' (fun j => by simp [List.getElem?_drop]) (by rw [hdl]; exact hL.1) (hL.2 w' hw')
    rwa [hdl] at this) _ _ _ _ ⟨1, rfl⟩ H
  rw [htl, show n + (l.toArray.size - n) = l.toArray.size by omega] at this
  exact this

/-! ### The same, some moves of slots being taken first, which nobody ahead of the tail waits for -/
structure HeadInv2 (md : Region.Mode) (ops : Array Oper) (n : Nat) (pre : List Nat) (listed : Array Bool) : Prop where
  size : listed.size = ops.size
  closed : ∀ j oj, ops[j]? = some oj → listed.getD j false = true → ∀ e ∈ oj.after, Region.binds md e = true → listed.getD e.on false = true
  tail : ∀ t, n ≤ t → t < ops.size → listed.getD t true = false
  pre : ∀ i ∈ pre, listed.getD i true = true
def sinkB2 (md : Region.Mode) (ops : Array Oper) (n : Nat) (pre : List Nat) : Bool :=
  (List.range n).all fun i => pre.contains i || (List.range (n + 1)).any fun j => decide (i < j) && Region.waitsFor md ops j i
theorem HeadInv2.set {n i : Nat} {pre : List Nat} {listed : Array Bool} (inv : HeadInv2 md ops n pre listed) (hi : i ∈ Region.ready md ops listed) (hin : i < n) : HeadInv2 md ops n pre (listed.setIfInBounds i true) := by
  obtain ⟨_, oi, hoi, hall⟩ := mem_ready.1 hi
  refine ⟨by simp [inv.size], fun j oj hj hl e he hb => ?_, fun t ht ht' => by rw [getD_set_ne true (by omega)]; exact inv.tail t ht ht', fun j hj => ?_⟩
  case refine_2 =>
    by_cases hij : i = j
    · subst hij
      rcases Nat.lt_or_ge i listed.size with h | h
      · simp [h]
      · simp
    · rw [getD_set_ne true hij]; exact inv.pre j hj
  by_cases hij : i = j
  · subst hij
    have : oj = oi := Option.some.inj (hj.symm.trans hoi)
    subst this
    exact getD_set_true (hall e he hb)
  · rw [getD_set_ne false hij] at hl
    exact getD_set_true (inv.closed j oj hj hl e he hb)
theorem tail_waits2 {n : Nat} {pre : List Nat} {listed : Array Bool} (hs : sinkB2 md ops n pre = true) (hc : Region.chainB md ops n = true) (hn : n < ops.size) (inv : HeadInv2 md ops n pre listed) :
    ∀ (d i : Nat), n - i = d → i < n → listed.getD i true = false → ∀ t, n ≤ t → t ∉ Region.ready md ops listed := by
  intro d
  induction d using Nat.strongRecOn with
  | _ d ih =>
    intro i hd hi hun t ht hr
    obtain ⟨_, ot, hot, hall⟩ := mem_ready.1 hr
    have htlt : t < ops.size := (Array.getElem?_eq_some_iff.1 hot).1
    by_cases htn : t = n
    · subst htn
      have h1 := List.all_eq_true.1 hs i (List.mem_range.2 hi)
      simp only [Bool.or_eq_true] at h1
      rcases h1 with h1 | h1
      · have := inv.pre i (by simpa using h1)
        rw [this] at hun; cases hun
      obtain ⟨j, hj, hj2⟩ := List.any_eq_true.1 h1
      simp only [Bool.and_eq_true, decide_eq_true_eq] at hj2
      obtain ⟨oj, hoj, e, he, hb, hon⟩ := Region.waitsFor_spec hj2.2
      have hjle : j ≤ t := by have := List.mem_range.1 hj; omega
      by_cases hjt : j = t
      · subst hjt
        have : oj = ot := Option.some.inj (hoj.symm.trans hot)
        subst this
        have h2 := hall e he hb
        rw [hon, getD_both hun] at h2
        cases h2
      · cases hl : listed.getD j false with
        | true =>
          have h2 := inv.closed j oj hoj hl e he hb
          rw [hon, getD_both hun] at h2
          cases h2
        | false =>
          have hjs : j < listed.size := by rw [inv.size]; omega
          exact ih (t - j) (by omega) j rfl (by omega) (getD_in hjs hl) t (Nat.le_refl _) hr
    · have h1 := List.all_eq_true.1 hc t (List.mem_range.2 htlt)
      simp only [Bool.or_eq_true, decide_eq_true_eq] at h1
      rcases h1 with h1 | h1
      · omega
      · obtain ⟨o', ho', e, he, hb, hon⟩ := Region.waitsFor_spec h1
        have : o' = ot := Option.some.inj (ho'.symm.trans hot)
        subst this
        have h2 := hall e he hb
        rw [hon, getD_both (inv.tail (t - 1) (by omega) (by omega))] at h2
        cases h2
theorem anyQL_first2 {n i : Nat} {pre : List Nat} {oi : Oper} {v : Value} {L : Array Bool → Act → Prop} (hi : ops[i]? = some oi) (hsel : ∀ (j : Nat) (o : Oper) cs b, ops[j]? = some o → o.op ≠ .select cs b)
    (hs : sinkB2 md ops n pre = true) (hc : Region.chainB md ops n = true) (hn : n < ops.size) (hin : i < n)
    (hdone : ∀ listed a, L listed a → ∀ j ∈ Region.ready md ops listed, n ≤ j) :
    ∀ (f : Nat) (listed : Array Bool) (a : Act), HeadInv2 md ops n pre listed →
      (∀ j oj, ops[j]? = some oj → j ≠ i → listed.getD j true = false → (∀ e ∈ oj.after, Region.binds md e = true → e.on ≠ i) → oi.apart ops oj = true) →
      i ∈ Region.ready md ops listed → YieldsIn P ops C oi v a →
      anyQL P md ops C n L f (listed.setIfInBounds i true) (a.put oi.dst v) → anyQL P md ops C n L (f + 1) listed a := by
  intro f
  induction f with
  | zero =>
    intro listed a inv _ hr hy H
    have hun := (mem_ready.1 hr).1
    refine ⟨fun h => (by rw [h] at hr; cases hr), fun j hj => ?_⟩
    have hjn : j < n := by
      rcases Nat.lt_or_ge j n with h | h
      · exact h
      · exact absurd hj (tail_waits2 hs hc hn inv _ i rfl hin hun j h)
    refine ⟨hjn, ?_⟩
    by_cases hji : j = i
    · subst hji; exact hy.qOp hi H
    · have := hdone _ _ H j (ready_mono hj hji)
      omega
  | succ f ih =>
    intro listed a inv hfree hr hy H
    have hun := (mem_ready.1 hr).1
    refine ⟨fun h => (by rw [h] at hr; cases hr), fun j hj => ?_⟩
    have hjn : j < n := by
      rcases Nat.lt_or_ge j n with h | h
      · exact h
      · exact absurd hj (tail_waits2 hs hc hn inv _ i rfl hin hun j h)
    refine ⟨hjn, ?_⟩
    by_cases hji : j = i
    · subst hji; exact hy.qOp hi H
    · have h1 := (H.2 j (ready_mono hj hji)).2
      obtain ⟨hjun, oj, hoj, hall⟩ := mem_ready.1 hj
      have hnot : ∀ e ∈ oj.after, Region.binds md e = true → e.on ≠ i := fun e he hb heq => by
        have h1 := hall e he hb
        rw [heq, getD_both hun] at h1
        cases h1
      have h2 := qOp_put hoj (hfree j oj hoj hji hjun hnot) (fun cs b => hsel i oi cs b hi) (fun cs b => hsel j oj cs b hoj) hy h1
      have hfree' : ∀ k ok, ops[k]? = some ok → k ≠ i → (listed.setIfInBounds j true).getD k true = false →
          (∀ e ∈ ok.after, Region.binds md e = true → e.on ≠ i) → oi.apart ops ok = true := fun k ok hk hki hun hno => by
        refine hfree k ok hk hki ?_ hno
        by_cases hjk : j = k
        · subst hjk; exact hjun
        · rw [getD_set_ne true hjk] at hun; exact hun
      refine qOp_mono (fun a' h3 => ih (listed.setIfInBounds j true) a' (inv.set hj hjn) hfree' (ready_mono hr (Ne.symm hji)) h3.1 ?_) h2
      rw [Array.setIfInBounds_comm _ _ hji]
      exact h3.2
/-- The head's other operations, by their numbers. -/
def headB (md : Region.Mode) (ops : Array Oper) (n g : Nat) : List Nat → Array Bool → Bool
  | [], listed => Region.seqB md ops g n listed
  | i :: r, listed => decide (i < n) && (Region.ready md ops listed).contains i && Region.free md ops listed i && headB md ops n g r (listed.setIfInBounds i true)
/-- The moves that are taken first. -/
def preB (md : Region.Mode) (ops : Array Oper) : List Nat → Array Bool → Bool
  | [], _ => true
  | i :: r, listed => (match ops[i]? with | some o => (match o.op, o.guard with | .move _, none => true | _, _ => false) | none => false) && (Region.ready md ops listed).contains i && Region.free md ops listed i && preB md ops r (listed.setIfInBounds i true)
def listedOf (n : Nat) (pre : List Nat) : Array Bool := pre.foldl (fun l i => l.setIfInBounds i true) (Array.replicate n false)
def invB (md : Region.Mode) (ops : Array Oper) (n : Nat) (pre : List Nat) (listed : Array Bool) : Bool :=
  decide (listed.size = ops.size) && ((List.range ops.size).all fun j => match ops[j]? with | some oj => !listed.getD j false || oj.after.all (fun e => !Region.binds md e || listed.getD e.on false) | none => true) &&
  ((List.range ops.size).all fun t => decide (t < n) || !listed.getD t true) && pre.all fun i => listed.getD i true
theorem inv_of {n : Nat} {pre : List Nat} {listed : Array Bool} (h : invB md ops n pre listed = true) : HeadInv2 md ops n pre listed := by
  simp only [invB, Bool.and_eq_true, decide_eq_true_eq] at h
  obtain ⟨⟨⟨h1, h2⟩, h3⟩, h4⟩ := h
  refine ⟨h1, fun j oj hj hl e he hb => ?_, fun t ht ht' => ?_, fun i hi => List.all_eq_true.1 h4 i hi⟩
  · have hlt : j < ops.size := (Array.getElem?_eq_some_iff.1 hj).1
    have := List.all_eq_true.1 h2 j (List.mem_range.2 hlt)
    simp only [hj, hl, Bool.not_true, Bool.false_or, Array.all_eq_true_iff_forall_mem] at this
    have h5 := this e he
    simpa [hb] using h5
  · have := List.all_eq_true.1 h3 t (List.mem_range.2 ht')
    simp only [Bool.or_eq_true, decide_eq_true_eq, Bool.not_eq_true'] at this
    rcases this with h | h
    · omega
    · exact h
theorem anyQL_head {n g : Nat} {pre : List Nat} {Lq : Act → Prop} (hsel : Region.noSelect ops = true) (hs : sinkB2 md ops n pre = true) (hc : Region.chainB md ops n = true) (hn : n < ops.size) :
    ∀ (idx : List Nat) (listed : Array Bool) (a : Act), HeadInv2 md ops n pre listed → headB md ops n g idx listed = true → wpQuiet P ops C Lq (idx.map fun i => ops.getD i default) a →
    anyQL P md ops C n (fun listed' a' => Region.seqB md ops g n listed' = true ∧ Lq a') idx.length listed a
  | [], listed, a, _, hB, h => ⟨hB, h⟩
  | i :: r, listed, a, inv, hB, h => by
    simp only [headB, Bool.and_eq_true, decide_eq_true_eq] at hB
    obtain ⟨⟨⟨hin, hr⟩, hf⟩, hB'⟩ := hB
    have hlt : i < ops.size := by omega
    have h0 : ops[i]? = some (ops.getD i default) := by simp [hlt]
    have hr' : i ∈ Region.ready md ops listed := by simpa using hr
    have hst : qOp P ops C i (wpQuiet P ops C Lq (r.map fun i => ops.getD i default)) a := by unfold qOp; simp only [h0]; exact h
    obtain ⟨v, hy, hK⟩ := yieldsIn_of_qOp h0 hst
    exact anyQL_first2 h0 (Region.noSelect_spec hsel) hs hc hn hin (fun listed' a' hL => seqB_ready hL.1) r.length listed a inv (Region.free_spec h0 hf) hr' hy
      (anyQL_head hsel hs hc hn r _ _ (inv.set hr' hin) hB' hK)
theorem anyPre {Q' : Exit → Act → World → Prop} {f : Nat} {w : World} {Lq : List Oper} {R : Act → Prop} (hsel : Region.noSelect ops = true) (hC : C w) (hQ : ∀ c d v a w, Q' (.panic c) (Act.put a d v) w → Q' (.panic c) a w) :
    ∀ (pre : List Nat) (listed : Array Bool) (a : Act), preB md ops pre listed = true → wpQuiet P ops C R ((pre.map fun i => ops.getD i default) ++ Lq) a →
    (∀ a', wpQuiet P ops C R Lq a' → wpAny P md ops Q' f (pre.foldl (fun l i => l.setIfInBounds i true) listed) a' w) → wpAny P md ops Q' (pre.length + f) listed a w
  | [], listed, a, _, h, hk => by rw [List.length_nil, Nat.zero_add]; exact hk a h
  | i :: r, listed, a, hB, h, hk => by
    simp only [preB, Bool.and_eq_true] at hB
    obtain ⟨⟨⟨hmv, hr⟩, hf⟩, hB'⟩ := hB
    cases ho : ops[i]? with
    | none => simp [ho] at hmv
    | some o =>
      have hgd : ops.getD i default = o := by
        have hlt : i < ops.size := (Array.getElem?_eq_some_iff.1 ho).1
        have := (Array.getElem?_eq_some_iff.1 ho).2
        simp [hlt, this]
      obtain ⟨dst, op, ty, pos, after, guard⟩ := o
      cases op <;> cases guard <;> simp [ho] at hmv
      rename_i x
      rw [List.map_cons, hgd, List.cons_append] at h
      have h' : (⟨dst, .move x, ty, pos, after, none⟩ : Oper).quiet P a C (wpQuiet P ops C R ((r.map fun i => ops.getD i default) ++ Lq)) := by
        have := h
        simp only [wpQuiet, Region.wanted, if_true] at this
        exact this
      obtain ⟨v, hv, hn⟩ := h'
      have hv' := hv w hC
      have e : v = a.eval x := hv'.2.symm
      subst e
      have hy : Yields P ops ⟨dst, .move x, ty, pos, after, none⟩ (a.eval x) a := .inl ⟨rfl, fun _ => rfl⟩
      rw [List.length_cons, show r.length + 1 + f = (r.length + f) + 1 by omega]
      exact wpAny_take ho hsel hf hr (fun c a w h => hQ c _ _ a w h) hy (anyPre hsel hC hQ r _ _ hB' hn (by simpa using hk))
def okPQ (md : Region.Mode) (ops : Array Oper) (pre idx : List Nat) (n : Nat) : Bool :=
  Region.noSelect ops && decide (n < ops.size) && sinkB2 md ops n pre && Region.chainB md ops n && preB md ops pre (Array.replicate ops.size false) &&
  invB md ops n pre (listedOf ops.size pre) && headB md ops n (ops.size - n) idx (listedOf ops.size pre) && decide (pre.length + idx.length = n)
/-- Moves that nobody ahead of the tail waits for are taken first; the other operations ahead of the tail only read; the tail is forced. -/
theorem wp_region_pq {id : Nat} {Q : Exit → Act → World → Prop} {a : Act} {w : World} {l : List Oper} (pre idx : List Nat) (n : Nat) (hm : P.follows .mixedOrders = true) (hB : okPQ .any l.toArray pre idx n = true)
    (hQ : ∀ c d v a w, Q (.panic c) (Act.put a d v) w → Q (.panic c) a w)
    (h : wpQuiet P l.toArray (fun w' => ∃ k, w' = w.drewN k) (fun a' => ∀ w', (∃ k, w' = w.drewN k) → wpList P l.toArray Q (l.drop n) a' w')
      ((pre.map fun i => l.getD i default) ++ (idx.map fun i => l.getD i default)) a) : (Code.region id l.toArray true).wp P Q a w := by
  have eg : (fun i => l.getD i default) = fun i => l.toArray.getD i default := by
    funext i; simp [List.getD]
  rw [eg] at h
  simp only [okPQ, Bool.and_eq_true, decide_eq_true_eq] at hB
  obtain ⟨⟨⟨⟨⟨⟨⟨hsel, hn⟩, hs⟩, hc⟩, hpre⟩, hinv⟩, hhead⟩, hlen⟩ := hB
  refine wp_region_any hm ?_
  have hdl : (l.drop n).length = l.toArray.size - n := by simp
  have hsz : l.toArray.size = pre.length + (idx.length + (l.toArray.size - n)) := by omega
  rw [hsz]
  refine anyPre (C := fun w' => ∃ k, w' = w.drewN k) hsel ⟨1, rfl⟩ hQ pre _ a (by rw [← hsz]; exact hpre) h fun a' h' => ?_
  have H := anyQL_head (md := .any) (g := l.toArray.size - n) hsel hs hc hn idx (listedOf l.toArray.size pre) a' (inv_of hinv) hhead h'
  have := any_of_head (C := fun w' => ∃ k, w' = w.drewN k) (Q' := Q) (g := l.toArray.size - n) (fun listed a' w' hw' hL => by
    have := wpAny_of_seq (md := .any) (Q' := Q) (l.drop n) n listed a' w' (fun j => by simp [List.getElem?_drop]) (by rw [hdl]; exact hL.1) (hL.2 w' hw')
    rwa [hdl] at this) _ _ _ _ ⟨1, rfl⟩ H
  rw [← hsz]
  exact this
end
end Go.QT
end
/-! Slices that read as bytes. -/
section
namespace Go.Proofs.YtpkelokaammmjaaDoor
open Go.RowKit
/-- The slice value v reads as the bytes l. -/
def SB (w : World) (v : Value) (l : Bytes) : Prop :=
  ∃ A c, v = .slice A l.length c ∧ l.length ≤ c ∧ c ≤ maxLen ∧ (l ≠ [] → ∃ b o, A = some ⟨b, o, none⟩ ∧ b < w.heap.size ∧ ∀ i, i < l.length → w.cell? ⟨b, o + i, none⟩ = some (.int .u8 (ub (gb l i))))
/-- What a call that only reads leaves. -/
def QPost (w : World) (v : Value) (e : Ending) (w' : World) : Prop := e = .returned v ∧ ∃ n, w' = w.drewN n
section
variable {w w' : World} {v : Value} {l : Bytes}
theorem SB.keep (h : SB w v l) (hs : w.heap.size ≤ w'.heap.size) (hk : ∀ b o, b < w.heap.size → w'.cell? ⟨b, o, none⟩ = w.cell? ⟨b, o, none⟩) : SB w' v l := by
  obtain ⟨A, c, rfl, hc, hm, h⟩ := h
  refine ⟨A, c, rfl, hc, hm, fun hl => ?_⟩
  obtain ⟨b, o, hA, hb, hcell⟩ := h hl
  exact ⟨b, o, hA, by omega, fun i hi => (hk b _ hb).trans (hcell i hi)⟩
theorem SB.below (h : SB w v l) (hb : Below w.heap.size w w') : SB w' v l := h.keep hb.size fun _ _ h => hb.cell h
theorem SB.drewN (h : SB w v l) (n : Nat) : SB (w.drewN n) v l := h
theorem SB.drew (h : SB w v l) : SB w.drew v l := h
theorem SB.alloc (h : SB w v l) (o : Obj) : SB (w.alloc o) v l := h.below ((Below.refl _ _).alloc (Nat.le_refl _) o)
theorem SB.nil (w : World) (c : Nat) (hc : c ≤ maxLen) (A : Option Addr) : SB w (.slice A 0 c) [] := ⟨A, c, rfl, Nat.zero_le _, hc, fun h => absurd rfl h⟩
theorem SB.row {b T : Nat} (h : Row w b T l) (hl : l.length ≤ maxLen) : SB w (.slice (some ⟨b, 0, none⟩) l.length l.length) l :=
  ⟨_, _, rfl, Nat.le_refl _, hl, fun _ => ⟨b, 0, rfl, h.lt, fun i hi => by rw [Nat.zero_add]; exact h.cell hi⟩⟩
/-- What the call owns reads as its bytes. -/
theorem SB.own {base : Nat} (h : w.ownsRow base 5 1 v l.length (vb l)) : SB w v l := by
  obtain ⟨_, h⟩ := h
  rcases h with ⟨rfl, hl⟩ | ⟨g, cap, cur, rfl, _, hg, hn, hm, _, htk⟩
  · have : l = [] := List.eq_nil_of_length_eq_zero hl
    subst this
    exact ⟨none, 0, rfl, Nat.le_refl _, by unfold maxLen; omega, fun h => absurd rfl h⟩
  · refine ⟨_, cap, rfl, hn, hm, fun _ => ⟨g, 0, rfl, ?_, fun i hi => ?_⟩⟩
    · rcases Nat.lt_or_ge g w.heap.size with h' | h'
      · exact h'
      · rw [Array.getElem?_eq_none h'] at hg; cases hg
    · rw [Nat.zero_add, cell_of_row w g i cur 5 (0, 0) hg]
      have h1 : (cur.toList.take (l.length * 1))[i]? = (vb l)[i]? := by rw [htk]
      rw [List.getElem?_take, if_pos (by omega), vb_get l i hi] at h1
      simpa using h1
theorem SB.open_ (h : SB w v l) (hl : l ≠ []) : ∃ b o c, v = .slice (some ⟨b, o, none⟩) l.length c ∧ l.length ≤ c ∧ c ≤ maxLen ∧ b < w.heap.size ∧ ∀ i, i < l.length → w.cell? ⟨b, o + i, none⟩ = some (.int .u8 (ub (gb l i))) := by
  obtain ⟨A, c, rfl, hc, hm, h⟩ := h
  obtain ⟨b, o, rfl, hb, hcell⟩ := h hl
  exact ⟨b, o, c, rfl, hc, hm, hb, hcell⟩
/-- As the append's law asks it. -/
theorem SB.reads {A : Option Addr} {n c : Nat} (h : SB w (.slice A n c) l) : n = l.length ∧ Reads w w.heap.size 1 A n (vb l) := by
  obtain ⟨A', c', e, _, _, h⟩ := h
  injection e with e1 e2 e3
  subst e1; subst e2; subst e3
  refine ⟨rfl, by simp, fun hn => ?_⟩
  obtain ⟨b, o, rfl, hb, hc⟩ := h (by rintro rfl; simp at hn)
  refine ⟨_, rfl, hb, fun j u hu => ?_⟩
  rw [Addr.add_mid]
  have hj : j < l.length := by
    rcases Nat.lt_or_ge j l.length with h' | h'
    · exact h'
    · rw [List.getElem?_eq_none (by simpa using h')] at hu; cases hu
  rw [vb_get l j hj] at hu
  rw [hc j hj, hu]
end
end Go.Proofs.YtpkelokaammmjaaDoor
end
/-! A row of bytes of the call's own: append of one byte, of a slice. -/
section
namespace Go.Proofs.YtpkelokaammmjaaDoor
open Go.RowKit
theorem ty28 : Tryd.prog.underlying 22 = some (.slice 5) := by kernel_rfl
theorem i5 : (Tryd.prog.info? 5).map (fun i => (i.zero, i.size, i.bytes)) = some (some (.int .u8 0), 1, 1) := by kernel_rfl
/-- The slice value v is a row of the call's own, from block base on, and reads as l. -/
def OB (w : World) (base : Nat) (v : Value) (l : Bytes) : Prop := w.ownsRow base 5 1 v l.length (vb l)
section
variable {w w' : World} {base : Nat} {v : Value} {l : Bytes}
theorem OB.nil (w : World) (base : Nat) : OB w base (.slice none 0 0) [] := ⟨by simp, .inl ⟨rfl, rfl⟩⟩
theorem OB.sb (h : OB w base v l) : SB w v l := SB.own h
theorem OB.open_ (h : OB w base v l) (hl : l ≠ []) : ∃ g cap, v = .slice (some ⟨g, 0, none⟩) l.length cap ∧ base ≤ g ∧ g < w.heap.size ∧ l.length ≤ cap ∧ cap ≤ maxLen ∧
    ∀ i, i < l.length → w.cell? ⟨g, i, none⟩ = some (.int .u8 (ub (gb l i))) := by
  have hs := SB.own h
  rcases h.2 with ⟨_, h0⟩ | ⟨g, cap, cur, rfl, hb, hg, hn, hm, _⟩
  · exact absurd (List.eq_nil_of_length_eq_zero h0) hl
  · obtain ⟨A, c, e, _, _, hc⟩ := hs
    obtain ⟨b, o, hA, hlt, hcell⟩ := hc hl
    injection e with e1 e2 e3
    rw [hA] at e1
    injection e1 with e1
    injection e1 with e4 e5
    subst e4; subst e5
    exact ⟨_, _, rfl, hb, hlt, hn, hm, fun i hi => by have := hcell i hi; rwa [Nat.zero_add] at this⟩
theorem OB.own (h : OB w base v l) : ∀ k, v.ownBlock = some k → base ≤ k ∧ k < w.heap.size := by
  intro k hk
  rcases h.2 with ⟨rfl, _⟩ | ⟨g, cap, cur, rfl, hb, hg, _⟩
  · simp [Value.ownBlock] at hk
  · have : g = k := by simpa [Value.ownBlock] using hk
    subst this
    refine ⟨hb, ?_⟩
    rcases Nat.lt_or_ge g w.heap.size with h' | h'
    · exact h'
    · rw [Array.getElem?_eq_none h'] at hg; cases hg
theorem OB.mono {base' : Nat} (h : OB w base v l) (hb : base' ≤ base) : OB w base' v l := by
  obtain ⟨h1, h2⟩ := h
  refine ⟨h1, ?_⟩
  rcases h2 with h2 | ⟨g, cap, cur, rfl, hg, r⟩
  · exact .inl h2
  · exact .inr ⟨g, cap, cur, rfl, by omega, r⟩
theorem OB.set {g n c : Nat} (h : OB w base (.slice (some ⟨g, 0, none⟩) n c) l) (i : Nat) (b : UInt8) : OB (w.setCell ⟨g, i, none⟩ (.int .u8 (ub b))) base (.slice (some ⟨g, 0, none⟩) n c) (l.set i b) := by
  obtain ⟨h1, h2⟩ := h
  refine ⟨by simp, ?_⟩
  rcases h2 with ⟨e, _⟩ | ⟨g', cap, cur, e, hg, hh, hn, hm, hs, ht⟩
  · cases e
  · injection e with e1 e2 e3
    injection e1 with e1
    injection e1 with e1
    subst e1; subst e3
    refine .inr ⟨g, c, cur.setIfInBounds i (.int .u8 (ub b)), by rw [e2]; simp, hg, ?_, by simpa using hn, hm, by simpa using hs, ?_⟩
    · exact heap_setCell_same w g i cur 5 _ hh
    · rw [← vb_set, ← ht]
      simp only [Array.toList_setIfInBounds, List.length_set]
      rw [List.take_set]
theorem OB.frozen_ {g n c : Nat} (h : OB w base (.slice (some ⟨g, 0, none⟩) n c) l) (i : Nat) : w.frozen? ⟨g, i, none⟩ = false := by
  rcases h.2 with ⟨e, _⟩ | ⟨g', cap, cur, e, hg, hh, _⟩
  · cases e
  · injection e with e1 e2 e3
    injection e1 with e1
    injection e1 with e1
    subst e1
    simp [World.frozen?, hh]
theorem OB.keep (h : OB w base v l) (hk : ∀ k, v.ownBlock = some k → w'.heap[k]? = w.heap[k]?) : OB w' base v l := by
  obtain ⟨h1, h2⟩ := h
  refine ⟨h1, ?_⟩
  rcases h2 with h2 | ⟨g, cap, cur, rfl, hb, hg, r⟩
  · exact .inl h2
  · exact .inr ⟨g, cap, cur, rfl, hb, by rw [hk g rfl]; exact hg, r⟩
theorem OB.below (h : OB w base v l) (hb : Below w.heap.size w w') : OB w' base v l := h.keep fun k hk => hb.block k (h.own k hk).2
theorem OB.drewN (h : OB w base v l) (n : Nat) : OB (w.drewN n) base v l := h
theorem OB.alloc (h : OB w base v l) (o : Obj) : OB (w.alloc o) base v l := h.below ((Below.refl _ _).alloc (Nat.le_refl _) o)
theorem OB.grown {row : Option Nat} (h : OB w base v l) (hg : w.grownBy w' row) (hr : ∀ k, v.ownBlock = some k → some k ≠ row) : OB w' base v l := h.keep fun k hk => hg.block k (h.own k hk).2 (hr k hk)
theorem OB.grownBelow {a : World} {B : Nat} (h : OB w base v l) (hb : Below B a w) (hg : w.grownBy w' v.ownBlock) (hB : B ≤ base) (hB2 : B ≤ a.heap.size) : Below B a w' :=
  hb.grown hg (Nat.le_trans hB2 hb.size) (fun k hk => Nat.le_trans hB (h.own k hk).1)
/-- Two slices of the call's own that share no block. -/
def Disj (v u : Value) : Prop := ∀ q, v.ownBlock = some q → u.ownBlock ≠ some q
theorem Disj.symm {v u : Value} (h : Disj v u) : Disj u v := fun q hq hv => h q hv hq
theorem Disj.fresh {u : Value} {B : Nat} (h : OB w base v l) (hu : ∀ k, u.ownBlock = some k → B ≤ k) (hB : w.heap.size ≤ B) : Disj v u := fun q hq hq' => by
  have h1 := (h.own q hq).2
  have h2 := hu q hq'
  omega
/-- Behind an append to v what shares no block with it shares none with what has become of it. -/
theorem Disj.grown {x v' : Value} {m : Bytes} {base' : Nat} (hx : OB w base' x m) (hd : Disj x v) (hat : v'.ownBlock = v.ownBlock ∨ v'.ownBlock = some w.heap.size) : Disj x v' := fun q hq hq' => by
  rcases hat with e | e
  · rw [e] at hq'; exact hd q hq hq'
  · rw [e] at hq'
    have h1 := (hx.own q hq).2
    injection hq' with h2
    omega
theorem OB.apart {u : Value} {m : Bytes} {base' : Nat} (h : OB w base v l) (hg : w.grownBy w' u.ownBlock) (hd : Disj v u) (_hu : OB w base' u m) : OB w' base v l :=
  h.grown hg fun k hk e => hd k hk e.symm
theorem OB.far (h : OB w base v l) {p : Addr} (hp : ∀ q, v.ownBlock = some q → q ≠ p.block) (x : Value) : OB (w.setCell p x) base v l :=
  h.keep fun k hk => Below.heap_setCell w p x k (hp k hk)
theorem OB.new (w : World) (b : Nat) (l : Bytes) (hl : l.length ≤ maxLen) (h : Row w b 5 l) (hb : base ≤ b) : OB w base (.slice (some ⟨b, 0, none⟩) l.length l.length) l :=
  ⟨by simp, .inr ⟨b, l.length, (vb l).toArray, rfl, hb, h, Nat.le_refl _, hl, by simp, by simp [List.take_of_length_le]⟩⟩
end
section
variable {ops : Array Oper} {rest : List Oper} {o : Oper} {a : Act} {w : World} {Q : Exit → Act → World → Prop}
/-- append of a slice that reads as bytes. -/
theorem wl_append (hgd : o.guard = none) (s x : Operand) (ho : o.op = .call { callee := .builtin .append, args := #[s, x], argTypes := #[22, 22] })
    (base : Nat) (v u : Value) (l m : Bytes) (hs : a.eval s = v) (hx : a.eval x = u) (hv : OB w base v l) (hu : SB w u m) (hlen : l.length + m.length ≤ 140737488355328) (hbase : base ≤ w.heap.size)
    (h : ∀ v' w', OB w' base v' (l ++ m) → w.grownBy w' v.ownBlock → (v'.ownBlock = v.ownBlock ∨ v'.ownBlock = some w.heap.size) → wpList Tryd.prog ops Q rest (a.put o.dst v') w') : wpList Tryd.prog ops Q (o :: rest) a w := by
  obtain ⟨i0, hi0, hz0, hz1, hz2⟩ := info_parts i5
  obtain ⟨A, c, rfl, hc, hm, hcell⟩ := hu
  have hr := (SB.reads (w := w) (A := A) (n := m.length) (c := c) ⟨A, c, rfl, hc, hm, hcell⟩).2
  refine wpList_append_any w hgd s x 22 ho base 5 i0 _ 1 1 ty28 hi0 hz0 hz1 hz2 rfl (by omega) v l.length (vb l) hs hv w.heap.size A m.length c (vb m) hx hr (vb_ones m) (by unfold maxLen; omega) (by omega) hbase ?_
  intro v' w' h1 h2 h3
  refine h v' w' ?_ h2 h3
  unfold OB
  rw [List.length_append, vb_append]
  exact h1
/-- append of one byte, which lies in a block of its own. -/
theorem wl_push (hgd : o.guard = none) (s x : Operand) (ho : o.op = .call { callee := .builtin .append, args := #[s, x], argTypes := #[22, 22] })
    (base : Nat) (v : Value) (l : Bytes) (b : UInt8) (g : Nat) (hs : a.eval s = v) (hx : a.eval x = .slice (some ⟨g, 0, none⟩) 1 1) (hv : OB w base v l) (hu : Row w g 5 [b]) (hlen : l.length < 140737488355328) (hbase : base ≤ w.heap.size)
    (h : ∀ v' w', OB w' base v' (l ++ [b]) → w.grownBy w' v.ownBlock → (v'.ownBlock = v.ownBlock ∨ v'.ownBlock = some w.heap.size) → wpList Tryd.prog ops Q rest (a.put o.dst v') w') : wpList Tryd.prog ops Q (o :: rest) a w :=
  wl_append hgd s x ho base v _ l [b] hs hx hv (SB.row hu (by simp [maxLen])) (by simp; omega) hbase h
end
end Go.Proofs.YtpkelokaammmjaaDoor
end
/-! A region that draws its order, walked in one order that the prover names: what yields the same in every world of a class may be taken first; each of the others is then the only one that may come up. Over any program. -/
section
namespace Go.QT
open Go
section
variable {P : Program} {ops : Array Oper} {md : Region.Mode} {S : World → Prop} {Q : Exit → Act → World → Prop}
/-- What stands behind one operation. -/
def ordQ (Q : Exit → Act → World → Prop) (K : Act → World → Prop) : Exit → Act → World → Prop
  | .normal, a, w => K a w
  | e, a, w => Q e a w
theorem ordQ_norm {Q : Exit → Act → World → Prop} {K : Act → World → Prop} {a : Act} {w : World} (h : K a w) : ordQ Q K .normal a w := h
def wpOrd (P : Program) (ops : Array Oper) (Q : Exit → Act → World → Prop) (S : World → Prop) : List (Nat × Bool) → Act → World → Prop
  | [], a, w => Q .normal a w
  | (i, true) :: r, a, w => ∃ v, YieldsIf P ops S (ops.getD i default) v a ∧ wpOrd P ops Q S r (a.put (ops.getD i default).dst v) w
  | (i, false) :: r, a, w => wpList P ops (ordQ Q fun a' w' => S w' ∧ wpOrd P ops Q S r a' w') [ops.getD i default] a w
def ordB (md : Region.Mode) (ops : Array Oper) : List (Nat × Bool) → Array Bool → Bool
  | [], listed => (Region.ready md ops listed).isEmpty
  | (i, true) :: r, listed => (Region.ready md ops listed).contains i && Region.free md ops listed i && ordB md ops r (listed.setIfInBounds i true)
  | (i, false) :: r, listed => decide (Region.ready md ops listed = [i]) && ordB md ops r (listed.setIfInBounds i true)
theorem wpOp_of_list {i : Nat} {o : Oper} (hi : ops[i]? = some o) {K : Act → World → Prop} {a : Act} {w : World} (h : wpList P ops (ordQ Q K) [o] a w) : wpOp P ops Q i K a w := by
  unfold wpOp
  simp only [hi]
  simp only [wpList] at h
  split
  · rename_i hw
    simp only [hw, if_true] at h
    rcases h with h | h
    · refine .inl ?_
      unfold Oper.wp at *
      generalize (execOp a.eval o).run P w = r at *
      cases r with
      | ok n w' =>
        cases n <;> simp only [Oper.upon] at h ⊢ <;> exact h
      | halt x w' => cases x <;> simp only [Oper.upon] at h ⊢ <;> exact h
    · exact .inr h
  · rename_i hw
    simp only [hw] at h
    exact h
theorem anyH_of_ord (hsel : Region.noSelect ops = true) (hQ : ∀ c d v a w, Q (.panic c) (Act.put a d v) w → Q (.panic c) a w) :
    ∀ (l : List (Nat × Bool)) (listed : Array Bool) (a : Act) (w : World), ordB md ops l listed = true → S w → wpOrd P ops Q S l a w → wpAnyH P md ops Q S l.length listed a w
  | [], listed, a, w, hB, _, h => wpAnyH_done (by simpa [ordB] using hB) h 0
  | (i, true) :: r, listed, a, w, hB, hS, h => by
    simp only [ordB, Bool.and_eq_true] at hB
    obtain ⟨⟨hr, hf⟩, hB'⟩ := hB
    obtain ⟨v, hy, hn⟩ := h
    have hr' : i ∈ Region.ready md ops listed := by simpa using hr
    obtain ⟨_, o, ho, _⟩ := mem_ready.1 hr'
    have hg : ops.getD i default = o := by
      have hlt : i < ops.size := (Array.getElem?_eq_some_iff.1 ho).1
      have := (Array.getElem?_eq_some_iff.1 ho).2
      simp [hlt, this]
    rw [hg] at hy hn
    exact wpAnyH_take ho hsel hf hr (fun c a w h => hQ c _ _ a w h) hy hS (anyH_of_ord hsel hQ r _ _ _ hB' hS hn)
  | (i, false) :: r, listed, a, w, hB, hS, h => by
    simp only [ordB, Bool.and_eq_true, decide_eq_true_eq] at hB
    obtain ⟨hr, hB'⟩ := hB
    have hr' : i ∈ Region.ready md ops listed := by rw [hr]; simp
    obtain ⟨_, o, ho, _⟩ := mem_ready.1 hr'
    have hg : ops.getD i default = o := by
      have hlt : i < ops.size := (Array.getElem?_eq_some_iff.1 ho).1
      have := (Array.getElem?_eq_some_iff.1 ho).2
      simp [hlt, this]
    refine wpAnyH_all (rs := [i]) hr (by simp) fun j hj => ?_
    have hji : j = i := by simpa using hj
    subst hji
    simp only [wpOrd, hg] at h
    exact wpOp_mono (fun a' w' h' => ⟨h'.1, anyH_of_ord hsel hQ r _ _ _ hB' h'.1 h'.2⟩) (wpOp_of_list ho h)
theorem wp_region_ord {id : Nat} {a : Act} {w : World} {l : List Oper} (order : List (Nat × Bool)) (S : World → Prop) (hm : P.follows .mixedOrders = true)
    (hB : (Region.noSelect l.toArray && ordB .any l.toArray order (Array.replicate l.toArray.size false) && decide (order.length = l.toArray.size)) = true)
    (hQ : ∀ c d v a w, Q (.panic c) (Act.put a d v) w → Q (.panic c) a w) (hS : S (w.drewN 1))
    (h : wpOrd P l.toArray Q S order a (w.drewN 1)) : (Code.region id l.toArray true).wp P Q a w := by
  simp only [Bool.and_eq_true, decide_eq_true_eq] at hB
  obtain ⟨⟨hsel, hord⟩, hlen⟩ := hB
  refine wp_region_held (S := S) hm ?_
  have := anyH_of_ord (md := .any) hsel hQ order _ a (w.drewN 1) hord hS h
  rwa [hlen] at this
/-- An operation that may be taken first, walked. -/
theorem ord_take {i : Nat} {r : List (Nat × Bool)} {a : Act} {w : World} (v : Value) (hw : Region.wanted (ops.getD i default) (yielded ops a.tmps) = true)
    (hv : ∀ W, S W → (execOp a.eval (ops.getD i default)).run P W = .ok (.value v) W) (h : wpOrd P ops Q S r (a.put (ops.getD i default).dst v) w) : wpOrd P ops Q S ((i, true) :: r) a w :=
  ⟨v, .inl ⟨hw, hv⟩, h⟩
theorem ord_do {i : Nat} {r : List (Nat × Bool)} {a : Act} {w : World} (h : wpList P ops (ordQ Q fun a' w' => S w' ∧ wpOrd P ops Q S r a' w') [ops.getD i default] a w) : wpOrd P ops Q S ((i, false) :: r) a w := h
/-! ### Step by step, where more than one may come up -/
theorem wp_region_any_held {id : Nat} {a : Act} {w : World} {l : List Oper} (S : World → Prop) (hm : P.follows .mixedOrders = true)
    (h : wpAnyH P .any l.toArray Q S l.length (Array.replicate l.length false) a (w.drewN 1)) : (Code.region id l.toArray true).wp P Q a w := by
  refine wp_region_held (S := S) hm ?_
  have e : l.toArray.size = l.length := by simp
  rw [e]
  exact h
theorem anyH_do {i : Nat} {o : Oper} {f : Nat} {listed : Array Bool} {a : Act} {w : World} (hi : ops[i]? = some o) (hr : Region.ready md ops listed = [i])
    (h : wpList P ops (ordQ Q fun a' w' => S w' ∧ wpAnyH P md ops Q S f (listed.setIfInBounds i true) a' w') [o] a w) : wpAnyH P md ops Q S (f + 1) listed a w :=
  wpAnyH_all hr (by simp) fun j hj => by
    have hji : j = i := by simpa using hj
    subst hji
    exact wpOp_of_list hi h
theorem anyH_do2 {i j : Nat} {o u : Oper} {f : Nat} {listed : Array Bool} {a : Act} {w : World} (hi : ops[i]? = some o) (hj : ops[j]? = some u) (hr : Region.ready md ops listed = [i, j])
    (h : wpList P ops (ordQ Q fun a' w' => S w' ∧ wpAnyH P md ops Q S f (listed.setIfInBounds i true) a' w') [o] a w)
    (h' : wpList P ops (ordQ Q fun a' w' => S w' ∧ wpAnyH P md ops Q S f (listed.setIfInBounds j true) a' w') [u] a w) : wpAnyH P md ops Q S (f + 1) listed a w :=
  wpAnyH_all hr (by simp) fun k hk => by
    have hk' : k = i ∨ k = j := by simpa using hk
    rcases hk' with rfl | rfl
    · exact wpOp_of_list hi h
    · exact wpOp_of_list hj h'
theorem anyH_val {i : Nat} {o : Oper} {f : Nat} {listed : Array Bool} {a : Act} {w : World} (v : Value) (hi : ops[i]? = some o) (hs : Region.noSelect ops = true) (hf : Region.free md ops listed i = true) (hr : (Region.ready md ops listed).contains i = true)
    (hQ : ∀ c d v a w, Q (.panic c) (Act.put a d v) w → Q (.panic c) a w) (hw : Region.wanted o (yielded ops a.tmps) = true) (hS : S w)
    (hv : ∀ W, S W → (execOp a.eval o).run P W = .ok (.value v) W) (h : wpAnyH P md ops Q S f (listed.setIfInBounds i true) (a.put o.dst v) w) : wpAnyH P md ops Q S (f + 1) listed a w :=
  wpAnyH_take hi hs hf hr (fun c a w h => hQ c _ _ a w h) (.inl ⟨hw, hv⟩) hS h
end
end Go.QT
end
/-! A region that draws its order: an operation whose guard says no. -/
section
namespace Go.QT
open Go
section
variable {P : Program} {ops : Array Oper} {md : Region.Mode} {S : World → Prop} {Q : Exit → Act → World → Prop}
/-- An operation whose guard says no. -/
theorem anyH_skip {i : Nat} {o : Oper} {f : Nat} {listed : Array Bool} {a : Act} {w : World} (hi : ops[i]? = some o) (hs : Region.noSelect ops = true) (hf : Region.free md ops listed i = true) (hr : (Region.ready md ops listed).contains i = true)
    (hQ : ∀ c d v a w, Q (.panic c) (Act.put a d v) w → Q (.panic c) a w) (hw : Region.wanted o (yielded ops a.tmps) = false) (hS : S w)
    (h : wpAnyH P md ops Q S f (listed.setIfInBounds i true) (a.put o.dst undef) w) : wpAnyH P md ops Q S (f + 1) listed a w :=
  wpAnyH_take hi hs hf hr (fun c a w h => hQ c _ _ a w h) (.inr ⟨hw, rfl⟩) hS h
/-- A function of the program's own text. -/
def goB (P : Program) (f : FuncId) : Bool := match P.funcs[f]? with | some fn => !(fn.name == "runtime.NumGoroutine") && fn.body.isSome | none => false
theorem run_callFunc_go {f : FuncId} (h : goB P f = true) (args : Array Value) (w : World) : (callFunc f args).run P w = .ok (.enter f args) w := by
  unfold goB at h
  cases hf : P.funcs[f]? with
  | none => simp [hf] at h
  | some fn =>
    rw [hf] at h
    simp only [Bool.and_eq_true, Bool.not_eq_true'] at h
    have h2 : fn.body.isNone = false := by cases hb : fn.body with | none => simp [hb] at h | some b => rfl
    simp only [callFunc, Sem.run_bind, run_program, Result.andThen_ok, hf, h.1, h2, Bool.false_eq_true, if_false, Sem.run_pure]
theorem exec_call {o : Oper} {a : Act} {w : World} (fn : FuncId) (xl : List Operand) (ats : Array TypeId) (ho : o.op = .call { callee := .value (.func fn), args := xl.toArray, argTypes := ats }) (al : List Value) (hargs : xl.map a.eval = al) (hg : goB P fn = true) :
    (execOp a.eval o).run P w = .ok (.enter fn al.toArray) w := by
  obtain ⟨dst, op, type, pos, after, guard⟩ := o
  simp only at ho
  subst ho
  rw [execOp_call_go]
  have e : (#[] ++ xl.toArray.map a.eval ++ #[] : Array Value) = al.toArray := by
    rw [← hargs]; simp
  rw [e]
  exact run_callFunc_go hg _ _
/-- A call that comes up alone. -/
theorem anyH_call {i : Nat} {o : Oper} {f : Nat} {listed : Array Bool} {a : Act} {w : World} {R : Ending → World → Prop} (hi : ops[i]? = some o) (hr : Region.ready md ops listed = [i]) (hw : Region.wanted o (yielded ops a.tmps) = true)
    (fn : FuncId) (xl : List Operand) (ats : Array TypeId) (ho : o.op = .call { callee := .value (.func fn), args := xl.toArray, argTypes := ats }) (al : List Value) (hargs : xl.map a.eval = al) (hg : goB P fn = true)
    (hcall : Calls P fn al.toArray w R) (h : ∀ e w', R e w' → ∃ v, e = .returned v ∧ S w' ∧ wpAnyH P md ops Q S f (listed.setIfInBounds i true) (a.put o.dst v) w') : wpAnyH P md ops Q S (f + 1) listed a w := by
  refine wpAnyH_all hr (by simp) fun j hj => ?_
  have hji : j = i := by simpa using hj
  subst hji
  unfold wpOp
  simp only [hi]
  rw [if_pos hw]
  refine .inl ?_
  unfold Oper.wp
  rw [exec_call fn xl ats ho al hargs hg, Oper.upon_enter]
  refine hcall.mono fun e w' hR => ?_
  obtain ⟨v, rfl, hS, hn⟩ := h e w' hR
  exact ⟨hS, hn⟩
/-- One of two. -/
theorem wpOp_call {i : Nat} {o : Oper} {K : Act → World → Prop} {a : Act} {w : World} {R : Ending → World → Prop} (hi : ops[i]? = some o) (hw : Region.wanted o (yielded ops a.tmps) = true)
    (fn : FuncId) (xl : List Operand) (ats : Array TypeId) (ho : o.op = .call { callee := .value (.func fn), args := xl.toArray, argTypes := ats }) (al : List Value) (hargs : xl.map a.eval = al) (hg : goB P fn = true)
    (hcall : Calls P fn al.toArray w R) (h : ∀ e w', R e w' → ∃ v, e = .returned v ∧ K (a.put o.dst v) w') : wpOp P ops Q i K a w := by
  unfold wpOp
  simp only [hi]
  rw [if_pos hw]
  refine .inl ?_
  unfold Oper.wp
  rw [exec_call fn xl ats ho al hargs hg, Oper.upon_enter]
  refine hcall.mono fun e w' hR => ?_
  obtain ⟨v, rfl, hn⟩ := h e w' hR
  exact hn
/-- A call in a plain region. -/
theorem wl_call {o : Oper} {rest : List Oper} {a : Act} {w : World} {R : Ending → World → Prop} (hgd : o.guard = none)
    (fn : FuncId) (xl : List Operand) (ats : Array TypeId) (ho : o.op = .call { callee := .value (.func fn), args := xl.toArray, argTypes := ats }) (al : List Value) (hargs : xl.map a.eval = al) (hg : goB P fn = true)
    (hcall : Calls P fn al.toArray w R) (h : ∀ e w', R e w' → ∃ v, e = .returned v ∧ wpList P ops Q rest (a.put o.dst v) w') : wpList P ops Q (o :: rest) a w :=
  wpList_plain hgd fun K hK => by
    unfold Oper.wp
    rw [exec_call fn xl ats ho al hargs hg, Oper.upon_enter]
    refine hcall.mono fun e w' hR => ?_
    obtain ⟨v, rfl, hn⟩ := h e w' hR
    exact hK _ _ hn
/-! The same, the slot named. -/
theorem oH_val {i : Nat} {o : Oper} {f : Nat} {listed : Array Bool} {a : Act} {w : World} (d : Option Tmp) (v : Value) (hi : ops[i]? = some o) (hd : o.dst = d) (hs : Region.noSelect ops = true) (hf : Region.free md ops listed i = true) (hr : (Region.ready md ops listed).contains i = true)
    (hQ : ∀ c d v a w, Q (.panic c) (Act.put a d v) w → Q (.panic c) a w) (hw : Region.wanted o (yielded ops a.tmps) = true) (hS : S w)
    (hv : ∀ W, S W → (execOp a.eval o).run P W = .ok (.value v) W) (h : wpAnyH P md ops Q S f (listed.setIfInBounds i true) (a.put d v) w) : wpAnyH P md ops Q S (f + 1) listed a w := by
  subst hd; exact anyH_val v hi hs hf hr hQ hw hS hv h
theorem oH_skip {i : Nat} {o : Oper} {f : Nat} {listed : Array Bool} {a : Act} {w : World} (d : Option Tmp) (hi : ops[i]? = some o) (hd : o.dst = d) (hs : Region.noSelect ops = true) (hf : Region.free md ops listed i = true) (hr : (Region.ready md ops listed).contains i = true)
    (hQ : ∀ c d v a w, Q (.panic c) (Act.put a d v) w → Q (.panic c) a w) (hw : Region.wanted o (yielded ops a.tmps) = false) (hS : S w)
    (h : wpAnyH P md ops Q S f (listed.setIfInBounds i true) (a.put d undef) w) : wpAnyH P md ops Q S (f + 1) listed a w := by
  subst hd; exact anyH_skip hi hs hf hr hQ hw hS h
theorem oH_call {i : Nat} {o : Oper} {f : Nat} {listed : Array Bool} {a : Act} {w : World} {R : Ending → World → Prop} (d : Option Tmp) (hi : ops[i]? = some o) (hd : o.dst = d) (hr : Region.ready md ops listed = [i]) (hw : Region.wanted o (yielded ops a.tmps) = true)
    (fn : FuncId) (xl : List Operand) (ats : Array TypeId) (ho : o.op = .call { callee := .value (.func fn), args := xl.toArray, argTypes := ats }) (al : List Value) (hargs : xl.map a.eval = al) (hg : goB P fn = true)
    (hcall : Calls P fn al.toArray w R) (h : ∀ e w', R e w' → ∃ v, e = .returned v ∧ S w' ∧ wpAnyH P md ops Q S f (listed.setIfInBounds i true) (a.put d v) w') : wpAnyH P md ops Q S (f + 1) listed a w := by
  subst hd; exact anyH_call hi hr hw fn xl ats ho al hargs hg hcall h
/-- Two may come up. -/
theorem oH_two {i j : Nat} {f : Nat} {listed : Array Bool} {a : Act} {w : World} (hr : Region.ready md ops listed = [i, j])
    (h1 : wpOp P ops Q i (fun a' w' => S w' ∧ wpAnyH P md ops Q S f (listed.setIfInBounds i true) a' w') a w)
    (h2 : wpOp P ops Q j (fun a' w' => S w' ∧ wpAnyH P md ops Q S f (listed.setIfInBounds j true) a' w') a w) : wpAnyH P md ops Q S (f + 1) listed a w :=
  wpAnyH_all hr (by simp) fun k hk => by
    have hk' : k = i ∨ k = j := by simpa using hk
    rcases hk' with rfl | rfl
    · exact h1
    · exact h2
/-- What changes the world, come up alone: by its run. -/
theorem oH_run {i : Nat} {o : Oper} {f : Nat} {listed : Array Bool} {a : Act} {w w' : World} (d : Option Tmp) (v : Value) (hi : ops[i]? = some o) (hd : o.dst = d) (hr : Region.ready md ops listed = [i]) (hw : Region.wanted o (yielded ops a.tmps) = true)
    (hv : (execOp a.eval o).run P w = .ok (.value v) w') (hS : S w') (h : wpAnyH P md ops Q S f (listed.setIfInBounds i true) (a.put d v) w') : wpAnyH P md ops Q S (f + 1) listed a w := by
  subst hd
  refine wpAnyH_all hr (by simp) fun j hj => ?_
  have hji : j = i := by simpa using hj
  subst hji
  unfold wpOp
  simp only [hi]
  rw [if_pos hw]
  refine .inl ?_
  unfold Oper.wp
  rw [hv, Oper.upon_value]
  exact ⟨hS, h⟩
theorem oH_begin {id : Nat} {a : Act} {w : World} {l : List Oper} {n : Nat} (S : World → Prop) (hm : P.follows .mixedOrders = true) (hn : l.length = n)
    (h : wpAnyH P .any l.toArray Q S n (Array.replicate n false) a (w.drewN 1)) : (Code.region id l.toArray true).wp P Q a w := by
  subst hn; exact wp_region_any_held S hm h
theorem hQp {Q : Exit → Act → World → Prop} {K : Act → World → Prop} (h : ∀ c d v a w, Q (.panic c) (Act.put a d v) w → Q (.panic c) a w) : ∀ c d v a w, Exit.then K Q (.panic c) (Act.put a d v) w → Exit.then K Q (.panic c) a w := h
end
end Go.QT
end
