/- Rows of bytes in memory. 'Row w b T l': block b is just the bytes l. -/
import Derived.Test.YtjjcnijdjhhdoaaU8
import Derived.Test.YtjjcnijdjhhdoaaAesFn
import Derived.Lib.Hide
import Derived.Deep.Draws
import Derived.Laws.Rows
import Derived.Laws.Tables
namespace Go.Proofs.Ytjjcnijdjhhdoaa
open Go.RowKit
/-- Bytes as values. -/
def vb (l : Bytes) : List Value := l.map fun x => Value.int .u8 (ub x)
@[simp] theorem vb_length (l : Bytes) : (vb l).length = l.length := by simp [vb]
@[simp] theorem vb_nil : vb [] = [] := rfl
@[simp] theorem vb_cons (a : UInt8) (l : Bytes) : vb (a :: l) = Value.int .u8 (ub a) :: vb l := rfl
theorem vb_append (l m : Bytes) : vb (l ++ m) = vb l ++ vb m := by simp [vb]
theorem vb_set (l : Bytes) (i : Nat) (v : UInt8) : (vb l).set i (Value.int .u8 (ub v)) = vb (l.set i v) := by
  simp [vb, List.map_set]
theorem vb_get (l : Bytes) (i : Nat) (h : i < l.length) : (vb l)[i]? = some (.int .u8 (ub (gb l i))) := by
  simp [vb, gb, h]
theorem gb_append_left (l m : Bytes) (i : Nat) (h : i < l.length) : gb (l ++ m) i = gb l i := by
  simp [gb, List.getElem?_append_left h]
theorem gb_append_right (l m : Bytes) (i : Nat) (h : l.length ≤ i) : gb (l ++ m) i = gb m (i - l.length) := by
  simp [gb, List.getElem?_append_right h]
/-- Block b is just the cells cs. -/
def Blk (w : World) (b : Nat) (T : TypeId) (cs : List Value) : Prop := w.heap[b]? = some (.cells cs.toArray T (0, 0))
def Row (w : World) (b : Nat) (T : TypeId) (l : Bytes) : Prop := Blk w b T (vb l)
section
variable {w w' : World} {b : Nat} {T : TypeId} {cs : List Value} {l : Bytes}
theorem Blk.lt (h : Blk w b T cs) : b < w.heap.size := by
  rcases Nat.lt_or_ge b w.heap.size with h' | h'
  · exact h'
  · unfold Blk at h; rw [Array.getElem?_eq_none h'] at h; cases h
theorem Blk.cell (h : Blk w b T cs) (i : Nat) : w.cell? ⟨b, i, none⟩ = cs[i]? := by
  rw [cell_of_row w b i _ T (0, 0) h]; simp
theorem Blk.frozen (h : Blk w b T cs) (i : Nat) : w.frozen? ⟨b, i, none⟩ = false := by
  unfold Blk at h; simp [World.frozen?, h]
theorem Blk.new (w : World) (T : TypeId) (cs : List Value) : Blk (w.alloc (.cells cs.toArray T)) w.heap.size T cs := heap_alloc_new w _
theorem Blk.drew (h : Blk w b T cs) : Blk w.drew b T cs := h
theorem Blk.drewN (h : Blk w b T cs) (n : Nat) : Blk (w.drewN n) b T cs := h
theorem Blk.alloc (h : Blk w b T cs) (o : Obj) : Blk (w.alloc o) b T cs := (Below.heap_alloc w o b h.lt).trans h
theorem Blk.set (h : Blk w b T cs) (i : Nat) (u : Value) : Blk (w.setCell ⟨b, i, none⟩ u) b T (cs.set i u) := by
  unfold Blk at h ⊢
  simp [World.setCell, Array.getElem?_modify, h]
theorem Blk.far (h : Blk w b T cs) {p : Addr} (hp : b ≠ p.block) (u : Value) : Blk (w.setCell p u) b T cs := (Below.heap_setCell w p u b hp).trans h
theorem Blk.below {B : Nat} (h : Blk w b T cs) (hb : Below B w w') (hg : b < B) : Blk w' b T cs := (hb.block b hg).trans h
theorem Blk.grown {row : Option Nat} (h : Blk w b T cs) (hb : w.grownBy w' row) (hg : some b ≠ row) : Blk w' b T cs := (hb.block b h.lt hg).trans h
theorem Row.cell (h : Row w b T l) {i : Nat} (hi : i < l.length) : w.cell? ⟨b, i, none⟩ = some (.int .u8 (ub (gb l i))) := by
  rw [Blk.cell h, vb_get l i hi]
theorem Row.frozen (h : Row w b T l) (i : Nat) : w.frozen? ⟨b, i, none⟩ = false := Blk.frozen h i
theorem Row.set (h : Row w b T l) (i : Nat) (v : UInt8) : Row (w.setCell ⟨b, i, none⟩ (.int .u8 (ub v))) b T (l.set i v) := by
  have := Blk.set h i (.int .u8 (ub v)); rw [vb_set] at this; exact this
theorem Row.lt (h : Row w b T l) : b < w.heap.size := Blk.lt h
theorem Row.drewN (h : Row w b T l) (n : Nat) : Row (w.drewN n) b T l := h
theorem Row.drew (h : Row w b T l) : Row w.drew b T l := h
theorem Row.alloc (h : Row w b T l) (o : Obj) : Row (w.alloc o) b T l := Blk.alloc h o
theorem Row.far (h : Row w b T l) {p : Addr} (hp : b ≠ p.block) (u : Value) : Row (w.setCell p u) b T l := Blk.far h hp u
theorem Row.below {B : Nat} (h : Row w b T l) (hb : Below B w w') (hg : b < B) : Row w' b T l := Blk.below h hb hg
theorem Row.grown' {row : Option Nat} (h : Row w b T l) (hb : w.grownBy w' row) (hg : some b ≠ row) : Row w' b T l := Blk.grown h hb hg
theorem Row.new (w : World) (T : TypeId) (l : Bytes) : Row (w.alloc (.cells (vb l).toArray T)) w.heap.size T l := heap_alloc_new w _
theorem below_drewN {B : Nat} {a w : World} (h : Below B a w) (n : Nat) : Below B a (w.drewN n) := ⟨h.os, h.tape, h.output, h.size, h.block⟩
end
theorem Blk.setRow {w : World} {b : Nat} {T : TypeId} {cs : List Value} (h : Blk w b T cs) (ds : List Value) : Blk (w.setRow b ds.toArray) b T ds := setRow_heap w b _ _ T _ h
theorem Blk.setRow_far {w : World} {b g : Nat} {T : TypeId} {cs : List Value} (h : Blk w b T cs) (hg : b ≠ g) (ds : Array Value) : Blk (w.setRow g ds) b T cs := (setRow_other w g b ds hg).trans h
theorem below_setRow' {B g : Nat} {w0 w : World} (hb : Below B w0 w) (hBg : B ≤ g) (cs : Array Value) : Below B w0 (w.setRow g cs) :=
  hb.trans ⟨rfl, rfl, rfl, by simp [World.setRow], fun k hk => setRow_other w g k cs (by omega)⟩
theorem vb_one (l : Bytes) : (vb l).toArray.all (·.oneCell') = true := by
  simp [vb, Value.oneCell']
theorem vb_zeros (n : Nat) : vb (List.replicate n 0) = List.replicate n (.int .u8 0) := by
  have : ub 0 = 0 := by unfold ub; rfl
  simp [vb, this]
theorem new1 (w : World) (T : TypeId) (cs : Array Value) : (w.alloc (.cells cs T)).heap[w.heap.size]? = some (.cells cs T (0, 0)) := heap_alloc_new w _
theorem new2 (w : World) (X : Obj) (T : TypeId) (cs : Array Value) : ((w.alloc X).alloc (.cells cs T)).heap[w.heap.size + 1]? = some (.cells cs T (0, 0)) := by
  have := heap_alloc_new (w.alloc X) (.cells cs T); simpa using this
theorem new3 (w : World) (X Y : Obj) (T : TypeId) (cs : Array Value) : (((w.alloc X).alloc Y).alloc (.cells cs T)).heap[w.heap.size + 2]? = some (.cells cs T (0, 0)) := by
  have := heap_alloc_new ((w.alloc X).alloc Y) (.cells cs T); simpa using this
theorem only_refl (a : World) (row : Option Nat) : a.grownBy a row := ⟨rfl, rfl, rfl, Nat.le_refl _, fun _ _ _ => rfl⟩
theorem only_drewN {a w : World} {row : Option Nat} (h : a.grownBy w row) (n : Nat) : a.grownBy (w.drewN n) row := ⟨h.os, h.tape, h.output, h.size, h.block⟩
theorem only_alloc {a w : World} {row : Option Nat} (h : a.grownBy w row) (o : Obj) : a.grownBy (w.alloc o) row :=
  ⟨h.os, h.tape, h.output, Nat.le_trans h.size (by simp), fun i hi hne => (Below.heap_alloc w o i (Nat.lt_of_lt_of_le hi h.size)).trans (h.block i hi hne)⟩
theorem only_setCell {a w : World} {g : Nat} (h : a.grownBy w (some g)) {p : Addr} (hp : p.block = g ∨ a.heap.size ≤ p.block) (u : Value) : a.grownBy (w.setCell p u) (some g) :=
  ⟨h.os, h.tape, h.output, by simpa [World.setCell] using h.size, fun i hi hne => (Below.heap_setCell w p u i (by
    rintro rfl
    rcases hp with hp | hp
    · exact hne (by rw [hp])
    · omega)).trans (h.block i hi hne)⟩
theorem only_of_below {a w : World} (h : Below a.heap.size a w) (row : Option Nat) : a.grownBy w row := ⟨h.os, h.tape, h.output, h.size, fun i hi _ => h.block i hi⟩
@[simp] theorem size_drewN (w : World) (n : Nat) : (w.drewN n).heap.size = w.heap.size := rfl
end Go.Proofs.Ytjjcnijdjhhdoaa
