/- What the functions of package aes compute, as plain functions on lists of bytes. No program in sight. -/
namespace Go.Proofs.Ytjjcnijdjhhdoaa
abbrev Bytes := List UInt8
/-- A byte as an index. -/
@[irreducible] def nb (a : UInt8) : Nat := a.toNat
/-- A byte of a row; 0 behind its end. -/
def gb (l : Bytes) (i : Nat) : UInt8 := l.getD i 0
def dbl (b : UInt8) : UInt8 := if 128 ≤ b then (b <<< 1) ^^^ 27 else b <<< 1
def prodLoop : Nat → UInt8 → UInt8 → UInt8 → UInt8
  | 0, _, _, p => p
  | k+1, a, b, p => if b = 0 then p else prodLoop k (dbl a) (b >>> 1) (if b &&& 1 = 1 then p ^^^ a else p)
def prod (a b : UInt8) : UInt8 := prodLoop 8 a b 0
def sh1 (q : UInt8) : UInt8 := q ^^^ (q <<< 1)
def sh2 (q : UInt8) : UInt8 := q ^^^ (q <<< 2)
def sh4 (q : UInt8) : UInt8 := q ^^^ (q <<< 4)
/-- One round of 'box': what becomes of q. -/
def boxQ (q : UInt8) : UInt8 := if 128 ≤ sh4 (sh2 (sh1 q)) then sh4 (sh2 (sh1 q)) ^^^ 9 else sh4 (sh2 (sh1 q))
def rot (q : UInt8) (n : Nat) : UInt8 := (q <<< (UInt8.ofNat n)) ||| (q >>> (UInt8.ofNat (8-n)))
def boxX (q : UInt8) : Nat → UInt8
  | 0 => q
  | n+1 => boxX q n ^^^ rot q (n+1)
structure BoxSt where
  p : UInt8
  q : UInt8
  out : Bytes
def boxStep (s : BoxSt) : BoxSt :=
  let p := s.p ^^^ dbl s.p
  let q := boxQ s.q
  ⟨p, q, s.out.set (nb p) (boxX q 4 ^^^ 99)⟩
def boxTo : Nat → BoxSt
  | 0 => ⟨1, 1, List.replicate 256 0⟩
  | n+1 => boxStep (boxTo n)
def sbox : Bytes := (boxTo 255).out.set 0 99
/-- The keys: 176 bytes. The i-th byte of key n. -/
def keyByte (B : Bytes) (K was : Bytes) (r : UInt8) (n i : Nat) : UInt8 :=
  let x := gb was i
  let x := if 4 ≤ i then x ^^^ gb K (16*n+(i-4)) else x ^^^ gb B (nb (gb was (12+(i+1)%4)))
  if i = 0 then x ^^^ r else x
def keyRow (B K was : Bytes) (r : UInt8) (n : Nat) : Nat → Bytes
  | 0 => K
  | i+1 => (keyRow B K was r n i).set (16*n+i) (keyByte B (keyRow B K was r n i) was r n i)
def keysTo (B k : Bytes) : Nat → Bytes × UInt8
  | 0 => (k ++ List.replicate 160 0, 1)
  | n+1 => (keyRow B (keysTo B k n).1 (((keysTo B k n).1.drop (16*n)).take 16) (keysTo B k n).2 (n+1) 16, dbl (keysTo B k n).2)
def keys (B k : Bytes) : Bytes := (keysTo B k 10).1
/-- The first i bytes of s, held against those of K from o on. -/
def addTo (s K : Bytes) (o : Nat) : Nat → Bytes
  | 0 => s
  | i+1 => (addTo s K o i).set i (gb (addTo s K o i) i ^^^ gb K (o+i))
def subTo (B s : Bytes) : Nat → Bytes
  | 0 => List.replicate 16 0
  | i+1 => (subTo B s i).set i (gb B (nb (gb s ((i+4*(i%4))%16))))
def mixCol (t : Bytes) (at_ : Nat) : Bytes :=
  let a := gb t at_; let b := gb t (at_+1); let c := gb t (at_+2); let d := gb t (at_+3)
  (((t.set at_ (prod a 2 ^^^ prod b 3 ^^^ c ^^^ d)).set (at_+1) (a ^^^ prod b 2 ^^^ prod c 3 ^^^ d)).set (at_+2) (a ^^^ b ^^^ prod c 2 ^^^ prod d 3)).set (at_+3) (prod a 3 ^^^ b ^^^ c ^^^ prod d 2)
def mixTo (t : Bytes) : Nat → Bytes
  | 0 => t
  | i+1 => mixCol (mixTo t i) (4*i)
/-- s, whose first i bytes are t's, held against K from o on. -/
def putTo (s t K : Bytes) (o : Nat) : Nat → Bytes
  | 0 => s
  | i+1 => (putTo s t K o i).set i (gb t i ^^^ gb K (o+i))
def roundsTo (B K b : Bytes) : Nat → Bytes
  | 0 => addTo b K 0 16
  | n+1 => putTo (roundsTo B K b n) (if n+1 < 10 then mixTo (subTo B (roundsTo B K b n) 16) 4 else subTo B (roundsTo B K b n) 16) K (16*(n+1)) 16
def blk (B K b : Bytes) : Bytes := roundsTo B K b 10
/-- A number of sixteen bytes, one more: from place i on down. -/
def incFrom (f : Bytes) : Nat → Bytes
  | 0 => f
  | i+1 => if gb f i + 1 = 0 then incFrom (f.set i 0) i else f.set i (gb f i + 1)
def inc (f : Bytes) : Bytes := incFrom f 16
/-- The row 'out', whose bytes from at on, sixteen at most, are held against the pad. -/
def padTo (out pad : Bytes) (at_ : Nat) : Nat → Bytes
  | 0 => out
  | i+1 => (padTo out pad at_ i).set (at_+i) (gb (padTo out pad at_ i) (at_+i) ^^^ gb pad i)
def streamTo (B K f b : Bytes) : Nat → Bytes × Bytes
  | 0 => (b, f)
  | n+1 => (padTo (streamTo B K f b n).1 (blk B K (streamTo B K f b n).2) (16*n) (min 16 (b.length-16*n)), inc (streamTo B K f b n).2)
def stream (B K f b : Bytes) : Bytes := (streamTo B K f b ((b.length+15)/16)).1
end Go.Proofs.Ytjjcnijdjhhdoaa
