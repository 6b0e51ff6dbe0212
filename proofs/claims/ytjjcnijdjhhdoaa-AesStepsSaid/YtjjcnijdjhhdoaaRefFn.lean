/- What the functions of compeerref05 compute, as plain functions. -/
import Derived.Test.YtjjcnijdjhhdoaaAesFn
namespace Go.Proofs.Ytjjcnijdjhhdoaa
def mulTo (a b : Nat) : Nat → Nat
  | 0 => 0
  | k+1 => if (b / 2 ^ k) % 2 = 1 then mulTo a b k ^^^ (a * 2 ^ k) else mulTo a b k
def redTo (n : Nat) : Nat → Nat
  | 0 => n
  | j+1 => if (redTo n j / 2 ^ (14 - j)) % 2 = 1 then redTo n j ^^^ (283 * 2 ^ (14 - j - 8)) else redTo n j
/-- compeerref05.Product. -/
def rprod (a b : UInt8) : UInt8 := UInt8.ofNat (redTo (mulTo (nb a) (nb b) 8) 7)
def powTo (b : UInt8) : Nat → UInt8
  | 0 => 1
  | k+1 => rprod (powTo b k) b
def bitTo (x : UInt8) (k : Nat) : Nat → Nat
  | 0 => 0
  | j+1 => bitTo x k j + nb x / 2 ^ ((k + 8 - j) % 8) % 2
def outTo (x : UInt8) : Nat → UInt8
  | 0 => 0
  | k+1 => outTo x k + UInt8.ofNat ((bitTo x k 5 + 99 / 2 ^ k % 2) % 2 * 2 ^ k)
/-- compeerref05.Box. -/
def rbox (b : UInt8) : UInt8 := outTo (powTo b 254) 8
def boxesTo : Nat → Bytes
  | 0 => []
  | n+1 => boxesTo n ++ [rbox (UInt8.ofNat n)]
/-- compeerref05.Boxes. -/
def rboxes : Bytes := boxesTo 256
/-- The four bytes that are to be laid on. -/
def rkT (B out : Bytes) (r : UInt8) (n : Nat) : Bytes :=
  if n % 16 = 0 then [gb B (nb (gb out (n-3))) ^^^ r, gb B (nb (gb out (n-2))), gb B (nb (gb out (n-1))), gb B (nb (gb out (n-4)))]
  else [gb out (n-4), gb out (n-3), gb out (n-2), gb out (n-1)]
def rkRow (out t : Bytes) (n : Nat) : Nat → Bytes
  | 0 => out
  | k+1 => rkRow out t n k ++ [gb (rkRow out t n k) (n+k-16) ^^^ gb t k]
def rkTo (B k : Bytes) : Nat → Bytes × UInt8
  | 0 => (k, 1)
  | m+1 => (rkRow (rkTo B k m).1 (rkT B (rkTo B k m).1 (rkTo B k m).2 (16+4*m)) (16+4*m) 4, if (16+4*m) % 16 = 0 then rprod (rkTo B k m).2 2 else (rkTo B k m).2)
/-- compeerref05.Keys. -/
def rkeys (B k : Bytes) : Bytes := (rkTo B k 40).1
def raddTo (b ks : Bytes) : Nat → Bytes
  | 0 => []
  | k+1 => raddTo b ks k ++ [gb b k ^^^ gb ks k]
def rsubRow (B s : Bytes) (c : Nat) (t : Bytes) : Nat → Bytes
  | 0 => t
  | r+1 => rsubRow B s c t r ++ [gb B (nb (gb s ((c+r)%4*4+r)))]
def rsubTo (B s : Bytes) : Nat → Bytes
  | 0 => []
  | c+1 => rsubRow B s c (rsubTo B s c) 4
def rmixRow (t : Bytes) (c : Nat) (u : Bytes) : Nat → Bytes
  | 0 => u
  | r+1 => rmixRow t c u r ++ [rprod 2 (gb t (c*4+r)) ^^^ rprod 3 (gb t (c*4+(r+1)%4)) ^^^ gb t (c*4+(r+2)%4) ^^^ gb t (c*4+(r+3)%4)]
def rmixTo (t : Bytes) : Nat → Bytes
  | 0 => []
  | c+1 => rmixRow t c (rmixTo t c) 4
def rxorTo (t ks : Bytes) (n : Nat) : Nat → Bytes
  | 0 => t
  | k+1 => (rxorTo t ks n k).set k (gb (rxorTo t ks n k) k ^^^ gb ks (16*n+k))
def rrounds (B ks b : Bytes) : Nat → Bytes
  | 0 => raddTo b ks 16
  | n+1 => rxorTo (if n+1 < 10 then rmixTo (rsubTo B (rrounds B ks b n) 4) 4 else rsubTo B (rrounds B ks b n) 4) ks (n+1) 16
/-- compeerref05.Block. -/
def rblk (B k b : Bytes) : Bytes := rrounds B (rkeys B k) b 10
/-- A number of sixteen bytes, one more: what is laid on and carried. -/
def carryTo (f : Bytes) : Nat → Bytes × Nat
  | 0 => (f, 1)
  | j+1 => ((carryTo f j).1.set (15-j) (UInt8.ofNat ((nb (gb (carryTo f j).1 (15-j)) + (carryTo f j).2) % 256)), (nb (gb (carryTo f j).1 (15-j)) + (carryTo f j).2) / 256)
def rinc (f : Bytes) : Bytes := (carryTo f 16).1
structure RSt where
  at_ : Bytes
  pad : Bytes
  out : Bytes
def rpad (B k : Bytes) (n : Nat) (s : RSt) : RSt := if n % 16 = 0 then ⟨rinc s.at_, rblk B k s.at_, s.out⟩ else s
def rput (b : Bytes) (n : Nat) (s : RSt) : RSt := ⟨s.at_, s.pad, s.out ++ [gb b n ^^^ gb s.pad (n % 16)]⟩
def rstTo (B k f b : Bytes) : Nat → RSt
  | 0 => ⟨f, [], []⟩
  | n+1 => rput b n (rpad B k n (rstTo B k f b n))
/-- compeerref05.Stream. -/
def rstream (B k f b : Bytes) : Bytes := (rstTo B k f b b.length).out
end Go.Proofs.Ytjjcnijdjhhdoaa
