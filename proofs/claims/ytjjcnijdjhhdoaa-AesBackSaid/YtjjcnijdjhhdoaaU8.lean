/- Bytes in a walk: a byte stands as 'ub a', a being a UInt8. -/
import Derived.Test.YtjjcnijdjhhdoaaRows
import Derived.WalkKit
import Derived.WalkSpells
import Derived.WalkLawsBesides
import Derived.Handy
import Derived.Test.YtjjcnijdjhhdoaaAesFn
namespace Go.Proofs.Ytjjcnijdjhhdoaa
/-- A fact kept from the walk. -/
structure Hd (p : Prop) : Prop where
  out : p
/-- A byte as the walk's number. -/
@[irreducible] def ub (a : UInt8) : Int := (a.toNat : Int)
/-- A number as a byte. -/
def toB (x : Int) : UInt8 := UInt8.ofNat x.toNat
@[simp] theorem u8_ub (a : UInt8) : toB (ub a) = a := by simp [toB, ub]
theorem ub_u8 {x : Int} (h0 : 0 ≤ x) (h1 : x ≤ 255) : ub (toB x) = x := by simp [toB, ub]; omega
@[simp] theorem ub_nonneg (a : UInt8) : 0 ≤ ub a := by unfold ub; omega
@[simp] theorem ub_le (a : UInt8) : ub a ≤ 255 := by have := a.toNat_lt; unfold ub; omega
@[simp] theorem ub_lt (a : UInt8) : ub a < 256 := by have := a.toNat_lt; unfold ub; omega
@[simp] theorem ub_toNat (a : UInt8) : (ub a).toNat = nb a := by simp [ub, nb]
theorem nb_lt (a : UInt8) : nb a < 256 := by unfold nb; exact a.toNat_lt
@[simp] theorem ub_mod (a : UInt8) : ub a % 256 = ub a := by have := a.toNat_lt; unfold ub; omega
theorem ub_inj {a b : UInt8} : ub a = ub b ↔ a = b := by
  constructor
  · intro h; have := congrArg toB h; simpa using this
  · rintro rfl; rfl
theorem ub_beq (a b : UInt8) : (ub a == ub b) = (a == b) := by
  rw [Bool.eq_iff_iff]; simp [ub_inj]
theorem ub_bv (a : UInt8) : ((a.toBitVec.toNat : Nat) : Int) = ub a := by unfold ub; rfl
theorem ofInt8 (a : UInt8) : BitVec.ofInt 8 (ub a) = a.toBitVec := by
  unfold ub; rw [BitVec.ofInt_natCast]; exact BitVec.eq_of_toNat_eq (by simp)
theorem bits_xor8 (a b : UInt8) : bits .xor .u8 (ub a) (ub b) = ub (a ^^^ b) := by
  show IntKind.u8.wrap ((BitVec.ofInt 8 (ub a) ^^^ BitVec.ofInt 8 (ub b)).toNat : Int) = _
  rw [ofInt8, ofInt8, IntKind.wrap_u8, ← UInt8.toBitVec_xor, ub_bv, ub_mod]
theorem bits_or8 (a b : UInt8) : bits .or .u8 (ub a) (ub b) = ub (a ||| b) := by
  show IntKind.u8.wrap ((BitVec.ofInt 8 (ub a) ||| BitVec.ofInt 8 (ub b)).toNat : Int) = _
  rw [ofInt8, ofInt8, IntKind.wrap_u8, ← UInt8.toBitVec_or, ub_bv, ub_mod]
theorem bits_and8 (a b : UInt8) : bits .and .u8 (ub a) (ub b) = ub (a &&& b) := by
  show IntKind.u8.wrap ((BitVec.ofInt 8 (ub a) &&& BitVec.ofInt 8 (ub b)).toNat : Int) = _
  rw [ofInt8, ofInt8, IntKind.wrap_u8, ← UInt8.toBitVec_and, ub_bv, ub_mod]
/-- What holds of 256 bytes, one by one, holds of every byte. -/
theorem all8 (p : UInt8 → Bool) (h : (List.range 256).all (fun n => p (UInt8.ofNat n)) = true) (a : UInt8) : p a = true := by
  have := List.all_eq_true.1 h a.toNat (List.mem_range.2 a.toNat_lt)
  simpa using this
end Go.Proofs.Ytjjcnijdjhhdoaa
