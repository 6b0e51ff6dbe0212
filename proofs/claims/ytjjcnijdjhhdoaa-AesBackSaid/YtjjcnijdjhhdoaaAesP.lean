/- The reference's table of boxes is the program's. -/
import Derived.Test.YtjjcnijdjhhdoaaAesT
namespace Go.Proofs.Ytjjcnijdjhhdoaa
def fm (a b : Nat) : Nat := (b % 2 * a) ^^^ (b / 2 % 2 * (a * 2)) ^^^ (b / 4 % 2 * (a * 4)) ^^^ (b / 8 % 2 * (a * 8)) ^^^ (b / 16 % 2 * (a * 16)) ^^^ (b / 32 % 2 * (a * 32)) ^^^ (b / 64 % 2 * (a * 64)) ^^^ (b / 128 % 2 * (a * 128))
def fr (d q n : Nat) : Nat := n ^^^ (n / d % 2 * q)
def fprod (a b : Nat) : Nat := fr 256 283 (fr 512 566 (fr 1024 1132 (fr 2048 2264 (fr 4096 4528 (fr 8192 9056 (fr 16384 18112 (fm a b))))))) % 256
def fpow (b : Nat) (n : Nat) : Nat := Nat.rec 1 (fun _ x => fprod x b) n
theorem ifx (c n q : Nat) : (if c % 2 = 1 then n ^^^ q else n) = n ^^^ (c % 2 * q) := by
  rcases Nat.mod_two_eq_zero_or_one c with h | h <;> simp [h]
theorem nb_of (n : Nat) : nb (UInt8.ofNat n) = n % 256 := by unfold nb; exact UInt8.toNat_ofNat'
theorem nb_rprod (a b : UInt8) : nb (rprod a b) = fprod (nb a) (nb b) := by
  unfold rprod fprod
  rw [nb_of]
  congr 1
  simp only [redTo, mulTo, ifx, fr, fm]
  simp
theorem nb_pow (b : UInt8) (n : Nat) : nb (powTo b n) = fpow (nb b) n := by
  induction n with
  | zero => unfold nb; rfl
  | succ n ih => rw [powTo, nb_rprod, ih]; rfl
def fox (n : Nat) : UInt8 := outTo (UInt8.ofNat n) 8
set_option maxRecDepth 100000 in
theorem fboxes : ((List.range 256).map fun i => fox (fpow i 254)) = sboxT := by decide +kernel
theorem nb_back (b : UInt8) : UInt8.ofNat (nb b) = b := by unfold nb; simp
theorem rbox_f (n : Nat) (h : n < 256) : rbox (UInt8.ofNat n) = fox (fpow n 254) := by
  unfold rbox fox
  rw [← nb_back (powTo (UInt8.ofNat n) 254), nb_pow, nb_of, Nat.mod_eq_of_lt h]
theorem boxes_f (n : Nat) (h : n ≤ 256) : boxesTo n = (List.range n).map fun i => fox (fpow i 254) := by
  induction n with
  | zero => rfl
  | succ n ih => rw [boxesTo, ih (by omega), rbox_f n (by omega), List.range_succ, List.map_append]; rfl
theorem rboxes_eq : rboxes = sbox := by
  rw [sbox_eq, ← fboxes]
  exact boxes_f 256 (Nat.le_refl _)
end Go.Proofs.Ytjjcnijdjhhdoaa
