/- The reference's block is the program's, for every key and block of sixteen bytes. -/
import Derived.Test.YtjjcnijdjhhdoaaAesP
import Derived.Test.YtjjcnijdjhhdoaaAesK
namespace Go.Proofs.Ytjjcnijdjhhdoaa
theorem sub_eq (B s : Bytes) : rsubTo B s 4 = subTo B s 16 := by rfl
theorem l16 (l : Bytes) (h : l.length = 16) : ∃ a0 a1 a2 a3 a4 a5 a6 a7 a8 a9 a10 a11 a12 a13 a14 a15 : UInt8, l = [a0, a1, a2, a3, a4, a5, a6, a7, a8, a9, a10, a11, a12, a13, a14, a15] := by
  match l, h with
  | [a0, a1, a2, a3, a4, a5, a6, a7, a8, a9, a10, a11, a12, a13, a14, a15], _ => exact ⟨_, _, _, _, _, _, _, _, _, _, _, _, _, _, _, _, rfl⟩
theorem add_eq (b ks : Bytes) (hb : b.length = 16) : raddTo b ks 16 = addTo b ks 0 16 := by
  obtain ⟨a0, a1, a2, a3, a4, a5, a6, a7, a8, a9, a10, a11, a12, a13, a14, a15, rfl⟩ := l16 b hb
  simp [raddTo, addTo, gb]
theorem xor_eq (s t ks : Bytes) (n : Nat) (hs : s.length = 16) (ht : t.length = 16) : rxorTo t ks n 16 = putTo s t ks (16*n) 16 := by
  obtain ⟨a0, a1, a2, a3, a4, a5, a6, a7, a8, a9, a10, a11, a12, a13, a14, a15, rfl⟩ := l16 s hs
  obtain ⟨b0, b1, b2, b3, b4, b5, b6, b7, b8, b9, b10, b11, b12, b13, b14, b15, rfl⟩ := l16 t ht
  simp [rxorTo, putTo, gb]
theorem rprod2x (x : UInt8) : rprod 2 x = prod x 2 := by
  have := all8 (fun r => decide (rprod 2 r = prod r 2)) (by decide +kernel) x
  simpa using this
theorem rprod3x (x : UInt8) : rprod 3 x = prod x 3 := by
  have := all8 (fun r => decide (rprod 3 r = prod r 3)) (by decide +kernel) x
  simpa using this
theorem mix_eq (t : Bytes) (ht : t.length = 16) : rmixTo t 4 = mixTo t 4 := by
  obtain ⟨b0, b1, b2, b3, b4, b5, b6, b7, b8, b9, b10, b11, b12, b13, b14, b15, rfl⟩ := l16 t ht
  simp [rmixTo, rmixRow, mixTo, mixCol, gb, rprod2x, rprod3x]
  and_intros <;> ac_rfl
theorem len16_add (s K : Bytes) (o n : Nat) : (addTo s K o n).length = s.length := by
  induction n with
  | zero => rfl
  | succ n ih => exact List.length_set.trans ih
theorem len16_sub (B s : Bytes) (n : Nat) : (subTo B s n).length = 16 := by
  induction n with
  | zero => rfl
  | succ n ih => exact List.length_set.trans ih
theorem len16_put (s t K : Bytes) (o n : Nat) : (putTo s t K o n).length = s.length := by
  induction n with
  | zero => rfl
  | succ n ih => exact List.length_set.trans ih
theorem len16_mixCol (t : Bytes) (a : Nat) : (mixCol t a).length = t.length := by
  simp [mixCol]
theorem len16_mix (t : Bytes) (n : Nat) : (mixTo t n).length = t.length := by
  induction n with
  | zero => rfl
  | succ n ih => exact (len16_mixCol _ _).trans ih
theorem len16_rounds (B K b : Bytes) (n : Nat) : (roundsTo B K b n).length = b.length := by
  induction n with
  | zero => exact len16_add _ _ _ _
  | succ n ih => exact (len16_put _ _ _ _ _).trans ih
theorem rounds_eq (B ks b : Bytes) (hb : b.length = 16) (n : Nat) : rrounds B ks b n = roundsTo B ks b n := by
  induction n with
  | zero => exact add_eq b ks hb
  | succ n ih =>
    have hl : (roundsTo B ks b n).length = 16 := (len16_rounds _ _ _ _).trans hb
    rw [rrounds, roundsTo, ih, sub_eq, mix_eq _ (len16_sub _ _ _)]
    refine xor_eq _ _ _ _ hl ?_
    split
    · exact (len16_mix _ _).trans (len16_sub _ _ _)
    · exact len16_sub _ _ _
theorem block_eq (k b : Bytes) (hk : k.length = 16) (hb : b.length = 16) : blk sbox (keys sbox k) b = rblk rboxes k b := by
  rw [rboxes_eq, rblk, rounds_eq _ _ _ hb, keys_eq _ _ hk]; rfl
end Go.Proofs.Ytjjcnijdjhhdoaa
