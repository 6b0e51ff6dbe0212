/- The keys of the program and of the reference are the same. -/
import Derived.Test.YtjjcnijdjhhdoaaAesT
import Derived.Test.YtjjcnijdjhhdoaaU8
namespace Go.Proofs.Ytjjcnijdjhhdoaa
theorem gb_set (l : Bytes) (i j : Nat) (v : UInt8) (h : i < l.length) : gb (l.set i v) j = if i = j then v else gb l j := by
  by_cases hij : i = j
  · subst hij; simp [gb, h]
  · simp [gb, hij]
theorem gb_app (l : Bytes) (v : UInt8) (j : Nat) (hj : j ≤ l.length) : gb (l ++ [v]) j = if j = l.length then v else gb l j := by
  unfold gb
  by_cases h2 : j = l.length
  · subst h2; simp
  · rw [if_neg h2, List.getD_eq_getElem?_getD, List.getD_eq_getElem?_getD, List.getElem?_append_left (by omega)]
theorem keyRow_len (B K was : Bytes) (r : UInt8) (n i : Nat) : (keyRow B K was r n i).length = K.length := by
  induction i with
  | zero => rfl
  | succ i ih => exact List.length_set.trans ih
theorem keyRow_lo (B K was : Bytes) (r : UInt8) (n i j : Nat) (hK : 16 * n + i ≤ K.length) (hj : j < 16 * n) : gb (keyRow B K was r n i) j = gb K j := by
  induction i with
  | zero => rfl
  | succ i ih => rw [keyRow, gb_set _ _ _ _ (by rw [keyRow_len]; omega), if_neg (by omega), ih (by omega)]
theorem keyRow_keep (B K was : Bytes) (r : UInt8) (n i d j : Nat) (hK : 16 * n + (i + d) ≤ K.length) (hj : j < 16 * n + i) : gb (keyRow B K was r n (i + d)) j = gb (keyRow B K was r n i) j := by
  induction d with
  | zero => rfl
  | succ d ih => rw [← Nat.add_assoc, keyRow, gb_set _ _ _ _ (by rw [keyRow_len]; omega), if_neg (by omega), ih (by omega)]
theorem keyRow_new (B K was : Bytes) (r : UInt8) (n i : Nat) (hi : i < 16) (hK : 16 * n + 16 ≤ K.length) : gb (keyRow B K was r n 16) (16 * n + i) = keyByte B (keyRow B K was r n i) was r n i := by
  have h := keyRow_keep B K was r n (i + 1) (15 - i) (16 * n + i) (by omega) (by omega)
  rw [show i + 1 + (15 - i) = 16 by omega] at h
  rw [h, keyRow, gb_set _ _ _ _ (by rw [keyRow_len]; omega), if_pos rfl]
theorem keysTo_len (B k : Bytes) (n : Nat) (hk : k.length = 16) : (keysTo B k n).1.length = 176 := by
  induction n with
  | zero => simp [keysTo, hk]
  | succ n ih => exact (keyRow_len _ _ _ _ _ _).trans ih
theorem keysTo_keep (B k : Bytes) (hk : k.length = 16) (n d j : Nat) (hn : n + d ≤ 10) (hj : j < 16 * (n + 1)) : gb (keysTo B k (n + d)).1 j = gb (keysTo B k n).1 j := by
  induction d with
  | zero => rfl
  | succ d ih =>
    rw [← Nat.add_assoc, keysTo]
    show gb (keyRow _ _ _ _ _ _) j = _
    rw [keyRow_lo _ _ _ _ _ _ _ (by rw [keysTo_len _ _ _ hk]; omega) (by omega), ih (by omega)]
theorem keys_at (B k : Bytes) (hk : k.length = 16) (n j : Nat) (hn : n ≤ 10) (hj : j < 16 * (n + 1)) : gb (keys B k) j = gb (keysTo B k n).1 j := by
  have := keysTo_keep B k hk n (10 - n) j (by omega) hj
  rwa [show n + (10 - n) = 10 by omega] at this
def rc : Nat → UInt8
  | 0 => 1
  | n+1 => dbl (rc n)
theorem keysTo_r (B k : Bytes) (n : Nat) : (keysTo B k n).2 = rc n := by
  induction n with
  | zero => rfl
  | succ n ih => show dbl _ = _; rw [ih]; rfl
theorem gb_slice (l : Bytes) (a n j : Nat) (hj : j < n) : gb ((l.drop a).take n) j = gb l (a + j) := by
  simp [gb, hj]
theorem keys_rec (B k : Bytes) (hk : k.length = 16) (n i : Nat) (hn : n < 10) (hi : i < 16) :
    gb (keys B k) (16 * (n + 1) + i) = if 4 ≤ i then gb (keys B k) (16 * n + i) ^^^ gb (keys B k) (16 * (n + 1) + (i - 4))
      else if i = 0 then gb (keys B k) (16 * n + i) ^^^ gb B (nb (gb (keys B k) (16 * n + (12 + (i + 1) % 4)))) ^^^ rc n else gb (keys B k) (16 * n + i) ^^^ gb B (nb (gb (keys B k) (16 * n + (12 + (i + 1) % 4)))) := by
  have hl := keysTo_len B k n hk
  rw [keys_at B k hk (n + 1) _ (by omega) (by omega), keysTo]
  show gb (keyRow _ _ _ _ _ _) _ = _
  rw [keyRow_new _ _ _ _ _ _ hi (by rw [hl]; omega), keyByte, gb_slice _ _ _ _ hi, gb_slice _ _ _ _ (by omega), keysTo_r]
  rw [keys_at B k hk n (16 * n + i) (by omega) (by omega), keys_at B k hk n (16 * n + (12 + (i + 1) % 4)) (by omega) (by omega)]
  by_cases h4 : 4 ≤ i
  · have h0 : ¬ i = 0 := by omega
    simp only [h4, h0, if_true, if_false]
    rw [keys_at B k hk (n + 1) _ (by omega) (by omega), keysTo]
    show _ ^^^ gb (keyRow _ _ _ _ _ _) _ = _ ^^^ gb (keyRow _ _ _ _ _ _) _
    have h := keyRow_keep B (keysTo B k n).1 (((keysTo B k n).1.drop (16 * n)).take 16) (keysTo B k n).2 (n + 1) i (16 - i) (16 * (n + 1) + (i - 4)) (by rw [hl]; omega) (by omega)
    rw [show i + (16 - i) = 16 by omega, keysTo_r] at h
    rw [keysTo_r, h]
  · by_cases h0 : i = 0 <;> simp [h4, h0]
theorem rkRow_len (out t : Bytes) (n k : Nat) : (rkRow out t n k).length = out.length + k := by
  induction k with
  | zero => rfl
  | succ k ih => rw [rkRow, List.length_append, ih]; rfl
theorem rkRow_old (out t : Bytes) (n k j : Nat) (hj : j < out.length) : gb (rkRow out t n k) j = gb out j := by
  induction k with
  | zero => rfl
  | succ k ih => rw [rkRow, gb_app _ _ _ (by rw [rkRow_len]; omega), if_neg (by rw [rkRow_len]; omega), ih]
theorem rkRow_new (out t : Bytes) (n k K : Nat) (hk : k < K) (h16 : 16 ≤ n) (hl : out.length = n) (hK : K ≤ 4) : gb (rkRow out t n K) (n + k) = gb out (n + k - 16) ^^^ gb t k := by
  induction K with
  | zero => omega
  | succ K ih =>
    rw [rkRow, gb_app _ _ _ (by rw [rkRow_len]; omega), rkRow_len, hl]
    by_cases h : k = K
    · subst h
      rw [if_pos rfl, rkRow_old _ _ _ _ _ (by omega)]
    · rw [if_neg (by omega), ih (by omega) (by omega)]
theorem rkTo_len (B k : Bytes) (hk : k.length = 16) (m : Nat) : (rkTo B k m).1.length = 16 + 4 * m := by
  induction m with
  | zero => exact hk
  | succ m ih => rw [rkTo, rkRow_len, ih]; omega
theorem rkTo_keep (B k : Bytes) (hk : k.length = 16) (m d j : Nat) (hj : j < 16 + 4 * m) : gb (rkTo B k (m + d)).1 j = gb (rkTo B k m).1 j := by
  induction d with
  | zero => rfl
  | succ d ih =>
    rw [← Nat.add_assoc, rkTo]
    show gb (rkRow _ _ _ _) j = _
    rw [rkRow_old _ _ _ _ _ (by rw [rkTo_len _ _ hk]; omega), ih]
theorem rkeys_at (B k : Bytes) (hk : k.length = 16) (m j : Nat) (hm : m ≤ 40) (hj : j < 16 + 4 * m) : gb (rkeys B k) j = gb (rkTo B k m).1 j := by
  have := rkTo_keep B k hk m (40 - m) j hj
  rwa [show m + (40 - m) = 40 by omega] at this
theorem rprod_2 (r : UInt8) : rprod r 2 = dbl r := by
  have := all8 (fun r => decide (rprod r 2 = dbl r)) (by decide +kernel) r
  simpa using this
theorem rkTo_r (B k : Bytes) (m : Nat) : (rkTo B k m).2 = rc ((m + 3) / 4) := by
  induction m with
  | zero => rfl
  | succ m ih =>
    rw [rkTo]
    show (if _ then _ else _) = _
    rw [ih]
    by_cases h : (16 + 4 * m) % 16 = 0
    · rw [if_pos h, rprod_2, show (m + 1 + 3) / 4 = (m + 3) / 4 + 1 by omega]; rfl
    · rw [if_neg h, show (m + 1 + 3) / 4 = (m + 3) / 4 by omega]
theorem rkeys_rec (B k : Bytes) (hk : k.length = 16) (n i : Nat) (hn : n < 10) (hi : i < 16) :
    gb (rkeys B k) (16 * (n + 1) + i) = if 4 ≤ i then gb (rkeys B k) (16 * n + i) ^^^ gb (rkeys B k) (16 * (n + 1) + (i - 4))
      else if i = 0 then gb (rkeys B k) (16 * n + i) ^^^ gb B (nb (gb (rkeys B k) (16 * n + (12 + (i + 1) % 4)))) ^^^ rc n else gb (rkeys B k) (16 * n + i) ^^^ gb B (nb (gb (rkeys B k) (16 * n + (12 + (i + 1) % 4)))) := by
  obtain ⟨m, kk, hm, hkk, he⟩ : ∃ m kk, m = 4 * n + i / 4 ∧ kk < 4 ∧ i = 4 * (i / 4) + kk := ⟨4 * n + i / 4, i % 4, rfl, by omega, by omega⟩
  have hl := rkTo_len B k hk m
  have hr := rkTo_r B k m
  have hat : ∀ j, j < 16 + 4 * m → gb (rkeys B k) j = gb (rkTo B k m).1 j := fun j hj => rkeys_at B k hk m j (by omega) hj
  rw [rkeys_at B k hk (m + 1) _ (by omega) (by omega), rkTo]
  show gb (rkRow _ _ _ _) _ = _
  rw [show 16 * (n + 1) + i = (16 + 4 * m) + kk by omega, rkRow_new _ _ _ _ _ hkk (by omega) hl (Nat.le_refl _), rkT, hr]
  rw [hat (16 * n + i) (by omega), hat (16 * n + (12 + (i + 1) % 4)) (by omega), show 16 + 4 * m + kk - 16 = 16 * n + i by omega]
  generalize (rkTo B k m).1 = L at *
  by_cases h4 : 4 ≤ i
  · rw [if_neg (by omega), if_pos h4, hat _ (by omega)]
    have hk' : kk = 0 ∨ kk = 1 ∨ kk = 2 ∨ kk = 3 := by omega
    rcases hk' with rfl | rfl | rfl | rfl
    · show _ ^^^ gb L (16 + 4 * m - 4) = _; rw [show 16 * (n + 1) + (i - 4) = 16 + 4 * m - 4 by omega]
    · show _ ^^^ gb L (16 + 4 * m - 3) = _; rw [show 16 * (n + 1) + (i - 4) = 16 + 4 * m - 3 by omega]
    · show _ ^^^ gb L (16 + 4 * m - 2) = _; rw [show 16 * (n + 1) + (i - 4) = 16 + 4 * m - 2 by omega]
    · show _ ^^^ gb L (16 + 4 * m - 1) = _; rw [show 16 * (n + 1) + (i - 4) = 16 + 4 * m - 1 by omega]
  · rw [if_pos (by omega), if_neg h4]
    have hk' : i = 0 ∧ kk = 0 ∨ i = 1 ∧ kk = 1 ∨ i = 2 ∧ kk = 2 ∨ i = 3 ∧ kk = 3 := by omega
    have hrn : (m + 3) / 4 = n := by omega
    rw [hrn]
    rcases hk' with ⟨rfl, rfl⟩ | ⟨rfl, rfl⟩ | ⟨rfl, rfl⟩ | ⟨rfl, rfl⟩
    · show _ ^^^ (gb B (nb (gb L (16 + 4 * m - 3))) ^^^ rc n) = _
      rw [if_pos rfl, show 16 * n + (12 + (0 + 1) % 4) = 16 + 4 * m - 3 by omega, UInt8.xor_assoc]
    · show _ ^^^ gb B (nb (gb L (16 + 4 * m - 2))) = _
      rw [if_neg (by omega), show 16 * n + (12 + (1 + 1) % 4) = 16 + 4 * m - 2 by omega]
    · show _ ^^^ gb B (nb (gb L (16 + 4 * m - 1))) = _
      rw [if_neg (by omega), show 16 * n + (12 + (2 + 1) % 4) = 16 + 4 * m - 1 by omega]
    · show _ ^^^ gb B (nb (gb L (16 + 4 * m - 4))) = _
      rw [if_neg (by omega), show 16 * n + (12 + (3 + 1) % 4) = 16 + 4 * m - 4 by omega]
theorem keys_eq (B k : Bytes) (hk : k.length = 16) : rkeys B k = keys B k := by
  have h : ∀ I, I < 176 → gb (rkeys B k) I = gb (keys B k) I := by
    intro I
    induction I using Nat.strongRecOn with
    | _ I ih =>
      intro hI
      by_cases h16 : I < 16
      · rw [rkeys_at B k hk 0 I (by omega) (by omega), keys_at B k hk 0 I (by omega) (by omega)]
        show gb k I = gb (k ++ _) I
        unfold gb; rw [List.getD_eq_getElem?_getD, List.getD_eq_getElem?_getD, List.getElem?_append_left (by omega)]
      · obtain ⟨n, i, hn, hi, rfl⟩ : ∃ n i, n < 10 ∧ i < 16 ∧ I = 16 * (n + 1) + i := ⟨I / 16 - 1, I % 16, by omega, by omega, by omega⟩
        rw [rkeys_rec B k hk n i hn hi, keys_rec B k hk n i hn hi, ih (16 * n + i) (by omega) (by omega), ih (16 * n + (12 + (i + 1) % 4)) (by omega) (by omega)]
        by_cases h4 : 4 ≤ i
        · rw [if_pos h4, if_pos h4, ih _ (by omega) (by omega)]
        · rw [if_neg h4, if_neg h4]
  apply List.ext_getElem
  · rw [show (keys B k).length = 176 from keysTo_len B k 10 hk]; exact rkTo_len B k hk 40
  · intro i h1 h2
    have := h i (by rw [show (keys B k).length = 176 from keysTo_len B k 10 hk] at h2; exact h2)
    simpa [gb, h1, h2] using this
end Go.Proofs.Ytjjcnijdjhhdoaa
