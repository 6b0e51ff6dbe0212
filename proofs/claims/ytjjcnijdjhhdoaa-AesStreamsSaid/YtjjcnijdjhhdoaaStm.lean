/- Streams, byte by byte: the program's and the reference's are the same. -/
import Derived.Test.YtjjcnijdjhhdoaaAesE
namespace Go.Proofs.Ytjjcnijdjhhdoaa
theorem ext_gb (l m : Bytes) (h : l.length = m.length) (hg : ∀ j, j < l.length → gb l j = gb m j) : l = m := by
  apply List.ext_getElem h
  intro i h1 h2
  have := hg i h1
  simpa [gb, h1, h2] using this
theorem nb_inj {a b : UInt8} (h : nb a = nb b) : a = b := by rw [← nb_back a, ← nb_back b, h]
/-- The number, n times one more. -/
def incN (f : Bytes) : Nat → Bytes
  | 0 => f
  | n+1 => inc (incN f n)
theorem incFrom_len (f : Bytes) (n : Nat) : (incFrom f n).length = f.length := by
  induction n generalizing f with
  | zero => rfl
  | succ n ih =>
    unfold incFrom
    split
    · rw [ih]; simp
    · simp
theorem inc_len (f : Bytes) : (inc f).length = f.length := incFrom_len f 16
theorem incN_len (f : Bytes) (n : Nat) : (incN f n).length = f.length := by
  induction n with
  | zero => rfl
  | succ n ih => exact (inc_len _).trans ih
theorem incN_add (f : Bytes) (n m : Nat) : incN f (n + m) = incN (incN f n) m := by
  induction m with
  | zero => rfl
  | succ m ih => rw [← Nat.add_assoc, incN, ih]; rfl
theorem padTo_len (out pad : Bytes) (o n : Nat) : (padTo out pad o n).length = out.length := by
  induction n with
  | zero => rfl
  | succ n ih => exact List.length_set.trans ih
theorem padTo_at (out pad : Bytes) (o n j : Nat) (hn : o + n ≤ out.length) : gb (padTo out pad o n) j = if o ≤ j ∧ j < o + n then gb out j ^^^ gb pad (j - o) else gb out j := by
  induction n with
  | zero => rw [if_neg (by omega)]; rfl
  | succ n ih =>
    rw [padTo, gb_set _ _ _ _ (by rw [padTo_len]; omega)]
    by_cases h : o + n = j
    · subst h
      rw [if_pos rfl, if_pos (by omega), ih (by omega), if_neg (by omega), Nat.add_sub_cancel_left]
    · rw [if_neg h, ih (by omega)]
      by_cases h2 : o ≤ j ∧ j < o + n
      · rw [if_pos h2, if_pos (by omega)]
      · rw [if_neg h2, if_neg (by omega)]
theorem streamTo_2 (B K f b : Bytes) (n : Nat) : (streamTo B K f b n).2 = incN f n := by
  induction n with
  | zero => rfl
  | succ n ih => show inc _ = _; rw [ih]; rfl
theorem streamTo_len (B K f b : Bytes) (n : Nat) : (streamTo B K f b n).1.length = b.length := by
  induction n with
  | zero => rfl
  | succ n ih => exact (padTo_len _ _ _ _).trans ih
theorem streamTo_at (B K f b : Bytes) (n j : Nat) (hn : n ≤ (b.length + 15) / 16) (hj : j < b.length) : gb (streamTo B K f b n).1 j = if j < 16 * n then gb b j ^^^ gb (blk B K (incN f (j / 16))) (j % 16) else gb b j := by
  induction n with
  | zero => rw [if_neg (by omega)]; rfl
  | succ n ih =>
    rw [streamTo]
    show gb (padTo _ _ _ _) j = _
    rw [padTo_at _ _ _ _ _ (by rw [streamTo_len]; omega), ih (by omega), streamTo_2]
    by_cases h1 : j < 16 * n
    · rw [if_neg (by omega), if_pos h1, if_pos (by omega)]
    · by_cases h2 : j < 16 * (n + 1)
      · rw [if_pos (by omega), if_neg h1, if_pos h2, show j / 16 = n by omega, show j - 16 * n = j % 16 by omega]
      · rw [if_neg (by omega), if_neg h1, if_neg h2]
theorem stream_len (B K f b : Bytes) : (stream B K f b).length = b.length := streamTo_len _ _ _ _ _
theorem stream_at (B K f b : Bytes) (j : Nat) (hj : j < b.length) : gb (stream B K f b) j = gb b j ^^^ gb (blk B K (incN f (j / 16))) (j % 16) := by
  unfold stream
  rw [streamTo_at _ _ _ _ _ _ (Nat.le_refl _) hj, if_pos (by omega)]
/-- Steps of the reference's carry, from place n on down. -/
def cF (f : Bytes) (c : Nat) : Nat → Bytes × Nat
  | 0 => (f, c)
  | n+1 => cF (f.set n (UInt8.ofNat ((nb (gb f n) + c) % 256))) ((nb (gb f n) + c) / 256) n
theorem carryTo_cF (f : Bytes) (n j : Nat) (hn : j + n = 16) : carryTo f 16 = cF (carryTo f j).1 (carryTo f j).2 n := by
  induction n generalizing j with
  | zero => rw [show j = 16 by omega]; rfl
  | succ n ih =>
    have hs : carryTo f (j + 1) = ((carryTo f j).1.set n (UInt8.ofNat ((nb (gb (carryTo f j).1 n) + (carryTo f j).2) % 256)), (nb (gb (carryTo f j).1 n) + (carryTo f j).2) / 256) := by
      rw [carryTo, show 15 - j = n by omega]
    rw [ih (j + 1) (by omega), cF, hs]
theorem set_own (f : Bytes) (n : Nat) : f.set n (gb f n) = f := by
  by_cases h : n < f.length
  · simp [gb, h]
  · exact List.set_eq_of_length_le (by omega)
theorem cF_zero (f : Bytes) (n : Nat) : (cF f 0 n).1 = f := by
  induction n generalizing f with
  | zero => rfl
  | succ n ih =>
    have h := nb_lt (gb f n)
    rw [cF, Nat.add_zero, Nat.mod_eq_of_lt h, nb_back, set_own, Nat.div_eq_of_lt h, ih]
theorem cF_one (f : Bytes) (n : Nat) : (cF f 1 n).1 = incFrom f n := by
  induction n generalizing f with
  | zero => rfl
  | succ n ih =>
    have h := nb_lt (gb f n)
    rw [cF, incFrom]
    have h1 : nb (gb f n + 1) = (nb (gb f n) + 1) % 256 := by unfold nb; exact UInt8.toNat_add _ _
    by_cases h0 : gb f n + 1 = 0
    · rw [if_pos h0]
      have h2 : nb (gb f n) = 255 := by
        rw [h0] at h1
        have : nb 0 = 0 := by unfold nb; rfl
        omega
      rw [h2, ih]; rfl
    · rw [if_neg h0]
      have h2 : nb (gb f n) ≠ 255 := by
        intro h2
        rw [h2] at h1
        exact h0 (nb_inj (h1.trans (by unfold nb; rfl)))
      rw [show (nb (gb f n) + 1) / 256 = 0 by omega, cF_zero, ← h1, nb_back]
theorem rinc_eq (f : Bytes) : rinc f = inc f := by
  unfold rinc inc
  rw [carryTo_cF f 16 0 rfl]
  exact cF_one f 16
theorem rpad_hit (B k : Bytes) (n : Nat) (s : RSt) (h : n % 16 = 0) : rpad B k n s = ⟨rinc s.at_, rblk B k s.at_, s.out⟩ := if_pos h
theorem rpad_miss (B k : Bytes) (n : Nat) (s : RSt) (h : ¬ n % 16 = 0) : rpad B k n s = s := if_neg h
theorem rput_pad (b : Bytes) (n : Nat) (s : RSt) : (rput b n s).pad = s.pad := rfl
theorem rput_at (b : Bytes) (n : Nat) (s : RSt) : (rput b n s).at_ = s.at_ := rfl
theorem rput_out (b : Bytes) (n : Nat) (s : RSt) : (rput b n s).out = s.out ++ [gb b n ^^^ gb s.pad (n % 16)] := rfl
theorem rst_succ (B k f b : Bytes) (n : Nat) : rstTo B k f b (n+1) = rput b n (rpad B k n (rstTo B k f b n)) := rfl
theorem rst_at (B k f b : Bytes) (n : Nat) : (rstTo B k f b n).at_ = incN f ((n + 15) / 16) := by
  induction n with
  | zero => rfl
  | succ n ih =>
    rw [rst_succ, rput_at]
    by_cases h : n % 16 = 0
    · rw [rpad_hit _ _ _ _ h]
      dsimp only
      rw [rinc_eq, ih, show (n + 1 + 15) / 16 = (n + 15) / 16 + 1 by omega, incN]
    · rw [rpad_miss _ _ _ _ h, ih, show (n + 1 + 15) / 16 = (n + 15) / 16 by omega]
theorem rst_pad (B k f b : Bytes) (n : Nat) : (rpad B k n (rstTo B k f b n)).pad = rblk B k (incN f (n / 16)) := by
  induction n with
  | zero =>
    rw [rpad_hit _ _ _ _ (by omega)]
    dsimp only
    rw [rst_at]
  | succ n ih =>
    by_cases h : (n + 1) % 16 = 0
    · rw [rpad_hit _ _ _ _ h]
      dsimp only
      rw [rst_at, show (n + 1 + 15) / 16 = (n + 1) / 16 by omega]
    · rw [rpad_miss _ _ _ _ h, rst_succ, rput_pad, ih, show (n + 1) / 16 = n / 16 by omega]
theorem rst_out (B k f b : Bytes) (n : Nat) (hn : n ≤ b.length) : (rstTo B k f b n).out.length = n ∧ ∀ j, j < n → gb (rstTo B k f b n).out j = gb b j ^^^ gb (rblk B k (incN f (j / 16))) (j % 16) := by
  induction n with
  | zero => exact ⟨rfl, fun j hj => absurd hj (by omega)⟩
  | succ n ih =>
    obtain ⟨h1, h2⟩ := ih (by omega)
    have ho : (rpad B k n (rstTo B k f b n)).out = (rstTo B k f b n).out := by
      by_cases h : n % 16 = 0
      · rw [rpad_hit _ _ _ _ h]
      · rw [rpad_miss _ _ _ _ h]
    rw [rst_succ, rput_out, ho, rst_pad]
    refine ⟨by rw [List.length_append, h1]; rfl, fun j hj => ?_⟩
    rw [gb_app _ _ _ (by omega), h1]
    by_cases h : j = n
    · rw [if_pos h, h]
    · rw [if_neg h, h2 j (by omega)]
theorem stream_eq (k f b : Bytes) (hk : k.length = 16) (hf : f.length = 16) : stream sbox (keys sbox k) f b = rstream rboxes k f b := by
  obtain ⟨h1, h2⟩ := rst_out rboxes k f b b.length (Nat.le_refl _)
  refine ext_gb _ _ ((stream_len _ _ _ _).trans h1.symm) fun j hj => ?_
  rw [stream_len] at hj
  rw [stream_at _ _ _ _ _ hj]
  rw [rstream, h2 j hj, block_eq k _ hk ((incN_len _ _).trans hf)]
/-- What bytes become becomes them. -/
theorem stream_back (B K f b : Bytes) : stream B K f (stream B K f b) = b := by
  refine ext_gb _ _ ((stream_len _ _ _ _).trans (stream_len _ _ _ _)) fun j hj => ?_
  rw [stream_len, stream_len] at hj
  rw [stream_at _ _ _ _ _ (by rw [stream_len]; exact hj), stream_at _ _ _ _ _ hj, UInt8.xor_assoc, UInt8.xor_self, UInt8.xor_zero]
theorem gb_take (l : Bytes) (n j : Nat) (hj : j < n) : gb (l.take n) j = gb l j := by
  simp [gb, hj]
theorem stream_take (B K f b : Bytes) (n : Nat) : stream B K f (b.take n) = (stream B K f b).take n := by
  refine ext_gb _ _ (by simp [stream_len]) fun j hj => ?_
  rw [stream_len, List.length_take] at hj
  rw [stream_at _ _ _ _ _ (by rw [List.length_take]; exact hj), gb_take _ _ _ (by omega), gb_take _ _ _ (by omega), stream_at _ _ _ _ _ (by omega)]
theorem gb_drop (l : Bytes) (n j : Nat) : gb (l.drop n) j = gb l (n + j) := by
  simp [gb]
/-- From the seventeenth on. -/
theorem stream_drop (B K f b : Bytes) : stream B K (inc f) (b.drop 16) = (stream B K f b).drop 16 := by
  refine ext_gb _ _ (by simp [stream_len]) fun j hj => ?_
  rw [stream_len, List.length_drop] at hj
  have hi : incN (inc f) (j / 16) = incN f (1 + j / 16) := (incN_add f 1 (j / 16)).symm
  rw [stream_at _ _ _ _ _ (by rw [List.length_drop]; exact hj), gb_drop, gb_drop, stream_at _ _ _ _ _ (by omega), hi, show (16 + j) / 16 = 1 + j / 16 by omega, show (16 + j) % 16 = j % 16 by omega]
theorem gb_zeros (n j : Nat) : gb (List.replicate n 0) j = 0 := by
  unfold gb
  rw [List.getD_eq_getElem?_getD, List.getElem?_replicate]
  split <;> rfl
/-- What sixteen 0s become. -/
theorem stream_zeros (B K f : Bytes) (h : (blk B K f).length = 16) : stream B K f (List.replicate 16 0) = blk B K f := by
  refine ext_gb _ _ (by rw [stream_len, h]; rfl) fun j hj => ?_
  rw [stream_len, List.length_replicate] at hj
  rw [stream_at _ _ _ _ _ (by rw [List.length_replicate]; exact hj), gb_zeros, UInt8.zero_xor, show j / 16 = 0 by omega, show j % 16 = j by omega]; rfl
end Go.Proofs.Ytjjcnijdjhhdoaa
