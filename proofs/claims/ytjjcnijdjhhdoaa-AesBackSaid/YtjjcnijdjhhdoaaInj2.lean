/- The block's cipher: unlike blocks become unlike ones (joined). -/
import Derived.Test.YtjjcnijdjhhdoaaInj
import Derived.Test.YtjjcnijdjhhdoaaSame
namespace Go.Proofs.Ytjjcnijdjhhdoaa
def sboxI : Bytes := [82, 9, 106, 213, 48, 54, 165, 56, 191, 64, 163, 158, 129, 243, 215, 251, 124, 227, 57, 130, 155, 47, 255, 135, 52, 142, 67, 68, 196, 222, 233, 203, 84, 123, 148, 50, 166, 194, 35, 61, 238, 76, 149, 11, 66, 250, 195, 78, 8, 46, 161, 102, 40, 217, 36, 178, 118, 91, 162, 73, 109, 139, 209, 37, 114, 248, 246, 100, 134, 104, 152, 22, 212, 164, 92, 204, 93, 101, 182, 146, 108, 112, 72, 80, 253, 237, 185, 218, 94, 21, 70, 87, 167, 141, 157, 132, 144, 216, 171, 0, 140, 188, 211, 10, 247, 228, 88, 5, 184, 179, 69, 6, 208, 44, 30, 143, 202, 63, 15, 2, 193, 175, 189, 3, 1, 19, 138, 107, 58, 145, 17, 65, 79, 103, 220, 234, 151, 242, 207, 206, 240, 180, 230, 115, 150, 172, 116, 34, 231, 173, 53, 133, 226, 249, 55, 232, 28, 117, 223, 110, 71, 241, 26, 113, 29, 41, 197, 137, 111, 183, 98, 14, 170, 24, 190, 27, 252, 86, 62, 75, 198, 210, 121, 32, 154, 219, 192, 254, 120, 205, 90, 244, 31, 221, 168, 51, 136, 7, 199, 49, 177, 18, 16, 89, 39, 128, 236, 95, 96, 81, 127, 169, 25, 181, 74, 13, 45, 229, 122, 159, 147, 201, 156, 239, 160, 224, 59, 77, 174, 42, 245, 176, 200, 235, 187, 60, 131, 83, 153, 97, 23, 43, 4, 126, 186, 119, 214, 38, 225, 105, 20, 99, 85, 33, 12, 125]
set_option maxRecDepth 100000 in
theorem sboxI_all (x : UInt8) : gb sboxI (nb (gb sboxT (nb x))) = x := by
  have := all8 (fun x => decide (gb sboxI (nb (gb sboxT (nb x))) = x)) (by decide +kernel) x
  simpa using this
theorem sbox_inj {x y : UInt8} (h : gb sbox (nb x) = gb sbox (nb y)) : x = y := by
  rw [sbox_eq] at h
  rw [← sboxI_all x, h, sboxI_all]
theorem add_inj (s t K : Bytes) (o : Nat) (hs : s.length = 16) (ht : t.length = 16) (h : addTo s K o 16 = addTo t K o 16) : s = t := by
  obtain ⟨a0, a1, a2, a3, a4, a5, a6, a7, a8, a9, a10, a11, a12, a13, a14, a15, rfl⟩ := l16 s hs
  obtain ⟨b0, b1, b2, b3, b4, b5, b6, b7, b8, b9, b10, b11, b12, b13, b14, b15, rfl⟩ := l16 t ht
  simp only [addTo, gb, List.set_cons_zero, List.set_cons_succ, List.getD_cons_zero, List.getD_cons_succ, List.cons.injEq, and_true] at h
  obtain ⟨h0, h1, h2, h3, h4, h5, h6, h7, h8, h9, h10, h11, h12, h13, h14, h15⟩ := h
  rw [xor_cancel' h0, xor_cancel' h1, xor_cancel' h2, xor_cancel' h3, xor_cancel' h4, xor_cancel' h5, xor_cancel' h6, xor_cancel' h7, xor_cancel' h8, xor_cancel' h9, xor_cancel' h10, xor_cancel' h11, xor_cancel' h12, xor_cancel' h13, xor_cancel' h14, xor_cancel' h15]
theorem sub_form (B s : Bytes) : subTo B s 16 = (List.range 16).map fun i => gb B (nb (gb s ((i+4*(i%4))%16))) := rfl
theorem sub_inj (s t : Bytes) (hs : s.length = 16) (ht : t.length = 16) (h : subTo sbox s 16 = subTo sbox t 16) : s = t := by
  obtain ⟨a0, a1, a2, a3, a4, a5, a6, a7, a8, a9, a10, a11, a12, a13, a14, a15, rfl⟩ := l16 s hs
  obtain ⟨b0, b1, b2, b3, b4, b5, b6, b7, b8, b9, b10, b11, b12, b13, b14, b15, rfl⟩ := l16 t ht
  rw [sub_form, sub_form] at h
  have g : ∀ i, i < 16 → gb sbox (nb (gb [a0, a1, a2, a3, a4, a5, a6, a7, a8, a9, a10, a11, a12, a13, a14, a15] ((i+4*(i%4))%16))) = gb sbox (nb (gb [b0, b1, b2, b3, b4, b5, b6, b7, b8, b9, b10, b11, b12, b13, b14, b15] ((i+4*(i%4))%16))) := by
    intro i hi
    have := congrArg (fun l => l[i]?) h
    simp only [List.getElem?_map, List.getElem?_range hi, Option.map_some, Option.some.injEq] at this
    exact this
  have h0 : a0 = b0 := sbox_inj (g 0 (by omega))
  have h1 : a1 = b1 := sbox_inj (g 13 (by omega))
  have h2 : a2 = b2 := sbox_inj (g 10 (by omega))
  have h3 : a3 = b3 := sbox_inj (g 7 (by omega))
  have h4 : a4 = b4 := sbox_inj (g 4 (by omega))
  have h5 : a5 = b5 := sbox_inj (g 1 (by omega))
  have h6 : a6 = b6 := sbox_inj (g 14 (by omega))
  have h7 : a7 = b7 := sbox_inj (g 11 (by omega))
  have h8 : a8 = b8 := sbox_inj (g 8 (by omega))
  have h9 : a9 = b9 := sbox_inj (g 5 (by omega))
  have h10 : a10 = b10 := sbox_inj (g 2 (by omega))
  have h11 : a11 = b11 := sbox_inj (g 15 (by omega))
  have h12 : a12 = b12 := sbox_inj (g 12 (by omega))
  have h13 : a13 = b13 := sbox_inj (g 9 (by omega))
  have h14 : a14 = b14 := sbox_inj (g 6 (by omega))
  have h15 : a15 = b15 := sbox_inj (g 3 (by omega))
  rw [h0, h1, h2, h3, h4, h5, h6, h7, h8, h9, h10, h11, h12, h13, h14, h15]
theorem mix_inj (s t : Bytes) (hs : s.length = 16) (ht : t.length = 16) (h : mixTo s 4 = mixTo t 4) : s = t := by
  obtain ⟨a0, a1, a2, a3, a4, a5, a6, a7, a8, a9, a10, a11, a12, a13, a14, a15, rfl⟩ := l16 s hs
  obtain ⟨b0, b1, b2, b3, b4, b5, b6, b7, b8, b9, b10, b11, b12, b13, b14, b15, rfl⟩ := l16 t ht
  simp only [mixTo, mixCol, gb, prod2, prod3, Nat.reduceMul, Nat.reduceAdd, List.set_cons_zero, List.set_cons_succ, List.getD_cons_zero, List.getD_cons_succ, List.cons.injEq, and_true] at h
  obtain ⟨h0, h1, h2, h3, h4, h5, h6, h7, h8, h9, h10, h11, h12, h13, h14, h15⟩ := h
  obtain ⟨g0, g1, g2, g3⟩ := col_inj a0 a1 a2 a3 b0 b1 b2 b3 h0 h1 h2 h3
  obtain ⟨g4, g5, g6, g7⟩ := col_inj a4 a5 a6 a7 b4 b5 b6 b7 h4 h5 h6 h7
  obtain ⟨g8, g9, g10, g11⟩ := col_inj a8 a9 a10 a11 b8 b9 b10 b11 h8 h9 h10 h11
  obtain ⟨g12, g13, g14, g15⟩ := col_inj a12 a13 a14 a15 b12 b13 b14 b15 h12 h13 h14 h15
  rw [g0, g1, g2, g3, g4, g5, g6, g7, g8, g9, g10, g11, g12, g13, g14, g15]
theorem put_form (s t K : Bytes) (o : Nat) (hs : s.length = 16) : putTo s t K o 16 = (List.range 16).map fun i => gb t i ^^^ gb K (o + i) := by
  obtain ⟨a0, a1, a2, a3, a4, a5, a6, a7, a8, a9, a10, a11, a12, a13, a14, a15, rfl⟩ := l16 s hs
  rfl
theorem put_inj (s s' t t' K : Bytes) (o : Nat) (hs : s.length = 16) (hs' : s'.length = 16) (ht : t.length = 16) (ht' : t'.length = 16) (h : putTo s t K o 16 = putTo s' t' K o 16) : t = t' := by
  rw [put_form _ _ _ _ hs, put_form _ _ _ _ hs'] at h
  refine same_eq _ _ (ht.trans ht'.symm) fun i hi => ?_
  have := congrArg (fun l => l[i]?) h
  simp only [List.getElem?_map, List.getElem?_range (ht ▸ hi), Option.map_some, Option.some.injEq] at this
  exact xor_cancel' this
theorem rounds_inj (K b c : Bytes) (hb : b.length = 16) (hc : c.length = 16) (n : Nat) (h : roundsTo sbox K b n = roundsTo sbox K c n) : b = c := by
  induction n with
  | zero => exact add_inj _ _ _ _ hb hc h
  | succ n ih =>
    rw [roundsTo, roundsTo] at h
    have l1 := (len16_rounds sbox K b n).trans hb
    have l2 := (len16_rounds sbox K c n).trans hc
    refine ih (sub_inj _ _ l1 l2 ?_)
    by_cases h9 : n + 1 < 10
    · rw [if_pos h9, if_pos h9] at h
      exact mix_inj _ _ (len16_sub _ _ _) (len16_sub _ _ _) (put_inj _ _ _ _ _ _ l1 l2 ((len16_mix _ _).trans (len16_sub _ _ _)) ((len16_mix _ _).trans (len16_sub _ _ _)) h)
    · rw [if_neg h9, if_neg h9] at h
      exact put_inj _ _ _ _ _ _ l1 l2 (len16_sub _ _ _) (len16_sub _ _ _) h
theorem blk_inj (K b c : Bytes) (hb : b.length = 16) (hc : c.length = 16) (h : blk sbox K b = blk sbox K c) : b = c := rounds_inj K b c hb hc 10 h
end Go.Proofs.Ytjjcnijdjhhdoaa
