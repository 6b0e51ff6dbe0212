/- An array of sixteen bytes, opened and shut. (Texts laid one behind the other: AesT, AesP, AesK, AesE, StmR, RSeal6, ROpen6, Law6, RIto, OpenB.) -/
import Derived.Shelf.Strconv.Itoa3
import Derived.Ground.NamesProg
import Derived.Stop.LaidErr
import Derived.LaidByTextLater
import Derived.Test.YtpkelokaammmjaaDoorRows
import Derived.ProofKit
import Derived.Test.YtpkelokaammmjaaDoorCA10
/-! The box, written out; the document's example. -/
section
namespace Go.Proofs.YtpkelokaammmjaaDoor
def sboxT : Bytes := [99, 124, 119, 123, 242, 107, 111, 197, 48, 1, 103, 43, 254, 215, 171, 118, 202, 130, 201, 125, 250, 89, 71, 240, 173, 212, 162, 175, 156, 164, 114, 192, 183, 253, 147, 38, 54, 63, 247, 204, 52, 165, 229, 241, 113, 216, 49, 21, 4, 199, 35, 195, 24, 150, 5, 154, 7, 18, 128, 226, 235, 39, 178, 117, 9, 131, 44, 26, 27, 110, 90, 160, 82, 59, 214, 179, 41, 227, 47, 132, 83, 209, 0, 237, 32, 252, 177, 91, 106, 203, 190, 57, 74, 76, 88, 207, 208, 239, 170, 251, 67, 77, 51, 133, 69, 249, 2, 127, 80, 60, 159, 168, 81, 163, 64, 143, 146, 157, 56, 245, 188, 182, 218, 33, 16, 255, 243, 210, 205, 12, 19, 236, 95, 151, 68, 23, 196, 167, 126, 61, 100, 93, 25, 115, 96, 129, 79, 220, 34, 42, 144, 136, 70, 238, 184, 20, 222, 94, 11, 219, 224, 50, 58, 10, 73, 6, 36, 92, 194, 211, 172, 98, 145, 149, 228, 121, 231, 200, 55, 109, 141, 213, 78, 169, 108, 86, 244, 234, 101, 122, 174, 8, 186, 120, 37, 46, 28, 166, 180, 198, 232, 221, 116, 31, 75, 189, 139, 138, 112, 62, 181, 102, 72, 3, 246, 14, 97, 53, 87, 185, 134, 193, 29, 158, 225, 248, 152, 17, 105, 217, 142, 148, 155, 30, 135, 233, 206, 85, 40, 223, 140, 161, 137, 13, 191, 230, 66, 104, 65, 153, 45, 15, 176, 84, 187, 22]
set_option maxRecDepth 100000 in
theorem sbox_eq : sbox = sboxT := by decide +kernel
def exK : Bytes := (List.range 16).map UInt8.ofNat
def exB : Bytes := (List.range 16).map fun i => UInt8.ofNat (17 * i)
def exKs : Bytes := keys sboxT exK
set_option maxRecDepth 100000 in
theorem ex_ks : keys sboxT exK = [0, 1, 2, 3, 4, 5, 6, 7, 8, 9, 10, 11, 12, 13, 14, 15, 214, 170, 116, 253, 210, 175, 114, 250, 218, 166, 120, 241, 214, 171, 118, 254, 182, 146, 207, 11, 100, 61, 189, 241, 190, 155, 197, 0, 104, 48, 179, 254, 182, 255, 116, 78, 210, 194, 201, 191, 108, 89, 12, 191, 4, 105, 191, 65, 71, 247, 247, 188, 149, 53, 62, 3, 249, 108, 50, 188, 253, 5, 141, 253, 60, 170, 163, 232, 169, 159, 157, 235, 80, 243, 175, 87, 173, 246, 34, 170, 94, 57, 15, 125, 247, 166, 146, 150, 167, 85, 61, 193, 10, 163, 31, 107, 20, 249, 112, 26, 227, 95, 226, 140, 68, 10, 223, 77, 78, 169, 192, 38, 71, 67, 135, 53, 164, 28, 101, 185, 224, 22, 186, 244, 174, 191, 122, 210, 84, 153, 50, 209, 240, 133, 87, 104, 16, 147, 237, 156, 190, 44, 151, 78, 19, 17, 29, 127, 227, 148, 74, 23, 243, 7, 167, 139, 77, 43, 48, 197] := by decide +kernel
set_option maxRecDepth 100000 in
theorem ex_blk : blk sboxT (keys sboxT exK) exB = [105, 196, 224, 216, 106, 123, 4, 48, 216, 205, 183, 128, 112, 180, 197, 90] := by rw [ex_ks]; decide +kernel
end Go.Proofs.YtpkelokaammmjaaDoor
end
/-! The reference's table of boxes is the program's. -/
section
namespace Go.Proofs.YtpkelokaammmjaaDoor
def fm (a b : Nat) : Nat := (b % 2 * a) ^^^ (b / 2 % 2 * (a * 2)) ^^^ (b / 4 % 2 * (a * 4)) ^^^ (b / 8 % 2 * (a * 8)) ^^^ (b / 16 % 2 * (a * 16)) ^^^ (b / 32 % 2 * (a * 32)) ^^^ (b / 64 % 2 * (a * 64)) ^^^ (b / 128 % 2 * (a * 128))
def fr (d q n : Nat) : Nat := n ^^^ (n / d % 2 * q)
def fprod (a b : Nat) : Nat := fr 256 283 (fr 512 566 (fr 1024 1132 (fr 2048 2264 (fr 4096 4528 (fr 8192 9056 (fr 16384 18112 (fm a b))))))) % 256
def fpow (b : Nat) (n : Nat) : Nat := Nat.rec 1 (fun _ x => fprod x b) n
theorem ifx (c n q : Nat) : (if c % 2 = 1 then n ^^^ q else n) = n ^^^ (c % 2 * q) := by
  rcases Nat.mod_two_eq_zero_or_one c with h | h <;> simp [h]
theorem nb_of (n : Nat) : nb (UInt8.ofNat n) = n % 256 := by unfold nb; exact UInt8.toNat_ofNat'
theorem nb_rprod (a b : UInt8) : nb (rprod a b) = fprod (nb a) (nb b) := by
  unfold rprod fprod
  rw [nb_of]
  congr 1
  simp only [redTo, mulTo, ifx, fr, fm]
  simp
theorem nb_pow (b : UInt8) (n : Nat) : nb (powTo b n) = fpow (nb b) n := by
  induction n with
  | zero => unfold nb; rfl
  | succ n ih => rw [powTo, nb_rprod, ih]; rfl
def fox (n : Nat) : UInt8 := outTo (UInt8.ofNat n) 8
set_option maxRecDepth 100000 in
theorem fboxes : ((List.range 256).map fun i => fox (fpow i 254)) = sboxT := by decide +kernel
theorem nb_back (b : UInt8) : UInt8.ofNat (nb b) = b := by unfold nb; simp
theorem rbox_f (n : Nat) (h : n < 256) : rbox (UInt8.ofNat n) = fox (fpow n 254) := by
  unfold rbox fox
  rw [← nb_back (powTo (UInt8.ofNat n) 254), nb_pow, nb_of, Nat.mod_eq_of_lt h]
theorem boxes_f (n : Nat) (h : n ≤ 256) : boxesTo n = (List.range n).map fun i => fox (fpow i 254) := by
  induction n with
  | zero => rfl
  | succ n ih => rw [boxesTo, ih (by omega), rbox_f n (by omega), List.range_succ, List.map_append]; rfl
theorem rboxes_eq : rboxes = sbox := by
  rw [sbox_eq, ← fboxes]
  exact boxes_f 256 (Nat.le_refl _)
end Go.Proofs.YtpkelokaammmjaaDoor
end
/-! The keys of the program and of the reference are the same. -/
section
namespace Go.Proofs.YtpkelokaammmjaaDoor
theorem gb_set (l : Bytes) (i j : Nat) (v : UInt8) (h : i < l.length) : gb (l.set i v) j = if i = j then v else gb l j := by
  by_cases hij : i = j
  · subst hij; simp [gb, h]
  · simp [gb, hij]
theorem gb_app (l : Bytes) (v : UInt8) (j : Nat) (hj : j ≤ l.length) : gb (l ++ [v]) j = if j = l.length then v else gb l j := by
  unfold gb
  by_cases h2 : j = l.length
  · subst h2; simp
  · rw [if_neg h2, List.getD_eq_getElem?_getD, List.getD_eq_getElem?_getD, List.getElem?_append_left (by omega)]
theorem keyRow_len (B K was : Bytes) (r : UInt8) (n i : Nat) : (keyRow B K was r n i).length = K.length := by
  induction i with
  | zero => rfl
  | succ i ih => exact List.length_set.trans ih
theorem keyRow_lo (B K was : Bytes) (r : UInt8) (n i j : Nat) (hK : 16 * n + i ≤ K.length) (hj : j < 16 * n) : gb (keyRow B K was r n i) j = gb K j := by
  induction i with
  | zero => rfl
  | succ i ih => rw [keyRow, gb_set _ _ _ _ (by rw [keyRow_len]; omega), if_neg (by omega), ih (by omega)]
theorem keyRow_keep (B K was : Bytes) (r : UInt8) (n i d j : Nat) (hK : 16 * n + (i + d) ≤ K.length) (hj : j < 16 * n + i) : gb (keyRow B K was r n (i + d)) j = gb (keyRow B K was r n i) j := by
  induction d with
  | zero => rfl
  | succ d ih => rw [← Nat.add_assoc, keyRow, gb_set _ _ _ _ (by rw [keyRow_len]; omega), if_neg (by omega), ih (by omega)]
theorem keyRow_new (B K was : Bytes) (r : UInt8) (n i : Nat) (hi : i < 16) (hK : 16 * n + 16 ≤ K.length) : gb (keyRow B K was r n 16) (16 * n + i) = keyByte B (keyRow B K was r n i) was r n i := by
  have h := keyRow_keep B K was r n (i + 1) (15 - i) (16 * n + i) (by omega) (by omega)
  rw [show i + 1 + (15 - i) = 16 by omega] at h
  rw [h, keyRow, gb_set _ _ _ _ (by rw [keyRow_len]; omega), if_pos rfl]
theorem keysTo_len (B k : Bytes) (n : Nat) (hk : k.length = 16) : (keysTo B k n).1.length = 176 := by
  induction n with
  | zero => simp [keysTo, hk]
  | succ n ih => exact (keyRow_len _ _ _ _ _ _).trans ih
theorem keysTo_keep (B k : Bytes) (hk : k.length = 16) (n d j : Nat) (hn : n + d ≤ 10) (hj : j < 16 * (n + 1)) : gb (keysTo B k (n + d)).1 j = gb (keysTo B k n).1 j := by
  induction d with
  | zero => rfl
  | succ d ih =>
    rw [← Nat.add_assoc, keysTo]
    show gb (keyRow _ _ _ _ _ _) j = _
    rw [keyRow_lo _ _ _ _ _ _ _ (by rw [keysTo_len _ _ _ hk]; omega) (by omega), ih (by omega)]
theorem keys_at (B k : Bytes) (hk : k.length = 16) (n j : Nat) (hn : n ≤ 10) (hj : j < 16 * (n + 1)) : gb (keys B k) j = gb (keysTo B k n).1 j := by
  have := keysTo_keep B k hk n (10 - n) j (by omega) hj
  rwa [show n + (10 - n) = 10 by omega] at this
def rc : Nat → UInt8
  | 0 => 1
  | n+1 => dbl (rc n)
theorem keysTo_r (B k : Bytes) (n : Nat) : (keysTo B k n).2 = rc n := by
  induction n with
  | zero => rfl
  | succ n ih => show dbl _ = _; rw [ih]; rfl
theorem gb_slice (l : Bytes) (a n j : Nat) (hj : j < n) : gb ((l.drop a).take n) j = gb l (a + j) := by
  simp [gb, hj]
theorem keys_rec (B k : Bytes) (hk : k.length = 16) (n i : Nat) (hn : n < 10) (hi : i < 16) :
    gb (keys B k) (16 * (n + 1) + i) = if 4 ≤ i then gb (keys B k) (16 * n + i) ^^^ gb (keys B k) (16 * (n + 1) + (i - 4))
      else if i = 0 then gb (keys B k) (16 * n + i) ^^^ gb B (nb (gb (keys B k) (16 * n + (12 + (i + 1) % 4)))) ^^^ rc n else gb (keys B k) (16 * n + i) ^^^ gb B (nb (gb (keys B k) (16 * n + (12 + (i + 1) % 4)))) := by
  have hl := keysTo_len B k n hk
  rw [keys_at B k hk (n + 1) _ (by omega) (by omega), keysTo]
  show gb (keyRow _ _ _ _ _ _) _ = _
  rw [keyRow_new _ _ _ _ _ _ hi (by rw [hl]; omega), keyByte, gb_slice _ _ _ _ hi, gb_slice _ _ _ _ (by omega), keysTo_r]
  rw [keys_at B k hk n (16 * n + i) (by omega) (by omega), keys_at B k hk n (16 * n + (12 + (i + 1) % 4)) (by omega) (by omega)]
  by_cases h4 : 4 ≤ i
  · have h0 : ¬ i = 0 := by omega
    simp only [h4, h0, if_true, if_false]
    rw [keys_at B k hk (n + 1) _ (by omega) (by omega), keysTo]
    show _ ^^^ gb (keyRow _ _ _ _ _ _) _ = _ ^^^ gb (keyRow _ _ _ _ _ _) _
    have h := keyRow_keep B (keysTo B k n).1 (((keysTo B k n).1.drop (16 * n)).take 16) (keysTo B k n).2 (n + 1) i (16 - i) (16 * (n + 1) + (i - 4)) (by rw [hl]; omega) (by omega)
    rw [show i + (16 - i) = 16 by omega, keysTo_r] at h
    rw [keysTo_r, h]
  · by_cases h0 : i = 0 <;> simp [h4, h0]
theorem rkRow_len (out t : Bytes) (n k : Nat) : (rkRow out t n k).length = out.length + k := by
  induction k with
  | zero => rfl
  | succ k ih => rw [rkRow, List.length_append, ih]; rfl
theorem rkRow_old (out t : Bytes) (n k j : Nat) (hj : j < out.length) : gb (rkRow out t n k) j = gb out j := by
  induction k with
  | zero => rfl
  | succ k ih => rw [rkRow, gb_app _ _ _ (by rw [rkRow_len]; omega), if_neg (by rw [rkRow_len]; omega), ih]
theorem rkRow_new (out t : Bytes) (n k K : Nat) (hk : k < K) (h16 : 16 ≤ n) (hl : out.length = n) (hK : K ≤ 4) : gb (rkRow out t n K) (n + k) = gb out (n + k - 16) ^^^ gb t k := by
  induction K with
  | zero => omega
  | succ K ih =>
    rw [rkRow, gb_app _ _ _ (by rw [rkRow_len]; omega), rkRow_len, hl]
    by_cases h : k = K
    · subst h
      rw [if_pos rfl, rkRow_old _ _ _ _ _ (by omega)]
    · rw [if_neg (by omega), ih (by omega) (by omega)]
theorem rkTo_len (B k : Bytes) (hk : k.length = 16) (m : Nat) : (rkTo B k m).1.length = 16 + 4 * m := by
  induction m with
  | zero => exact hk
  | succ m ih => rw [rkTo, rkRow_len, ih]; omega
theorem rkTo_keep (B k : Bytes) (hk : k.length = 16) (m d j : Nat) (hj : j < 16 + 4 * m) : gb (rkTo B k (m + d)).1 j = gb (rkTo B k m).1 j := by
  induction d with
  | zero => rfl
  | succ d ih =>
    rw [← Nat.add_assoc, rkTo]
    show gb (rkRow _ _ _ _) j = _
    rw [rkRow_old _ _ _ _ _ (by rw [rkTo_len _ _ hk]; omega), ih]
theorem rkeys_at (B k : Bytes) (hk : k.length = 16) (m j : Nat) (hm : m ≤ 40) (hj : j < 16 + 4 * m) : gb (rkeys B k) j = gb (rkTo B k m).1 j := by
  have := rkTo_keep B k hk m (40 - m) j hj
  rwa [show m + (40 - m) = 40 by omega] at this
theorem rprod_2 (r : UInt8) : rprod r 2 = dbl r := by
  have := all8 (fun r => decide (rprod r 2 = dbl r)) (by decide +kernel) r
  simpa using this
theorem rkTo_r (B k : Bytes) (m : Nat) : (rkTo B k m).2 = rc ((m + 3) / 4) := by
  induction m with
  | zero => rfl
  | succ m ih =>
    rw [rkTo]
    show (if _ then _ else _) = _
    rw [ih]
    by_cases h : (16 + 4 * m) % 16 = 0
    · rw [if_pos h, rprod_2, show (m + 1 + 3) / 4 = (m + 3) / 4 + 1 by omega]; rfl
    · rw [if_neg h, show (m + 1 + 3) / 4 = (m + 3) / 4 by omega]
theorem rkeys_rec (B k : Bytes) (hk : k.length = 16) (n i : Nat) (hn : n < 10) (hi : i < 16) :
    gb (rkeys B k) (16 * (n + 1) + i) = if 4 ≤ i then gb (rkeys B k) (16 * n + i) ^^^ gb (rkeys B k) (16 * (n + 1) + (i - 4))
      else if i = 0 then gb (rkeys B k) (16 * n + i) ^^^ gb B (nb (gb (rkeys B k) (16 * n + (12 + (i + 1) % 4)))) ^^^ rc n else gb (rkeys B k) (16 * n + i) ^^^ gb B (nb (gb (rkeys B k) (16 * n + (12 + (i + 1) % 4)))) := by
  obtain ⟨m, kk, hm, hkk, he⟩ : ∃ m kk, m = 4 * n + i / 4 ∧ kk < 4 ∧ i = 4 * (i / 4) + kk := ⟨4 * n + i / 4, i % 4, rfl, by omega, by omega⟩
  have hl := rkTo_len B k hk m
  have hr := rkTo_r B k m
  have hat : ∀ j, j < 16 + 4 * m → gb (rkeys B k) j = gb (rkTo B k m).1 j := fun j hj => rkeys_at B k hk m j (by omega) hj
  rw [rkeys_at B k hk (m + 1) _ (by omega) (by omega), rkTo]
  show gb (rkRow _ _ _ _) _ = _
  rw [show 16 * (n + 1) + i = (16 + 4 * m) + kk by omega, rkRow_new _ _ _ _ _ hkk (by omega) hl (Nat.le_refl _), rkT, hr]
  rw [hat (16 * n + i) (by omega), hat (16 * n + (12 + (i + 1) % 4)) (by omega), show 16 + 4 * m + kk - 16 = 16 * n + i by omega]
  generalize (rkTo B k m).1 = L at *
  by_cases h4 : 4 ≤ i
  · rw [if_neg (by omega), if_pos h4, hat _ (by omega)]
    have hk' : kk = 0 ∨ kk = 1 ∨ kk = 2 ∨ kk = 3 := by omega
    rcases hk' with rfl | rfl | rfl | rfl
    · show _ ^^^ gb L (16 + 4 * m - 4) = _; rw [show 16 * (n + 1) + (i - 4) = 16 + 4 * m - 4 by omega]
    · show _ ^^^ gb L (16 + 4 * m - 3) = _; rw [show 16 * (n + 1) + (i - 4) = 16 + 4 * m - 3 by omega]
    · show _ ^^^ gb L (16 + 4 * m - 2) = _; rw [show 16 * (n + 1) + (i - 4) = 16 + 4 * m - 2 by omega]
    · show _ ^^^ gb L (16 + 4 * m - 1) = _; rw [show 16 * (n + 1) + (i - 4) = 16 + 4 * m - 1 by omega]
  · rw [if_pos (by omega), if_neg h4]
    have hk' : i = 0 ∧ kk = 0 ∨ i = 1 ∧ kk = 1 ∨ i = 2 ∧ kk = 2 ∨ i = 3 ∧ kk = 3 := by omega
    have hrn : (m + 3) / 4 = n := by omega
    rw [hrn]
    rcases hk' with ⟨rfl, rfl⟩ | ⟨rfl, rfl⟩ | ⟨rfl, rfl⟩ | ⟨rfl, rfl⟩
    · show _ ^^^ (gb B (nb (gb L (16 + 4 * m - 3))) ^^^ rc n) = _
      rw [if_pos rfl, show 16 * n + (12 + (0 + 1) % 4) = 16 + 4 * m - 3 by omega, UInt8.xor_assoc]
    · show _ ^^^ gb B (nb (gb L (16 + 4 * m - 2))) = _
      rw [if_neg (by omega), show 16 * n + (12 + (1 + 1) % 4) = 16 + 4 * m - 2 by omega]
    · show _ ^^^ gb B (nb (gb L (16 + 4 * m - 1))) = _
      rw [if_neg (by omega), show 16 * n + (12 + (2 + 1) % 4) = 16 + 4 * m - 1 by omega]
    · show _ ^^^ gb B (nb (gb L (16 + 4 * m - 4))) = _
      rw [if_neg (by omega), show 16 * n + (12 + (3 + 1) % 4) = 16 + 4 * m - 4 by omega]
theorem keys_eq (B k : Bytes) (hk : k.length = 16) : rkeys B k = keys B k := by
  have h : ∀ I, I < 176 → gb (rkeys B k) I = gb (keys B k) I := by
    intro I
    induction I using Nat.strongRecOn with
    | _ I ih =>
      intro hI
      by_cases h16 : I < 16
      · rw [rkeys_at B k hk 0 I (by omega) (by omega), keys_at B k hk 0 I (by omega) (by omega)]
        show gb k I = gb (k ++ _) I
        unfold gb; rw [List.getD_eq_getElem?_getD, List.getD_eq_getElem?_getD, List.getElem?_append_left (by omega)]
      · obtain ⟨n, i, hn, hi, rfl⟩ : ∃ n i, n < 10 ∧ i < 16 ∧ I = 16 * (n + 1) + i := ⟨I / 16 - 1, I % 16, by omega, by omega, by omega⟩
        rw [rkeys_rec B k hk n i hn hi, keys_rec B k hk n i hn hi, ih (16 * n + i) (by omega) (by omega), ih (16 * n + (12 + (i + 1) % 4)) (by omega) (by omega)]
        by_cases h4 : 4 ≤ i
        · rw [if_pos h4, if_pos h4, ih _ (by omega) (by omega)]
        · rw [if_neg h4, if_neg h4]
  apply List.ext_getElem
  · rw [show (keys B k).length = 176 from keysTo_len B k 10 hk]; exact rkTo_len B k hk 40
  · intro i h1 h2
    have := h i (by rw [show (keys B k).length = 176 from keysTo_len B k 10 hk] at h2; exact h2)
    simpa [gb, h1, h2] using this
end Go.Proofs.YtpkelokaammmjaaDoor
end
/-! The reference's block is the program's, for every key and block of sixteen bytes. -/
section
namespace Go.Proofs.YtpkelokaammmjaaDoor
theorem sub_eq (B s : Bytes) : rsubTo B s 4 = subTo B s 16 := by rfl
theorem l16e (l : Bytes) (h : l.length = 16) : ∃ a0 a1 a2 a3 a4 a5 a6 a7 a8 a9 a10 a11 a12 a13 a14 a15 : UInt8, l = [a0, a1, a2, a3, a4, a5, a6, a7, a8, a9, a10, a11, a12, a13, a14, a15] := by
  match l, h with
  | [a0, a1, a2, a3, a4, a5, a6, a7, a8, a9, a10, a11, a12, a13, a14, a15], _ => exact ⟨_, _, _, _, _, _, _, _, _, _, _, _, _, _, _, _, rfl⟩
theorem add_eq (b ks : Bytes) (hb : b.length = 16) : raddTo b ks 16 = addTo b ks 0 16 := by
  obtain ⟨a0, a1, a2, a3, a4, a5, a6, a7, a8, a9, a10, a11, a12, a13, a14, a15, rfl⟩ := l16e b hb
  simp [raddTo, addTo, gb]
theorem xor_eq (s t ks : Bytes) (n : Nat) (hs : s.length = 16) (ht : t.length = 16) : rxorTo t ks n 16 = putTo s t ks (16*n) 16 := by
  obtain ⟨a0, a1, a2, a3, a4, a5, a6, a7, a8, a9, a10, a11, a12, a13, a14, a15, rfl⟩ := l16e s hs
  obtain ⟨b0, b1, b2, b3, b4, b5, b6, b7, b8, b9, b10, b11, b12, b13, b14, b15, rfl⟩ := l16e t ht
  simp [rxorTo, putTo, gb]
theorem rprod2x (x : UInt8) : rprod 2 x = prod x 2 := by
  have := all8 (fun r => decide (rprod 2 r = prod r 2)) (by decide +kernel) x
  simpa using this
theorem rprod3x (x : UInt8) : rprod 3 x = prod x 3 := by
  have := all8 (fun r => decide (rprod 3 r = prod r 3)) (by decide +kernel) x
  simpa using this
theorem mix_eq (t : Bytes) (ht : t.length = 16) : rmixTo t 4 = mixTo t 4 := by
  obtain ⟨b0, b1, b2, b3, b4, b5, b6, b7, b8, b9, b10, b11, b12, b13, b14, b15, rfl⟩ := l16e t ht
  simp [rmixTo, rmixRow, mixTo, mixCol, gb, rprod2x, rprod3x]
  and_intros <;> ac_rfl
theorem len16_add (s K : Bytes) (o n : Nat) : (addTo s K o n).length = s.length := by
  induction n with
  | zero => rfl
  | succ n ih => exact List.length_set.trans ih
theorem len16_sub (B s : Bytes) (n : Nat) : (subTo B s n).length = 16 := by
  induction n with
  | zero => rfl
  | succ n ih => exact List.length_set.trans ih
theorem len16_put (s t K : Bytes) (o n : Nat) : (putTo s t K o n).length = s.length := by
  induction n with
  | zero => rfl
  | succ n ih => exact List.length_set.trans ih
theorem len16_mixCol (t : Bytes) (a : Nat) : (mixCol t a).length = t.length := by
  simp [mixCol]
theorem len16_mix (t : Bytes) (n : Nat) : (mixTo t n).length = t.length := by
  induction n with
  | zero => rfl
  | succ n ih => exact (len16_mixCol _ _).trans ih
theorem len16_rounds (B K b : Bytes) (n : Nat) : (roundsTo B K b n).length = b.length := by
  induction n with
  | zero => exact len16_add _ _ _ _
  | succ n ih => exact (len16_put _ _ _ _ _).trans ih
theorem rounds_eq (B ks b : Bytes) (hb : b.length = 16) (n : Nat) : rrounds B ks b n = roundsTo B ks b n := by
  induction n with
  | zero => exact add_eq b ks hb
  | succ n ih =>
    have hl : (roundsTo B ks b n).length = 16 := (len16_rounds _ _ _ _).trans hb
    rw [rrounds, roundsTo, ih, sub_eq, mix_eq _ (len16_sub _ _ _)]
    refine xor_eq _ _ _ _ hl ?_
    split
    · exact (len16_mix _ _).trans (len16_sub _ _ _)
    · exact len16_sub _ _ _
theorem block_eq (k b : Bytes) (hk : k.length = 16) (hb : b.length = 16) : blk sbox (keys sbox k) b = rblk rboxes k b := by
  rw [rboxes_eq, rblk, rounds_eq _ _ _ hb, keys_eq _ _ hk]; rfl
end Go.Proofs.YtpkelokaammmjaaDoor
end
/-! Streams: the program's and the reference's are the same. -/
section
namespace Go.Proofs.YtpkelokaammmjaaDoor
theorem nb_inj {a b : UInt8} (h : nb a = nb b) : a = b := by rw [← nb_back a, ← nb_back b, h]
/-- Steps of the reference's carry, from place n on down. -/
def cF (f : Bytes) (c : Nat) : Nat → Bytes × Nat
  | 0 => (f, c)
  | n+1 => cF (f.set n (UInt8.ofNat ((nb (gb f n) + c) % 256))) ((nb (gb f n) + c) / 256) n
theorem carryTo_cf (f : Bytes) (n j : Nat) (hn : j + n = 16) : carryTo f 16 = cF (carryTo f j).1 (carryTo f j).2 n := by
  induction n generalizing j with
  | zero => rw [show j = 16 by omega]; rfl
  | succ n ih =>
    have hs : carryTo f (j + 1) = ((carryTo f j).1.set n (UInt8.ofNat ((nb (gb (carryTo f j).1 n) + (carryTo f j).2) % 256)), (nb (gb (carryTo f j).1 n) + (carryTo f j).2) / 256) := by
      rw [carryTo, show 15 - j = n by omega]
    rw [ih (j + 1) (by omega), cF, hs]
theorem set_own (f : Bytes) (n : Nat) : f.set n (gb f n) = f := by
  by_cases h : n < f.length
  · simp [gb, h]
  · exact List.set_eq_of_length_le (by omega)
theorem cfzero (f : Bytes) (n : Nat) : (cF f 0 n).1 = f := by
  induction n generalizing f with
  | zero => rfl
  | succ n ih =>
    have h := nb_lt (gb f n)
    rw [cF, Nat.add_zero, Nat.mod_eq_of_lt h, nb_back, set_own, Nat.div_eq_of_lt h, ih]
theorem cfone (f : Bytes) (n : Nat) : (cF f 1 n).1 = incFrom f n := by
  induction n generalizing f with
  | zero => rfl
  | succ n ih =>
    have h := nb_lt (gb f n)
    rw [cF, incFrom]
    have h1 : nb (gb f n + 1) = (nb (gb f n) + 1) % 256 := by unfold nb; exact UInt8.toNat_add _ _
    by_cases h0 : gb f n + 1 = 0
    · rw [if_pos h0]
      have h2 : nb (gb f n) = 255 := by
        rw [h0] at h1
        have : nb 0 = 0 := by unfold nb; rfl
        omega
      rw [h2, ih]; rfl
    · rw [if_neg h0]
      have h2 : nb (gb f n) ≠ 255 := by
        intro h2
        rw [h2] at h1
        exact h0 (nb_inj (h1.trans (by unfold nb; rfl)))
      rw [show (nb (gb f n) + 1) / 256 = 0 by omega, cfzero, ← h1, nb_back]
theorem rinc_eq (f : Bytes) : rinc f = inc f := by
  unfold rinc inc
  rw [carryTo_cf f 16 0 rfl]
  exact cfone f 16
theorem rpad_hit (B k : Bytes) (n : Nat) (s : RSt) (h : n % 16 = 0) : rpad B k n s = ⟨rinc s.at_, rblk B k s.at_, s.out⟩ := if_pos h
theorem rpad_miss (B k : Bytes) (n : Nat) (s : RSt) (h : ¬ n % 16 = 0) : rpad B k n s = s := if_neg h
theorem rput_pad (b : Bytes) (n : Nat) (s : RSt) : (rput b n s).pad = s.pad := rfl
theorem rput_at (b : Bytes) (n : Nat) (s : RSt) : (rput b n s).at_ = s.at_ := rfl
theorem rput_out (b : Bytes) (n : Nat) (s : RSt) : (rput b n s).out = s.out ++ [gb b n ^^^ gb s.pad (n % 16)] := rfl
theorem rst_succ (B k f b : Bytes) (n : Nat) : rstTo B k f b (n+1) = rput b n (rpad B k n (rstTo B k f b n)) := rfl
theorem rst_at (B k f b : Bytes) (n : Nat) : (rstTo B k f b n).at_ = incN f ((n + 15) / 16) := by
  induction n with
  | zero => rfl
  | succ n ih =>
    rw [rst_succ, rput_at]
    by_cases h : n % 16 = 0
    · rw [rpad_hit _ _ _ _ h]
      dsimp only
      rw [rinc_eq, ih, show (n + 1 + 15) / 16 = (n + 15) / 16 + 1 by omega, incN]
    · rw [rpad_miss _ _ _ _ h, ih, show (n + 1 + 15) / 16 = (n + 15) / 16 by omega]
theorem rst_pad (B k f b : Bytes) (n : Nat) : (rpad B k n (rstTo B k f b n)).pad = rblk B k (incN f (n / 16)) := by
  induction n with
  | zero =>
    rw [rpad_hit _ _ _ _ (by omega)]
    dsimp only
    rw [rst_at]
  | succ n ih =>
    by_cases h : (n + 1) % 16 = 0
    · rw [rpad_hit _ _ _ _ h]
      dsimp only
      rw [rst_at, show (n + 1 + 15) / 16 = (n + 1) / 16 by omega]
    · rw [rpad_miss _ _ _ _ h, rst_succ, rput_pad, ih, show (n + 1) / 16 = n / 16 by omega]
theorem rst_out (B k f b : Bytes) (n : Nat) (hn : n ≤ b.length) : (rstTo B k f b n).out.length = n ∧ ∀ j, j < n → gb (rstTo B k f b n).out j = gb b j ^^^ gb (rblk B k (incN f (j / 16))) (j % 16) := by
  induction n with
  | zero => exact ⟨rfl, fun j hj => absurd hj (by omega)⟩
  | succ n ih =>
    obtain ⟨h1, h2⟩ := ih (by omega)
    have ho : (rpad B k n (rstTo B k f b n)).out = (rstTo B k f b n).out := by
      by_cases h : n % 16 = 0
      · rw [rpad_hit _ _ _ _ h]
      · rw [rpad_miss _ _ _ _ h]
    rw [rst_succ, rput_out, ho, rst_pad]
    refine ⟨by rw [List.length_append, h1]; rfl, fun j hj => ?_⟩
    rw [gb_app _ _ _ (by omega), h1]
    by_cases h : j = n
    · rw [if_pos h, h]
    · rw [if_neg h, h2 j (by omega)]
theorem stream_eq (k f b : Bytes) (hk : k.length = 16) (hf : f.length = 16) : stream sbox (keys sbox k) f b = rstream rboxes k f b := by
  obtain ⟨h1, h2⟩ := rst_out rboxes k f b b.length (Nat.le_refl _)
  refine ext_gb _ _ ((stream_len _ _ _ _).trans h1.symm) fun j hj => ?_
  rw [stream_len] at hj
  rw [stream_at _ _ _ _ _ hj]
  rw [rstream, h2 j hj, block_eq k _ hk ((incN_len _ _).trans hf)]
theorem gb_take (l : Bytes) (n j : Nat) (hj : j < n) : gb (l.take n) j = gb l j := by
  simp [gb, hj]
theorem stream_take (B K f b : Bytes) (n : Nat) : stream B K f (b.take n) = (stream B K f b).take n := by
  refine ext_gb _ _ (by simp [stream_len]) fun j hj => ?_
  rw [stream_len, List.length_take] at hj
  rw [stream_at _ _ _ _ _ (by rw [List.length_take]; exact hj), gb_take _ _ _ (by omega), gb_take _ _ _ (by omega), stream_at _ _ _ _ _ (by omega)]
theorem gb_drop (l : Bytes) (n j : Nat) : gb (l.drop n) j = gb l (n + j) := by
  simp [gb]
/-- From the seventeenth on. -/
theorem stream_drop (B K f b : Bytes) : stream B K (inc f) (b.drop 16) = (stream B K f b).drop 16 := by
  refine ext_gb _ _ (by simp [stream_len]) fun j hj => ?_
  rw [stream_len, List.length_drop] at hj
  have hi : incN (inc f) (j / 16) = incN f (1 + j / 16) := (incN_add f 1 (j / 16)).symm
  rw [stream_at _ _ _ _ _ (by rw [List.length_drop]; exact hj), gb_drop, gb_drop, stream_at _ _ _ _ _ (by omega), hi, show (16 + j) / 16 = 1 + j / 16 by omega, show (16 + j) % 16 = j % 16 by omega]
theorem gb_zeros (n j : Nat) : gb (List.replicate n 0) j = 0 := by
  unfold gb
  rw [List.getD_eq_getElem?_getD, List.getElem?_replicate]
  split <;> rfl
/-- What sixteen 0s become. -/
theorem stream_zeros (B K f : Bytes) (h : (blk B K f).length = 16) : stream B K f (List.replicate 16 0) = blk B K f := by
  refine ext_gb _ _ (by rw [stream_len, h]; rfl) fun j hj => ?_
  rw [stream_len, List.length_replicate] at hj
  rw [stream_at _ _ _ _ _ (by rw [List.length_replicate]; exact hj), gb_zeros, UInt8.zero_xor, show j / 16 = 0 by omega, show j % 16 = j by omega]; rfl
end Go.Proofs.YtpkelokaammmjaaDoor
end
/-! The walks of compeerref06: Fresh, Seal, Open. -/
section
namespace Go.Proofs.YtpkelokaammmjaaDoor
open Go.RowKit Go.QT
theorem itoaB_size (n : Int) (hlo : -9223372036854775808 ≤ n) (hhi : n ≤ 9223372036854775807) : (itoaB n).size ≤ 21 := by
  have h : (itoaB n).size = (Lib.itoa n).length := by unfold itoaB; simp [ByteArray.size]
  rw [h]
  unfold Lib.itoa
  split
  · have := dd_len 19 n.natAbs (by omega)
    rw [List.length_cons]; omega
  · have := dd_len 19 n.toNat (by omega)
    omega
theorem lab_data (x : UInt8) (D : ByteArray) : ((⟨#[x]⟩ : ByteArray) ++ D).data.toList = [x] ++ D.data.toList := by simp
theorem lab_size (x : UInt8) (D : ByteArray) (h : D.size ≤ 21) : ((⟨#[x]⟩ : ByteArray) ++ D).size ≤ 10000 := by
  rw [ByteArray.size_append]; have : (⟨#[x]⟩ : ByteArray).size = 1 := rfl; omega
theorem ciph_eq (k D nb b : Bytes) (hn : nb.length = 8) : rstream rboxes (partK k D 101) (nb ++ List.replicate 8 0) b = ciph k D nb b := (stream_eq _ _ _ (part_len _ _ _) (by simp [hn])).symm
theorem rboxes_len : rboxes.length = 256 := boxesTo_length 256
theorem ks_len : (wx shaK).length = 64 := by rw [wx_len]; exact shaK_len
attribute [local irreducible] shaF padK macF derF partK ciph itoaB rstream rboxes put8 shaK
set_option maxRecDepth 100000 in
set_option maxHeartbeats 4000000 in
theorem rfresh6_any (sv : Value) (seed : Bytes) (n : Nat) (w : World) (hs : SB w sv seed) (hl : seed.length ≤ 1000000) (hn : n < 18446744073709551616) :
    Calls Tryd.prog 13 #[sv, .int .u64 (n : Int)] w (SPost w (freshR seed n)) := by
  obtain ⟨A, d, rfl, hc1, hc2⟩ := sb_form hs
  have h0 := Hp.ro1 (rSB (.slice A seed.length d) seed) hs
  refine enter 9 Tryd.func13 rfl rfl ?_
  refine wp_reset 11 [(0, (Value.slice A seed.length d)), (1, (Value.int .u64 ((n : Int))))] (fun x0 => ?_)
  refine wp_seq_k ?_
  intro K1 hK1
  refine reg_lit ?_
  refine wq_p 1 [(4, (Value.slice none 0 0))] ?_
  refine wl_end rfl ?_
  refine seq_n hK1 ?_
  refine wp_seq_k ?_
  intro K2 hK2
  refine reg_lit ?_
  refine wq_to (some 5) (x_ovE h0 16 [] (by kernel_rfl) (ks_any _) (wx shaK) (64) rfl ks_len) ?_
  rintro _ w3 ⟨A3, c3, rfl, h3⟩
  refine wq_p 2 [(7, (Value.int .u64 ((n : Int)))), (6, (Value.slice A seed.length d))] ?_
  refine wq_to (some 8) (x_bytesE h3 29 [(Value.int .u64 ((n : Int)))] (by kernel_rfl) (rput_any n (by omega) _) (put8 n) (8) rfl (put8_len _).symm) ?_
  rintro _ w4 ⟨A4, c4, rfl, h4⟩
  refine wq_to (some 9) (x_bytesE h4 34 [(Value.slice A3 64 c3), (Value.slice A seed.length d), (Value.slice A4 8 c4)] (by kernel_rfl) (rsum_any A3 c3 (Value.slice A seed.length d) (Value.slice A4 8 c4) seed (put8 n) _ (wxL (OV.rvn (h4.at_ 1 rfl))).2 (h4.rd 0 rfl) (OB.sb (h4.at_ 0 rfl)) (by first | omega | (rw [part_len]; decide)) (by first | (rw [put8_len]; decide) | omega)) (macF seed (put8 n)) (32) rfl (mac_len _ _).symm) ?_
  rintro _ w5 ⟨A5, c5, rfl, h5⟩
  refine wq_v (some 10) (cutS (Value.slice A5 32 c5) 0 16) (e_cut_h (OB.sb (h5.at_ 0 rfl)) (.tmp 9) (.const (Value.int .i64 16)) (by kernel_rfl) (by kernel_rfl) .i64 16 (by kernel_rfl) (by rw [mac_len]; decide) _) ?_
  refine wq_p 1 [(4, (cutS (Value.slice A5 32 c5) 0 16))] ?_
  refine wl_end rfl ?_
  refine seq_n hK2 ?_
  refine wp_ret ?_
  refine post_1 rfl (by kernel_rfl) (rtmp (v := (cutS (Value.slice A5 32 c5) 0 16)) (by kernel_rfl)) ?_
  exact spost_of h5 0 rfl 0 16 (by rw [mac_len]; decide) (by rw [List.drop_zero]; rfl)
set_option maxRecDepth 100000 in
set_option maxHeartbeats 4000000 in
theorem rseal6_any (n : Nat) (kv : Value) (k : Bytes) (u : Int) (bv : Value) (b : Bytes) (w : World) (hk : SB w kv k) (hb : SB w bv b) (hkl : k.length = 16) (hbl : b.length ≤ 1000) (hn : n < 18446744073709551616) (hlo : -9223372036854775808 ≤ u) (hhi : u ≤ 9223372036854775807) :
    Calls Tryd.prog 12 #[.int .u64 (n : Int), kv, .int .i64 u, bv] w (BPost w (boxR n k (itoaB u).data.toList b)) := by
  obtain ⟨A, d, rfl, hc1, hc2⟩ := sb_form hk
  obtain ⟨B, f, rfl, hc3, hc4⟩ := sb_form hb
  have hD := itoaB_size u hlo hhi
  obtain ⟨Se, hSe⟩ : ∃ S : ByteArray, S = ⟨#[101]⟩ ++ itoaB u := ⟨_, rfl⟩
  obtain ⟨Sm, hSm⟩ : ∃ S : ByteArray, S = ⟨#[109]⟩ ++ itoaB u := ⟨_, rfl⟩
  have hSed : Se.data.toList = [101] ++ (itoaB u).data.toList := by rw [hSe, lab_data]
  have hSmd : Sm.data.toList = [109] ++ (itoaB u).data.toList := by rw [hSm, lab_data]
  have hSes : Se.size ≤ 10000 := by rw [hSe]; exact lab_size _ _ hD
  have hSms : Sm.size ≤ 10000 := by rw [hSm]; exact lab_size _ _ hD
  have h0 := (Hp.ro1 (rSB (.slice B b.length f) b) hb).addR (rSB (.slice A k.length d) k) hk (by simp)
  refine enter 47 Tryd.func12 rfl rfl ?_
  refine wp_reset 51 [(0, (Value.int .u64 ((n : Int)))), (1, (Value.slice A k.length d)), (2, (Value.int .i64 u)), (3, (Value.slice B b.length f))] (fun x0 => ?_)
  refine wp_seq_k ?_
  intro K1 hK1
  refine reg_lit ?_
  refine wq_p 1 [(8, (Value.slice none 0 0))] ?_
  refine wl_end rfl ?_
  refine seq_n hK1 ?_
  refine wp_seq_k ?_
  intro K2 hK2
  refine reg_lit ?_
  refine wq_to (some 15) (x_ovE h0 16 [] (by kernel_rfl) (ks_any _) (wx shaK) (64) rfl ks_len) ?_
  rintro _ w3 ⟨A3, c3, rfl, h3⟩
  refine wq_p 1 [(9, (Value.slice A3 64 c3))] ?_
  refine wl_end rfl ?_
  refine seq_n hK2 ?_
  refine wp_seq_k ?_
  intro K4 hK4
  refine reg_lit ?_
  refine wq_p 1 [(16, (Value.int .u64 ((n : Int))))] ?_
  refine wq_to (some 17) (x_bytesE h3 29 [(Value.int .u64 ((n : Int)))] (by kernel_rfl) (rput_any n (by omega) _) (put8 n) (8) rfl (put8_len _).symm) ?_
  rintro _ w5 ⟨A5, c5, rfl, h5⟩
  refine wq_p 1 [(10, (Value.slice A5 8 c5))] ?_
  refine wl_end rfl ?_
  refine seq_n hK4 ?_
  refine wp_seq_k ?_
  intro K6 hK6
  refine reg_lit ?_
  refine wq_p 3 [(20, (Value.int .i64 u)), (19, (Value.slice A k.length d)), (18, (Value.slice A3 64 c3))] ?_
  refine wq_to (some 21) (x_np h5 31 [(Value.int .i64 u)] (by kernel_rfl) (rdigits_any u hlo hhi _)) ?_
  rintro _ w7 ⟨rfl, h7⟩
  refine wq_v (some 22) (Value.string Se) (hSe ▸ e_sadd (.const (Value.string (⟨#[101]⟩))) (.tmp 21) 9 9 (by kernel_rfl) ⟨#[101]⟩ (itoaB u) (by kernel_rfl) (by kernel_rfl) (by show 1 ≤ 1000000; decide) (Nat.le_trans hD (by decide)) _) ?_
  refine wq_to (some 23) (x_sb h7 30 [(Value.slice A3 64 c3), (Value.slice A k.length d), (Value.string Se)] (by kernel_rfl) (rderive4_any A3 c3 (Value.slice A k.length d) k Se _ (wxL (OV.rvn (h7.at_ 1 rfl))).2 (h7.rd 0 rfl) (by omega) hSes) (partK k (itoaB u).data.toList 101) (16) (by unfold partK; rw [hSed]) (part_len _ _ _).symm) ?_
  rintro _ w8 ⟨A8, c8, rfl, h8⟩
  refine wq_p 1 [(11, (Value.slice A8 16 c8))] ?_
  refine wl_end rfl ?_
  refine seq_n hK6 ?_
  refine wp_seq_k ?_
  intro K9 hK9
  refine reg_lit ?_
  refine wq_p 3 [(26, (Value.int .i64 u)), (25, (Value.slice A k.length d)), (24, (Value.slice A3 64 c3))] ?_
  refine wq_to (some 27) (x_np h8 31 [(Value.int .i64 u)] (by kernel_rfl) (rdigits_any u hlo hhi _)) ?_
  rintro _ w10 ⟨rfl, h10⟩
  refine wq_v (some 28) (Value.string Sm) (hSm ▸ e_sadd (.const (Value.string (⟨#[109]⟩))) (.tmp 27) 9 9 (by kernel_rfl) ⟨#[109]⟩ (itoaB u) (by kernel_rfl) (by kernel_rfl) (by show 1 ≤ 1000000; decide) (Nat.le_trans hD (by decide)) _) ?_
  refine wq_to (some 29) (x_sb h10 30 [(Value.slice A3 64 c3), (Value.slice A k.length d), (Value.string Sm)] (by kernel_rfl) (rderive4_any A3 c3 (Value.slice A k.length d) k Sm _ (wxL (OV.rvn (h10.at_ 1 rfl))).2 (h10.rd 1 rfl) (by omega) hSms) (partK k (itoaB u).data.toList 109) (16) (by unfold partK; rw [hSmd]) (part_len _ _ _).symm) ?_
  rintro _ w11 ⟨A11, c11, rfl, h11⟩
  refine wq_p 1 [(12, (Value.slice A11 16 c11))] ?_
  refine wl_end rfl ?_
  refine seq_n hK9 ?_
  refine wp_seq_k ?_
  intro K12 hK12
  refine reg_lit ?_
  refine wq_to (some 30) (x_bs0B h11 (by kernel_rfl)) ?_
  rintro _ w13 ⟨A13, rfl, h13⟩
  refine wq_p 1 [(31, (Value.slice A5 8 c5))] ?_
  refine wq_to (some 32) (x_appG h13 0 rfl (.tmp 30) (.tmp 31) (by kernel_rfl) (Value.slice A5 8 c5) (by kernel_rfl) (by kernel_rfl) (OB.sb (h13.at_ 1 rfl)) (by simp [put8_len]; try omega) (put8 n) (8) rfl (put8_len _)) ?_
  rintro _ w14 ⟨A14, c14, rfl, h14⟩
  refine wq_to (some 33) (x_bsl h14 [0, 0, 0, 0, 0, 0, 0, 0] (by kernel_rfl)) ?_
  rintro _ w15 ⟨g15, rfl, hw15, hg15, hq15, h15⟩
  refine wq_to (some 34) (x_appG h15 1 rfl (.tmp 32) (.tmp 33) (by kernel_rfl) (Value.slice (some ⟨g15, 0, none⟩) 8 8) (by kernel_rfl) (by kernel_rfl) (SB.blk (h15.at_ 0 rfl) (by kernel_rfl) (by kernel_rfl) (by kernel_rfl)) (by simp [put8_len]; try omega) ((put8 n) ++ ([0, 0, 0, 0, 0, 0, 0, 0])) (((put8 n) ++ ([0, 0, 0, 0, 0, 0, 0, 0]) : Bytes).length) rfl rfl) ?_
  rintro _ w16 ⟨A16, c16, rfl, h16⟩
  refine wq_p 1 [(13, (Value.slice A16 (((put8 n) ++ ([0, 0, 0, 0, 0, 0, 0, 0]) : Bytes).length) c16))] ?_
  refine wl_end rfl ?_
  refine seq_n hK12 ?_
  refine wp_seq_k ?_
  intro K17 hK17
  refine wp_reset 51 [(0, (Value.int .u64 ((n : Int)))), (1, (Value.slice A k.length d)), (2, (Value.int .i64 u)), (3, (Value.slice B b.length f)), (8, (Value.slice none 0 0)), (9, (Value.slice A3 64 c3)), (10, (Value.slice A5 8 c5)), (11, (Value.slice A8 16 c8)), (12, (Value.slice A11 16 c11)), (13, (Value.slice A16 (((put8 n) ++ ([0, 0, 0, 0, 0, 0, 0, 0]) : Bytes).length) c16))] (fun x18 => ?_)
  refine reg_lit ?_
  refine wq_to (some 35) (x_bs0B h16 (by kernel_rfl)) ?_
  rintro _ w19 ⟨A19, rfl, h19⟩
  refine wq_p 1 [(36, (Value.slice A5 8 c5))] ?_
  refine wq_to (some 37) (x_appG h19 0 rfl (.tmp 35) (.tmp 36) (by kernel_rfl) (Value.slice A5 8 c5) (by kernel_rfl) (by kernel_rfl) (OB.sb (h19.at_ 3 rfl)) (by simp [put8_len]; try omega) (put8 n) (8) rfl (put8_len _)) ?_
  rintro _ w20 ⟨A20, c20, rfl, h20⟩
  refine wq_to (some 38) (x_bytesE h20 33 [] (by kernel_rfl) (rboxes_any _) (rboxes) (256) rfl rboxes_len.symm) ?_
  rintro _ w21 ⟨A21, c21, rfl, h21⟩
  refine wq_p 3 [(41, (Value.slice B b.length f)), (40, (Value.slice A16 (((put8 n) ++ ([0, 0, 0, 0, 0, 0, 0, 0]) : Bytes).length) c16)), (39, (Value.slice A8 16 c8))] ?_
  refine wq_to (some 42) (x_bytesE h21 32 [(Value.slice A21 256 c21), (Value.slice A8 16 c8), (Value.slice A16 (((put8 n) ++ ([0, 0, 0, 0, 0, 0, 0, 0]) : Bytes).length) c16), (Value.slice B b.length f)] (by kernel_rfl) (rstream_any (Value.slice A21 256 c21) (Value.slice A8 16 c8) (Value.slice A16 (((put8 n) ++ ([0, 0, 0, 0, 0, 0, 0, 0]) : Bytes).length) c16) (Value.slice B b.length f) rboxes (partK k (itoaB u).data.toList 101) ((put8 n) ++ ([0, 0, 0, 0, 0, 0, 0, 0])) b _ (OB.sb (h21.at_ 0 rfl)) (h21.rd 1 rfl) (OB.sb (h21.at_ 3 rfl)) (h21.rd 3 rfl) rboxes_len (part_len _ _ _) (by simp [put8_len]) hbl) (ciph k (itoaB u).data.toList (put8 n) b) ((ciph k (itoaB u).data.toList (put8 n) b).length) (ciph_eq _ _ _ _ (put8_len _)).symm rfl) ?_
  rintro _ w22 ⟨A22, c22, rfl, h22⟩
  refine wq_to (some 43) (x_appG h22 2 rfl (.tmp 37) (.tmp 42) (by kernel_rfl) (Value.slice A22 ((ciph k (itoaB u).data.toList (put8 n) b).length) c22) (by kernel_rfl) (by kernel_rfl) (OB.sb (h22.at_ 0 rfl)) (by simp [put8_len, ciph_len]; try omega) ((put8 n) ++ (ciph k (itoaB u).data.toList (put8 n) b)) (((put8 n) ++ (ciph k (itoaB u).data.toList (put8 n) b) : Bytes).length) rfl rfl) ?_
  rintro _ w23 ⟨A23, c23, rfl, h23⟩
  refine wq_p 1 [(14, (Value.slice A23 (((put8 n) ++ (ciph k (itoaB u).data.toList (put8 n) b) : Bytes).length) c23))] ?_
  refine wl_end rfl ?_
  refine seq_n hK17 ?_
  refine wp_seq_k ?_
  intro K24 hK24
  refine reg_lit ?_
  refine wq_p 4 [(47, (Value.slice A23 (((put8 n) ++ (ciph k (itoaB u).data.toList (put8 n) b) : Bytes).length) c23)), (46, (Value.slice A11 16 c11)), (45, (Value.slice A3 64 c3)), (44, (Value.slice A23 (((put8 n) ++ (ciph k (itoaB u).data.toList (put8 n) b) : Bytes).length) c23))] ?_
  refine wq_to (some 48) (x_bytesE h23 34 [(Value.slice A3 64 c3), (Value.slice A11 16 c11), (Value.slice A23 (((put8 n) ++ (ciph k (itoaB u).data.toList (put8 n) b) : Bytes).length) c23)] (by kernel_rfl) (rsum_any A3 c3 (Value.slice A11 16 c11) (Value.slice A23 (((put8 n) ++ (ciph k (itoaB u).data.toList (put8 n) b) : Bytes).length) c23) (partK k (itoaB u).data.toList 109) ((put8 n) ++ (ciph k (itoaB u).data.toList (put8 n) b)) _ (wxL (OV.rvn (h23.at_ 6 rfl))).2 (h23.rd 0 rfl) (OB.sb (h23.at_ 2 rfl)) (by first | omega | (rw [part_len]; decide)) (by simp [put8_len, ciph_len]; omega)) (macF (partK k (itoaB u).data.toList 109) ((put8 n) ++ (ciph k (itoaB u).data.toList (put8 n) b))) (32) rfl (mac_len _ _).symm) ?_
  rintro _ w25 ⟨A25, c25, rfl, h25⟩
  refine wq_v (some 49) (cutS (Value.slice A25 32 c25) 0 16) (e_cut_h (OB.sb (h25.at_ 0 rfl)) (.tmp 48) (.const (Value.int .i64 16)) (by kernel_rfl) (by kernel_rfl) .i64 16 (by kernel_rfl) (by rw [mac_len]; decide) _) ?_
  refine wq_to (some 50) (x_appG h25 3 rfl (.tmp 44) (.tmp 49) (by kernel_rfl) (cutS (Value.slice A25 32 c25) 0 16) (by kernel_rfl) (by kernel_rfl) (SB.cut (OB.sb (h25.at_ 0 rfl)) 0 16 (by rw [mac_len]; decide)) (by simp [put8_len, ciph_len, mac_len]; try omega) (((put8 n) ++ (ciph k (itoaB u).data.toList (put8 n) b)) ++ (((macF (partK k (itoaB u).data.toList 109) ((put8 n) ++ (ciph k (itoaB u).data.toList (put8 n) b))).take 16).drop 0)) ((((put8 n) ++ (ciph k (itoaB u).data.toList (put8 n) b)) ++ (((macF (partK k (itoaB u).data.toList 109) ((put8 n) ++ (ciph k (itoaB u).data.toList (put8 n) b))).take 16).drop 0) : Bytes).length) rfl rfl) ?_
  rintro _ w26 ⟨A26, c26, rfl, h26⟩
  refine wq_p 1 [(8, (Value.slice A26 ((((put8 n) ++ (ciph k (itoaB u).data.toList (put8 n) b)) ++ (((macF (partK k (itoaB u).data.toList 109) ((put8 n) ++ (ciph k (itoaB u).data.toList (put8 n) b))).take 16).drop 0) : Bytes).length) c26))] ?_
  refine wl_end rfl ?_
  refine seq_n hK24 ?_
  refine wp_ret ?_
  refine post_1 rfl (by kernel_rfl) (rtmp (v := (Value.slice A26 ((((put8 n) ++ (ciph k (itoaB u).data.toList (put8 n) b)) ++ (((macF (partK k (itoaB u).data.toList 109) ((put8 n) ++ (ciph k (itoaB u).data.toList (put8 n) b))).take 16).drop 0) : Bytes).length) c26)) (by kernel_rfl)) ?_
  exact bpost_of h26 3 rfl (by unfold boxR tagOf; rw [List.drop_zero])
end Go.Proofs.YtpkelokaammmjaaDoor
end
/-! The walk of compeerref06.Open. -/
section
namespace Go.Proofs.YtpkelokaammmjaaDoor
open Go.RowKit Go.QT
attribute [local irreducible] shaF padK macF derF partK ciph itoaB rstream rboxes put8 shaK
/-- What Open of the reference leaves. -/
def RO6Post (w : World) (r : Option Bytes) (e : Ending) (w' : World) : Prop := ∃ v, e = .returned (.tuple #[v, .bool r.isSome]) ∧ SB w' v (r.getD []) ∧ Below w.heap.size w w' ∧ ∀ q, v.ownBlock = some q → w.heap.size ≤ q
theorem ro6_of {w w' : World} {ro rs : List Res} {r : Bytes} {v : Value} {x : Option Bytes} (h : Hp (fun _ => False) w w' ro rs) (i : Nat) (hi : rs[i]? = some (rOB v r)) (e : x = some r) : RO6Post w x (.returned (.tuple #[v, .bool true])) w' := by
  subst e
  obtain ⟨v', he, hs, hb, hq⟩ := spost_all h i hi rfl
  injection he with he
  subst he
  exact ⟨v, rfl, hs, hb, hq⟩
theorem ro6_no {w w' : World} {x : Option Bytes} (e : x = none) (hb : Below w.heap.size w w') : RO6Post w x (.returned (.tuple #[.slice none 0 0, .bool false])) w' := by
  subst e
  exact ⟨_, rfl, SB.nil _ 0 (by unfold maxLen; omega) none, hb, fun q hq => by simp [Value.ownBlock] at hq⟩
theorem box_front (x : Bytes) (h : 24 ≤ x.length) : (x.take (x.length - 16)).drop 0 = x.take 8 ++ midOf x := by
  unfold midOf
  rw [List.drop_zero]
  have h1 : x.take 8 = (x.take (x.length - 16)).take 8 := by rw [List.take_take]; congr 1; omega
  rw [h1, List.take_append_drop]
set_option maxRecDepth 100000 in
set_option maxHeartbeats 4000000 in
theorem ropen6_any (kv : Value) (k : Bytes) (u : Int) (xv : Value) (x : Bytes) (w : World) (hk : SB w kv k) (hx : SB w xv x) (hkl : k.length = 16) (hxl : x.length ≤ 1000) (hlo : -9223372036854775808 ≤ u) (hhi : u ≤ 9223372036854775807) :
    Calls Tryd.prog 17 #[kv, .int .i64 u, xv] w (RO6Post w (openR k (itoaB u).data.toList x)) := by
  obtain ⟨A, d, rfl, hc1, hc2⟩ := sb_form hk
  obtain ⟨B, f, rfl, hc3, hc4⟩ := sb_form hx
  have hD := itoaB_size u hlo hhi
  obtain ⟨Se, hSe⟩ : ∃ S : ByteArray, S = ⟨#[101]⟩ ++ itoaB u := ⟨_, rfl⟩
  obtain ⟨Sm, hSm⟩ : ∃ S : ByteArray, S = ⟨#[109]⟩ ++ itoaB u := ⟨_, rfl⟩
  have hSed : Se.data.toList = [101] ++ (itoaB u).data.toList := by rw [hSe, lab_data]
  have hSmd : Sm.data.toList = [109] ++ (itoaB u).data.toList := by rw [hSm, lab_data]
  have hSes : Se.size ≤ 10000 := by rw [hSe]; exact lab_size _ _ hD
  have hSms : Sm.size ≤ 10000 := by rw [hSm]; exact lab_size _ _ hD
  have h0 := (Hp.ro1 (rSB (.slice B x.length f) x) hx).addR (rSB (.slice A k.length d) k) hk (by simp)
  refine enter 54 Tryd.func17 rfl rfl ?_
  refine wp_reset 57 [(0, (Value.slice A k.length d)), (1, (Value.int .i64 u)), (2, (Value.slice B x.length f))] (fun x0 => ?_)
  refine wp_seq_k ?_
  intro K1 hK1
  refine reg_lit ?_
  refine wq_p 2 [(7, (Value.bool false)), (6, (Value.slice none 0 0))] ?_
  refine wl_end rfl ?_
  refine seq_n hK1 ?_
  refine wp_seq_k ?_
  intro K2 hK2
  refine wp_seq_k ?_
  intro K3 hK3
  refine reg_lit ?_
  refine wq_p 3 [(15, (Value.bool (decide ((x.length : Int) < 24)))), (14, (Value.int .i64 ((x.length : Int)))), (13, (Value.slice B x.length f))] ?_
  refine wl_end rfl ?_
  refine seq_n hK3 ?_
  refine wp_if ((x.length : Int) < 24) (by kernel_rfl) (fun b4 => ?_) (fun b4 => ?_)
  ·
   refine wp_seq_k ?_
   intro K5 hK5
   refine reg_lit ?_
   refine wq_p 2 [(7, (Value.bool false)), (6, (Value.slice none 0 0))] ?_
   refine wl_end rfl ?_
   refine seq_n hK5 ?_
   refine wp_ret ?_
   refine seq_r ?_
   refine post_2 rfl (by kernel_rfl) (rtmp (v := (Value.slice none 0 0)) (by kernel_rfl)) (rtmp (v := (Value.bool false)) (by kernel_rfl)) ?_
   exact ro6_no (if_pos (by omega)) h0.below0
  ·
   refine wp_skip ?_
   refine seq_n hK2 ?_
   refine wp_seq_k ?_
   intro K6 hK6
   refine reg_lit ?_
   refine wq_to (some 16) (x_ovE h0 16 [] (by kernel_rfl) (ks_any _) (wx shaK) (64) rfl ks_len) ?_
   rintro _ w7 ⟨A7, c7, rfl, h7⟩
   refine wq_p 1 [(8, (Value.slice A7 64 c7))] ?_
   refine wl_end rfl ?_
   refine seq_n hK6 ?_
   refine wp_seq_k ?_
   intro K8 hK8
   refine reg_lit ?_
   refine wq_p 2 [(18, (Value.int .i64 ((x.length : Int)))), (17, (Value.slice B x.length f))] ?_
   refine wq_v (some 19) (Value.int .i64 ((((x.length) - 16 : Nat) : Int))) (exec_sub _ _ _ _ rfl ((x.length : Int)) 16 (by kernel_rfl) (by kernel_rfl) ((((x.length) - 16 : Nat) : Int)) (by omega) (by omega) (by omega) _) ?_
   refine wq_p 1 [(9, (Value.int .i64 ((((x.length) - 16 : Nat) : Int))))] ?_
   refine wl_end rfl ?_
   refine seq_n hK8 ?_
   refine wp_seq_k ?_
   intro K9 hK9
   refine reg_lit ?_
   refine wq_p 3 [(22, (Value.int .i64 u)), (21, (Value.slice A k.length d)), (20, (Value.slice A7 64 c7))] ?_
   refine wq_to (some 23) (x_np h7 31 [(Value.int .i64 u)] (by kernel_rfl) (rdigits_any u hlo hhi _)) ?_
   rintro _ w10 ⟨rfl, h10⟩
   refine wq_v (some 24) (Value.string Sm) (hSm ▸ e_sadd (.const (Value.string (⟨#[109]⟩))) (.tmp 23) 9 9 (by kernel_rfl) ⟨#[109]⟩ (itoaB u) (by kernel_rfl) (by kernel_rfl) (by show 1 ≤ 1000000; decide) (Nat.le_trans hD (by decide)) _) ?_
   refine wq_to (some 25) (x_sb h10 30 [(Value.slice A7 64 c7), (Value.slice A k.length d), (Value.string Sm)] (by kernel_rfl) (rderive4_any A7 c7 (Value.slice A k.length d) k Sm _ (wxL (OV.rvn (h10.at_ 0 rfl))).2 (h10.rd 0 rfl) (by omega) hSms) (partK k (itoaB u).data.toList 109) (16) (by unfold partK; rw [hSmd]) (part_len _ _ _).symm) ?_
   rintro _ w11 ⟨A11, c11, rfl, h11⟩
   refine wq_p 1 [(10, (Value.slice A11 16 c11))] ?_
   refine wl_end rfl ?_
   refine seq_n hK9 ?_
   refine wp_seq_k ?_
   intro K12 hK12
   refine wp_seq_k ?_
   intro K13 hK13
   by_cases b14 : tagOf k (itoaB u).data.toList (x.take 8) (midOf x) = x.drop (x.length - 16)
   ·
    refine pR_go h11 12 (fun W => True) [(27, [8], 0), (28, [10], 0), (29, [2], 0), (30, [9], 0), (31, [28, 29], 12), (32, [26, 27, 30], 19), (33, [31], 32), (34, [2], 0), (35, [9], 0), (36, [33, 34], 384), (37, [32, 35], 608), (38, [36], 1024)] rfl (fun _ d _ _ _ h => by cases d <;> exact h) ?_
    intro hs15 w15 h15
    refine pR_p 6 [0, 1, 2, 3, 7, 8] [(34, (Value.int .i64 ((((x.length) - 16 : Nat) : Int)))), (33, (Value.slice B x.length f)), (29, (Value.int .i64 ((((x.length) - 16 : Nat) : Int)))), (28, (Value.slice B x.length f)), (27, (Value.slice A11 16 c11)), (26, (Value.slice A7 64 c7))] 399 hs15 trivial ?_
    refine pR_v 4 (some 30) (cutS (Value.slice B x.length f) 0 ((((x.length) - 16)))) 415 rfl hs15 trivial (fun W hW => e_cut_h (h15.rd 2 rfl) (.tmp 28) (.tmp 29) (by kernel_rfl) (by kernel_rfl) .i64 ((((x.length) - 16))) (by kernel_rfl) (by first | omega | (rw [mac_len]; decide)) _) ?_
    refine pR_v 9 (some 35) (cutS (Value.slice B x.length f) ((((x.length) - 16))) ((x).length)) 927 rfl hs15 trivial (fun W hW => e_cut_l (h15.rd 2 rfl) (.tmp 33) (.tmp 34) (by kernel_rfl) (by kernel_rfl) .i64 ((((x.length) - 16))) (by kernel_rfl) (by first | omega | (rw [mac_len]; decide)) _) ?_
    refine pR_to 5 (some 31) 959 rfl hs15 (x_bytesE h15 34 [(Value.slice A7 64 c7), (Value.slice A11 16 c11), (cutS (Value.slice B x.length f) 0 ((((x.length) - 16))))] (by kernel_rfl) (rsum_any A7 c7 (Value.slice A11 16 c11) (cutS (Value.slice B x.length f) 0 ((((x.length) - 16)))) (partK k (itoaB u).data.toList 109) (((x).take ((((x.length) - 16)))).drop 0) _ (wxL (OV.rvn (h15.at_ 0 rfl))).2 (h15.rd 0 rfl) (SB.cut (h15.rd 2 rfl) 0 ((((x.length) - 16))) (by first | omega | (rw [mac_len]; decide))) (by first | omega | (rw [part_len]; decide)) (by simp; omega)) (macF (partK k (itoaB u).data.toList 109) (((x).take ((((x.length) - 16)))).drop 0)) ((macF (partK k (itoaB u).data.toList 109) (((x).take ((((x.length) - 16)))).drop 0)).length) rfl rfl) ?_
    rintro _ w16 ⟨A16, c16, rfl, h16⟩
    refine ⟨fun _ => trivial, ?_⟩
    refine pR_v 6 (some 32) (cutS (Value.slice A16 ((macF (partK k (itoaB u).data.toList 109) (((x).take ((((x.length) - 16)))).drop 0)).length) c16) 0 16) 1023 rfl hs15 trivial (fun W hW => e_cut_h (OB.sb (h16.at_ 0 rfl)) (.tmp 31) (.const (Value.int .i64 16)) (by kernel_rfl) (by kernel_rfl) .i64 16 (by kernel_rfl) (by first | omega | (rw [mac_len]; decide)) _) ?_
    refine pR_to 10 (some 36) 2047 rfl hs15 (x_same h16 (((macF (partK k (itoaB u).data.toList 109) (((x).take ((((x.length) - 16)))).drop 0)).take 16).drop 0) (((x).take ((x).length)).drop ((((x.length) - 16)))) (cutS (Value.slice A16 ((macF (partK k (itoaB u).data.toList 109) (((x).take ((((x.length) - 16)))).drop 0)).length) c16) 0 16) (cutS (Value.slice B x.length f) ((((x.length) - 16))) ((x).length)) (by kernel_rfl) (SB.cut (OB.sb (h16.at_ 0 rfl)) 0 16 (by first | omega | (rw [mac_len]; decide))) (SB.cut (h16.rd 2 rfl) ((((x.length) - 16))) ((x).length) (by first | omega | (rw [mac_len]; decide))) true (by rw [List.drop_zero, box_front x (by omega), List.take_length]; exact decide_eq_true b14)) ?_
    rintro _ w17 ⟨rfl, h17⟩
    refine ⟨fun _ => trivial, ?_⟩
    refine pR_p 0 [11] [(37, (Value.bool false))] 4095 hs15 trivial ?_
    refine pR_done hs15 ?_ _
    refine seq_n hK13 ?_
    refine wp_cond_false (by kernel_rfl) ?_
    refine wp_skip ?_
    refine seq_n hK12 ?_
    refine wp_seq_k ?_
    intro K18 hK18
    refine wp_reset 57 [(0, (Value.slice A k.length d)), (1, (Value.int .i64 u)), (2, (Value.slice B x.length f)), (6, (Value.slice none 0 0)), (7, (Value.bool false)), (8, (Value.slice A7 64 c7)), (9, (Value.int .i64 ((((x.length) - 16 : Nat) : Int)))), (10, (Value.slice A11 16 c11)), (15, (Value.bool (decide ((x.length : Int) < 24)))), (37, (Value.bool false))] (fun x19 => ?_)
    refine reg_lit ?_
    refine wq_p 3 [(40, (Value.int .i64 u)), (39, (Value.slice A k.length d)), (38, (Value.slice A7 64 c7))] ?_
    refine wq_to (some 41) (x_np h17 31 [(Value.int .i64 u)] (by kernel_rfl) (rdigits_any u hlo hhi _)) ?_
    rintro _ w20 ⟨rfl, h20⟩
    refine wq_v (some 42) (Value.string Se) (hSe ▸ e_sadd (.const (Value.string (⟨#[101]⟩))) (.tmp 41) 9 9 (by kernel_rfl) ⟨#[101]⟩ (itoaB u) (by kernel_rfl) (by kernel_rfl) (by show 1 ≤ 1000000; decide) (Nat.le_trans hD (by decide)) _) ?_
    refine wq_to (some 43) (x_sb h20 30 [(Value.slice A7 64 c7), (Value.slice A k.length d), (Value.string Se)] (by kernel_rfl) (rderive4_any A7 c7 (Value.slice A k.length d) k Se _ (wxL (OV.rvn (h20.at_ 1 rfl))).2 (h20.rd 1 rfl) (by omega) hSes) (partK k (itoaB u).data.toList 101) (16) (by unfold partK; rw [hSed]) (part_len _ _ _).symm) ?_
    rintro _ w21 ⟨A21, c21, rfl, h21⟩
    refine wq_p 1 [(11, (Value.slice A21 16 c21))] ?_
    refine wl_end rfl ?_
    refine seq_n hK18 ?_
    refine wp_seq_k ?_
    intro K22 hK22
    refine reg_lit ?_
    refine wq_to (some 44) (x_bs0B h21 (by kernel_rfl)) ?_
    rintro _ w23 ⟨A23, rfl, h23⟩
    refine wq_p 1 [(45, (Value.slice B x.length f))] ?_
    refine wq_v (some 46) (cutS (Value.slice B x.length f) 0 8) (e_cut_h (h23.rd 3 rfl) (.tmp 45) (.const (Value.int .i64 8)) (by kernel_rfl) (by kernel_rfl) .i64 8 (by kernel_rfl) (by first | omega | (rw [mac_len]; decide)) _) ?_
    refine wq_to (some 47) (x_appG h23 0 rfl (.tmp 44) (.tmp 46) (by kernel_rfl) (cutS (Value.slice B x.length f) 0 8) (by kernel_rfl) (by kernel_rfl) (SB.cut (h23.rd 3 rfl) 0 8 (by first | omega | (rw [mac_len]; decide))) (by simp; try omega) (((x).take 8).drop 0) ((((x).take 8).drop 0 : Bytes).length) rfl rfl) ?_
    rintro _ w24 ⟨A24, c24, rfl, h24⟩
    refine wq_to (some 48) (x_bsl h24 [0, 0, 0, 0, 0, 0, 0, 0] (by kernel_rfl)) ?_
    rintro _ w25 ⟨g25, rfl, hw25, hg25, hq25, h25⟩
    refine wq_to (some 49) (x_appG h25 1 rfl (.tmp 47) (.tmp 48) (by kernel_rfl) (Value.slice (some ⟨g25, 0, none⟩) 8 8) (by kernel_rfl) (by kernel_rfl) (SB.blk (h25.at_ 0 rfl) (by kernel_rfl) (by kernel_rfl) (by kernel_rfl)) (by simp; try omega) ((((x).take 8).drop 0) ++ ([0, 0, 0, 0, 0, 0, 0, 0])) (((((x).take 8).drop 0) ++ ([0, 0, 0, 0, 0, 0, 0, 0]) : Bytes).length) rfl rfl) ?_
    rintro _ w26 ⟨A26, c26, rfl, h26⟩
    refine wq_p 1 [(12, (Value.slice A26 (((((x).take 8).drop 0) ++ ([0, 0, 0, 0, 0, 0, 0, 0]) : Bytes).length) c26))] ?_
    refine wl_end rfl ?_
    refine seq_n hK22 ?_
    refine wp_seq_k ?_
    intro K27 hK27
    refine pR_go h26 7 (fun W => True) [(51, [], 0), (52, [11], 0), (53, [12], 0), (54, [2], 0), (55, [9], 0), (56, [53, 54], 24), (57, [50, 51, 52, 55], 39), (7, [56], 127), (8, [], 255)] rfl (fun _ d _ _ _ h => by cases d <;> exact h) ?_
    intro hs28 w28 h28
    refine pR_p 5 [1, 2, 3, 4] [(54, (Value.int .i64 ((((x.length) - 16 : Nat) : Int)))), (53, (Value.slice B x.length f)), (52, (Value.slice A26 (((((x).take 8).drop 0) ++ ([0, 0, 0, 0, 0, 0, 0, 0]) : Bytes).length) c26)), (51, (Value.slice A21 16 c21))] 30 hs28 trivial ?_
    refine pR_v 5 (some 55) (cutS (Value.slice B x.length f) 8 ((((x.length) - 16)))) 62 rfl hs28 trivial (fun W hW => e_cut_lh (h28.rd 3 rfl) (.tmp 53) (.const (Value.int .i64 8)) (.tmp 54) (by kernel_rfl) (by kernel_rfl) .i64 .i64 8 ((((x.length) - 16))) (by kernel_rfl) (by kernel_rfl) (by first | omega | (rw [mac_len]; decide)) (by first | omega | (rw [mac_len]; decide)) _) ?_
    refine pR_to 0 (some 50) 63 rfl hs28 (x_bytesE h28 33 [] (by kernel_rfl) (rboxes_any _) (rboxes) (256) rfl rboxes_len.symm) ?_
    rintro _ w29 ⟨A29, c29, rfl, h29⟩
    refine ⟨fun _ => trivial, ?_⟩
    refine pR_to 6 (some 56) 127 rfl hs28 (x_bytesE h29 32 [(Value.slice A29 256 c29), (Value.slice A21 16 c21), (Value.slice A26 (((((x).take 8).drop 0) ++ ([0, 0, 0, 0, 0, 0, 0, 0]) : Bytes).length) c26), (cutS (Value.slice B x.length f) 8 ((((x.length) - 16))))] (by kernel_rfl) (rstream_any (Value.slice A29 256 c29) (Value.slice A21 16 c21) (Value.slice A26 (((((x).take 8).drop 0) ++ ([0, 0, 0, 0, 0, 0, 0, 0]) : Bytes).length) c26) (cutS (Value.slice B x.length f) 8 ((((x.length) - 16)))) rboxes (partK k (itoaB u).data.toList 101) ((((x).take 8).drop 0) ++ ([0, 0, 0, 0, 0, 0, 0, 0])) (((x).take ((((x.length) - 16)))).drop 8) _ (OB.sb (h29.at_ 0 rfl)) (h29.rd 0 rfl) (OB.sb (h29.at_ 2 rfl)) (SB.cut (h29.rd 3 rfl) 8 ((((x.length) - 16))) (by first | omega | (rw [mac_len]; decide))) rboxes_len (part_len _ _ _) (by simp; omega) (by simp; omega)) (ciph k (itoaB u).data.toList (x.take 8) (midOf x)) ((ciph k (itoaB u).data.toList (x.take 8) (midOf x)).length) (by rw [List.drop_zero]; exact (ciph_eq _ _ _ _ (by rw [List.length_take]; omega)).symm) rfl) ?_
    rintro _ w30 ⟨A30, c30, rfl, h30⟩
    refine ⟨fun _ => trivial, ?_⟩
    refine pR_to 7 (some 6) 255 rfl hs28 (OpTo.run (Value.slice A30 ((ciph k (itoaB u).data.toList (x.take 8) (midOf x)).length) c30) (pureOp_run (by kernel_rfl) _) (R := fun v w => v = (Value.slice A30 ((ciph k (itoaB u).data.toList (x.take 8) (midOf x)).length) c30) ∧ w30 = w) ⟨rfl, rfl⟩) ?_
    rintro _ _ ⟨rfl, rfl⟩
    refine ⟨fun h => absurd h (by decide), ?_⟩
    refine pR_to 8 (some 7) 511 rfl hs28 (OpTo.run (Value.bool true) (pureOp_run (by kernel_rfl) _) (R := fun v w => v = (Value.bool true) ∧ w30 = w) ⟨rfl, rfl⟩) ?_
    rintro _ _ ⟨rfl, rfl⟩
    refine ⟨fun h => absurd h (by decide), ?_⟩
    refine pR_done hs28 ?_ _
    refine seq_n hK27 ?_
    refine wp_ret ?_
    refine post_2 rfl (by kernel_rfl) (rtmp (v := (Value.slice A30 ((ciph k (itoaB u).data.toList (x.take 8) (midOf x)).length) c30)) (by kernel_rfl)) (rtmp (v := (Value.bool true)) (by kernel_rfl)) ?_
    exact ro6_of h30 0 rfl (by unfold openR; rw [if_neg (by omega), if_pos b14])
   ·
    refine pR_go h11 12 (fun W => True) [(27, [8], 0), (28, [10], 0), (29, [2], 0), (30, [9], 0), (31, [28, 29], 12), (32, [26, 27, 30], 19), (33, [31], 32), (34, [2], 0), (35, [9], 0), (36, [33, 34], 384), (37, [32, 35], 608), (38, [36], 1024)] rfl (fun _ d _ _ _ h => by cases d <;> exact h) ?_
    intro hs31 w31 h31
    refine pR_p 6 [0, 1, 2, 3, 7, 8] [(34, (Value.int .i64 ((((x.length) - 16 : Nat) : Int)))), (33, (Value.slice B x.length f)), (29, (Value.int .i64 ((((x.length) - 16 : Nat) : Int)))), (28, (Value.slice B x.length f)), (27, (Value.slice A11 16 c11)), (26, (Value.slice A7 64 c7))] 399 hs31 trivial ?_
    refine pR_v 4 (some 30) (cutS (Value.slice B x.length f) 0 ((((x.length) - 16)))) 415 rfl hs31 trivial (fun W hW => e_cut_h (h31.rd 2 rfl) (.tmp 28) (.tmp 29) (by kernel_rfl) (by kernel_rfl) .i64 ((((x.length) - 16))) (by kernel_rfl) (by first | omega | (rw [mac_len]; decide)) _) ?_
    refine pR_v 9 (some 35) (cutS (Value.slice B x.length f) ((((x.length) - 16))) ((x).length)) 927 rfl hs31 trivial (fun W hW => e_cut_l (h31.rd 2 rfl) (.tmp 33) (.tmp 34) (by kernel_rfl) (by kernel_rfl) .i64 ((((x.length) - 16))) (by kernel_rfl) (by first | omega | (rw [mac_len]; decide)) _) ?_
    refine pR_to 5 (some 31) 959 rfl hs31 (x_bytesE h31 34 [(Value.slice A7 64 c7), (Value.slice A11 16 c11), (cutS (Value.slice B x.length f) 0 ((((x.length) - 16))))] (by kernel_rfl) (rsum_any A7 c7 (Value.slice A11 16 c11) (cutS (Value.slice B x.length f) 0 ((((x.length) - 16)))) (partK k (itoaB u).data.toList 109) (((x).take ((((x.length) - 16)))).drop 0) _ (wxL (OV.rvn (h31.at_ 0 rfl))).2 (h31.rd 0 rfl) (SB.cut (h31.rd 2 rfl) 0 ((((x.length) - 16))) (by first | omega | (rw [mac_len]; decide))) (by first | omega | (rw [part_len]; decide)) (by simp; omega)) (macF (partK k (itoaB u).data.toList 109) (((x).take ((((x.length) - 16)))).drop 0)) ((macF (partK k (itoaB u).data.toList 109) (((x).take ((((x.length) - 16)))).drop 0)).length) rfl rfl) ?_
    rintro _ w32 ⟨A32, c32, rfl, h32⟩
    refine ⟨fun _ => trivial, ?_⟩
    refine pR_v 6 (some 32) (cutS (Value.slice A32 ((macF (partK k (itoaB u).data.toList 109) (((x).take ((((x.length) - 16)))).drop 0)).length) c32) 0 16) 1023 rfl hs31 trivial (fun W hW => e_cut_h (OB.sb (h32.at_ 0 rfl)) (.tmp 31) (.const (Value.int .i64 16)) (by kernel_rfl) (by kernel_rfl) .i64 16 (by kernel_rfl) (by first | omega | (rw [mac_len]; decide)) _) ?_
    refine pR_to 10 (some 36) 2047 rfl hs31 (x_same h32 (((macF (partK k (itoaB u).data.toList 109) (((x).take ((((x.length) - 16)))).drop 0)).take 16).drop 0) (((x).take ((x).length)).drop ((((x.length) - 16)))) (cutS (Value.slice A32 ((macF (partK k (itoaB u).data.toList 109) (((x).take ((((x.length) - 16)))).drop 0)).length) c32) 0 16) (cutS (Value.slice B x.length f) ((((x.length) - 16))) ((x).length)) (by kernel_rfl) (SB.cut (OB.sb (h32.at_ 0 rfl)) 0 16 (by first | omega | (rw [mac_len]; decide))) (SB.cut (h32.rd 2 rfl) ((((x.length) - 16))) ((x).length) (by first | omega | (rw [mac_len]; decide))) false (by rw [List.drop_zero, box_front x (by omega), List.take_length]; exact decide_eq_false b14)) ?_
    rintro _ w33 ⟨rfl, h33⟩
    refine ⟨fun _ => trivial, ?_⟩
    refine pR_p 0 [11] [(37, (Value.bool true))] 4095 hs31 trivial ?_
    refine pR_done hs31 ?_ _
    refine seq_n hK13 ?_
    refine wp_cond_true (by kernel_rfl) ?_
    refine wp_seq_k ?_
    intro K34 hK34
    refine wp_reset 57 [(0, (Value.slice A k.length d)), (1, (Value.int .i64 u)), (2, (Value.slice B x.length f)), (6, (Value.slice none 0 0)), (7, (Value.bool false)), (8, (Value.slice A7 64 c7)), (9, (Value.int .i64 ((((x.length) - 16 : Nat) : Int)))), (10, (Value.slice A11 16 c11)), (15, (Value.bool (decide ((x.length : Int) < 24)))), (37, (Value.bool true))] (fun x35 => ?_)
    refine reg_lit ?_
    refine wq_p 2 [(7, (Value.bool false)), (6, (Value.slice none 0 0))] ?_
    refine wl_end rfl ?_
    refine seq_n hK34 ?_
    refine wp_ret ?_
    refine seq_r ?_
    refine post_2 rfl (by kernel_rfl) (rtmp (v := (Value.slice none 0 0)) (by kernel_rfl)) (rtmp (v := (Value.bool false)) (by kernel_rfl)) ?_
    exact ro6_no (by unfold openR; rw [if_neg (by omega), if_neg b14]) h33.below0
end Go.Proofs.YtpkelokaammmjaaDoor
end
/-! The laws SealMakes, SealOpens. -/
section
namespace Go.Proofs.YtpkelokaammmjaaDoor
open Go.RowKit Go.QT
theorem x_ro6 {P : Program} {o : Oper} {a : Act} {w : World} {F0 : Nat → Prop} {w0 : World} {ro rs : List Res} (h : Hp F0 w0 w ro rs) (fn : FuncId) (al : List Value) (hp : pureVal P (execOp a.eval o) = some (.enter fn al.toArray)) {r : Option Bytes} (hc : Calls P fn al.toArray w (RO6Post w r)) (l : Bytes) (hl : r.getD [] = l) (b : Bool) (hb : r.isSome = b) :
    OpTo P o a w (fun u w' => ∃ A cc, u = .tuple #[.slice A l.length cc, .bool b] ∧ Hp F0 w0 w' (rSB (.slice A l.length cc) l :: ro) rs) :=
  OpTo.enter fn al hp hc fun e w' hq => by
    subst hl; subst hb
    obtain ⟨v, he, hs, hbl, hF⟩ := hq
    obtain ⟨A, cc, rfl, _⟩ := id hs
    exact ⟨_, he, A, cc, rfl, h.newR hbl (rSB _ _) hs (fun q hq => hF q hq.2)⟩
attribute [local irreducible] shaF padK macF derF partK ciph itoaB put8 shaK boxR freshR openR
set_option maxRecDepth 100000 in
set_option maxHeartbeats 4000000 in
theorem sealMakes_any (G : Nat → Prop) (sv : Value) (seed : Bytes) (K : Fin 16 → UInt8) (n : Int) (av : Value) (x : Bytes) (bv : Value) (b : Bytes) (w : World) (h1 : SB w sv seed) (h2 : SB w av x) (h3 : SB w bv b) (hit : (rIt G n (itoaB n)).Φ w) (hlo : -9223372036854775808 ≤ n) (hhi : n ≤ 9223372036854775807) :
    Calls Tryd.prog 3 #[sv, .agg (vb (kl K)).toArray, .int .i64 n, av, bv] w (NPost w (.bool true)) := by
  obtain ⟨A, c, rfl, ha1, ha2⟩ := sb_form h1
  obtain ⟨B, d, rfl, hb1, hb2⟩ := sb_form h2
  obtain ⟨C, e, rfl, hc1, hc2⟩ := sb_form h3
  have hDs : (itoaB n).size ≤ 1000 := Nat.le_trans (itoaB_size n hlo hhi) (by decide)
  have h0 := (((Hp.ro1 (rSB (.slice C b.length e) b) h3).addR (rSB (.slice B x.length d) x) h2 (by simp)).addR (rSB (.slice A seed.length c) seed) h1 (by simp)).addR (rIt G n (itoaB n)) hit (by simp)
  refine enter 114 Tryd.func3 rfl rfl ?_
  refine wp_reset 119 [(0, (Value.slice A seed.length c)), (1, (Value.agg (vb (kl K)).toArray)), (2, (Value.int .i64 n)), (3, (Value.slice B x.length d)), (4, (Value.slice C b.length e))] (fun x0 => ?_)
  refine wp_seq_k ?_
  intro K1 hK1
  refine reg_lit ?_
  refine wq_to (some 6) (x_new h0 23 (vb (kl K)) (fun r => pt r 0) (by kernel_rfl)) ?_
  rintro _ w2 ⟨g2, rfl, h2⟩
  refine wq_p 1 [(10, (Value.bool false))] ?_
  refine wl_end rfl ?_
  refine seq_n hK1 ?_
  refine wp_seq_k ?_
  intro K3 hK3
  refine wp_seq_k ?_
  intro K4 hK4
  refine reg_lit ?_
  refine wq_to (some 20) (OpTo.enter 6 [] (by kernel_rfl) (lalive_any _) (R := fun u w' => u = Value.bool true ∧ Below w2.heap.size w2 w') (fun e w' hq => ⟨_, hq.1, rfl, hq.2⟩)) ?_
  rintro _ w5 ⟨rfl, hb5⟩
  have h5 := h2.below hb5
  refine wq_p 1 [(21, (Value.bool false))] ?_
  refine wl_end rfl ?_
  refine seq_n hK4 ?_
  refine wp_cond_false (by kernel_rfl) ?_
  refine wp_skip ?_
  refine seq_n hK3 ?_
  refine wp_seq_k ?_
  intro K6 hK6
  refine wp_seq_k ?_
  intro K7 hK7
  rcases (show (60 < seed.length) ∨ (¬ 60 < seed.length ∧ 60 < x.length) ∨ (¬ 60 < seed.length ∧ ¬ 60 < x.length ∧ 60 < b.length) ∨ (¬ 60 < seed.length ∧ ¬ 60 < x.length ∧ ¬ 60 < b.length) by omega) with hq | ⟨hq1, hq⟩ | ⟨hq1, hq2, hq⟩ | ⟨hq1, hq2, hq3⟩
  ·
   refine reg_lit ?_
   refine wq_p 2 [(23, (Value.int .i64 ((seed.length : Int)))), (22, (Value.slice A seed.length c))] ?_
   refine wq_v (some 24) (.bool true) (eq_is (v := (Value.bool (decide ((seed.length : Int) > 60)))) (by kernel_rfl) (by simp; omega)) ?_
   refine wq_p 3 [(27, undef), (26, undef), (25, (Value.bool true))] ?_
   refine wq_p 1 [(28, undef)] ?_
   refine wq_p 4 [(32, undef), (31, undef), (30, (Value.bool true)), (29, (Value.bool true))] ?_
   refine wq_p 1 [(33, undef)] ?_
   refine wq_p 1 [(34, (Value.bool true))] ?_
   refine wl_end rfl ?_
   refine seq_n hK7 ?_
   refine wp_cond_true (by kernel_rfl) ?_
   refine wp_seq_k ?_
   intro K9 hK9
   refine reg_lit ?_
   refine wq_p 1 [(10, (Value.bool true))] ?_
   refine wl_end rfl ?_
   refine seq_n hK9 ?_
   refine wp_ret ?_
   refine seq_r ?_
   refine post_1 rfl (by kernel_rfl) (rtmp (v := (Value.bool true)) (by kernel_rfl)) ?_
   exact ⟨rfl, h5.below0⟩
  ·
   refine reg_lit ?_
   refine wq_p 2 [(23, (Value.int .i64 ((seed.length : Int)))), (22, (Value.slice A seed.length c))] ?_
   refine wq_v (some 24) (.bool false) (eq_is (v := (Value.bool (decide ((seed.length : Int) > 60)))) (by kernel_rfl) (by simp; omega)) ?_
   refine wq_p 3 [(27, (Value.int .i64 ((x.length : Int)))), (26, (Value.slice B x.length d)), (25, (Value.bool false))] ?_
   refine wq_v (some 28) (.bool true) (eq_is (v := (Value.bool (decide ((x.length : Int) > 60)))) (by kernel_rfl) (by simp; omega)) ?_
   refine wq_p 4 [(32, undef), (31, undef), (30, (Value.bool true)), (29, (Value.bool true))] ?_
   refine wq_p 1 [(33, undef)] ?_
   refine wq_p 1 [(34, (Value.bool true))] ?_
   refine wl_end rfl ?_
   refine seq_n hK7 ?_
   refine wp_cond_true (by kernel_rfl) ?_
   refine wp_seq_k ?_
   intro K10 hK10
   refine reg_lit ?_
   refine wq_p 1 [(10, (Value.bool true))] ?_
   refine wl_end rfl ?_
   refine seq_n hK10 ?_
   refine wp_ret ?_
   refine seq_r ?_
   refine post_1 rfl (by kernel_rfl) (rtmp (v := (Value.bool true)) (by kernel_rfl)) ?_
   exact ⟨rfl, h5.below0⟩
  ·
   refine reg_lit ?_
   refine wq_p 2 [(23, (Value.int .i64 ((seed.length : Int)))), (22, (Value.slice A seed.length c))] ?_
   refine wq_v (some 24) (.bool false) (eq_is (v := (Value.bool (decide ((seed.length : Int) > 60)))) (by kernel_rfl) (by simp; omega)) ?_
   refine wq_p 3 [(27, (Value.int .i64 ((x.length : Int)))), (26, (Value.slice B x.length d)), (25, (Value.bool false))] ?_
   refine wq_v (some 28) (.bool false) (eq_is (v := (Value.bool (decide ((x.length : Int) > 60)))) (by kernel_rfl) (by simp; omega)) ?_
   refine wq_p 4 [(32, (Value.int .i64 ((b.length : Int)))), (31, (Value.slice C b.length e)), (30, (Value.bool false)), (29, (Value.bool false))] ?_
   refine wq_v (some 33) (.bool true) (eq_is (v := (Value.bool (decide ((b.length : Int) > 60)))) (by kernel_rfl) (by simp; omega)) ?_
   refine wq_p 1 [(34, (Value.bool true))] ?_
   refine wl_end rfl ?_
   refine seq_n hK7 ?_
   refine wp_cond_true (by kernel_rfl) ?_
   refine wp_seq_k ?_
   intro K11 hK11
   refine reg_lit ?_
   refine wq_p 1 [(10, (Value.bool true))] ?_
   refine wl_end rfl ?_
   refine seq_n hK11 ?_
   refine wp_ret ?_
   refine seq_r ?_
   refine post_1 rfl (by kernel_rfl) (rtmp (v := (Value.bool true)) (by kernel_rfl)) ?_
   exact ⟨rfl, h5.below0⟩
  ·
   refine reg_lit ?_
   refine wq_p 2 [(23, (Value.int .i64 ((seed.length : Int)))), (22, (Value.slice A seed.length c))] ?_
   refine wq_v (some 24) (.bool false) (eq_is (v := (Value.bool (decide ((seed.length : Int) > 60)))) (by kernel_rfl) (by simp; omega)) ?_
   refine wq_p 3 [(27, (Value.int .i64 ((x.length : Int)))), (26, (Value.slice B x.length d)), (25, (Value.bool false))] ?_
   refine wq_v (some 28) (.bool false) (eq_is (v := (Value.bool (decide ((x.length : Int) > 60)))) (by kernel_rfl) (by simp; omega)) ?_
   refine wq_p 4 [(32, (Value.int .i64 ((b.length : Int)))), (31, (Value.slice C b.length e)), (30, (Value.bool false)), (29, (Value.bool false))] ?_
   refine wq_v (some 33) (.bool false) (eq_is (v := (Value.bool (decide ((b.length : Int) > 60)))) (by kernel_rfl) (by simp; omega)) ?_
   refine wq_p 1 [(34, (Value.bool false))] ?_
   refine wl_end rfl ?_
   refine seq_n hK7 ?_
   refine wp_cond_false (by kernel_rfl) ?_
   refine wp_skip ?_
   refine seq_n hK6 ?_
   refine wp_seq_k ?_
   intro K12 hK12
   refine reg_lit ?_
   refine wq_p 1 [(35, (Value.slice A seed.length c))] ?_
   refine wq_to (some 36) (x_rnew h5 (seed) (Value.slice A seed.length c) (by kernel_rfl) (h5.rd 1 rfl) (by first | omega | (simp; omega))) ?_
   rintro _ w13 ⟨m13, A13, c13, rfl, h13⟩
   refine wq_p 1 [(11, (pt m13 0))] ?_
   refine wl_end rfl ?_
   refine seq_n hK12 ?_
   refine wp_seq_k ?_
   intro K14 hK14
   refine pR_go h13 11 (fun W => (rBlk g2 23 (vb (kl K))).Φ W ∧ True) [(38, [11], 0), (39, [6], 0), (40, [2], 0), (41, [3], 0), (42, [37, 38, 39, 40], 15), (43, [11], 0), (44, [6], 0), (45, [2], 0), (46, [4], 0), (47, [42, 43, 44, 45], 496), (13, [41], 543), (14, [46], 2047)] rfl (fun _ d _ _ _ h => by cases d <;> exact h) ?_
   intro hs15 w15 h15
   refine pR_p 6 [0, 2, 3, 5, 7, 8] [(45, (Value.slice C b.length e)), (44, (Value.int .i64 n)), (42, (pt m13 0)), (40, (Value.slice B x.length d)), (39, (Value.int .i64 n)), (37, (pt m13 0))] 429 hs15 ⟨h15.at_ 1 rfl, trivial⟩ ?_
   refine pR_v 1 (some 38) (Value.agg (vb (kl K)).toArray) 431 rfl hs15 ⟨h15.at_ 1 rfl, trivial⟩ (fun W hW => e_loads hW.1 23 (.tmp 6) (by kernel_rfl) 0 (vb (kl K)) (by kernel_rfl) (by kernel_rfl) (by kernel_rfl)) ?_
   refine pR_v 6 (some 43) (Value.agg (vb (kl K)).toArray) 495 rfl hs15 ⟨h15.at_ 1 rfl, trivial⟩ (fun W hW => e_loads hW.1 23 (.tmp 6) (by kernel_rfl) 0 (vb (kl K)) (by kernel_rfl) (by kernel_rfl) (by kernel_rfl)) ?_
   refine pR_to 4 (some 41) 511 rfl hs15 (x_rsealW h15 0 1 (y := 0) rfl K n (itoaB n) rfl hDs (Value.slice B x.length d) (x) (by kernel_rfl) (h15.rd 3 rfl) (djR h15 (k := 3) (i := 0) rfl rfl) (by omega) (by omega) (boxR 1 (kl K) (itoaB n).data.toList x) rfl ((boxR 1 (kl K) (itoaB n).data.toList x).length) rfl) ?_
   rintro _ w16 ⟨A16, c16, rfl, h16⟩
   refine ⟨fun _ => ⟨h16.at_ 2 rfl, trivial⟩, ?_⟩
   refine pR_to 9 (some 46) 1023 rfl hs15 (x_rsealW h16 0 1 (y := 1) rfl K n (itoaB n) rfl hDs (Value.slice C b.length e) (b) (by kernel_rfl) (h16.rd 4 rfl) (djR h16 (k := 4) (i := 0) rfl rfl) (by omega) (by omega) (boxR 2 (kl K) (itoaB n).data.toList b) rfl ((boxR 2 (kl K) (itoaB n).data.toList b).length) rfl) ?_
   rintro _ w17 ⟨A17, c17, rfl, h17⟩
   refine ⟨fun _ => ⟨h17.at_ 3 rfl, trivial⟩, ?_⟩
   refine pR_p 1 [10] [(12, (Value.slice A16 (((boxR 1 (kl K) (itoaB n).data.toList x).length)) c16))] 2047 hs15 ⟨h17.at_ 3 rfl, trivial⟩ ?_
   refine pR_to 11 (some 13) 4095 rfl hs15 (OpTo.run (Value.slice A17 (((boxR 2 (kl K) (itoaB n).data.toList b).length)) c17) (pureOp_run (by kernel_rfl) _) (R := fun v w => v = (Value.slice A17 (((boxR 2 (kl K) (itoaB n).data.toList b).length)) c17) ∧ w17 = w) ⟨rfl, rfl⟩) ?_
   rintro _ _ ⟨rfl, rfl⟩
   refine ⟨fun h => absurd h (by decide), ?_⟩
   refine pR_done hs15 ?_ _
   refine seq_n hK14 ?_
   refine wp_seq_k ?_
   intro K18 hK18
   refine wp_reset 119 [(0, (Value.slice A seed.length c)), (1, (Value.agg (vb (kl K)).toArray)), (2, (Value.int .i64 n)), (3, (Value.slice B x.length d)), (4, (Value.slice C b.length e)), (6, (pt g2 0)), (10, (Value.bool false)), (11, (pt m13 0)), (12, (Value.slice A16 (((boxR 1 (kl K) (itoaB n).data.toList x).length)) c16)), (13, (Value.slice A17 (((boxR 2 (kl K) (itoaB n).data.toList b).length)) c17)), (21, (Value.bool false)), (34, (Value.bool false))] (fun x19 => ?_)
   refine reg_lit ?_
   refine wq_p 1 [(47, (pt m13 0))] ?_
   refine wq_to (some 48) (x_rfresh h17 0 0 (x := 0) (y := 2) (seed := seed) rfl rfl (by kernel_rfl) (by omega) (by omega)) ?_
   rintro _ w20 ⟨K20, rfl, hK20, h20⟩
   refine wq_p 1 [(49, (pt m13 0))] ?_
   refine wq_to (some 50) (x_rfresh h20 0 0 (x := 1) (y := 2) (seed := seed) rfl rfl (by kernel_rfl) (by omega) (by omega)) ?_
   rintro _ w21 ⟨K21, rfl, hK21, h21⟩
   refine wq_to (some 14) (x_new h21 28 (vb (List.replicate 16 0)) (fun r => pt r 0) (by kernel_rfl)) ?_
   rintro _ w22 ⟨g22, rfl, h22⟩
   refine wq_to (some 15) (x_new h22 28 (vb (List.replicate 16 0)) (fun r => pt r 0) (by kernel_rfl)) ?_
   rintro _ w23 ⟨g23, rfl, h23⟩
   refine wq_to none (x_stores h23 1 rfl 28 (.tmp 14) (.tmp 48) (by kernel_rfl) 0 (vb (kl K20)) (vb (kl K20)) (by kernel_rfl) (by kernel_rfl) (by kernel_rfl) (by kernel_rfl) (by kernel_rfl) (by kernel_rfl)) ?_
   rintro _ w24 h24
   refine wq_to none (x_stores h24 0 rfl 28 (.tmp 15) (.tmp 50) (by kernel_rfl) 0 (vb (kl K21)) (vb (kl K21)) (by kernel_rfl) (by kernel_rfl) (by kernel_rfl) (by kernel_rfl) (by kernel_rfl) (by kernel_rfl)) ?_
   rintro _ w25 h25
   refine wl_end rfl ?_
   refine seq_n hK18 ?_
   refine wp_seq_k ?_
   intro K26 hK26
   refine reg_lit ?_
   refine wq_p 1 [(52, (pt m13 0))] ?_
   refine wq_v (some 53) (Value.agg (vb (kl K)).toArray) (e_loads (h25.at_ 5 rfl) 23 (.tmp 6) (by kernel_rfl) 0 (vb (kl K)) (by kernel_rfl) (by kernel_rfl) (by kernel_rfl)) ?_
   refine wq_p 2 [(55, (Value.slice A16 (((boxR 1 (kl K) (itoaB n).data.toList x).length)) c16)), (54, (Value.int .i64 n))] ?_
   refine wq_to (some 56) (x_ropenW h25 1 K n (itoaB n) rfl hDs (pt m13 0) (Value.slice A16 (((boxR 1 (kl K) (itoaB n).data.toList x).length)) c16) (boxR 1 (kl K) (itoaB n).data.toList x) (by kernel_rfl) (OB.sb (h25.at_ 4 rfl)) (by rw [box_len]; omega) (some x) (open_box _ _ _ _) (x) rfl true rfl) ?_
   rintro _ w27 ⟨A27, c27, rfl, h27⟩
   refine wq_p 5 [(17, (Value.bool true)), (16, (Value.slice A27 ((x : Bytes).length) c27)), (58, (Value.bool true)), (57, (Value.slice A27 ((x : Bytes).length) c27)), (51, (Value.tuple #[(Value.slice A27 ((x : Bytes).length) c27), (Value.bool true)]))] ?_
   refine wl_end rfl ?_
   refine seq_n hK26 ?_
   refine wp_seq_k ?_
   intro K28 hK28
   refine reg_lit ?_
   refine wq_p 1 [(60, (pt m13 0))] ?_
   refine wq_v (some 61) (Value.agg (vb (kl K)).toArray) (e_loads (h27.at_ 6 rfl) 23 (.tmp 6) (by kernel_rfl) 0 (vb (kl K)) (by kernel_rfl) (by kernel_rfl) (by kernel_rfl)) ?_
   refine wq_p 2 [(63, (Value.slice A17 (((boxR 2 (kl K) (itoaB n).data.toList b).length)) c17)), (62, (Value.int .i64 n))] ?_
   refine wq_to (some 64) (x_ropenW h27 1 K n (itoaB n) rfl hDs (pt m13 0) (Value.slice A17 (((boxR 2 (kl K) (itoaB n).data.toList b).length)) c17) (boxR 2 (kl K) (itoaB n).data.toList b) (by kernel_rfl) (OB.sb (h27.at_ 4 rfl)) (by rw [box_len]; omega) (some b) (open_box _ _ _ _) (b) rfl true rfl) ?_
   rintro _ w29 ⟨A29, c29, rfl, h29⟩
   refine wq_p 5 [(19, (Value.bool true)), (18, (Value.slice A29 ((b : Bytes).length) c29)), (66, (Value.bool true)), (65, (Value.slice A29 ((b : Bytes).length) c29)), (59, (Value.tuple #[(Value.slice A29 ((b : Bytes).length) c29), (Value.bool true)]))] ?_
   refine wl_end rfl ?_
   refine seq_n hK28 ?_
   refine wp_seq_k ?_
   intro K30 hK30
   refine pR_go h29 52 (fun W => True) [(68, [12], 0), (69, [6], 0), (70, [2], 0), (71, [3], 0), (72, [68, 69, 70], 14), (73, [67, 71], 17), (74, [72], 32), (75, [13, 73], 64), (76, [6, 73], 64), (77, [2, 73], 64), (78, [4, 73], 64), (79, [75, 76, 77, 73], 1856), (80, [74, 78, 73], 2240), (81, [73, 79], 4160), (82, [80], 12288), (83, [14, 81], 16384), (84, [0, 81], 16384), (85, [83, 81], 81920), (86, [82, 84, 81], 180224), (87, [81, 85], 278528), (88, [86], 786432), (89, [15, 87], 1048576), (90, [0, 87], 1048576), (91, [89, 87], 5242880), (92, [88, 90, 87], 11534336), (93, [87, 91], 17825792), (94, [92], 50331648), (95, [17, 93], 67108864), (96, [93, 94], 201326592), (97, [95], 335544320), (98, [19, 96], 536870912), (99, [96, 97], 1610612736), (100, [98], 2684354560), (101, [16, 99], 4294967296), (102, [3, 99], 4294967296), (103, [100, 101, 99], 30064771072), (104, [99, 102], 38654705664), (105, [103], 103079215104), (106, [18, 104], 137438953472), (107, [4, 104], 137438953472), (108, [105, 106, 104], 962072674304), (109, [104, 107], 1236950581248), (110, [108], 3298534883328), (111, [11, 109], 4398046511104), (112, [3, 109], 4398046511104), (113, [110, 111, 109], 30786325577728), (114, [109], 39582418599936), (115, [3, 109], 4398046511104), (116, [113, 114, 109], 215504279044096), (117, [115, 109], 285873023221760), (118, [112, 116, 109], 884007348731904), (119, [109, 117], 1130297953353728), (11, [118], 4503599627370495)] rfl (fun _ d _ _ _ h => by cases d <;> exact h) ?_
   intro hs31 w31 h31
   refine pR_p 49 [0, 1, 2, 3] [(70, (Value.slice B x.length d)), (69, (Value.int .i64 n)), (68, (Value.slice (some ⟨g2, 0, none⟩) 16 16)), (67, (Value.slice A16 (((boxR 1 (kl K) (itoaB n).data.toList x).length)) c16))] 15 hs31 trivial ?_
   refine pR_to 4 (some 71) 31 rfl hs31 (x_bytesE h31 12 [(Value.int .u64 1), (Value.slice (some ⟨g2, 0, none⟩) 16 16), (Value.int .i64 n), (Value.slice B x.length d)] (by kernel_rfl) (rseal6_any 1 (Value.slice (some ⟨g2, 0, none⟩) 16 16) (kl K) n (Value.slice B x.length d) x _ (SB.blk16 (K := K) (h31.at_ 7 rfl)) (h31.rd 3 rfl) (kl_len _) (by omega) (by omega) hlo hhi) (boxR 1 (kl K) (itoaB n).data.toList x) ((boxR 1 (kl K) (itoaB n).data.toList x).length) rfl rfl) ?_
   rintro _ w32 ⟨A32, c32, rfl, h32⟩
   refine ⟨fun _ => trivial, ?_⟩
   refine pR_to 5 (some 72) 63 rfl hs31 (x_same h32 (boxR 1 (kl K) (itoaB n).data.toList x) (boxR 1 (kl K) (itoaB n).data.toList x) (Value.slice A16 (((boxR 1 (kl K) (itoaB n).data.toList x).length)) c16) (Value.slice A32 ((boxR 1 (kl K) (itoaB n).data.toList x).length) c32) (by kernel_rfl) (OB.sb (h32.at_ 7 rfl)) (OB.sb (h32.at_ 0 rfl)) true (decide_eq_true (by first | rfl | (rw [List.drop_zero])))) ?_
   rintro _ w33 ⟨rfl, h33⟩
   refine ⟨fun _ => trivial, ?_⟩
   refine pR_p 42 [6, 7, 8, 9, 10] [(77, (Value.slice C b.length e)), (76, (Value.int .i64 n)), (75, (Value.slice (some ⟨g2, 0, none⟩) 16 16)), (74, (Value.slice A17 (((boxR 2 (kl K) (itoaB n).data.toList b).length)) c17)), (73, (Value.bool true))] 2047 hs31 trivial ?_
   refine pR_to 11 (some 78) 4095 rfl hs31 (x_bytesE h33 12 [(Value.int .u64 2), (Value.slice (some ⟨g2, 0, none⟩) 16 16), (Value.int .i64 n), (Value.slice C b.length e)] (by kernel_rfl) (rseal6_any 2 (Value.slice (some ⟨g2, 0, none⟩) 16 16) (kl K) n (Value.slice C b.length e) b _ (SB.blk16 (K := K) (h33.at_ 8 rfl)) (h33.rd 4 rfl) (kl_len _) (by omega) (by omega) hlo hhi) (boxR 2 (kl K) (itoaB n).data.toList b) ((boxR 2 (kl K) (itoaB n).data.toList b).length) rfl rfl) ?_
   rintro _ w34 ⟨A34, c34, rfl, h34⟩
   refine ⟨fun _ => trivial, ?_⟩
   refine pR_to 12 (some 79) 8191 rfl hs31 (x_same h34 (boxR 2 (kl K) (itoaB n).data.toList b) (boxR 2 (kl K) (itoaB n).data.toList b) (Value.slice A17 (((boxR 2 (kl K) (itoaB n).data.toList b).length)) c17) (Value.slice A34 ((boxR 2 (kl K) (itoaB n).data.toList b).length) c34) (by kernel_rfl) (OB.sb (h34.at_ 7 rfl)) (OB.sb (h34.at_ 0 rfl)) true (decide_eq_true (by first | rfl | (rw [List.drop_zero])))) ?_
   rintro _ w35 ⟨rfl, h35⟩
   refine ⟨fun _ => trivial, ?_⟩
   refine pR_p 36 [13, 14, 15, 16] [(83, (Value.slice A seed.length c)), (82, (Value.slice (some ⟨g22, 0, none⟩) 16 16)), (81, (Value.bool true)), (80, (Value.bool true))] 131071 hs31 trivial ?_
   refine pR_to 17 (some 84) 262143 rfl hs31 (x_sb h35 13 [(Value.slice A seed.length c), (Value.int .u64 1)] (by kernel_rfl) (rfresh6_any (Value.slice A seed.length c) seed 1 _ (h35.rd 2 rfl) (by omega) (by omega)) (freshR seed 1) 16 rfl (fresh_len _ _).symm) ?_
   rintro _ w36 ⟨A36, c36, rfl, h36⟩
   refine ⟨fun _ => trivial, ?_⟩
   refine pR_to 18 (some 85) 524287 rfl hs31 (x_same h36 (kl K20) (freshR seed 1) (Value.slice (some ⟨g22, 0, none⟩) 16 16) (Value.slice A36 16 c36) (by kernel_rfl) (SB.blk16 (K := K20) (h36.at_ 5 rfl)) (h36.rd 0 rfl) true (decide_eq_true (by first | rfl | exact hK20 | (rw [List.drop_zero])))) ?_
   rintro _ w37 ⟨rfl, h37⟩
   refine ⟨fun _ => trivial, ?_⟩
   refine pR_p 30 [19, 20, 21, 22] [(89, (Value.slice A seed.length c)), (88, (Value.slice (some ⟨g23, 0, none⟩) 16 16)), (87, (Value.bool true)), (86, (Value.bool true))] 8388607 hs31 trivial ?_
   refine pR_to 23 (some 90) 16777215 rfl hs31 (x_sb h37 13 [(Value.slice A seed.length c), (Value.int .u64 2)] (by kernel_rfl) (rfresh6_any (Value.slice A seed.length c) seed 2 _ (h37.rd 3 rfl) (by omega) (by omega)) (freshR seed 2) 16 rfl (fresh_len _ _).symm) ?_
   rintro _ w38 ⟨A38, c38, rfl, h38⟩
   refine ⟨fun _ => trivial, ?_⟩
   refine pR_to 24 (some 91) 33554431 rfl hs31 (x_same h38 (kl K21) (freshR seed 2) (Value.slice (some ⟨g23, 0, none⟩) 16 16) (Value.slice A38 16 c38) (by kernel_rfl) (SB.blk16 (K := K21) (h38.at_ 4 rfl)) (h38.rd 0 rfl) true (decide_eq_true (by first | rfl | exact hK21 | (rw [List.drop_zero])))) ?_
   rintro _ w39 ⟨rfl, h39⟩
   refine ⟨fun _ => trivial, ?_⟩
   refine pR_p 18 [25, 26, 27, 28, 29, 30, 31, 32, 33, 34] [(101, (Value.slice B x.length d)), (100, (Value.slice A27 ((x : Bytes).length) c27)), (99, (Value.bool true)), (98, (Value.bool true)), (97, (Value.bool true)), (96, (Value.bool true)), (95, (Value.bool true)), (94, (Value.bool true)), (93, (Value.bool true)), (92, (Value.bool true))] 34359738367 hs31 trivial ?_
   refine pR_to 35 (some 102) 68719476735 rfl hs31 (x_same h39 x x (Value.slice A27 ((x : Bytes).length) c27) (Value.slice B x.length d) (by kernel_rfl) (OB.sb (h39.at_ 3 rfl)) (h39.rd 5 rfl) true (decide_eq_true (by first | rfl | (rw [List.drop_zero])))) ?_
   rintro _ w40 ⟨rfl, h40⟩
   refine ⟨fun _ => trivial, ?_⟩
   refine pR_p 13 [36, 37, 38, 39] [(106, (Value.slice C b.length e)), (105, (Value.slice A29 ((b : Bytes).length) c29)), (104, (Value.bool true)), (103, (Value.bool true))] 1099511627775 hs31 trivial ?_
   refine pR_to 40 (some 107) 2199023255551 rfl hs31 (x_same h40 b b (Value.slice A29 ((b : Bytes).length) c29) (Value.slice C b.length e) (by kernel_rfl) (OB.sb (h40.at_ 2 rfl)) (h40.rd 6 rfl) true (decide_eq_true (by first | rfl | (rw [List.drop_zero])))) ?_
   rintro _ w41 ⟨rfl, h41⟩
   refine ⟨fun _ => trivial, ?_⟩
   refine pR_p 7 [41, 42, 43, 44, 47] [(114, (Value.slice B x.length d)), (111, (Value.slice B x.length d)), (110, (pt m13 0)), (109, (Value.bool true)), (108, (Value.bool true))] 175921860444159 hs31 trivial ?_
   refine pR_to 45 (some 112) 211106232532991 rfl hs31 (x_rdigestR h41 (pt m13 0) (Value.slice B x.length d) (x) (by kernel_rfl) (h41.rd 5 rfl) (by omega)) ?_
   rintro _ w42 ⟨A42, c42, rfl, h42⟩
   refine ⟨fun _ => trivial, ?_⟩
   refine pR_to 46 (some 113) 281474976710655 rfl hs31 (x_ovE h42 16 [] (by kernel_rfl) (ks_any _) (wx shaK) (64) rfl ((wx_len _).trans shaK_len)) ?_
   rintro _ w43 ⟨A43, c43, rfl, h43⟩
   refine ⟨fun _ => trivial, ?_⟩
   refine pR_to 48 (some 115) 562949953421311 rfl hs31 (x_bytesE h43 15 [(Value.slice A43 64 c43), (Value.slice B x.length d)] (by kernel_rfl) (rdig_any A43 c43 (Value.slice B x.length d) x _ (wxL (OV.rvn (h43.at_ 0 rfl))).2 (h43.rd 6 rfl) (by omega)) (shaF x) (32) rfl (sha_len _).symm) ?_
   rintro _ w44 ⟨A44, c44, rfl, h44⟩
   refine ⟨fun _ => trivial, ?_⟩
   refine pR_v 49 (some 116) (cutS (Value.slice A44 32 c44) 0 16) 1125899906842623 rfl hs31 trivial (fun W hW => e_cut_h (OB.sb (h44.at_ 0 rfl)) (.tmp 115) (.const (Value.int .i64 16)) (by kernel_rfl) (by kernel_rfl) .i64 16 (by kernel_rfl) (by rw [sha_len]; decide) _) ?_
   refine pR_to 50 (some 117) 2251799813685247 rfl hs31 (x_same h44 ((shaF x).take 16) (((shaF x).take 16).drop 0) (Value.slice A42 16 c42) (cutS (Value.slice A44 32 c44) 0 16) (by kernel_rfl) (h44.rd 0 rfl) (SB.cut (OB.sb (h44.at_ 0 rfl)) 0 16 (by rw [sha_len]; decide)) true (decide_eq_true (by first | rfl | (rw [List.drop_zero])))) ?_
   rintro _ w45 ⟨rfl, h45⟩
   refine ⟨fun _ => trivial, ?_⟩
   refine pR_p 1 [51] [(118, (Value.bool true))] 4503599627370495 hs31 trivial ?_
   refine pR_to 52 (some 10) 9007199254740991 rfl hs31 (OpTo.run (Value.bool true) (pureOp_run (by kernel_rfl) _) (R := fun v w => v = (Value.bool true) ∧ w45 = w) ⟨rfl, rfl⟩) ?_
   rintro _ _ ⟨rfl, rfl⟩
   refine ⟨fun h => absurd h (by decide), ?_⟩
   refine pR_done hs31 ?_ _
   refine seq_n hK30 ?_
   refine wp_ret ?_
   refine post_1 rfl (by kernel_rfl) (rtmp (v := (Value.bool true)) (by kernel_rfl)) ?_
   exact ⟨rfl, h45.below0⟩
set_option maxRecDepth 100000 in
set_option maxHeartbeats 4000000 in
theorem sealOpens_any (G : Nat → Prop) (K : Fin 16 → UInt8) (n : Int) (xv : Value) (x : Bytes) (w : World) (h1 : SB w xv x) (hit : (rIt G n (itoaB n)).Φ w) (hlo : -9223372036854775808 ≤ n) (hhi : n ≤ 9223372036854775807) :
    Calls Tryd.prog 4 #[.agg (vb (kl K)).toArray, .int .i64 n, xv] w (NPost w (.bool true)) := by
  obtain ⟨A, c, rfl, ha1, ha2⟩ := sb_form h1
  have hDs : (itoaB n).size ≤ 1000 := Nat.le_trans (itoaB_size n hlo hhi) (by decide)
  obtain ⟨ob, hob⟩ : ∃ r, openR (kl K) (itoaB n).data.toList x = r := ⟨_, rfl⟩
  have h0 := (Hp.ro1 (rSB (.slice A x.length c) x) h1).addR (rIt G n (itoaB n)) hit (by simp)
  refine enter 36 Tryd.func4 rfl rfl ?_
  refine wp_reset 39 [(0, (Value.agg (vb (kl K)).toArray)), (1, (Value.int .i64 n)), (2, (Value.slice A x.length c))] (fun x0 => ?_)
  refine wp_seq_k ?_
  intro K1 hK1
  refine reg_lit ?_
  refine wq_to (some 3) (x_new h0 23 (vb (kl K)) (fun r => pt r 0) (by kernel_rfl)) ?_
  rintro _ w2 ⟨g2, rfl, h2⟩
  refine wq_p 1 [(6, (Value.bool false))] ?_
  refine wl_end rfl ?_
  refine seq_n hK1 ?_
  refine wp_seq_k ?_
  intro K3 hK3
  refine wp_seq_k ?_
  intro K4 hK4
  refine reg_lit ?_
  refine wq_to (some 11) (OpTo.enter 6 [] (by kernel_rfl) (lalive_any _) (R := fun u w' => u = Value.bool true ∧ Below w2.heap.size w2 w') (fun e w' hq => ⟨_, hq.1, rfl, hq.2⟩)) ?_
  rintro _ w5 ⟨rfl, hb5⟩
  have h5 := h2.below hb5
  refine wq_p 1 [(12, (Value.bool false))] ?_
  refine wl_end rfl ?_
  refine seq_n hK4 ?_
  refine wp_cond_false (by kernel_rfl) ?_
  refine wp_skip ?_
  refine seq_n hK3 ?_
  refine wp_seq_k ?_
  intro K6 hK6
  refine wp_seq_k ?_
  intro K7 hK7
  refine reg_lit ?_
  refine wq_p 3 [(15, (Value.bool (decide ((x.length : Int) > 100)))), (14, (Value.int .i64 ((x.length : Int)))), (13, (Value.slice A x.length c))] ?_
  refine wl_end rfl ?_
  refine seq_n hK7 ?_
  refine wp_if ((x.length : Int) > 100) (by kernel_rfl) (fun b8 => ?_) (fun b8 => ?_)
  ·
   refine wp_seq_k ?_
   intro K9 hK9
   refine reg_lit ?_
   refine wq_p 1 [(6, (Value.bool true))] ?_
   refine wl_end rfl ?_
   refine seq_n hK9 ?_
   refine wp_ret ?_
   refine seq_r ?_
   refine post_1 rfl (by kernel_rfl) (rtmp (v := (Value.bool true)) (by kernel_rfl)) ?_
   exact ⟨rfl, h5.below0⟩
  ·
   refine wp_skip ?_
   refine seq_n hK6 ?_
   refine wp_seq_k ?_
   intro K10 hK10
   rcases (show (ob = none) ∨ (∃ l, ob = some l) by cases ob; exact .inl rfl; exact .inr ⟨_, rfl⟩) with rfl | ⟨l, rfl⟩
   ·
    refine pR_go h5 9 (fun W => (rBlk g2 23 (vb (kl K))).Φ W ∧ True) [(18, [], 0), (19, [3], 0), (20, [1], 0), (21, [2], 0), (22, [17, 18, 19, 20], 15), (17, [21], 16), (23, [16], 32), (24, [16], 32), (8, [22], 127), (9, [23], 511)] rfl (fun _ d _ _ _ h => by cases d <;> exact h) ?_
    intro hs12 w12 h12
    refine pR_p 8 [2, 3] [(20, (Value.slice A x.length c)), (19, (Value.int .i64 n))] 12 hs12 ⟨h12.at_ 0 rfl, trivial⟩ ?_
    refine pR_v 1 (some 18) (Value.agg (vb (kl K)).toArray) 14 rfl hs12 ⟨h12.at_ 0 rfl, trivial⟩ (fun W hW => e_loads hW.1 23 (.tmp 3) (by kernel_rfl) 0 (vb (kl K)) (by kernel_rfl) (by kernel_rfl) (by kernel_rfl)) ?_
    refine pR_to 0 (some 17) 15 rfl hs12 (x_rnew h12 ([]) (Value.slice none 0 0) (by kernel_rfl) (SB.nil _ 0 (by unfold maxLen; omega) none) (by decide)) ?_
    rintro _ w13 ⟨m13, A13, c13, rfl, h13⟩
    refine ⟨fun _ => ⟨h13.at_ 1 rfl, trivial⟩, ?_⟩
    refine pR_to 4 (some 21) 31 rfl hs12 (x_ropenW h13 1 K n (itoaB n) rfl hDs (pt m13 0) (Value.slice A x.length c) (x) (by kernel_rfl) (h13.rd 2 rfl) (by omega) none hob ([]) rfl false rfl) ?_
    rintro _ w14 ⟨A14, c14, rfl, h14⟩
    refine ⟨fun _ => ⟨h14.at_ 2 rfl, trivial⟩, ?_⟩
    refine pR_p 1 [5, 6, 7, 8] [(7, (Value.slice A14 (([] : Bytes).length) c14)), (23, (Value.bool false)), (22, (Value.slice A14 (([] : Bytes).length) c14)), (16, (Value.tuple #[(Value.slice A14 (([] : Bytes).length) c14), (Value.bool false)]))] 511 hs12 ⟨h14.at_ 2 rfl, trivial⟩ ?_
    refine pR_to 9 (some 8) 1023 rfl hs12 (OpTo.run (Value.bool false) (pureOp_run (by kernel_rfl) _) (R := fun v w => v = (Value.bool false) ∧ w14 = w) ⟨rfl, rfl⟩) ?_
    rintro _ _ ⟨rfl, rfl⟩
    refine ⟨fun h => absurd h (by decide), ?_⟩
    refine pR_done hs12 ?_ _
    refine seq_n hK10 ?_
    refine wp_seq_k ?_
    intro K15 hK15
    
    refine reg_lit ?_
    refine wq_p 3 [(27, (Value.slice A x.length c)), (26, (Value.int .i64 n)), (25, (Value.slice (some ⟨g2, 0, none⟩) 16 16))] ?_
    refine wq_to (some 28) (x_ro6 h14 17 [(Value.slice (some ⟨g2, 0, none⟩) 16 16), (Value.int .i64 n), (Value.slice A x.length c)] (by kernel_rfl) (ropen6_any (Value.slice (some ⟨g2, 0, none⟩) 16 16) (kl K) n (Value.slice A x.length c) x _ (SB.blk16 (K := K) (h14.at_ 2 rfl)) (h14.rd 2 rfl) (kl_len _) (by omega) hlo hhi) ([]) (by rw [hob]; rfl) false (by rw [hob]; rfl)) ?_
    rintro _ w16 ⟨A16, c16, rfl, h16⟩
    refine wq_p 5 [(10, (Value.bool false)), (9, (Value.slice A16 (([] : Bytes).length) c16)), (30, (Value.bool false)), (29, (Value.slice A16 (([] : Bytes).length) c16)), (24, (Value.tuple #[(Value.slice A16 (([] : Bytes).length) c16), (Value.bool false)]))] ?_
    refine wl_end rfl ?_
    refine seq_n hK15 ?_
    refine wp_seq_k ?_
    intro K17 hK17
    refine wp_reset 39 [(0, (Value.agg (vb (kl K)).toArray)), (1, (Value.int .i64 n)), (2, (Value.slice A x.length c)), (3, (pt g2 0)), (6, (Value.bool false)), (7, (Value.slice A14 (([] : Bytes).length) c14)), (8, (Value.bool false)), (9, (Value.slice A16 (([] : Bytes).length) c16)), (10, (Value.bool false)), (12, (Value.bool false)), (15, (Value.bool (decide ((x.length : Int) > 100))))] (fun x18 => ?_)
    refine reg_lit ?_
    refine wq_p 6 [(36, (Value.slice A16 (([] : Bytes).length) c16)), (35, (Value.slice A14 (([] : Bytes).length) c14)), (34, (Value.bool true)), (33, (Value.bool true)), (32, (Value.bool false)), (31, (Value.bool false))] ?_
    refine wq_to (some 37) (x_same h16 ([]) ([]) (Value.slice A14 (([] : Bytes).length) c14) (Value.slice A16 (([] : Bytes).length) c16) (by kernel_rfl) (OB.sb (h16.at_ 0 rfl)) (h16.rd 0 rfl) true (decide_eq_true (by first | rfl | (rw [List.drop_zero])))) ?_
    rintro _ w19 ⟨rfl, h19⟩
    refine wq_p 2 [(6, (Value.bool true)), (38, (Value.bool true))] ?_
    refine wl_end rfl ?_
    refine seq_n hK17 ?_
    refine wp_ret ?_
    refine post_1 rfl (by kernel_rfl) (rtmp (v := (Value.bool true)) (by kernel_rfl)) ?_
    exact ⟨rfl, h19.below0⟩
   ·
    refine pR_go h5 9 (fun W => (rBlk g2 23 (vb (kl K))).Φ W ∧ True) [(18, [], 0), (19, [3], 0), (20, [1], 0), (21, [2], 0), (22, [17, 18, 19, 20], 15), (17, [21], 16), (23, [16], 32), (24, [16], 32), (8, [22], 127), (9, [23], 511)] rfl (fun _ d _ _ _ h => by cases d <;> exact h) ?_
    intro hs20 w20 h20
    refine pR_p 8 [2, 3] [(20, (Value.slice A x.length c)), (19, (Value.int .i64 n))] 12 hs20 ⟨h20.at_ 0 rfl, trivial⟩ ?_
    refine pR_v 1 (some 18) (Value.agg (vb (kl K)).toArray) 14 rfl hs20 ⟨h20.at_ 0 rfl, trivial⟩ (fun W hW => e_loads hW.1 23 (.tmp 3) (by kernel_rfl) 0 (vb (kl K)) (by kernel_rfl) (by kernel_rfl) (by kernel_rfl)) ?_
    refine pR_to 0 (some 17) 15 rfl hs20 (x_rnew h20 ([]) (Value.slice none 0 0) (by kernel_rfl) (SB.nil _ 0 (by unfold maxLen; omega) none) (by decide)) ?_
    rintro _ w21 ⟨m21, A21, c21, rfl, h21⟩
    refine ⟨fun _ => ⟨h21.at_ 1 rfl, trivial⟩, ?_⟩
    refine pR_to 4 (some 21) 31 rfl hs20 (x_ropenW h21 1 K n (itoaB n) rfl hDs (pt m21 0) (Value.slice A x.length c) (x) (by kernel_rfl) (h21.rd 2 rfl) (by omega) (some l) hob (l) rfl true rfl) ?_
    rintro _ w22 ⟨A22, c22, rfl, h22⟩
    refine ⟨fun _ => ⟨h22.at_ 2 rfl, trivial⟩, ?_⟩
    refine pR_p 1 [5, 6, 7, 8] [(7, (Value.slice A22 ((l : Bytes).length) c22)), (23, (Value.bool true)), (22, (Value.slice A22 ((l : Bytes).length) c22)), (16, (Value.tuple #[(Value.slice A22 ((l : Bytes).length) c22), (Value.bool true)]))] 511 hs20 ⟨h22.at_ 2 rfl, trivial⟩ ?_
    refine pR_to 9 (some 8) 1023 rfl hs20 (OpTo.run (Value.bool true) (pureOp_run (by kernel_rfl) _) (R := fun v w => v = (Value.bool true) ∧ w22 = w) ⟨rfl, rfl⟩) ?_
    rintro _ _ ⟨rfl, rfl⟩
    refine ⟨fun h => absurd h (by decide), ?_⟩
    refine pR_done hs20 ?_ _
    refine seq_n hK10 ?_
    refine wp_seq_k ?_
    intro K23 hK23
    
    refine reg_lit ?_
    refine wq_p 3 [(27, (Value.slice A x.length c)), (26, (Value.int .i64 n)), (25, (Value.slice (some ⟨g2, 0, none⟩) 16 16))] ?_
    refine wq_to (some 28) (x_ro6 h22 17 [(Value.slice (some ⟨g2, 0, none⟩) 16 16), (Value.int .i64 n), (Value.slice A x.length c)] (by kernel_rfl) (ropen6_any (Value.slice (some ⟨g2, 0, none⟩) 16 16) (kl K) n (Value.slice A x.length c) x _ (SB.blk16 (K := K) (h22.at_ 2 rfl)) (h22.rd 2 rfl) (kl_len _) (by omega) hlo hhi) (l) (by rw [hob]; rfl) true (by rw [hob]; rfl)) ?_
    rintro _ w24 ⟨A24, c24, rfl, h24⟩
    refine wq_p 5 [(10, (Value.bool true)), (9, (Value.slice A24 ((l : Bytes).length) c24)), (30, (Value.bool true)), (29, (Value.slice A24 ((l : Bytes).length) c24)), (24, (Value.tuple #[(Value.slice A24 ((l : Bytes).length) c24), (Value.bool true)]))] ?_
    refine wl_end rfl ?_
    refine seq_n hK23 ?_
    refine wp_seq_k ?_
    intro K25 hK25
    refine wp_reset 39 [(0, (Value.agg (vb (kl K)).toArray)), (1, (Value.int .i64 n)), (2, (Value.slice A x.length c)), (3, (pt g2 0)), (6, (Value.bool false)), (7, (Value.slice A22 ((l : Bytes).length) c22)), (8, (Value.bool true)), (9, (Value.slice A24 ((l : Bytes).length) c24)), (10, (Value.bool true)), (12, (Value.bool false)), (15, (Value.bool (decide ((x.length : Int) > 100))))] (fun x26 => ?_)
    refine reg_lit ?_
    refine wq_p 6 [(36, (Value.slice A24 ((l : Bytes).length) c24)), (35, (Value.slice A22 ((l : Bytes).length) c22)), (34, (Value.bool true)), (33, (Value.bool true)), (32, (Value.bool true)), (31, (Value.bool true))] ?_
    refine wq_to (some 37) (x_same h24 l l (Value.slice A22 ((l : Bytes).length) c22) (Value.slice A24 ((l : Bytes).length) c24) (by kernel_rfl) (OB.sb (h24.at_ 0 rfl)) (h24.rd 0 rfl) true (decide_eq_true (by first | rfl | (rw [List.drop_zero])))) ?_
    rintro _ w27 ⟨rfl, h27⟩
    refine wq_p 2 [(6, (Value.bool true)), (38, (Value.bool true))] ?_
    refine wl_end rfl ?_
    refine seq_n hK25 ?_
    refine wp_ret ?_
    refine post_1 rfl (by kernel_rfl) (rtmp (v := (Value.bool true)) (by kernel_rfl)) ?_
    exact ⟨rfl, h27.below0⟩
end Go.Proofs.YtpkelokaammmjaaDoor
end
/-! strconv.Itoa at this program: its contract, off the library; the table that it reads. -/
section
namespace Go.Proofs.YtpkelokaammmjaaDoor
open Go.RowKit Go.QT Go.Shelf
def laysItoa_ren : Go.Shelf.Ren := ⟨fun | 171 => 43 | 243 => 54 | 246 => 61 | 283 => 66 | 284 => 67 | 285 => 68 | 286 => 69 | 129 => 71 | 317 => 70 | 318 => 72 | 319 => 73 | 320 => 74 | 337 => 75 | 338 => 76 | n => n, fun | 3 => 3 | 9 => 9 | 2 => 2 | 4 => 4 | 171 => 101 | 0 => 0 | 53 => 34 | 37 => 22 | 5 => 5 | 173 => 104 | 212 => 108 | 51 => 64 | 20 => 20 | 213 => 109 | 46 => 63 | 232 => 113 | 233 => 114 | n => n, fun | 17 => 0 | 18 => 1 | 19 => 2 | n => n⟩
theorem laysItoa : Go.Proofs.LaysM.n171 Tryd.prog laysItoa_ren := {
  mixed := by kernel_rfl
  f129 := Tryd.func71.trans (congrArg some (by kernel_rfl))
  f171 := Tryd.func43.trans (congrArg some (by kernel_rfl))
  f243 := Tryd.func54.trans (congrArg some (by kernel_rfl))
  f246 := Tryd.func61.trans (congrArg some (by kernel_rfl))
  f283 := Tryd.func66.trans (congrArg some (by kernel_rfl))
  f284 := Tryd.func67.trans (congrArg some (by kernel_rfl))
  f285 := Tryd.func68.trans (congrArg some (by kernel_rfl))
  f286 := Tryd.func69.trans (congrArg some (by kernel_rfl))
  f317 := Tryd.func70.trans (congrArg some (by kernel_rfl))
  f318 := Tryd.func72.trans (congrArg some (by kernel_rfl))
  f319 := Tryd.func73.trans (congrArg some (by kernel_rfl))
  f320 := Tryd.func74.trans (congrArg some (by kernel_rfl))
  f337 := Tryd.func75.trans (congrArg some (by kernel_rfl))
  f338 := Tryd.func76.trans (congrArg some (by kernel_rfl))
  t0 := Tryd.underlying0
  a0 := Tryd.isAgg0
  z0 := Tryd.sizeOf0
  v0 := Tryd.zeroValue0
  t2 := Tryd.underlying2
  a2 := Tryd.isAgg2
  z2 := Tryd.sizeOf2
  v2 := Tryd.zeroValue2
  t3 := Tryd.underlying3
  a3 := Tryd.isAgg3
  z3 := Tryd.sizeOf3
  v3 := Tryd.zeroValue3
  t4 := Tryd.underlying4
  a4 := Tryd.isAgg4
  z4 := Tryd.sizeOf4
  v4 := Tryd.zeroValue4
  t5 := Tryd.underlying5
  a5 := Tryd.isAgg5
  z5 := Tryd.sizeOf5
  v5 := Tryd.zeroValue5
  t9 := Tryd.underlying9
  a9 := Tryd.isAgg9
  z9 := Tryd.sizeOf9
  v9 := Tryd.zeroValue9
  t20 := Tryd.underlying20
  a20 := Tryd.isAgg20
  z20 := Tryd.sizeOf20
  v20 := Tryd.zeroValue20
  t37 := Tryd.underlying22
  a37 := Tryd.isAgg22
  z37 := Tryd.sizeOf22
  v37 := Tryd.zeroValue22
  t46 := Tryd.underlying63
  a46 := Tryd.isAgg63
  z46 := Tryd.sizeOf63
  v46 := Tryd.zeroValue63
  t51 := Tryd.underlying64
  a51 := Tryd.isAgg64
  z51 := Tryd.sizeOf64
  v51 := Tryd.zeroValue64
  t53 := Tryd.underlying34
  a53 := Tryd.isAgg34
  z53 := Tryd.sizeOf34
  v53 := Tryd.zeroValue34
  t171 := Tryd.underlying101
  a171 := Tryd.isAgg101
  z171 := Tryd.sizeOf101
  v171 := Tryd.zeroValue101
  t173 := Tryd.underlying104
  a173 := Tryd.isAgg104
  z173 := Tryd.sizeOf104
  v173 := Tryd.zeroValue104
  t212 := Tryd.underlying108
  a212 := Tryd.isAgg108
  z212 := Tryd.sizeOf108
  v212 := Tryd.zeroValue108
  t213 := Tryd.underlying109
  a213 := Tryd.isAgg109
  z213 := Tryd.sizeOf109
  t232 := Tryd.underlying113
  a232 := Tryd.isAgg113
  z232 := Tryd.sizeOf113
  v232 := Tryd.zeroValue113
  t233 := Tryd.underlying114
  a233 := Tryd.isAgg114
  z233 := Tryd.sizeOf114
  v233 := Tryd.zeroValue114
  g17 := by kernel_rfl
  g18 := by kernel_rfl
  g19 := by kernel_rfl
  i0 := by kernel_rfl
  i2 := by kernel_rfl
  i3 := by kernel_rfl
  i4 := by kernel_rfl
  i5 := by kernel_rfl
  i9 := by kernel_rfl
  i20 := by kernel_rfl
  i37 := by kernel_rfl
  i46 := by kernel_rfl
  i51 := by kernel_rfl
  i53 := by kernel_rfl
  i171 := by kernel_rfl
  i173 := by kernel_rfl
  i212 := by kernel_rfl
  i232 := by kernel_rfl
  i233 := by kernel_rfl
  m17 := by kernel_rfl
  m18 := by kernel_rfl
  m19 := by kernel_rfl }
/-- The table's name. -/
def tabN : String := ((Rows.sealMakesRow.laid.map fun p => p.1).getD 2 default)
theorem grow_below (w : World) (k : Nat) (os : Array Obj) : Below w.heap.size w (Sort.grow (w.drewN k) os) :=
  ⟨rfl, rfl, rfl, by simp [Sort.grow, World.drewN], fun i hi => by
    simp only [Sort.grow]
    exact Array.getElem?_append_left (by simpa using hi)⟩
theorem tab_same {w w' : World} (h : w'.heap[0]? = w.heap[0]?) (ht : Lib.TabIs Tryd.prog w tabN .u64 Lib.pow10Tab) : Lib.TabIs Tryd.prog w' tabN .u64 Lib.pow10Tab := by
  have hg : Tryd.prog.globalNamed tabN = some 0 := by kernel_rfl
  unfold Lib.TabIs World.var? at *
  rw [hg] at ht ⊢
  simp only [Option.bind_some] at ht ⊢
  rw [h]; exact ht
theorem tab_lt {w : World} (ht : Lib.TabIs Tryd.prog w tabN .u64 Lib.pow10Tab) : 0 < w.heap.size := by
  rcases Nat.eq_zero_or_pos w.heap.size with h0 | h0
  · exfalso
    have hg : Tryd.prog.globalNamed tabN = some 0 := by kernel_rfl
    unfold Lib.TabIs World.var? at ht
    rw [hg] at ht
    simp only [Option.bind_some] at ht
    rw [Array.getElem?_eq_none (by omega)] at ht
    cases ht
  · exact h0
theorem rIt_tab {w : World} (ht : Lib.TabIs Tryd.prog w tabN .u64 Lib.pow10Tab) (n : Int) (hlo : -9223372036854775808 ≤ n) (hhi : n ≤ 9223372036854775807) : (rIt (fun q => q = 0) n (itoaB n)).Φ w :=
  ⟨fun q hq => hq ▸ tab_lt ht, fun w' _ hk => (Any.strconv_Itoa laysItoa n hlo hhi w' (tab_same (hk 0 rfl) ht)).mono fun e w'' hq => by
    obtain ⟨he, k, os, rfl⟩ := hq
    exact ⟨he, grow_below w' k os⟩⟩
theorem tab_laid {W : World} (h : laidMet Tryd.prog [(tabN, Rows.laid_internal_strconv_uint64pow10)] W) : Lib.TabIs Tryd.prog W tabN .u64 Lib.pow10Tab := by
  have e : (Rows.laid_internal_strconv_uint64pow10 : DataW Unit) = Lib.tabData .u64 Lib.pow10Tab := by kernel_rfl
  rw [e] at h
  exact Lib.tabIs_of_head (g := 0) (t := 108) (e := 34) (n := 20) (by kernel_rfl) (by kernel_rfl) (by kernel_rfl) (by kernel_rfl) (by kernel_rfl) (by kernel_rfl) h
theorem tab_row {W : World} (h : laidMetH Tryd.prog Rows.sealMakesRow.laid W) : Lib.TabIs Tryd.prog W tabN .u64 Lib.pow10Tab := by
  rw [MakeChecks.laidMetH_plain _ _ _ (by kernel_rfl)] at h
  have h2 := laidMet.tail h
  have h3 := laidMet.tail h2
  exact tab_laid h3
theorem wf_lo {n : Int} (h : (Lit.int .i64 n).wf = true) : -9223372036854775808 ≤ n ∧ n ≤ 9223372036854775807 := by
  simp only [Lit.wf, Bool.and_eq_true, decide_eq_true_eq] at h
  exact h
end Go.Proofs.YtpkelokaammmjaaDoor
end
/-! An array of sixteen bytes, opened and shut. -/
section
namespace Go.Proofs.YtpkelokaammmjaaDoor
open Go.ChangeShapes Go.WideShapes Go.ChangeAt Go.RowKit
set_option maxRecDepth 100000
variable {H : Type} {enc : TypeId × Value → H} {w : World} {base : Nat} {spare : Nat → Bool} {held : Bool}
theorem wf_ub (a : UInt8) : (Lit.int .u8 (ub a)).wf = true := by
  have := nb_lt a
  simp [Lit.wf, IntKind.min, IntKind.max, IntKind.signed, IntKind.bits, ub]
  unfold nb at this; omega
theorem tb1 (m : Nat) (a : UInt8) : DataW.trod enc Tryd.prog w base spare held (m+1) 5 [.int .u8 (ub a)] = some (.lit (.int .u8 (ub a)), []) := by
  simp [DataW.trod, Tryd.underlying5, wf_ub]
def db {H : Type} (b : Bytes) : DataW H := .agg (b.map fun a => .lit (.int .u8 (ub a)))
theorem all_vb (cs : List Value) (h : ∀ c ∈ cs, ∃ a, c = .int .u8 (ub a)) : ∃ b : Bytes, cs = vb b := by
  induction cs with
  | nil => exact ⟨[], rfl⟩
  | cons c cs ih =>
    obtain ⟨a, rfl⟩ := h c (by simp)
    obtain ⟨b, rfl⟩ := ih fun c hc => h c (by simp [hc])
    exact ⟨a :: b, rfl⟩
theorem c22 : Tryd.prog.cellsOf 23 = 16 := by kernel_rfl
theorem c5 : Tryd.prog.cellsOf 5 = 1 := by kernel_rfl
theorem tb16 (m : Nat) (b : Bytes) (hb : b.length = 16) : DataW.trod enc Tryd.prog w base spare held (m+2) 23 (vb b) = some (db b, []) := by
  unfold DataW.trod
  rw [Tryd.underlying23]
  match b, hb with
  | [a0, a1, a2, a3, a4, a5, a6, a7, a8, a9, a10, a11, a12, a13, a14, a15], _ =>
  have r16 : List.range 16 = [0, 1, 2, 3, 4, 5, 6, 7, 8, 9, 10, 11, 12, 13, 14, 15] := rfl
  simp [c22, c5, r16, vb, tb1, db]
theorem tb_int {m : Nat} {c : Value} {x : DataW H × List MemPlace} (h : DataW.trod enc Tryd.prog w base spare held m 5 [c] = some x) : ∃ a, c = .int .u8 (ub a) := by
  obtain ⟨n, hc, _, hw⟩ := DataW.trod_int Tryd.underlying5 h
  have := bounds_u8 hw
  exact ⟨toB n, by rw [ub_u8 (by omega) (by omega)]; simpa using hc⟩
theorem open_b16 {r : Reach} {b0 : Nat} {v : Value} {d : DataW H} {p : List MemPlace} (hv : Value.okWide Tryd.prog w r b0 23 v) (h : DataW.Trod enc Tryd.prog w base spare held 23 v d p) :
    ∃ b : Bytes, b.length = 16 ∧ v = .agg (vb b).toArray ∧ d = db b ∧ p = [] := by
  unfold Value.okWide at hv
  rw [Tryd.underlying23] at hv
  obtain ⟨cs, rfl, hc, _⟩ := hv
  obtain ⟨fuel, h⟩ := h
  obtain ⟨l, rfl⟩ : ∃ l : List Value, cs = l.toArray := ⟨cs.toList, by simp⟩
  simp only [Value.cells] at h
  rw [c22] at hc
  have hl : l.length = 16 := by simpa using hc
  obtain ⟨xs, m, rfl, hx, _, hxs, hi⟩ := DataW.trod_array Tryd.underlying23 h
  rw [c5] at hi
  obtain ⟨b, rfl⟩ := all_vb l (by
    intro c hcm
    obtain ⟨i, hil, rfl⟩ := List.getElem_of_mem hcm
    have hi' := hi i (by omega)
    have : (l.drop (i * 1)).take 1 = [l[i]] := by
      rw [Nat.mul_one, List.drop_eq_getElem_cons hil]; rfl
    rw [this, List.getElem?_eq_getElem (by omega)] at hi'
    exact tb_int hi')
  have hb : b.length = 16 := by simpa [vb] using hl
  refine ⟨b, hb, rfl, ?_⟩
  cases m with
  | zero =>
    have := hi 0 (by omega)
    rw [List.getElem?_eq_getElem (by omega)] at this
    simp [DataW.trod] at this
  | succ m =>
    rw [tb16 m b hb] at h
    simp only [Option.some.injEq, Prod.mk.injEq] at h
    exact ⟨h.1.symm, h.2.symm⟩
theorem shut_b16 {b : Bytes} (hb : b.length = 16) : DataW.Trod enc Tryd.prog w base spare held 23 (.agg (vb b).toArray) (db b) [] :=
  ⟨2, tb16 0 b hb⟩
end Go.Proofs.YtpkelokaammmjaaDoor
end
