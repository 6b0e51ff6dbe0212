/- The walk of compeerlaw05.alive: true. -/
import Derived.Test.YtjjcnijdjhhdoaaAesS
import Derived.Test.YtjjcnijdjhhdoaaAesT

namespace Go.Proofs.Ytjjcnijdjhhdoaa
open Go.RowKit Go.QT
attribute [local go_sem] bits_xor8 bits_or8 bits_and8 u8_ub
def exTo (f : Nat → UInt8) : Nat → Bytes
  | 0 => List.replicate 16 0
  | i+1 => (exTo f i).set i (f i)
theorem exTo_length (f : Nat → UInt8) (n : Nat) : (exTo f n).length = 16 := by
  induction n with
  | zero => exact List.length_replicate
  | succ n ih => exact List.length_set.trans ih
theorem row123 (W : World) : SB (W.alloc (.cells #[.int .u8 1, .int .u8 2, .int .u8 3] 5)) (.slice (some ⟨W.heap.size, 0, none⟩) 3 3) [1, 2, 3] := by
  have h := Row.new W 5 [1, 2, 3]
  have e : (vb [1, 2, 3]).toArray = #[.int .u8 1, .int .u8 2, .int .u8 3] := by simp [ub]
  rw [e] at h
  exact SB.row (l := [1, 2, 3]) h (by simp [maxLen])
set_option maxRecDepth 100000 in
set_option maxHeartbeats 1000000 in
theorem alive_any (w : World) : Calls Try.prog 15 #[] w fun e w' => e = .returned (.bool true) ∧ Below w.heap.size w w' := by
  have Ht0 : Hd (exTo UInt8.ofNat 16 = exK) := ⟨rfl⟩
  have Ht1 : Hd (exTo (fun i => UInt8.ofNat (17 * i)) 16 = exB) := ⟨rfl⟩
  go_enter Try.func15, Try.ntmps15
  go_upto_region 2 with (fail)
  have hz0 : Row ((w.alloc (.cells (vb (List.replicate 16 0)).toArray 22)).alloc (.cells (vb (List.replicate 16 0)).toArray 22)) w.heap.size 22 (exTo UInt8.ofNat 0) := Row.alloc (Row.new w 22 (List.replicate 16 0)) _
  have hz1 : Row ((w.alloc (.cells (vb (List.replicate 16 0)).toArray 22)).alloc (.cells (vb (List.replicate 16 0)).toArray 22)) (w.heap.size + 1) 22 (exTo (fun i => UInt8.ofNat (17 * i)) 0) := by
    have := Row.new (w.alloc (.cells (vb (List.replicate 16 0)).toArray 22)) 22 (List.replicate 16 0)
    simp only [World.size_alloc] at this
    exact this
  have hB0 : Below w.heap.size w ((w.alloc (.cells (vb (List.replicate 16 0)).toArray 22)).alloc (.cells (vb (List.replicate 16 0)).toArray 22)) := ((Below.refl _ _).alloc (Nat.le_refl _) _).alloc (by simp) _
  rw [vb_zeros] at hz0 hz1 hB0
  simp only [List.replicate_succ, List.replicate_zero] at hz0 hz1 hB0
  generalize ((w.alloc (.cells [Value.int .u8 0, .int .u8 0, .int .u8 0, .int .u8 0, .int .u8 0, .int .u8 0, .int .u8 0, .int .u8 0, .int .u8 0, .int .u8 0, .int .u8 0, .int .u8 0, .int .u8 0, .int .u8 0, .int .u8 0, .int .u8 0].toArray 22)).alloc (.cells [Value.int .u8 0, .int .u8 0, .int .u8 0, .int .u8 0, .int .u8 0, .int .u8 0, .int .u8 0, .int .u8 0, .int .u8 0, .int .u8 0, .int .u8 0, .int .u8 0, .int .u8 0, .int .u8 0, .int .u8 0, .int .u8 0].toArray 22)) = w1 at *
  go_wp2
  go_loopw [8] (fun i wr => ∃ k : Nat, k ≤ 16 ∧ i = .int .i64 k ∧ Row wr w.heap.size 22 (exTo UInt8.ofNat k) ∧ Row wr (w.heap.size + 1) 22 (exTo (fun i => UInt8.ofNat (17 * i)) k) ∧ Below w.heap.size w wr) (fun i _ => 16 - (intOf i).toNat)
  case atStart => exact ⟨0, by omega, rfl, hz0, hz1, hB0⟩
  case round =>
    clear hz0 hz1 hB0
    obtain ⟨k, hk, rfl, hR, hS, hB⟩ := hrel
    have hl0 := exTo_length UInt8.ofNat k
    have hl1 := exTo_length (fun i => UInt8.ofNat (17 * i)) k
    by_cases hlt : k < 16
    · have Hs0 : Hd (exTo UInt8.ofNat (k+1) = (exTo UInt8.ofNat k).set k (UInt8.ofNat k)) := ⟨rfl⟩
      have Hs1 : Hd (exTo (fun i => UInt8.ofNat (17 * i)) (k+1) = (exTo (fun i => UInt8.ofNat (17 * i)) k).set k (UInt8.ofNat (17 * k))) := ⟨rfl⟩
      generalize exTo UInt8.ofNat k = X at *
      generalize exTo (fun i => UInt8.ofNat (17 * i)) k = Y at *
      have e1 := Row.cell hR (i := k) (by omega)
      have e2 := Row.cell hS (i := k) (by omega)
      have e3 := Row.frozen hR k
      have e4 := Row.frozen hS k
      have HR := Hd.mk hR
      have HS := Hd.mk hS
      clear hR hS hl0 hl1
      go_wp2
      refine ⟨⟨k + 1, by omega, by go_num, ?_, ?_, (hB.setCell (Nat.le_refl _) _).setCell (by simp) _⟩, by simp [intOf]; omega⟩
      · have h := (HR.out.set k (UInt8.ofNat k)).far (p := ⟨w.heap.size + 1, k, none⟩) (by simp) (.int .u8 (17 * (k : Int)))
        have e : ub (UInt8.ofNat k) = (k : Int) := by rw [ub_ofNat]; omega
        rw [Hs0.out]
        rwa [e] at h
      · have h := (HS.out.far (p := ⟨w.heap.size, k, none⟩) (by simp) (.int .u8 (k : Int))).set k (UInt8.ofNat (17 * k))
        have e : ub (UInt8.ofNat (17 * k)) = 17 * (k : Int) := by rw [ub_ofNat]; omega
        rw [Hs1.out]
        rwa [e] at h
    · have hk' : k = 16 := by omega
      rw [hk', Ht0.out] at hR
      rw [hk', Ht1.out] at hS
      clear hk' hl0 hl1 Ht0 Ht1
      have hsz : w.heap.size + 1 < wr.heap.size := hS.lt
      have hi1 : (Try.prog.info? 22).map (·.size) = some (vb exK).length := by rw [i22]; rfl
      have hi2 : (Try.prog.info? 22).map (·.size) = some (vb exB).length := by rw [i22]; rfl
      have Hi1 := Hd.mk hi1
      have Hi2 := Hd.mk hi2
      have Hkl : Hd (exK.length = 16) := ⟨rfl⟩
      have Hbl : Hd (exB.length = 16) := ⟨rfl⟩
      have hx : blk sbox (keys sbox exK) exB = [105, 196, 224, 216, 106, 123, 4, 48, 216, 205, 183, 128, 112, 180, 197, 90] := by rw [sbox_eq]; exact ex_blk
      have hbl16 := blk_length sbox (keys sbox exK) exB Hbl.out
      have Hbl16 := Hd.mk hbl16
      have Hx := Hd.mk hx
      clear hi1 hi2 hx hbl16
      generalize exK = k0 at *
      generalize exB = b0 at *
      have hR' := Hd.mk hR
      have hS' := Hd.mk hS
      clear hR hS
      go_upto_region 10 with (first | (refine wl_load rfl 22 _ rfl w.heap.size 0 rfl 22 (vb k0) (vb k0) _ hR'.out (by simp) ty22 rfl (by exact Hi1.out) ?_) | (go_at_call 16; refine (new_any k0 _ Hkl.out).mono ?_; rintro e w2 ⟨c, bx, rfl, hc, hc1, hc2, hb2⟩))
      have hB2 : Below w.heap.size w w2 := hB.trans (hb2.mono hB.size)
      have hS2 : Row w2 (w.heap.size + 1) 22 b0 := hS'.out.below hb2 (by omega)
      have HS2 := Hd.mk hS2
      have H17 : Hd (∀ W, CAt W c bx sbox (keys sbox k0) → Calls Try.prog 17 #[.pointer (some ⟨c, 0, none⟩), .agg (vb b0).toArray] W fun e w' => e = .returned (.agg (vb (blk sbox (keys sbox k0) b0)).toArray) ∧ Below W.heap.size W w') := ⟨fun W h => block_any c bx _ _ b0 W Hbl.out h⟩
      have H21 : Hd (∀ W v, CAt W c bx sbox (keys sbox k0) → SB W v [1, 2, 3] → Calls Try.prog 21 #[.pointer (some ⟨c, 0, none⟩), .agg (vb b0).toArray, v] W (BPost W (stream sbox (keys sbox k0) b0 [1, 2, 3]))) := ⟨fun W v h h2 => stream_any c bx _ _ b0 [1, 2, 3] v W h Hbl.out h2 (by simp)⟩
      have hsl : (stream sbox (keys sbox k0) b0 [1, 2, 3]).length = 3 := (streamTo_length sbox (keys sbox k0) b0 [1, 2, 3] Hbl.out _).1
      have Hsl := Hd.mk hsl
      clear hS2 hB hR' hS' hb2 hsl
      have hcb := hc.c.lt
      have hbb := hc.b.lt
      have Hc := Hd.mk hc
      clear hc
      generalize stream sbox (keys sbox k0) b0 [1, 2, 3] = ST at *
      generalize blk sbox (keys sbox k0) b0 = X at *
      generalize keys sbox k0 = KS at *
      have hi3 : (Try.prog.info? 22).map (·.size) = some (vb X).length := by rw [i22]; simp [Hbl16.out]
      have Hi3 := Hd.mk hi3
      clear hi3
      go_upto_region 11 with (first | (refine wl_load rfl 22 _ rfl (w.heap.size + 1) 0 rfl 22 (vb b0) (vb b0) _ HS2.out (by simp) ty22 rfl (by exact Hi2.out) ?_) | (go_at_call 17; refine (H17.out _ Hc.out).mono ?_; rintro e w3 ⟨rfl, hb3⟩) | (refine wl_storeW rfl 22 _ _ rfl w3.heap.size 0 (vb X) rfl rfl 22 _ (vb X) (Blk.new _ _ (List.replicate 16 (.int .u8 0))) (by simp [Hbl16.out]) (by exact Hi3.out) (vb_ones _) (by simp [Hbl16.out]) ?_; intro w4 hb4 hg4 hq4))
      have hX : Row w4 w3.heap.size 22 X := hb4
      have hc4 : CAt w4 c bx sbox KS := by
        have h1 := Hc.out.below hb3 hcb hbb
        have := hb3.size
        exact ⟨(h1.c.alloc _).grown hg4 (by simp; omega), (Row.alloc h1.b _).grown hg4 (by simp; omega), h1.lb, h1.lk⟩
      have hs4 : Row w4 (w.heap.size + 1) 22 b0 := by
        have := hb3.size
        exact ((HS2.out.below hb3 HS2.out.lt).alloc _).grown hg4 (by have := HS2.out.lt; simp; omega)
      have hB4 : Below w.heap.size w w4 := by
        have h1 := hb3.size
        have h2 := hB2.size
        exact ((hB2.trans (hb3.mono hB2.size)).alloc (by omega) _).grown hg4 (by simp; omega) (by rintro j hj; cases hj; omega)
      have hgx := hX.lt
      clear hb4 hg4 hb3 hB2 H17 hq4
      generalize w3.heap.size = gx at *
      have x0 := Row.cell hX (i := 0) (by rw [Hbl16.out]; omega)
      have x1 := Row.cell hX (i := 1) (by rw [Hbl16.out]; omega)
      have x2 := Row.cell hX (i := 2) (by rw [Hbl16.out]; omega)
      have x15 := Row.cell hX (i := 15) (by rw [Hbl16.out]; omega)
      rw [show gb X 0 = 105 by rw [Hx.out]; rfl, show ub 105 = 105 by simp [ub]] at x0
      rw [show gb X 1 = 196 by rw [Hx.out]; rfl, show ub 196 = 196 by simp [ub]] at x1
      rw [show gb X 2 = 224 by rw [Hx.out]; rfl, show ub 224 = 224 by simp [ub]] at x2
      rw [show gb X 15 = 90 by rw [Hx.out]; rfl, show ub 90 = 90 by simp [ub]] at x15
      have Hc4 := Hd.mk hc4
      have HX := Hd.mk hX
      have HS4 := Hd.mk hs4
      clear hc4 hX hs4 Hx
      go_wp2_with (first | (refine wl_loadG rfl 22 _ rfl (w.heap.size + 1) 0 rfl 22 (vb b0) (vb b0) _ HS4.out (by simp) ty22 rfl (by exact Hi2.out) ?_))
      have hcc : CAt (w4.alloc (.cells #[.int .u8 1, .int .u8 2, .int .u8 3] 5)) c bx sbox KS := ⟨Hc4.out.c.alloc _, Row.alloc Hc4.out.b _, Hc4.out.lb, Hc4.out.lk⟩
      with_reducible refine (H21.out _ _ hcc (row123 w4)).mono ?_
      rintro e w' ⟨v, rfl, hv, hb5⟩
      obtain ⟨A, cap, hV, _⟩ := hv.sb
      subst hV
      rw [Hsl.out]
      go_wp2
      go_ret
      exact ⟨rfl, (hB4.alloc hB4.size _).trans (hb5.mono (by have := hB4.size; simp; omega))⟩
end Go.Proofs.Ytjjcnijdjhhdoaa
