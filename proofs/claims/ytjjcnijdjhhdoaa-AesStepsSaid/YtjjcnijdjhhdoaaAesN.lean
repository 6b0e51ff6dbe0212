/- The walk of New: it answers a pointer to a cipher of the key. -/
import Derived.Test.YtjjcnijdjhhdoaaAesB
import Derived.Test.YtjjcnijdjhhdoaaAesX
import Derived.Test.YtjjcnijdjhhdoaaLaw

namespace Go.Proofs.Ytjjcnijdjhhdoaa
open Go.RowKit Go.QT
attribute [local go_sem] bits_xor8 bits_or8 bits_and8 u8_ub
theorem ty42 : Try.prog.underlying 42 = some (.array 16 5) := by kernel_rfl
theorem i42 : (Try.prog.info? 42).map (·.size) = some 16 := by kernel_rfl
theorem sbox_length : sbox.length = 256 := List.length_set.trans (boxTo_length 255)
theorem key0 (k : Bytes) (p : Value) : (p :: vb (keysTo sbox k 0).1) = (p :: vb (List.replicate 176 0)).take 1 ++ vb k ++ (p :: vb (List.replicate 176 0)).drop (1 + 16) := by
  simp only [keysTo, vb_append, List.take_succ_cons, List.take_zero, List.cons_append, List.nil_append]
  rw [Nat.add_comm, List.drop_succ_cons, vb_zeros, vb_zeros, List.drop_replicate]
theorem keyRow_length (B K was : Bytes) (r : UInt8) (n i : Nat) : (keyRow B K was r n i).length = K.length := by
  induction i with
  | zero => rfl
  | succ i ih => exact List.length_set.trans ih
theorem keysTo_length (B k : Bytes) (n : Nat) (hk : k.length = 16) : (keysTo B k n).1.length = 176 := by
  induction n with
  | zero => simp [keysTo, hk]
  | succ n ih => exact (keyRow_length _ _ _ _ _ _).trans ih
theorem Blk.setKey {w : World} {c T : Nat} {p : Value} {L : Bytes} (h : Blk w c T (p :: vb L)) (m j : Nat) (v : UInt8) :
    Blk (w.setCell ⟨c, 1 + m * 16 + j, none⟩ (.int .u8 (ub v))) c T (p :: vb (L.set (16 * m + j) v)) := by
  have := Blk.set h (1 + m * 16 + j) (.int .u8 (ub v))
  rw [show 1 + m * 16 + j = (16 * m + j) + 1 by omega, List.set_cons_succ, vb_set] at this
  rwa [show 1 + m * 16 + j = (16 * m + j) + 1 by omega]
def NewPost (w : World) (k : Bytes) (e : Ending) (w' : World) : Prop := ∃ c bx : Nat, e = .returned (.pointer (some ⟨c, 0, none⟩)) ∧ CAt w' c bx sbox (keys sbox k) ∧ w.heap.size ≤ c ∧ w.heap.size ≤ bx ∧ Below w.heap.size w w'
set_option maxRecDepth 100000 in
set_option maxHeartbeats 800000 in
theorem new_any (k : Bytes) (w : World) (hk : k.length = 16) :
    Calls Try.prog 16 #[.agg (vb k).toArray] w (NewPost w k) := by
  go_enter Try.func16, Try.ntmps16
  go_upto_region 2 with (go_at_call 59; refine (box_any _).mono ?_; rintro e w1 ⟨rfl, hr, hb⟩)
  have hk1 : Row w1 w.heap.size 42 k := (Row.new w 42 k).below hb (by simp)
  have hB1 : Below w.heap.size w w1 := ((Below.refl _ _).alloc (Nat.le_refl _) _).trans (hb.mono (by simp))
  have hs1 : w.heap.size + 1 < w1.heap.size := by have := Row.lt hr; simpa using this
  have hc1 : Blk (w1.alloc (.cells (Try.zeroCells106.setIfInBounds 0 (.pointer (some ⟨w.heap.size + 1, 0, none⟩))) 106)) w1.heap.size 106 (.pointer (some ⟨w.heap.size + 1, 0, none⟩) :: vb (List.replicate 176 0)) := by
    have e : Try.zeroCells106.setIfInBounds 0 (.pointer (some ⟨w.heap.size + 1, 0, none⟩)) = (Value.pointer (some ⟨w.heap.size + 1, 0, none⟩) :: List.replicate 176 (Value.int .u8 0)).toArray := by kernel_rfl
    rw [e, vb_zeros]; exact Blk.new _ _ _
  have hr2 : Row w1 (w.heap.size + 1) 135 sbox := by simpa using hr
  have hr3 := Row.alloc hr2 (.cells (Try.zeroCells106.setIfInBounds 0 (.pointer (some ⟨w.heap.size + 1, 0, none⟩))) 106)
  have hk3 := Row.alloc hk1 (.cells (Try.zeroCells106.setIfInBounds 0 (.pointer (some ⟨w.heap.size + 1, 0, none⟩))) 106)
  have hB3 := hB1.alloc (by omega) (.cells (Try.zeroCells106.setIfInBounds 0 (.pointer (some ⟨w.heap.size + 1, 0, none⟩))) 106)
  have hs3 : (w1.alloc (.cells (Try.zeroCells106.setIfInBounds 0 (.pointer (some ⟨w.heap.size + 1, 0, none⟩))) 106)).heap.size = w1.heap.size + 1 := by simp
  generalize w1.alloc (.cells (Try.zeroCells106.setIfInBounds 0 (.pointer (some ⟨w.heap.size + 1, 0, none⟩))) 106) = w3 at *
  generalize w1.heap.size = c at *
  clear hr hr2 hk1 hB1 hb
  have HC := Lib.hid hc1
  have HR := Lib.hid hr3
  have HS := Lib.hid hs3
  clear hc1 hr3 hs3
  refine wp_region_qt 5 (by kernel_rfl) (by kernel_rfl) ?_
  simp only [List.take_succ_cons, List.take_zero, List.drop_succ_cons, List.drop_zero]
  go_big_quiet_step (fail)
  refine q_load rfl 42 _ rfl w.heap.size 0 rfl 42 (vb k) (vb k) _ hk3 (by simp) ty42 rfl (by rw [i42]; simp [hk]) ?_
  simp only [Act.put, List.setIfInBounds_toArray, List.set_cons_zero, List.set_cons_succ]
  repeat (go_big_quiet_step (fail))
  refine wpQuiet_nil ?_
  rintro _ ⟨nq1, rfl⟩
  refine wl_storeW rfl 22 _ _ rfl c 1 (vb k) rfl rfl 106 _ (.pointer (some ⟨w.heap.size + 1, 0, none⟩) :: vb (keysTo sbox k 0).1) (Blk.drewN HC.out _) (by simp [hk]) (by rw [i22]; simp [hk]) (vb_ones k) (by rw [vb_length, hk]; exact key0 k _) ?_
  intro w4 hc4 hg4 hs4
  have hR4 : Row w4 (w.heap.size + 1) 135 sbox := (HR.out.drewN nq1).grown hg4 (by simp; omega)
  have hB4 : Below w.heap.size w w4 := (below_drewN hB3 nq1).grown hg4 (by simp [HS.out]; omega) (by rintro j hj; cases hj; omega)
  have HC4 := Lib.hid hc4
  have HR4 := Lib.hid hR4
  have HS4 := Lib.hid hs4
  clear hc4 hR4 hs4 hg4 HC HR
  refine wpList_nil ?_
  go_wp2
  go_loopw [4, 5] (fun r n wr => ∃ n' : Nat, n' ≤ 10 ∧ n = .int .i64 (↑n' + 1) ∧ r = .int .u8 (ub (keysTo sbox k n').2) ∧ Blk wr c 106 (.pointer (some ⟨w.heap.size + 1, 0, none⟩) :: vb (keysTo sbox k n').1) ∧ Row wr (w.heap.size + 1) 135 sbox ∧ Below w.heap.size w wr) (fun _ n _ => 11 - (intOf n).toNat)
  case atStart => exact ⟨0, by omega, by go_num, by simp [keysTo, ub], HC4.out, HR4.out, hB4⟩
  case round =>
    clear HC4 HR4 HS4 hB4
    obtain ⟨n, hn, rfl, rfl, hC, hR, hB⟩ := hrel
    by_cases hlt : n < 10
    · have hKl : (keysTo sbox k n).1.length = 176 := keysTo_length _ _ _ hk
      generalize hr : (keysTo sbox k n).2 = r at *
      generalize hKK : (keysTo sbox k n).1 = K at *
      have Hr := Lib.hid hr
      have HKK := Lib.hid hKK
      have HKl := Lib.hid hKl
      have HC := Lib.hid hC
      have HR := Lib.hid hR
      clear hr hKK hKl hC hR
      obtain ⟨w5, rfl⟩ : ∃ w1 : World, w1 = wr := ⟨_, rfl⟩
      have hd11 : decide ((n : Int) + 1 < 11) = true := by simp; omega
      have hw1 : ∀ j v, (vb ((K.drop (16 * n)).take 16))[j]? = some v → (Value.pointer (some ⟨w.heap.size + 1, 0, none⟩) :: vb K)[1 + n * 16 + j]? = some v := by
        intro j v h
        rw [show 1 + n * 16 + j = (16 * n + j) + 1 by omega, List.getElem?_cons_succ]
        apply slice_get (vb K) (16 * n) 16 j v
        simpa [vb, List.map_drop, List.map_take] using h
      have hw2 : ((K.drop (16 * n)).take 16).length = 16 := by simp [HKl.out]; omega
      generalize hwas : (K.drop (16 * n)).take 16 = was at *
      have hw3 := i22s _ hw2
      have HW1 := Lib.hid hw1
      have HW2 := Lib.hid hw2
      have HW3 := Lib.hid hwas
      clear hw1 hw2 hwas
      have hw3' : (Try.prog.info? 22).map (·.size) = some (vb was).length := by rw [hw3]; simp
      have HW4 := Lib.hid hw3'
      clear hw3 hw3'
      go_upto_region 8 with (first | (refine wl_load rfl 22 _ rfl c (1 + n * 16) rfl 106 _ (vb was) _ HC.out (by exact HW1.out) ty22 rfl (by exact HW4.out) ?_) | (refine wl_storeW rfl 22 _ _ rfl w5.heap.size 0 (vb was) rfl rfl 22 _ (vb was) (Blk.new _ _ (List.replicate 16 (.int .u8 0))) (by simp [HW2.out]) (by exact HW4.out) (vb_ones _) (by simp [HW2.out]) ?_; intro w6 hb6 hg6 hs6))
      have hC6 := (Blk.alloc HC.out _).grown hg6 (by have := Blk.lt HC.out; simp; omega)
      have hR6 := (Row.alloc HR.out _).grown hg6 (by have := Row.lt HR.out; simp; omega)
      have hB6 := (hB.alloc (by have := hB.size; omega) _).grown hg6 (by have := hB.size; simp; omega) (by rintro j hj; cases hj; exact hB.size)
      have hT6 : Row w6 w5.heap.size 22 was := hb6
      have hcg : c < w5.heap.size := Blk.lt HC.out
      have hwg : w.heap.size + 1 < w5.heap.size := Row.lt HR.out
      clear hg6 hs6 hb6 hB
      generalize w5.heap.size = g at *
      clear HC HR
      go_wp2
      go_loopw [28] (fun i wr => ∃ k : Nat, k ≤ 16 ∧ i = .int .i64 k ∧ Blk wr c 106 (.pointer (some ⟨w.heap.size + 1, 0, none⟩) :: vb (keyRow sbox K was r (n + 1) k)) ∧ Row wr g 22 was ∧ Row wr (w.heap.size + 1) 135 sbox ∧ Below w.heap.size w wr) (fun i _ => 16 - (intOf i).toNat)
      case atStart => exact ⟨0, by omega, rfl, hC6, hT6, hR6, hB6⟩
      case round =>
        clear hC6 hT6 hR6 hB6
        obtain ⟨i, hi, rfl, hC, hT, hR, hB⟩ := hrel
        have hlen : (keyRow sbox K was r (n + 1) i).length = 176 := by rw [keyRow_length, HKl.out]
        have hc1 : ∀ j, j < 176 → wr.cell? ⟨c, 1 + j, none⟩ = some (.int .u8 (ub (gb (keyRow sbox K was r (n + 1) i) j))) := by
          intro j hj; rw [Blk.cell hC, Nat.add_comm 1 j, List.getElem?_cons_succ, vb_get _ j (by rw [hlen]; exact hj)]
        have e0 : wr.cell? ⟨c, 0, none⟩ = some (.pointer (some ⟨w.heap.size + 1, 0, none⟩)) := by rw [Blk.cell hC]; rfl
        have e1 := fun (h : i < 16) => Row.cell hT (i := i) (by rw [HW2.out]; exact h)
        have e2 := Row.cell hT (i := 12 + (i + 1) % 4) (by rw [HW2.out]; omega)
        have e3 := Row.cell hR (i := nb (gb was (12 + (i + 1) % 4))) (by rw [sbox_length]; exact nb_lt _)
        have hnb : nb (gb was (12 + (i + 1) % 4)) < 256 := nb_lt _
        have hc2 : ∀ m j, 16 * m + j < 176 → wr.cell? ⟨c, 1 + m * 16 + j, none⟩ = some (.int .u8 (ub (gb (keyRow sbox K was r (n + 1) i) (16 * m + j)))) := by
          intro m j h; rw [← hc1 _ h, Nat.add_assoc, Nat.mul_comm]
        have e4 := fun (h : i < 16) (h4 : 4 ≤ i) => hc2 (n + 1) (i - 4) (by omega)
        have e5 := fun (h : i < 16) => hc2 (n + 1) i (by omega)
        have e6 := Blk.frozen hC (1 + (n + 1) * 16 + i)
        clear hc2
        have hs : keyRow sbox K was r (n + 1) (i + 1) = (keyRow sbox K was r (n + 1) i).set (16 * (n + 1) + i) (keyByte sbox (keyRow sbox K was r (n + 1) i) was r (n + 1) i) := rfl
        have Hs := Lib.hid hs
        have HC := Lib.hid hC
        have HT := Lib.hid hT
        have HR := Lib.hid hR
        have Hlen := Lib.hid hlen
        clear hs hC hT hR hlen hc1
        generalize hL : keyRow sbox K was r (n + 1) i = L at *
        have HL := Lib.hid hL
        clear hL
        by_cases hi16 : i < 16
        · replace e1 := e1 hi16
          replace e5 := e5 hi16
          by_cases h4 : 4 ≤ i
          · replace e4 := e4 hi16 h4
            have hne : ((i : Int) == 0) = false := by simp; omega
            have hx : keyByte sbox L was r (n + 1) i = gb was i ^^^ gb L (16 * (n + 1) + (i - 4)) := by simp [keyByte, h4]; omega
            have Hx := Lib.hid hx
            clear e2 e3 hx
            go_wp2
            refine ⟨⟨i + 1, by omega, by go_num, ?_, (HT.out).far (by simp; omega) _, (HR.out).far (by simp; omega) _, (hB).setCell (by simp; omega) _⟩, by simp [intOf]; omega⟩
            rw [Hs.out, Hx.out]
            exact (HC.out).setKey _ _ _
          · clear e4
            have h4' : decide (4 ≤ (i : Int)) = false := by simp; omega
            by_cases h0 : i = 0
            · have heq : ((i : Int) == 0) = true := by simp; omega
              have hx : keyByte sbox L was r (n + 1) i = gb was i ^^^ gb sbox (nb (gb was (12 + (i + 1) % 4))) ^^^ r := by simp [keyByte, h0]
              have H0 := Lib.hid h0
              have Hx := Lib.hid hx
              clear h0 hx
              go_wp2
              go_quiet (fail)
              go_wp2
              refine ⟨⟨i + 1, by omega, by go_num, ?_, (HT.out.drewN _).far (by simp; omega) _, (HR.out.drewN _).far (by simp; omega) _, (below_drewN hB _).setCell (by simp; omega) _⟩, by simp [intOf]; omega⟩
              rw [Hs.out, Hx.out]
              exact (Blk.drewN HC.out _).setKey _ _ _
            · have hne : ((i : Int) == 0) = false := by simp; omega
              have hx : keyByte sbox L was r (n + 1) i = gb was i ^^^ gb sbox (nb (gb was (12 + (i + 1) % 4))) := by simp [keyByte, h4, h0]
              have H0 := Lib.hid h0
              have Hx := Lib.hid hx
              clear h0 hx
              go_wp2
              go_quiet (fail)
              go_wp2
              refine ⟨⟨i + 1, by omega, by go_num, ?_, (HT.out.drewN _).far (by simp; omega) _, (HR.out.drewN _).far (by simp; omega) _, (below_drewN hB _).setCell (by simp; omega) _⟩, by simp [intOf]; omega⟩
              rw [Hs.out, Hx.out]
              exact (Blk.drewN HC.out _).setKey _ _ _
        · have hi' : i = 16 := by omega
          have hk1 : keysTo sbox k (n + 1) = (L, dbl r) := by
            have hL := HL.out
            rw [hi'] at hL
            rw [← hL, ← HW3.out, ← HKK.out, ← Hr.out]; rfl
          have Hk1 := Lib.hid hk1
          clear hk1 hi' e1 e2 e3 e4 e5
          go_wp2_with (go_at_call 60; refine (double_any _ (by simp) (by simp) _).mono ?_; rintro e w' ⟨rfl, rfl⟩)
          refine ⟨⟨n + 1, by omega, by go_num, by rw [Hk1.out], by rw [Hk1.out]; exact HC.out, HR.out, hB⟩, by simp [intOf]; omega⟩
    · have hlen := keysTo_length sbox k n hk
      have HC := Lib.hid hC
      have Hlen := Lib.hid hlen
      have HR := Lib.hid hR
      clear hC hlen hR
      go_wp2
      go_ret
      have hn' : n = 10 := by omega
      have hC := HC.out
      have hlen := Hlen.out
      rw [hn'] at hC hlen
      exact ⟨c, w.heap.size + 1, rfl, ⟨hC, HR.out, sbox_length, hlen⟩, by omega, by omega, hB⟩
end Go.Proofs.Ytjjcnijdjhhdoaa
