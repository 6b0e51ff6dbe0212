/- The walk of the law AesSteps. -/
import Derived.Test.YtjjcnijdjhhdoaaAesA
import Derived.Test.YtjjcnijdjhhdoaaAesLB
import Derived.Test.YtjjcnijdjhhdoaaSame
import Derived.Test.YtjjcnijdjhhdoaaOrd2
import Derived.Test.YtjjcnijdjhhdoaaLaw2
import Derived.Test.YtjjcnijdjhhdoaaStm
import Derived.Test.YtjjcnijdjhhdoaaKeq
import Derived.Test.YtjjcnijdjhhdoaaCut
import Derived.Test.YtjjcnijdjhhdoaaMask
import Derived.Deep.CutBlock
import Derived.Deep.DeepCutAuto
namespace Go.Proofs.Ytjjcnijdjhhdoaa
open Go.RowKit Go.QT
attribute [local go_sem] bits_xor8 bits_or8 bits_and8 u8_ub ub_succ
set_option maxRecDepth 100000 in
set_option maxHeartbeats 2000000 in
theorem law_aesSteps (k f b : Bytes) (v : Value) (w : World) (hk : k.length = 16) (hf : f.length = 16) (hT : SB w v b) :
    Calls Try.prog 6 #[.agg (vb k).toArray, .agg (vb f).toArray, v] w fun e w' => e = .returned (.bool true) ∧ Below w.heap.size w w' := by
  have H16 : Hd (∀ W, Calls Try.prog 16 #[.agg (vb k).toArray] W (NewPost W k)) := ⟨fun W => new_any k W hk⟩
  have H17 : Hd (∀ W c bx b, b.length = 16 → CAt W c bx sbox (keys sbox k) → Calls Try.prog 17 #[.pointer (some ⟨c, 0, none⟩), .agg (vb b).toArray] W fun e w' => e = .returned (.agg (vb (blk sbox (keys sbox k) b)).toArray) ∧ Below W.heap.size W w') := ⟨fun W c bx b hb h => block_any c bx _ _ b W hb h⟩
  have H21 : Hd (∀ W c bx f v t, f.length = 16 → CAt W c bx sbox (keys sbox k) → SB W v t → t.length ≤ 70368744177664 → Calls Try.prog 21 #[.pointer (some ⟨c, 0, none⟩), .agg (vb f).toArray, v] W (BPost W (stream sbox (keys sbox k) f t))) := ⟨fun W c bx f v t hf h h2 h3 => stream_any c bx _ _ f t v W h hf h2 h3⟩
  have hik : (Try.prog.info? 22).map (·.size) = some (vb k).length := by rw [i22]; simp [hk]
  have hif : (Try.prog.info? 22).map (·.size) = some (vb f).length := by rw [i22]; simp [hf]
  have hinl : (inc f).length = 16 := (incFrom_length f 16).trans hf
  have hin : (Try.prog.info? 22).map (·.size) = some (vb (inc f)).length := by rw [i22]; simp [hinl]
  have HX := Hd.mk (blk_length sbox (keys sbox k) f hf)
  have hix : (Try.prog.info? 22).map (·.size) = some (vb (blk sbox (keys sbox k) f)).length := by rw [i22]; simp [HX.out]
  have Hik := Hd.mk hik
  have Hif := Hd.mk hif
  have Hin := Hd.mk hin
  have Hix := Hd.mk hix
  have Hinl := Hd.mk hinl
  have Hk := Hd.mk hk
  have Hf := Hd.mk hf
  have Hzero := Hd.mk (stream_zeros sbox (keys sbox k) f HX.out)
  have Hdrop := Hd.mk (stream_drop sbox (keys sbox k) f b)
  have Hsl := Hd.mk (stream_len sbox (keys sbox k) f b)
  have hbv : ∃ A c, v = .slice A b.length c ∧ b.length ≤ c ∧ c ≤ 2 ^ 63 - 1 := by obtain ⟨A, c, e, h1, h2, _⟩ := hT; exact ⟨A, c, e, h1, by unfold maxLen at h2; exact h2⟩
  obtain ⟨A, cp, rfl, hcp1, hcp2⟩ := hbv
  have HT := Hd.mk hT
  clear hik hif hin hix hinl hk hf hT
  go_enter Try.func6, Try.ntmps6
  go_upto_region 1 with (fail)
  have hK : Row ((w.alloc (.cells (vb k).toArray 22)).alloc (.cells (vb f).toArray 22)) w.heap.size 22 k := Row.alloc (Row.new w 22 k) _
  have hA : Row ((w.alloc (.cells (vb k).toArray 22)).alloc (.cells (vb f).toArray 22)) (w.heap.size + 1) 22 f := by
    have := Row.new (w.alloc (.cells (vb k).toArray 22)) 22 f
    simp only [World.size_alloc] at this
    exact this
  have hB : Below w.heap.size w ((w.alloc (.cells (vb k).toArray 22)).alloc (.cells (vb f).toArray 22)) := ((Below.refl _ _).alloc (Nat.le_refl _) _).alloc (by simp) _
  generalize (w.alloc (.cells (vb k).toArray 22)).alloc (.cells (vb f).toArray 22) = w1 at *
  have HK := Hd.mk hK
  have HA := Hd.mk hA
  have HB := Hd.mk hB
  clear hK hA hB
  by_cases h200 : b.length ≤ 200
  · have hd : decide ((b.length : Int) > 200) = false := by simp; omega
    go_upto_region 5 with (go_at_call 15; refine (alive_any _).mono ?_; rintro e w2 ⟨rfl, hb2⟩)
    have hK2 := HK.out.below hb2 HK.out.lt
    have hA2 := HA.out.below hb2 HA.out.lt
    have hB2 : Below w.heap.size w w2 := HB.out.trans (hb2.mono HB.out.size)
    clear HK HA HB hb2
    have HK := Hd.mk hK2
    have HA := Hd.mk hA2
    clear hK2 hA2
    go_upto_region 6 with (first | (refine wl_load rfl 22 _ rfl w.heap.size 0 rfl 22 (vb k) (vb k) _ HK.out (by simp) ty22 rfl (by exact Hik.out) ?_) | (go_at_call 16; refine (H16.out _).mono ?_; rintro e w3 ⟨c, bx, rfl, hc, hc1, hc2, hb3⟩))
    have hA3 := HA.out.below hb3 HA.out.lt
    have hB3 : Below w.heap.size w w3 := hB2.trans (hb3.mono hB2.size)
    clear HK HA hB2 hb3 hc1 hc2 Hik
    have HA := Hd.mk hA3
    have Hc := Hd.mk hc
    have Hcl := Hc.out.c.lt
    have Hbl := Hc.out.b.lt
    clear hA3 hc
    go_upto_region 7 with (first | (refine wl_load rfl 22 _ rfl (w.heap.size + 1) 0 rfl 22 (vb f) (vb f) _ HA.out (by simp) ty22 rfl (by exact Hif.out) ?_) | (refine wl_storeW rfl 22 _ _ rfl w3.heap.size 0 (vb f) rfl rfl 22 _ (vb f) (Blk.new _ _ (List.replicate 16 (.int .u8 0))) (by simp [Hf.out]) (by exact Hif.out) (vb_ones _) (by simp [Hf.out]) ?_; intro w4 hb4 hg4 hs4))
    have hN4 : Row w4 w3.heap.size 22 f := hb4
    have hB4 : Below w3.heap.size w3 w4 := ((Below.refl _ _).alloc (Nat.le_refl _) (.cells (List.replicate 16 (Value.int .u8 0)).toArray 22)).grown hg4 (by simp) (by rintro j hj; cases hj; omega)
    clear hb4 hg4 hs4
    go_upto_block 0 with (fail)
    go_cut [] (fun wx => Row wx w3.heap.size 22 (inc f) ∧ Below w3.heap.size w3 wx)
    case first =>
      go_wp2_with fail
      go_loopw [9] (fun j wr => ∃ (i : Nat) (G : Bytes), i ≤ 16 ∧ j = .int .i64 (↑i - 1) ∧ G.length = 16 ∧ incFrom G i = inc f ∧ Row wr w3.heap.size 22 G ∧ Below w3.heap.size w3 wr) (fun j _ => (1 + intOf j).toNat)
      case atStart => exact ⟨16, f, by omega, by go_num, Hf.out, rfl, hN4, hB4⟩
      case round =>
        clear hN4 hB4
        obtain ⟨i, G, hi, rfl, hGl, hG, hN, hB⟩ := hrel
        have HG := Hd.mk hG
        by_cases hi0 : 1 ≤ i
        · have e1 := Row.cell hN (i := i - 1) (by rw [hGl]; omega)
          have e2 := Row.frozen hN (i - 1)
          have HN := Hd.mk hN
          have HGl := Hd.mk hGl
          have hstep : incFrom G i = if gb G (i - 1) + 1 = 0 then incFrom (G.set (i - 1) 0) (i - 1) else G.set (i - 1) (gb G (i - 1) + 1) := by
            obtain ⟨i', rfl⟩ : ∃ i', i = i' + 1 := ⟨i - 1, by omega⟩
            rfl
          have Hstep := Hd.mk hstep
          clear hN hG hGl hstep
          by_cases hz : gb G (i - 1) + 1 = 0
          · have ht : (ub (gb G (i - 1) + 1) != 0) = false := by rw [hz]; simp [ub]
            have Hz := Hd.mk hz
            clear hz
            go_wp2
            refine ⟨⟨i - 1, G.set (i - 1) (gb G (i - 1) + 1), by omega, by go_num, by rw [List.length_set]; exact HGl.out, ?_, HN.out.set _ _, hB.setCell (Nat.le_refl _) _⟩, by simp [intOf]; omega⟩
            have h1 := Hstep.out
            rw [if_pos Hz.out] at h1
            rw [Hz.out, ← h1]; exact HG.out
          · have ht : (ub (gb G (i - 1) + 1) != 0) = true := by
              have : ub 0 = 0 := by simp [ub]
              rw [← this]; simp [ub_inj, hz]
            have Hz := Hd.mk hz
            clear hz
            go_wp2
            go_meet
            have h1 := Hstep.out
            rw [if_neg Hz.out] at h1
            rw [← HG.out, h1]
            exact ⟨HN.out.set _ _, hB.setCell (Nat.le_refl _) _⟩
        · have hi' : i = 0 := by omega
          have HN := Hd.mk hN
          clear hN hG hGl
          go_wp2
          go_meet
          have h1 := HG.out
          rw [hi'] at h1
          rw [← h1]
          exact ⟨HN.out, hB⟩
    case rest =>
      obtain ⟨hN, hB5⟩ := hcut
      clear hN4 hB4 w4
      obtain ⟨w4, rfl⟩ : ∃ w4 : World, w4 = wc := ⟨_, rfl⟩
      have hA4 := HA.out.below hB5 HA.out.lt
      have hc4 := Hc.out.below hB5 Hcl Hbl
      have hB4 := hB3.trans (hB5.mono hB3.size)
      have hsz3 := hB3.size
      clear HA Hc hB3 hB5 Hcl Hbl
      have HA := Hd.mk hA4
      have HN := Hd.mk hN
      have Hc := Hd.mk hc4
      have Hcl := Hc.out.c.lt
      have Hbl := Hc.out.b.lt
      have HB := Hd.mk hB4
      clear hA4 hN hc4 hB4
      generalize w3.heap.size = gn at *
      go_upto_region 13 with (first | (refine wl_load rfl 22 _ rfl (w.heap.size + 1) 0 rfl 22 (vb f) (vb f) _ HA.out (by simp) ty22 rfl (by exact Hif.out) ?_) | (go_at_call 17; refine (H17.out _ c bx f Hf.out Hc.out).mono ?_; rintro e w5 ⟨rfl, hb5⟩) | (refine wl_storeW rfl 22 _ _ rfl w5.heap.size 0 (vb (blk sbox (keys sbox k) f)) rfl rfl 22 _ (vb (blk sbox (keys sbox k) f)) (Blk.new _ _ (List.replicate 16 (.int .u8 0))) (by simp [HX.out]) (by exact Hix.out) (vb_ones _) (by simp [HX.out]) ?_; intro w6 hb6 hg6 hs6))
      have hP6 : Row w6 w5.heap.size 22 (blk sbox (keys sbox k) f) := hb6
      have hB6 : Below w4.heap.size w4 w6 := (hb5.alloc hb5.size (.cells (List.replicate 16 (Value.int .u8 0)).toArray 22)).grown hg6 (by have := hb5.size; simp; omega) (by have := hb5.size; rintro j hj; cases hj; omega)
      have hA6 := HA.out.below hB6 HA.out.lt
      have hN6 := HN.out.below hB6 HN.out.lt
      have hc6 := Hc.out.below hB6 Hcl Hbl
      have hBw := HB.out.trans (hB6.mono HB.out.size)
      clear hb6 hg6 hs6 HA HN Hc HB hB6 hb5 Hcl Hbl
      have HA := Hd.mk hA6
      have HN := Hd.mk hN6
      have Hc := Hd.mk hc6
      have HB := Hd.mk hBw
      have HP := Hd.mk hP6
      have Hcl := Hc.out.c.lt
      have Hbl := Hc.out.b.lt
      clear hA6 hN6 hc6 hBw hP6
      generalize w5.heap.size = gp at *
      refine oH_begin (n := 7) (fun W => Below w6.heap.size w6 W) (by kernel_rfl) rfl ?_
      have hw : Below w6.heap.size w6 (w6.drewN 1) := below_drewN (Below.refl _ _) 1
      generalize w6.drewN 1 = w7 at *
      refine oH_val (i := 0) (some 35) (.pointer (some ⟨c, 0, none⟩)) rfl rfl (by kernel_rfl) (by kernel_rfl) (by kernel_rfl) (fun _ d _ _ _ h => by cases d <;> exact h) (by kernel_rfl) hw (fun _ _ => rfl) ?_
      simp only [Act.put, List.setIfInBounds_toArray, List.set_cons_succ, List.set_cons_zero]
      refine oH_val (i := 1) (some 36) (.agg (vb f).toArray) rfl rfl (by kernel_rfl) (by kernel_rfl) (by kernel_rfl) (fun _ d _ _ _ h => by cases d <;> exact h) (by kernel_rfl) hw (fun W h => exec_load 22 _ rfl (w.heap.size + 1) 0 rfl 22 (vb f) (vb f) _ (HA.out.below h HA.out.lt) (by simp) ty22 rfl Hif.out) ?_
      simp only [Act.put, List.setIfInBounds_toArray, List.set_cons_succ, List.set_cons_zero]
      refine oH_val (i := 4) (some 39) (.slice (some ⟨gp, 0, none⟩) 16 16) rfl rfl (by kernel_rfl) (by kernel_rfl) (by kernel_rfl) (fun _ d _ _ _ h => by cases d <;> exact h) (by kernel_rfl) hw (by intro W _; simp [go_sem]) ?_
      simp only [Act.put, List.setIfInBounds_toArray, List.set_cons_succ, List.set_cons_zero]
      refine oH_run (i := 2) (some 37) (.slice (some ⟨w7.heap.size, 0, none⟩) 16 16) rfl rfl (by kernel_rfl) (by kernel_rfl) (show _ = Result.ok _ (w7.alloc (.cells (vb (List.replicate 16 0)).toArray 5)) by kernel_rfl) (hw.alloc hw.size _) ?_
      simp only [Act.put, List.setIfInBounds_toArray, List.set_cons_succ, List.set_cons_zero]
      have hz : SB (w7.alloc (.cells (vb (List.replicate 16 0)).toArray 5)) (.slice (some ⟨w7.heap.size, 0, none⟩) 16 16) (List.replicate 16 0) := SB.row (Row.new w7 5 (List.replicate 16 0)) (by simp [maxLen])
      have hw8 : Below w6.heap.size w6 (w7.alloc (.cells (vb (List.replicate 16 0)).toArray 5)) := hw.alloc hw.size _
      generalize w7.alloc (.cells (vb (List.replicate 16 0)).toArray 5) = w8 at *
      refine oH_call (i := 3) (some 38) rfl rfl (by kernel_rfl) (by kernel_rfl) 21 _ _ rfl [.pointer (some ⟨c, 0, none⟩), .agg (vb f).toArray, .slice (some ⟨w7.heap.size, 0, none⟩) 16 16] rfl (by kernel_rfl) (H21.out _ c bx f _ _ Hf.out (Hc.out.below hw8 Hcl Hbl) hz (by simp)) ?_
      rintro e w9 ⟨vS, rfl, hvS, hb9⟩
      have hw9 : Below w6.heap.size w6 w9 := hw8.trans (hb9.mono hw8.size)
      rw [Hzero.out] at hvS
      have hP9 := SB.row (HP.out.below hw9 HP.out.lt) (by rw [HX.out]; simp [maxLen])
      rw [HX.out] at hP9
      refine ⟨_, rfl, hw9, ?_⟩
      simp only [Act.put, List.setIfInBounds_toArray, List.set_cons_succ, List.set_cons_zero]
      refine oH_call (i := 5) (some 40) rfl rfl (by kernel_rfl) (by kernel_rfl) 18 _ _ rfl [vS, .slice (some ⟨gp, 0, none⟩) 16 16] rfl (by kernel_rfl) (same_any _ _ _ _ _ hvS.sb hP9) ?_
      rintro e w10 ⟨rfl, nq, rfl⟩
      have hw10 := below_drewN hw9 nq
      rw [decide_eq_true rfl]
      generalize w9.drewN nq = w10 at *
      refine ⟨_, rfl, hw10, ?_⟩
      simp only [Act.put, List.setIfInBounds_toArray, List.set_cons_succ, List.set_cons_zero]
      refine oH_val (i := 6) (some 41) (.bool false) rfl rfl (by kernel_rfl) (by kernel_rfl) (by kernel_rfl) (fun _ d _ _ _ h => by cases d <;> exact h) (by kernel_rfl) hw10 (by intro W _; simp [go_sem]) ?_
      simp only [Act.put, List.setIfInBounds_toArray, List.set_cons_succ, List.set_cons_zero]
      refine wpAnyH_done (by kernel_rfl) ?_ _
      go_upto_region 15 with (fail)
      have hA := HA.out.below hw10 HA.out.lt
      have hN := HN.out.below hw10 HN.out.lt
      have hc10 := Hc.out.below hw10 Hcl Hbl
      have hBw := HB.out.trans (hw10.mono HB.out.size)
      have HT10 := HT.out.below hBw
      clear HA HN Hc HB Hcl Hbl HP
      have HA := Hd.mk hA
      have HN := Hd.mk hN
      have Hc := Hd.mk hc10
      have Hcl := Hc.out.c.lt
      have Hbl := Hc.out.b.lt
      clear hA hN hc10 hw hw8 hw9 hvS hb9 hP9 hz
      by_cases h16 : b.length < 16
      · have _ht : decide ((b.length : Int) < 16) = true := by simp; omega
        refine oH_begin (n := 17) (fun W => Below w10.heap.size w10 W) (by kernel_rfl) rfl ?_
        have hw : Below w10.heap.size w10 (w10.drewN 1) := below_drewN (Below.refl _ _) 1
        generalize w10.drewN 1 = w11 at *
        refine oH_val (i := 0) (some 42) (.slice A b.length cp) rfl rfl (by kernel_rfl) (by kernel_rfl) (by kernel_rfl) (fun _ d _ _ _ h => by cases d <;> exact h) (by kernel_rfl) hw (fun _ _ => rfl) ?_
        simp only [Act.put, List.setIfInBounds_toArray, List.set_cons_succ, List.set_cons_zero]
        refine oH_val (i := 1) (some 43) (.int .i64 (b.length : Int)) rfl rfl (by kernel_rfl) (by kernel_rfl) (by kernel_rfl) (fun _ d _ _ _ h => by cases d <;> exact h) (by kernel_rfl) hw (by intro W _; simp [go_sem]) ?_
        simp only [Act.put, List.setIfInBounds_toArray, List.set_cons_succ, List.set_cons_zero]
        refine oH_val (i := 2) (some 44) (.bool true) rfl rfl (by kernel_rfl) (by kernel_rfl) (by kernel_rfl) (fun _ d _ _ _ h => by cases d <;> exact h) (by kernel_rfl) hw (by intro W _; simp [go_sem]; omega) ?_
        simp only [Act.put, List.setIfInBounds_toArray, List.set_cons_succ, List.set_cons_zero]
        refine oH_val (i := 3) (some 45) (.bool true) rfl rfl (by kernel_rfl) (by kernel_rfl) (by kernel_rfl) (fun _ d _ _ _ h => by cases d <;> exact h) (by kernel_rfl) hw (fun _ _ => rfl) ?_
        simp only [Act.put, List.setIfInBounds_toArray, List.set_cons_succ, List.set_cons_zero]
        refine oH_skip (i := 4) (some 46) rfl rfl (by kernel_rfl) (by kernel_rfl) (by kernel_rfl) (fun _ d _ _ _ h => by cases d <;> exact h) (by kernel_rfl) hw ?_
        simp only [Act.put, List.setIfInBounds_toArray, List.set_cons_succ, List.set_cons_zero]
        refine oH_skip (i := 5) (some 47) rfl rfl (by kernel_rfl) (by kernel_rfl) (by kernel_rfl) (fun _ d _ _ _ h => by cases d <;> exact h) (by kernel_rfl) hw ?_
        simp only [Act.put, List.setIfInBounds_toArray, List.set_cons_succ, List.set_cons_zero]
        refine oH_skip (i := 6) (some 48) rfl rfl (by kernel_rfl) (by kernel_rfl) (by kernel_rfl) (fun _ d _ _ _ h => by cases d <;> exact h) (by kernel_rfl) hw ?_
        simp only [Act.put, List.setIfInBounds_toArray, List.set_cons_succ, List.set_cons_zero]
        refine oH_skip (i := 7) (some 49) rfl rfl (by kernel_rfl) (by kernel_rfl) (by kernel_rfl) (fun _ d _ _ _ h => by cases d <;> exact h) (by kernel_rfl) hw ?_
        simp only [Act.put, List.setIfInBounds_toArray, List.set_cons_succ, List.set_cons_zero]
        refine oH_skip (i := 8) (some 50) rfl rfl (by kernel_rfl) (by kernel_rfl) (by kernel_rfl) (fun _ d _ _ _ h => by cases d <;> exact h) (by kernel_rfl) hw ?_
        simp only [Act.put, List.setIfInBounds_toArray, List.set_cons_succ, List.set_cons_zero]
        refine oH_skip (i := 9) (some 51) rfl rfl (by kernel_rfl) (by kernel_rfl) (by kernel_rfl) (fun _ d _ _ _ h => by cases d <;> exact h) (by kernel_rfl) hw ?_
        simp only [Act.put, List.setIfInBounds_toArray, List.set_cons_succ, List.set_cons_zero]
        refine oH_skip (i := 10) (some 52) rfl rfl (by kernel_rfl) (by kernel_rfl) (by kernel_rfl) (fun _ d _ _ _ h => by cases d <;> exact h) (by kernel_rfl) hw ?_
        simp only [Act.put, List.setIfInBounds_toArray, List.set_cons_succ, List.set_cons_zero]
        refine oH_skip (i := 11) (some 53) rfl rfl (by kernel_rfl) (by kernel_rfl) (by kernel_rfl) (fun _ d _ _ _ h => by cases d <;> exact h) (by kernel_rfl) hw ?_
        simp only [Act.put, List.setIfInBounds_toArray, List.set_cons_succ, List.set_cons_zero]
        refine oH_skip (i := 12) (some 54) rfl rfl (by kernel_rfl) (by kernel_rfl) (by kernel_rfl) (fun _ d _ _ _ h => by cases d <;> exact h) (by kernel_rfl) hw ?_
        simp only [Act.put, List.setIfInBounds_toArray, List.set_cons_succ, List.set_cons_zero]
        refine oH_skip (i := 13) (some 55) rfl rfl (by kernel_rfl) (by kernel_rfl) (by kernel_rfl) (fun _ d _ _ _ h => by cases d <;> exact h) (by kernel_rfl) hw ?_
        simp only [Act.put, List.setIfInBounds_toArray, List.set_cons_succ, List.set_cons_zero]
        refine oH_skip (i := 14) (some 56) rfl rfl (by kernel_rfl) (by kernel_rfl) (by kernel_rfl) (fun _ d _ _ _ h => by cases d <;> exact h) (by kernel_rfl) hw ?_
        simp only [Act.put, List.setIfInBounds_toArray, List.set_cons_succ, List.set_cons_zero]
        refine oH_val (i := 15) (some 57) (.bool true) rfl rfl (by kernel_rfl) (by kernel_rfl) (by kernel_rfl) (fun _ d _ _ _ h => by cases d <;> exact h) (by kernel_rfl) hw (fun _ _ => rfl) ?_
        simp only [Act.put, List.setIfInBounds_toArray, List.set_cons_succ, List.set_cons_zero]
        refine oH_run (i := 16) (some 6) (.bool true) rfl rfl (by kernel_rfl) (by kernel_rfl) (by simp [go_sem]) hw ?_
        simp only [Act.put, List.setIfInBounds_toArray, List.set_cons_succ, List.set_cons_zero]
        refine wpAnyH_done (by kernel_rfl) ?_ _
        go_wp2
        go_ret
        exact ⟨rfl, hBw.trans (hw.mono hBw.size)⟩
      · have _ht : decide ((b.length : Int) < 16) = false := by simp; omega
        refine oH_begin (n := 17) (fun W => Below w10.heap.size w10 W) (by kernel_rfl) rfl ?_
        have hw : Below w10.heap.size w10 (w10.drewN 1) := below_drewN (Below.refl _ _) 1
        generalize w10.drewN 1 = w11 at *
        refine oH_val (i := 0) (some 42) (.slice A b.length cp) rfl rfl (by kernel_rfl) (by kernel_rfl) (by kernel_rfl) (fun _ d _ _ _ h => by cases d <;> exact h) (by kernel_rfl) hw (fun _ _ => rfl) ?_
        simp only [Act.put, List.setIfInBounds_toArray, List.set_cons_succ, List.set_cons_zero]
        refine oH_val (i := 1) (some 43) (.int .i64 (b.length : Int)) rfl rfl (by kernel_rfl) (by kernel_rfl) (by kernel_rfl) (fun _ d _ _ _ h => by cases d <;> exact h) (by kernel_rfl) hw (by intro W _; simp [go_sem]) ?_
        simp only [Act.put, List.setIfInBounds_toArray, List.set_cons_succ, List.set_cons_zero]
        refine oH_val (i := 2) (some 44) (.bool false) rfl rfl (by kernel_rfl) (by kernel_rfl) (by kernel_rfl) (fun _ d _ _ _ h => by cases d <;> exact h) (by kernel_rfl) hw (by intro W _; simp [go_sem]; omega) ?_
        simp only [Act.put, List.setIfInBounds_toArray, List.set_cons_succ, List.set_cons_zero]
        refine oH_val (i := 3) (some 45) (.bool false) rfl rfl (by kernel_rfl) (by kernel_rfl) (by kernel_rfl) (fun _ d _ _ _ h => by cases d <;> exact h) (by kernel_rfl) hw (fun _ _ => rfl) ?_
        simp only [Act.put, List.setIfInBounds_toArray, List.set_cons_succ, List.set_cons_zero]
        refine oH_val (i := 4) (some 46) (.pointer (some ⟨c, 0, none⟩)) rfl rfl (by kernel_rfl) (by kernel_rfl) (by kernel_rfl) (fun _ d _ _ _ h => by cases d <;> exact h) (by kernel_rfl) hw (fun _ _ => rfl) ?_
        simp only [Act.put, List.setIfInBounds_toArray, List.set_cons_succ, List.set_cons_zero]
        refine oH_val (i := 5) (some 47) (.agg (vb f).toArray) rfl rfl (by kernel_rfl) (by kernel_rfl) (by kernel_rfl) (fun _ d _ _ _ h => by cases d <;> exact h) (by kernel_rfl) hw (fun W h => exec_load 22 _ rfl (w.heap.size + 1) 0 rfl 22 (vb f) (vb f) _ (HA.out.below h HA.out.lt) (by simp) ty22 rfl Hif.out) ?_
        simp only [Act.put, List.setIfInBounds_toArray, List.set_cons_succ, List.set_cons_zero]
        refine oH_val (i := 6) (some 48) (.slice A b.length cp) rfl rfl (by kernel_rfl) (by kernel_rfl) (by kernel_rfl) (fun _ d _ _ _ h => by cases d <;> exact h) (by kernel_rfl) hw (fun _ _ => rfl) ?_
        simp only [Act.put, List.setIfInBounds_toArray, List.set_cons_succ, List.set_cons_zero]
        refine oH_val (i := 9) (some 51) (.pointer (some ⟨c, 0, none⟩)) rfl rfl (by kernel_rfl) (by kernel_rfl) (by kernel_rfl) (fun _ d _ _ _ h => by cases d <;> exact h) (by kernel_rfl) hw (fun _ _ => rfl) ?_
        simp only [Act.put, List.setIfInBounds_toArray, List.set_cons_succ, List.set_cons_zero]
        refine oH_val (i := 10) (some 52) (.agg (vb (inc f)).toArray) rfl rfl (by kernel_rfl) (by kernel_rfl) (by kernel_rfl) (fun _ d _ _ _ h => by cases d <;> exact h) (by kernel_rfl) hw (fun W h => exec_load 22 _ rfl (gn) 0 rfl 22 (vb (inc f)) (vb (inc f)) _ (HN.out.below h HN.out.lt) (by simp) ty22 rfl Hin.out) ?_
        simp only [Act.put, List.setIfInBounds_toArray, List.set_cons_succ, List.set_cons_zero]
        refine oH_val (i := 11) (some 53) (.slice A b.length cp) rfl rfl (by kernel_rfl) (by kernel_rfl) (by kernel_rfl) (fun _ d _ _ _ h => by cases d <;> exact h) (by kernel_rfl) hw (fun _ _ => rfl) ?_
        simp only [Act.put, List.setIfInBounds_toArray, List.set_cons_succ, List.set_cons_zero]
        refine oH_val (i := 12) (some 54) (cutS (.slice A b.length cp) 16 b.length) rfl rfl (by kernel_rfl) (by kernel_rfl) (by kernel_rfl) (fun _ d _ _ _ h => by cases d <;> exact h) (by kernel_rfl) hw (fun W _ => exec_cut_l (w := w10) _ _ (by rfl) (.slice A b.length cp) b (by rfl) HT10 .i64 16 (by rfl) (by omega) (by omega) W) ?_
        simp only [Act.put, List.setIfInBounds_toArray, List.set_cons_succ, List.set_cons_zero]
        refine oH_call (i := 7) (some 49) rfl rfl (by kernel_rfl) (by kernel_rfl) 21 _ _ rfl [.pointer (some ⟨c, 0, none⟩), .agg (vb f).toArray, .slice A b.length cp] rfl (by kernel_rfl) (H21.out _ c bx f _ _ Hf.out (Hc.out.below hw Hcl Hbl) (HT10.below hw) (by omega)) ?_
        rintro e w12 ⟨vS, rfl, hvS, hb12⟩
        have hw12 : Below w10.heap.size w10 w12 := hw.trans (hb12.mono hw.size)
        have hS := hvS.sb
        refine ⟨_, rfl, hw12, ?_⟩
        simp only [Act.put, List.setIfInBounds_toArray, List.set_cons_succ, List.set_cons_zero]
        refine oH_val (i := 8) (some 50) (cutS vS 16 (stream sbox (keys sbox k) f b).length) rfl rfl (by kernel_rfl) (by kernel_rfl) (by kernel_rfl) (fun _ d _ _ _ h => by cases d <;> exact h) (by kernel_rfl) hw12 (fun W _ => exec_cut_l (w := w12) _ _ (by rfl) vS (stream sbox (keys sbox k) f b) (by rfl) hS .i64 16 (by rfl) (by omega) (by rw [Hsl.out]; omega) W) ?_
        simp only [Act.put, List.setIfInBounds_toArray, List.set_cons_succ, List.set_cons_zero]
        refine oH_call (i := 13) (some 55) rfl rfl (by kernel_rfl) (by kernel_rfl) 21 _ _ rfl [.pointer (some ⟨c, 0, none⟩), .agg (vb (inc f)).toArray, cutS (.slice A b.length cp) 16 b.length] rfl (by kernel_rfl) (H21.out _ c bx (inc f) _ _ Hinl.out (Hc.out.below hw12 Hcl Hbl) ((HT10.cut 16 b.length (Nat.le_refl _)).below hw12) (by rw [len_cut _ _ _ (Nat.le_refl _)]; omega)) ?_
        rintro e w13 ⟨vR, rfl, hvR, hb13⟩
        have hw13 : Below w10.heap.size w10 w13 := hw12.trans (hb13.mono hw12.size)
        rw [List.take_length, Hdrop.out] at hvR
        have hL := (hS.cut 16 _ (Nat.le_refl _)).below hb13
        rw [List.take_length] at hL
        refine ⟨_, rfl, hw13, ?_⟩
        simp only [Act.put, List.setIfInBounds_toArray, List.set_cons_succ, List.set_cons_zero]
        refine oH_call (i := 14) (some 56) rfl rfl (by kernel_rfl) (by kernel_rfl) 18 _ _ rfl [cutS vS 16 (stream sbox (keys sbox k) f b).length, vR] rfl (by kernel_rfl) (same_any _ _ _ _ _ hL hvR.sb) ?_
        rintro e w14 ⟨rfl, nq2, rfl⟩
        have hw14 := below_drewN hw13 nq2
        rw [decide_eq_true rfl]
        generalize w13.drewN nq2 = w14 at *
        refine ⟨_, rfl, hw14, ?_⟩
        simp only [Act.put, List.setIfInBounds_toArray, List.set_cons_succ, List.set_cons_zero]
        refine oH_val (i := 15) (some 57) (.bool true) rfl rfl (by kernel_rfl) (by kernel_rfl) (by kernel_rfl) (fun _ d _ _ _ h => by cases d <;> exact h) (by kernel_rfl) hw14 (fun _ _ => rfl) ?_
        simp only [Act.put, List.setIfInBounds_toArray, List.set_cons_succ, List.set_cons_zero]
        refine oH_run (i := 16) (some 6) (.bool true) rfl rfl (by kernel_rfl) (by kernel_rfl) (by simp [go_sem]) hw14 ?_
        simp only [Act.put, List.setIfInBounds_toArray, List.set_cons_succ, List.set_cons_zero]
        refine wpAnyH_done (by kernel_rfl) ?_ _
        go_wp2
        go_ret
        exact ⟨rfl, hBw.trans (hw14.mono hBw.size)⟩
  · have hd : decide ((b.length : Int) > 200) = true := by simp; omega
    go_wp2_with (go_at_call 15; refine (alive_any _).mono ?_; rintro e w2 ⟨rfl, hb2⟩)
    go_ret
    exact ⟨rfl, HB.out.trans (hb2.mono HB.out.size)⟩
end Go.Proofs.Ytjjcnijdjhhdoaa
