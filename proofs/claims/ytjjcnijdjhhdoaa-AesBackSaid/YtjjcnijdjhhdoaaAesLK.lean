/- The walk of the law AesBack. -/
import Derived.Test.YtjjcnijdjhhdoaaAesA
import Derived.Test.YtjjcnijdjhhdoaaAesLB
import Derived.Test.YtjjcnijdjhhdoaaSame
import Derived.Test.YtjjcnijdjhhdoaaOrd2
import Derived.Test.YtjjcnijdjhhdoaaLaw2
import Derived.Test.YtjjcnijdjhhdoaaStm
import Derived.Test.YtjjcnijdjhhdoaaKeq
import Derived.Test.YtjjcnijdjhhdoaaCut
import Derived.Test.YtjjcnijdjhhdoaaMask
namespace Go.Proofs.Ytjjcnijdjhhdoaa
open Go.RowKit Go.QT
set_option maxRecDepth 100000 in
set_option maxHeartbeats 2000000 in
theorem law_aesBack (k a b text : Bytes) (v : Value) (cut : Int) (w : World) (hk : k.length = 16) (ha : a.length = 16) (hb : b.length = 16) (hT : SB w v text)
    (hinj : (decide (blk sbox (keys sbox k) a = blk sbox (keys sbox k) b) == decide (a = b)) = true) :
    Calls Try.prog 5 #[.agg (vb k).toArray, .agg (vb a).toArray, .agg (vb b).toArray, v, .int .i64 cut] w fun e w' => e = .returned (.bool true) ∧ Below w.heap.size w w' := by
  have Hinj := Hd.mk hinj
  have H16 : Hd (∀ W, Calls Try.prog 16 #[.agg (vb k).toArray] W (NewPost W k)) := ⟨fun W => new_any k W hk⟩
  have H17 : Hd (∀ W c bx b, b.length = 16 → CAt W c bx sbox (keys sbox k) → Calls Try.prog 17 #[.pointer (some ⟨c, 0, none⟩), .agg (vb b).toArray] W fun e w' => e = .returned (.agg (vb (blk sbox (keys sbox k) b)).toArray) ∧ Below W.heap.size W w') := ⟨fun W c bx b hb h => block_any c bx _ _ b W hb h⟩
  have hik : (Try.prog.info? 22).map (·.size) = some (vb k).length := by rw [i22]; simp [hk]
  have hia : (Try.prog.info? 22).map (·.size) = some (vb a).length := by rw [i22]; simp [ha]
  have hib : (Try.prog.info? 22).map (·.size) = some (vb b).length := by rw [i22]; simp [hb]
  have Hik := Hd.mk hik
  have Hia := Hd.mk hia
  have Hib := Hd.mk hib
  have Hk := Hd.mk hk
  have Ha := Hd.mk ha
  have Hb := Hd.mk hb
  have HXa := Hd.mk (blk_length sbox (keys sbox k) a ha)
  have HXb := Hd.mk (blk_length sbox (keys sbox k) b hb)
  have hbv : ∃ A c, v = .slice A text.length c ∧ text.length ≤ c ∧ c ≤ 2 ^ 63 - 1 := by obtain ⟨A, c, e, h1, h2, _⟩ := hT; exact ⟨A, c, e, h1, by unfold maxLen at h2; exact h2⟩
  obtain ⟨A, cp, rfl, hcp1, hcp2⟩ := hbv
  have HT := Hd.mk hT
  obtain ⟨nm, hnm, hnm2⟩ := and_mask cut 1023 (by omega)
  have hnm : bits .and .i64 cut 1023 = (nm : Int) := hnm
  clear hik hia hib hk ha hb hT hinj
  go_enter Try.func5, Try.ntmps5
  go_upto_region 1 with (fail)
  have hK : Row (((w.alloc (.cells (vb k).toArray 22)).alloc (.cells (vb a).toArray 22)).alloc (.cells (vb b).toArray 22)) w.heap.size 22 k := Row.alloc (Row.alloc (Row.new w 22 k) _) _
  have hA : Row (((w.alloc (.cells (vb k).toArray 22)).alloc (.cells (vb a).toArray 22)).alloc (.cells (vb b).toArray 22)) (w.heap.size + 1) 22 a := by
    have := Row.alloc (Row.new (w.alloc (.cells (vb k).toArray 22)) 22 a) (.cells (vb b).toArray 22)
    simp only [World.size_alloc] at this
    exact this
  have hBb : Row (((w.alloc (.cells (vb k).toArray 22)).alloc (.cells (vb a).toArray 22)).alloc (.cells (vb b).toArray 22)) (w.heap.size + 2) 22 b := by
    have := Row.new ((w.alloc (.cells (vb k).toArray 22)).alloc (.cells (vb a).toArray 22)) 22 b
    simp only [World.size_alloc] at this
    exact this
  have hB : Below w.heap.size w (((w.alloc (.cells (vb k).toArray 22)).alloc (.cells (vb a).toArray 22)).alloc (.cells (vb b).toArray 22)) := (((Below.refl _ _).alloc (Nat.le_refl _) _).alloc (by simp) _).alloc (by simp; omega) _
  generalize ((w.alloc (.cells (vb k).toArray 22)).alloc (.cells (vb a).toArray 22)).alloc (.cells (vb b).toArray 22) = w1 at *
  have HK := Hd.mk hK
  have HA := Hd.mk hA
  have HBb := Hd.mk hBb
  have HB := Hd.mk hB
  clear hK hA hBb hB
  by_cases h300 : text.length ≤ 300
  · have hd : decide ((text.length : Int) > 300) = false := by simp; omega
    go_upto_region 5 with (go_at_call 15; refine (alive_any _).mono ?_; rintro e w2 ⟨rfl, hb2⟩)
    have hK2 := HK.out.below hb2 HK.out.lt
    have hA2 := HA.out.below hb2 HA.out.lt
    have hBb2 := HBb.out.below hb2 HBb.out.lt
    have hB2 : Below w.heap.size w w2 := HB.out.trans (hb2.mono HB.out.size)
    clear HK HA HBb HB hb2
    have HK := Hd.mk hK2
    have HA := Hd.mk hA2
    have HBb := Hd.mk hBb2
    clear hK2 hA2 hBb2
    go_upto_region 6 with (first | (refine wl_load rfl 22 _ rfl w.heap.size 0 rfl 22 (vb k) (vb k) _ HK.out (by simp) ty22 rfl (by exact Hik.out) ?_) | (go_at_call 16; refine (H16.out _).mono ?_; rintro e w3 ⟨c, bx, rfl, hc, hc1, hc2, hb3⟩))
    have hK3 := HK.out.below hb3 HK.out.lt
    have hA3 := HA.out.below hb3 HA.out.lt
    have hBb3 := HBb.out.below hb3 HBb.out.lt
    have hB3 : Below w.heap.size w w3 := hB2.trans (hb3.mono hB2.size)
    clear HK HA HBb hB2 hb3 hc1 hc2
    have HK := Hd.mk hK3
    have HA := Hd.mk hA3
    have HBb := Hd.mk hBb3
    have Hc := Hd.mk hc
    clear hK3 hA3 hBb3 hc
    have H21 : Hd (∀ W v t, CAt W c bx sbox (keys sbox k) → SB W v t → t.length ≤ 70368744177664 → Calls Try.prog 21 #[.pointer (some ⟨c, 0, none⟩), .agg (vb a).toArray, v] W (BPost W (stream sbox (keys sbox k) a t))) := ⟨fun W v t h h2 h3 => stream_any c bx _ _ a t v W h Ha.out h2 h3⟩
    have hT3 := HT.out.below hB3
    go_upto_region 7 with (first | (refine wl_load rfl 22 _ rfl (w.heap.size + 1) 0 rfl 22 (vb a) (vb a) _ HA.out (by simp) ty22 rfl (by exact Hia.out) ?_) | (go_at_call 21; refine (H21.out _ _ _ Hc.out hT3 (by omega)).mono ?_; rintro e w5 ⟨vX, rfl, hvX, hb5⟩))
    have hK3 := HK.out.below hb5 HK.out.lt
    have hA3 := HA.out.below hb5 HA.out.lt
    have hBb3 := HBb.out.below hb5 HBb.out.lt
    have hc5 := Hc.out.below hb5 Hc.out.c.lt Hc.out.b.lt
    have hB5 : Below w.heap.size w w5 := hB3.trans (hb5.mono hB3.size)
    have hX5 := hvX.sb
    have hT5 := hT3.below hb5
    clear HK HA HBb hB3 hb5 Hc hT3 hvX HT
    have HK := Hd.mk hK3
    have HA := Hd.mk hA3
    have HBb := Hd.mk hBb3
    have Hc := Hd.mk hc5
    have HB5 := Hd.mk hB5
    have HX := Hd.mk hX5
    have HT := Hd.mk hT5
    have Hcl := Hc.out.c.lt
    have Hbl := Hc.out.b.lt
    have hvX := HX.out
    clear hK3 hA3 hBb3 hc5 hB5 hX5 hT5
    have HSL := Hd.mk (stream_len sbox (keys sbox k) a text)
    have hvX2 : ∃ A2 c2, vX = .slice A2 text.length c2 := by obtain ⟨A2, c2, e, _⟩ := HX.out; rw [HSL.out] at e; exact ⟨A2, c2, e⟩
    obtain ⟨A2, cX, hvXe⟩ := hvX2
    clear hvX
    rw [hvXe] at HX ⊢
    clear hvXe
    have hnm0 : (0 : Int) ≤ nm := by omega
    have hl0 : (0 : Int) < (text.length : Int) + 1 := by omega
    go_upto_region 8 with (fail)
    have hct : ∃ ct : Nat, ct ≤ text.length ∧ (nm : Int) % ((text.length : Int) + 1) = (ct : Int) := ⟨nm % (text.length + 1), by have := Nat.mod_lt nm (show 0 < text.length + 1 by omega); omega, by rw [Int.natCast_emod]; rfl⟩
    obtain ⟨ct, hct1, hct2⟩ := hct
    rw [hct2]
    clear hct2 hnm hnm2 hnm0
    refine oH_begin (n := 27) (fun W => Below w5.heap.size w5 W) (by kernel_rfl) rfl ?_
    have hw : Below w5.heap.size w5 (w5.drewN 1) := below_drewN (Below.refl _ _) 1
    generalize w5.drewN 1 = w6 at *
    refine oH_val (i := 0) (some 30) (.pointer (some ⟨c, 0, none⟩)) rfl rfl (by kernel_rfl) (by kernel_rfl) (by kernel_rfl) (fun _ d _ _ _ h => by cases d <;> exact h) (by kernel_rfl) hw (fun _ _ => rfl) ?_
    simp only [Act.put, List.setIfInBounds_toArray, List.set_cons_succ, List.set_cons_zero]
    refine oH_val (i := 1) (some 31) (.agg (vb a).toArray) rfl rfl (by kernel_rfl) (by kernel_rfl) (by kernel_rfl) (fun _ d _ _ _ h => by cases d <;> exact h) (by kernel_rfl) hw (fun W h => exec_load 22 _ rfl (w.heap.size + 1) 0 rfl 22 (vb a) (vb a) _ (HA.out.below h HA.out.lt) (by simp) ty22 rfl Hia.out) ?_
    simp only [Act.put, List.setIfInBounds_toArray, List.set_cons_succ, List.set_cons_zero]
    refine oH_val (i := 2) (some 32) ((.slice A2 text.length cX)) rfl rfl (by kernel_rfl) (by kernel_rfl) (by kernel_rfl) (fun _ d _ _ _ h => by cases d <;> exact h) (by kernel_rfl) hw (fun _ _ => rfl) ?_
    simp only [Act.put, List.setIfInBounds_toArray, List.set_cons_succ, List.set_cons_zero]
    refine oH_val (i := 4) (some 34) (.slice A text.length cp) rfl rfl (by kernel_rfl) (by kernel_rfl) (by kernel_rfl) (fun _ d _ _ _ h => by cases d <;> exact h) (by kernel_rfl) hw (fun _ _ => rfl) ?_
    simp only [Act.put, List.setIfInBounds_toArray, List.set_cons_succ, List.set_cons_zero]
    refine oH_call (i := 3) (some 33) rfl rfl (by kernel_rfl) (by kernel_rfl) 21 _ _ rfl [.pointer (some ⟨c, 0, none⟩), .agg (vb a).toArray, (.slice A2 text.length cX)] rfl (by kernel_rfl) (H21.out _ _ _ (Hc.out.below hw Hcl Hbl) (HX.out.below hw) (by rw [HSL.out]; omega)) ?_
    rintro e w7 ⟨vY, rfl, hvY, hb7⟩
    have hw7 : Below w5.heap.size w5 w7 := hw.trans (hb7.mono hw.size)
    rw [stream_back] at hvY
    refine ⟨_, rfl, hw7, ?_⟩
    simp only [Act.put, List.setIfInBounds_toArray, List.set_cons_succ, List.set_cons_zero]
    refine oH_call (i := 5) (some 35) rfl rfl (by kernel_rfl) (by kernel_rfl) 18 _ _ rfl [vY, .slice A text.length cp] rfl (by kernel_rfl) (same_any _ _ _ _ _ hvY.sb (HT.out.below hw7)) ?_
    rintro e w8 ⟨rfl, nq, rfl⟩
    have hw8 := below_drewN hw7 nq
    generalize w7.drewN nq = w8 at *
    refine ⟨_, rfl, hw8, ?_⟩
    simp only [Act.put, List.setIfInBounds_toArray, List.set_cons_succ, List.set_cons_zero]
    refine oH_val (i := 6) (some 36) (.bool false) rfl rfl (by kernel_rfl) (by kernel_rfl) (by kernel_rfl) (fun _ d _ _ _ h => by cases d <;> exact h) (by kernel_rfl) hw8 (by intro W _; simp [go_sem]) ?_
    simp only [Act.put, List.setIfInBounds_toArray, List.set_cons_succ, List.set_cons_zero]
    refine oH_val (i := 7) (some 37) (.bool false) rfl rfl (by kernel_rfl) (by kernel_rfl) (by kernel_rfl) (fun _ d _ _ _ h => by cases d <;> exact h) (by kernel_rfl) hw8 (fun _ _ => rfl) ?_
    simp only [Act.put, List.setIfInBounds_toArray, List.set_cons_succ, List.set_cons_zero]
    refine oH_val (i := 8) (some 38) (.pointer (some ⟨c, 0, none⟩)) rfl rfl (by kernel_rfl) (by kernel_rfl) (by kernel_rfl) (fun _ d _ _ _ h => by cases d <;> exact h) (by kernel_rfl) hw8 (fun _ _ => rfl) ?_
    simp only [Act.put, List.setIfInBounds_toArray, List.set_cons_succ, List.set_cons_zero]
    refine oH_val (i := 9) (some 39) (.agg (vb a).toArray) rfl rfl (by kernel_rfl) (by kernel_rfl) (by kernel_rfl) (fun _ d _ _ _ h => by cases d <;> exact h) (by kernel_rfl) hw8 (fun W h => exec_load 22 _ rfl (w.heap.size + 1) 0 rfl 22 (vb a) (vb a) _ (HA.out.below h HA.out.lt) (by simp) ty22 rfl Hia.out) ?_
    simp only [Act.put, List.setIfInBounds_toArray, List.set_cons_succ, List.set_cons_zero]
    refine oH_val (i := 10) (some 40) (.slice A text.length cp) rfl rfl (by kernel_rfl) (by kernel_rfl) (by kernel_rfl) (fun _ d _ _ _ h => by cases d <;> exact h) (by kernel_rfl) hw8 (fun _ _ => rfl) ?_
    simp only [Act.put, List.setIfInBounds_toArray, List.set_cons_succ, List.set_cons_zero]
    refine oH_val (i := 11) (some 41) (.int .i64 (ct : Int)) rfl rfl (by kernel_rfl) (by kernel_rfl) (by kernel_rfl) (fun _ d _ _ _ h => by cases d <;> exact h) (by kernel_rfl) hw8 (fun _ _ => rfl) ?_
    simp only [Act.put, List.setIfInBounds_toArray, List.set_cons_succ, List.set_cons_zero]
    refine oH_val (i := 12) (some 42) (cutS (.slice A text.length cp) 0 ct) rfl rfl (by kernel_rfl) (by kernel_rfl) (by kernel_rfl) (fun _ d _ _ _ h => by cases d <;> exact h) (by kernel_rfl) hw8 (fun W _ => exec_cut_h (w := w5) _ _ (by rfl) (.slice A text.length cp) text (by rfl) HT.out .i64 (ct : Int) (by rfl) (by omega) (by omega) W) ?_
    simp only [Act.put, List.setIfInBounds_toArray, List.set_cons_succ, List.set_cons_zero]
    refine oH_val (i := 14) (some 44) ((.slice A2 text.length cX)) rfl rfl (by kernel_rfl) (by kernel_rfl) (by kernel_rfl) (fun _ d _ _ _ h => by cases d <;> exact h) (by kernel_rfl) hw8 (fun _ _ => rfl) ?_
    simp only [Act.put, List.setIfInBounds_toArray, List.set_cons_succ, List.set_cons_zero]
    refine oH_val (i := 15) (some 45) (.int .i64 (ct : Int)) rfl rfl (by kernel_rfl) (by kernel_rfl) (by kernel_rfl) (fun _ d _ _ _ h => by cases d <;> exact h) (by kernel_rfl) hw8 (fun _ _ => rfl) ?_
    simp only [Act.put, List.setIfInBounds_toArray, List.set_cons_succ, List.set_cons_zero]
    refine oH_val (i := 16) (some 46) (cutS (.slice A2 text.length cX) 0 ct) rfl rfl (by kernel_rfl) (by kernel_rfl) (by kernel_rfl) (fun _ d _ _ _ h => by cases d <;> exact h) (by kernel_rfl) hw8 (fun W _ => exec_cut_h (w := w5) _ _ (by rfl) (.slice A2 text.length cX) (stream sbox (keys sbox k) a text) (by rfl) HX.out .i64 (ct : Int) (by rfl) (by omega) (by rw [HSL.out]; omega) W) ?_
    simp only [Act.put, List.setIfInBounds_toArray, List.set_cons_succ, List.set_cons_zero]
    refine oH_call (i := 13) (some 43) rfl rfl (by kernel_rfl) (by kernel_rfl) 21 _ _ rfl [.pointer (some ⟨c, 0, none⟩), .agg (vb a).toArray, cutS (.slice A text.length cp) 0 ct] rfl (by kernel_rfl) (H21.out _ _ _ (Hc.out.below hw8 Hcl Hbl) ((HT.out.cut 0 ct (by omega)).below hw8) (by rw [List.drop_zero, List.length_take]; omega)) ?_
    rintro e w9 ⟨vZ, rfl, hvZ, hb9⟩
    have hw9 : Below w5.heap.size w5 w9 := hw8.trans (hb9.mono hw8.size)
    rw [List.drop_zero, stream_take] at hvZ
    refine ⟨_, rfl, hw9, ?_⟩
    simp only [Act.put, List.setIfInBounds_toArray, List.set_cons_succ, List.set_cons_zero]
    refine oH_call (i := 17) (some 47) rfl rfl (by kernel_rfl) (by kernel_rfl) 18 _ _ rfl [vZ, cutS (.slice A2 text.length cX) 0 ct] rfl (by kernel_rfl) (same_any _ _ _ _ _ hvZ.sb ((HX.out.cut 0 ct (by rw [HSL.out]; omega)).below hw9)) ?_
    rintro e w10 ⟨rfl, nq2, rfl⟩
    have hw10 := below_drewN hw9 nq2
    generalize w9.drewN nq2 = w10 at *
    refine ⟨_, rfl, hw10, ?_⟩
    simp only [Act.put, List.setIfInBounds_toArray, List.set_cons_succ, List.set_cons_zero]
    refine oH_val (i := 18) (some 48) (.bool false) rfl rfl (by kernel_rfl) (by kernel_rfl) (by kernel_rfl) (fun _ d _ _ _ h => by cases d <;> exact h) (by kernel_rfl) hw10 (by intro W _; simp [go_sem]) ?_
    simp only [Act.put, List.setIfInBounds_toArray, List.set_cons_succ, List.set_cons_zero]
    refine oH_val (i := 19) (some 49) (.bool false) rfl rfl (by kernel_rfl) (by kernel_rfl) (by kernel_rfl) (fun _ d _ _ _ h => by cases d <;> exact h) (by kernel_rfl) hw10 (fun _ _ => rfl) ?_
    simp only [Act.put, List.setIfInBounds_toArray, List.set_cons_succ, List.set_cons_zero]
    refine oH_val (i := 20) (some 50) (.bool false) rfl rfl (by kernel_rfl) (by kernel_rfl) (by kernel_rfl) (fun _ d _ _ _ h => by cases d <;> exact h) (by kernel_rfl) hw10 (fun _ _ => rfl) ?_
    simp only [Act.put, List.setIfInBounds_toArray, List.set_cons_succ, List.set_cons_zero]
    refine oH_val (i := 21) (some 51) ((.slice A2 text.length cX)) rfl rfl (by kernel_rfl) (by kernel_rfl) (by kernel_rfl) (fun _ d _ _ _ h => by cases d <;> exact h) (by kernel_rfl) hw10 (fun _ _ => rfl) ?_
    simp only [Act.put, List.setIfInBounds_toArray, List.set_cons_succ, List.set_cons_zero]
    refine oH_val (i := 22) (some 52) (.int .i64 (text.length : Int)) rfl rfl (by kernel_rfl) (by kernel_rfl) (by kernel_rfl) (fun _ d _ _ _ h => by cases d <;> exact h) (by kernel_rfl) hw10 (by intro W _; simp [go_sem]) ?_
    simp only [Act.put, List.setIfInBounds_toArray, List.set_cons_succ, List.set_cons_zero]
    refine oH_val (i := 23) (some 53) (.slice A text.length cp) rfl rfl (by kernel_rfl) (by kernel_rfl) (by kernel_rfl) (fun _ d _ _ _ h => by cases d <;> exact h) (by kernel_rfl) hw10 (fun _ _ => rfl) ?_
    simp only [Act.put, List.setIfInBounds_toArray, List.set_cons_succ, List.set_cons_zero]
    refine oH_val (i := 24) (some 54) (.int .i64 (text.length : Int)) rfl rfl (by kernel_rfl) (by kernel_rfl) (by kernel_rfl) (fun _ d _ _ _ h => by cases d <;> exact h) (by kernel_rfl) hw10 (by intro W _; simp [go_sem]) ?_
    simp only [Act.put, List.setIfInBounds_toArray, List.set_cons_succ, List.set_cons_zero]
    refine oH_val (i := 25) (some 55) (.bool false) rfl rfl (by kernel_rfl) (by kernel_rfl) (by kernel_rfl) (fun _ d _ _ _ h => by cases d <;> exact h) (by kernel_rfl) hw10 (by intro W _; simp [go_sem]) ?_
    simp only [Act.put, List.setIfInBounds_toArray, List.set_cons_succ, List.set_cons_zero]
    refine oH_val (i := 26) (some 56) (.bool false) rfl rfl (by kernel_rfl) (by kernel_rfl) (by kernel_rfl) (fun _ d _ _ _ h => by cases d <;> exact h) (by kernel_rfl) hw10 (fun _ _ => rfl) ?_
    simp only [Act.put, List.setIfInBounds_toArray, List.set_cons_succ, List.set_cons_zero]
    refine wpAnyH_done (by kernel_rfl) ?_ _
    go_upto_region 10 with (fail)
    have hA := HA.out.below hw10 HA.out.lt
    have hBb := HBb.out.below hw10 HBb.out.lt
    have hK := HK.out.below hw10 HK.out.lt
    have hc10 := Hc.out.below hw10 Hcl Hbl
    have HA := Hd.mk hA
    have HBb := Hd.mk hBb
    have HK := Hd.mk hK
    have Hc := Hd.mk hc10
    have Hcl := Hc.out.c.lt
    have Hbl := Hc.out.b.lt
    have hB10 := HB5.out.trans (hw10.mono HB5.out.size)
    clear hA hBb hK hc10 HT HX hvY hvZ hb7 hb9 hw hw7 hw8 hw9
    refine oH_begin (n := 22) (fun W => Below w10.heap.size w10 W) (by kernel_rfl) rfl ?_
    have hw : Below w10.heap.size w10 (w10.drewN 1) := below_drewN (Below.refl _ _) 1
    generalize w10.drewN 1 = w11 at *
    refine oH_val (i := 0) (some 57) (.pointer (some ⟨c, 0, none⟩)) rfl rfl (by kernel_rfl) (by kernel_rfl) (by kernel_rfl) (fun _ d _ _ _ h => by cases d <;> exact h) (by kernel_rfl) hw (fun _ _ => rfl) ?_
    simp only [Act.put, List.setIfInBounds_toArray, List.set_cons_succ, List.set_cons_zero]
    refine oH_val (i := 1) (some 58) (.agg (vb a).toArray) rfl rfl (by kernel_rfl) (by kernel_rfl) (by kernel_rfl) (fun _ d _ _ _ h => by cases d <;> exact h) (by kernel_rfl) hw (fun W h => exec_load 22 _ rfl (w.heap.size + 1) 0 rfl 22 (vb a) (vb a) _ (HA.out.below h HA.out.lt) (by simp) ty22 rfl Hia.out) ?_
    simp only [Act.put, List.setIfInBounds_toArray, List.set_cons_succ, List.set_cons_zero]
    refine oH_val (i := 3) (some 60) (.pointer (some ⟨c, 0, none⟩)) rfl rfl (by kernel_rfl) (by kernel_rfl) (by kernel_rfl) (fun _ d _ _ _ h => by cases d <;> exact h) (by kernel_rfl) hw (fun _ _ => rfl) ?_
    simp only [Act.put, List.setIfInBounds_toArray, List.set_cons_succ, List.set_cons_zero]
    refine oH_val (i := 4) (some 61) (.agg (vb b).toArray) rfl rfl (by kernel_rfl) (by kernel_rfl) (by kernel_rfl) (fun _ d _ _ _ h => by cases d <;> exact h) (by kernel_rfl) hw (fun W h => exec_load 22 _ rfl (w.heap.size + 2) 0 rfl 22 (vb b) (vb b) _ (HBb.out.below h HBb.out.lt) (by simp) ty22 rfl Hib.out) ?_
    simp only [Act.put, List.setIfInBounds_toArray, List.set_cons_succ, List.set_cons_zero]
    refine oH_val (i := 7) (some 64) (.agg (vb a).toArray) rfl rfl (by kernel_rfl) (by kernel_rfl) (by kernel_rfl) (fun _ d _ _ _ h => by cases d <;> exact h) (by kernel_rfl) hw (fun W h => exec_load 22 _ rfl (w.heap.size + 1) 0 rfl 22 (vb a) (vb a) _ (HA.out.below h HA.out.lt) (by simp) ty22 rfl Hia.out) ?_
    simp only [Act.put, List.setIfInBounds_toArray, List.set_cons_succ, List.set_cons_zero]
    refine oH_val (i := 8) (some 65) (.agg (vb b).toArray) rfl rfl (by kernel_rfl) (by kernel_rfl) (by kernel_rfl) (fun _ d _ _ _ h => by cases d <;> exact h) (by kernel_rfl) hw (fun W h => exec_load 22 _ rfl (w.heap.size + 2) 0 rfl 22 (vb b) (vb b) _ (HBb.out.below h HBb.out.lt) (by simp) ty22 rfl Hib.out) ?_
    simp only [Act.put, List.setIfInBounds_toArray, List.set_cons_succ, List.set_cons_zero]
    refine oH_val (i := 9) (some 66) (.bool (decide (a = b))) rfl rfl (by kernel_rfl) (by kernel_rfl) (by kernel_rfl) (fun _ d _ _ _ h => by cases d <;> exact h) (by kernel_rfl) hw (fun W _ => exec_eq16 22 _ _ _ (by rfl) a b (by rfl) (by rfl) ty22 eg22 Ha.out Hb.out W) ?_
    simp only [Act.put, List.setIfInBounds_toArray, List.set_cons_succ, List.set_cons_zero]
    refine oH_call (i := 2) (some 59) rfl rfl (by kernel_rfl) (by kernel_rfl) 17 _ _ rfl [.pointer (some ⟨c, 0, none⟩), .agg (vb a).toArray] rfl (by kernel_rfl) (H17.out _ c bx a Ha.out (Hc.out.below hw Hcl Hbl)) ?_
    rintro e w12 ⟨rfl, hbw12⟩
    have hw12 : Below w10.heap.size w10 w12 := hw.trans (hbw12.mono hw.size)
    refine ⟨_, rfl, hw12, ?_⟩
    simp only [Act.put, List.setIfInBounds_toArray, List.set_cons_succ, List.set_cons_zero]
    refine oH_call (i := 5) (some 62) rfl rfl (by kernel_rfl) (by kernel_rfl) 17 _ _ rfl [.pointer (some ⟨c, 0, none⟩), .agg (vb b).toArray] rfl (by kernel_rfl) (H17.out _ c bx b Hb.out (Hc.out.below hw12 Hcl Hbl)) ?_
    rintro e w13 ⟨rfl, hbw13⟩
    have hw13 : Below w10.heap.size w10 w13 := hw12.trans (hbw13.mono hw12.size)
    refine ⟨_, rfl, hw13, ?_⟩
    simp only [Act.put, List.setIfInBounds_toArray, List.set_cons_succ, List.set_cons_zero]
    refine oH_val (i := 6) (some 63) (.bool (decide (blk sbox (keys sbox k) a = blk sbox (keys sbox k) b))) rfl rfl (by kernel_rfl) (by kernel_rfl) (by kernel_rfl) (fun _ d _ _ _ h => by cases d <;> exact h) (by kernel_rfl) hw13 (fun W _ => exec_eq16 22 _ _ _ (by rfl) _ _ (by rfl) (by rfl) ty22 eg22 HXa.out HXb.out W) ?_
    simp only [Act.put, List.setIfInBounds_toArray, List.set_cons_succ, List.set_cons_zero]
    refine oH_val (i := 10) (some 67) (.bool true) rfl rfl (by kernel_rfl) (by kernel_rfl) (by kernel_rfl) (fun _ d _ _ _ h => by cases d <;> exact h) (by kernel_rfl) hw13 (fun W _ => (exec_eqb 4 _ _ _ (by rfl) (decide (blk sbox (keys sbox k) a = blk sbox (keys sbox k) b)) (decide (a = b)) (by rfl) (by rfl) Try.underlying4 W).trans (by rw [Hinj.out])) ?_
    simp only [Act.put, List.setIfInBounds_toArray, List.set_cons_succ, List.set_cons_zero]
    refine oH_val (i := 11) (some 68) (.bool true) rfl rfl (by kernel_rfl) (by kernel_rfl) (by kernel_rfl) (fun _ d _ _ _ h => by cases d <;> exact h) (by kernel_rfl) hw13 (fun _ _ => rfl) ?_
    simp only [Act.put, List.setIfInBounds_toArray, List.set_cons_succ, List.set_cons_zero]
    refine oH_val (i := 12) (some 69) (.agg (vb k).toArray) rfl rfl (by kernel_rfl) (by kernel_rfl) (by kernel_rfl) (fun _ d _ _ _ h => by cases d <;> exact h) (by kernel_rfl) hw13 (fun W h => exec_load 22 _ rfl (w.heap.size) 0 rfl 22 (vb k) (vb k) _ (HK.out.below h HK.out.lt) (by simp) ty22 rfl Hik.out) ?_
    simp only [Act.put, List.setIfInBounds_toArray, List.set_cons_succ, List.set_cons_zero]
    refine oH_val (i := 14) (some 71) (.agg (vb a).toArray) rfl rfl (by kernel_rfl) (by kernel_rfl) (by kernel_rfl) (fun _ d _ _ _ h => by cases d <;> exact h) (by kernel_rfl) hw13 (fun W h => exec_load 22 _ rfl (w.heap.size + 1) 0 rfl 22 (vb a) (vb a) _ (HA.out.below h HA.out.lt) (by simp) ty22 rfl Hia.out) ?_
    simp only [Act.put, List.setIfInBounds_toArray, List.set_cons_succ, List.set_cons_zero]
    refine oH_val (i := 16) (some 73) (.pointer (some ⟨c, 0, none⟩)) rfl rfl (by kernel_rfl) (by kernel_rfl) (by kernel_rfl) (fun _ d _ _ _ h => by cases d <;> exact h) (by kernel_rfl) hw13 (fun _ _ => rfl) ?_
    simp only [Act.put, List.setIfInBounds_toArray, List.set_cons_succ, List.set_cons_zero]
    refine oH_val (i := 17) (some 74) (.agg (vb a).toArray) rfl rfl (by kernel_rfl) (by kernel_rfl) (by kernel_rfl) (fun _ d _ _ _ h => by cases d <;> exact h) (by kernel_rfl) hw13 (fun W h => exec_load 22 _ rfl (w.heap.size + 1) 0 rfl 22 (vb a) (vb a) _ (HA.out.below h HA.out.lt) (by simp) ty22 rfl Hia.out) ?_
    simp only [Act.put, List.setIfInBounds_toArray, List.set_cons_succ, List.set_cons_zero]
    refine oH_call (i := 13) (some 70) rfl rfl (by kernel_rfl) (by kernel_rfl) 16 _ _ rfl [.agg (vb k).toArray] rfl (by kernel_rfl) (H16.out _) ?_
    rintro e w14 ⟨c2, bx2, rfl, hc2, hc3, hc4, hb14⟩
    have hw14 : Below w10.heap.size w10 w14 := hw13.trans (hb14.mono hw13.size)
    refine ⟨_, rfl, hw14, ?_⟩
    simp only [Act.put, List.setIfInBounds_toArray, List.set_cons_succ, List.set_cons_zero]
    have Hc2 := Hd.mk hc2
    clear hc2
    refine oH_call (i := 15) (some 72) rfl rfl (by kernel_rfl) (by kernel_rfl) 17 _ _ rfl [.pointer (some ⟨c2, 0, none⟩), .agg (vb a).toArray] rfl (by kernel_rfl) (H17.out _ c2 bx2 a Ha.out (Hc2.out.below (Below.refl _ _) Hc2.out.c.lt Hc2.out.b.lt)) ?_
    rintro e w15 ⟨rfl, hbw15⟩
    have hw15 : Below w10.heap.size w10 w15 := hw14.trans (hbw15.mono hw14.size)
    refine ⟨_, rfl, hw15, ?_⟩
    simp only [Act.put, List.setIfInBounds_toArray, List.set_cons_succ, List.set_cons_zero]
    refine oH_call (i := 18) (some 75) rfl rfl (by kernel_rfl) (by kernel_rfl) 17 _ _ rfl [.pointer (some ⟨c, 0, none⟩), .agg (vb a).toArray] rfl (by kernel_rfl) (H17.out _ c bx a Ha.out (Hc.out.below hw15 Hcl Hbl)) ?_
    rintro e w16 ⟨rfl, hbw16⟩
    have hw16 : Below w10.heap.size w10 w16 := hw15.trans (hbw16.mono hw15.size)
    refine ⟨_, rfl, hw16, ?_⟩
    simp only [Act.put, List.setIfInBounds_toArray, List.set_cons_succ, List.set_cons_zero]
    refine oH_val (i := 19) (some 76) (.bool true) rfl rfl (by kernel_rfl) (by kernel_rfl) (by kernel_rfl) (fun _ d _ _ _ h => by cases d <;> exact h) (by kernel_rfl) hw16 (fun W _ => (exec_eq16 22 _ _ _ (by rfl) (blk sbox (keys sbox k) a) (blk sbox (keys sbox k) a) (by rfl) (by rfl) ty22 eg22 HXa.out HXa.out W).trans (by rw [decide_eq_true rfl])) ?_
    simp only [Act.put, List.setIfInBounds_toArray, List.set_cons_succ, List.set_cons_zero]
    refine oH_val (i := 20) (some 77) (.bool true) rfl rfl (by kernel_rfl) (by kernel_rfl) (by kernel_rfl) (fun _ d _ _ _ h => by cases d <;> exact h) (by kernel_rfl) hw16 (fun _ _ => rfl) ?_
    simp only [Act.put, List.setIfInBounds_toArray, List.set_cons_succ, List.set_cons_zero]
    refine oH_run (i := 21) (some 10) (.bool true) rfl rfl (by kernel_rfl) (by kernel_rfl) (by simp [go_sem]) hw16 ?_
    simp only [Act.put, List.setIfInBounds_toArray, List.set_cons_succ, List.set_cons_zero]
    refine wpAnyH_done (by kernel_rfl) ?_ _
    go_wp2
    go_ret
    exact ⟨rfl, hB10.trans (hw16.mono hB10.size)⟩
  · have hd : decide ((text.length : Int) > 300) = true := by simp; omega
    go_wp2_with (go_at_call 15; refine (alive_any _).mono ?_; rintro e w2 ⟨rfl, hb2⟩)
    go_ret
    exact ⟨rfl, HB.out.trans (hb2.mono HB.out.size)⟩
end Go.Proofs.Ytjjcnijdjhhdoaa
