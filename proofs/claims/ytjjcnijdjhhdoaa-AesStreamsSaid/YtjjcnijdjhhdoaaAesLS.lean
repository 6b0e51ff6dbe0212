/- The walk of the law AesStreams. -/
import Derived.Test.YtjjcnijdjhhdoaaAesA
import Derived.Test.YtjjcnijdjhhdoaaRefS
import Derived.Test.YtjjcnijdjhhdoaaSame
import Derived.Test.YtjjcnijdjhhdoaaAesLB
import Derived.Test.YtjjcnijdjhhdoaaOrd
namespace Go.Proofs.Ytjjcnijdjhhdoaa
open Go.RowKit Go.QT
set_option maxRecDepth 100000 in
set_option maxHeartbeats 1000000 in
theorem law_aesStreams (k f b : Bytes) (v : Value) (w : World) (hk : k.length = 16) (hf : f.length = 16) (hb : SB w v b) (hplain : stream sbox (keys sbox k) f b = rstream rboxes k f b) :
    Calls Try.prog 4 #[.agg (vb k).toArray, .agg (vb f).toArray, v] w fun e w' => e = .returned (.bool true) ∧ Below w.heap.size w w' := by
  have Hplain := Hd.mk hplain
  have H16 : Hd (∀ W, Calls Try.prog 16 #[.agg (vb k).toArray] W (NewPost W k)) := ⟨fun W => new_any k W hk⟩
  have hik : (Try.prog.info? 22).map (·.size) = some (vb k).length := by rw [i22]; simp [hk]
  have hif : (Try.prog.info? 22).map (·.size) = some (vb f).length := by rw [i22]; simp [hf]
  have Hik := Hd.mk hik
  have Hif := Hd.mk hif
  have Hk := Hd.mk hk
  have Hf := Hd.mk hf
  have hbv : ∃ A c, v = .slice A b.length c ∧ b.length ≤ c ∧ c ≤ 2 ^ 63 - 1 := by obtain ⟨A, c, e, h1, h2, _⟩ := hb; exact ⟨A, c, e, h1, by unfold maxLen at h2; exact h2⟩
  obtain ⟨A, c, rfl, hc1, hc2⟩ := hbv
  have Hb := Hd.mk hb
  clear hik hif hk hf hb hplain
  go_enter Try.func4, Try.ntmps4
  go_upto_region 1 with (fail)
  have hR : Row ((w.alloc (.cells (vb k).toArray 22)).alloc (.cells (vb f).toArray 22)) w.heap.size 22 k := Row.alloc (Row.new w 22 k) _
  have hS : Row ((w.alloc (.cells (vb k).toArray 22)).alloc (.cells (vb f).toArray 22)) (w.heap.size + 1) 22 f := by
    have := Row.new (w.alloc (.cells (vb k).toArray 22)) 22 f
    simp only [World.size_alloc] at this
    exact this
  have hB : Below w.heap.size w ((w.alloc (.cells (vb k).toArray 22)).alloc (.cells (vb f).toArray 22)) := ((Below.refl _ _).alloc (Nat.le_refl _) _).alloc (by simp) _
  generalize (w.alloc (.cells (vb k).toArray 22)).alloc (.cells (vb f).toArray 22) = w1 at *
  have HR := Hd.mk hR
  have HS := Hd.mk hS
  have HB := Hd.mk hB
  clear hR hS hB
  by_cases h60 : b.length ≤ 60
  · have hd : decide ((b.length : Int) > 60) = false := by simp; omega
    go_upto_region 5 with (go_at_call 15; refine (alive_any _).mono ?_; rintro e w2 ⟨rfl, hb2⟩)
    have hR2 := Row.below HR.out hb2 HR.out.lt
    have hS2 := Row.below HS.out hb2 HS.out.lt
    have hB2 : Below w.heap.size w w2 := HB.out.trans (hb2.mono HB.out.size)
    clear HR HS hb2 HB
    refine wp_region_any_held (fun W => Below w2.heap.size w2 W) (by kernel_rfl) ?_
    simp only [List.length_cons, List.length_nil]
    have hw : Below w2.heap.size w2 (w2.drewN 1) := below_drewN (Below.refl _ _) 1
    generalize w2.drewN 1 = w3 at *
    have HR2 := Hd.mk hR2
    have HS2 := Hd.mk hS2
    clear hR2 hS2
    refine anyH_load (i := 0) rfl (by kernel_rfl) (by kernel_rfl) (by kernel_rfl) (fun _ d _ _ _ h => by cases d <;> exact h) rfl hw 22 _ rfl w.heap.size 0 rfl 22 (vb k) (vb k) _ (fun W h => HR2.out.below h HR2.out.lt) (by simp) ty22 rfl Hik.out ?_
    simp only [Act.put, List.setIfInBounds_toArray]
    refine anyH_load (i := 2) rfl (by kernel_rfl) (by kernel_rfl) (by kernel_rfl) (fun _ d _ _ _ h => by cases d <;> exact h) rfl hw 22 _ rfl (w.heap.size + 1) 0 rfl 22 (vb f) (vb f) _ (fun W h => HS2.out.below h HS2.out.lt) (by simp) ty22 rfl Hif.out ?_
    simp only [Act.put]
    refine anyH_val (i := 3) (.slice A b.length c) rfl (by kernel_rfl) (by kernel_rfl) (by kernel_rfl) (fun _ d _ _ _ h => by cases d <;> exact h) rfl hw (by intro W _; simp [go_sem]) ?_
    simp only [Act.put]
    refine anyH_val (i := 6) (.slice (some ⟨w.heap.size, 0, none⟩) 16 16) rfl (by kernel_rfl) (by kernel_rfl) (by kernel_rfl) (fun _ d _ _ _ h => by cases d <;> exact h) rfl hw (by intro W _; simp [go_sem]) ?_
    simp only [Act.put]
    refine anyH_val (i := 7) (.slice (some ⟨w.heap.size + 1, 0, none⟩) 16 16) rfl (by kernel_rfl) (by kernel_rfl) (by kernel_rfl) (fun _ d _ _ _ h => by cases d <;> exact h) rfl hw (by intro W _; simp [go_sem]) ?_
    simp only [Act.put]
    refine anyH_val (i := 8) (.slice A b.length c) rfl (by kernel_rfl) (by kernel_rfl) (by kernel_rfl) (fun _ d _ _ _ h => by cases d <;> exact h) rfl hw (by intro W _; simp [go_sem]) ?_
    simp only [Act.put]
    refine anyH_do (i := 1) rfl (by kernel_rfl) ?_
    go_wp2_with (go_at_call 16; refine (H16.out _).mono ?_; rintro e w4 ⟨c', bx, rfl, hc, hc1, hc2, hb4⟩)
    have hw4 : Below w2.heap.size w2 w4 := hw.trans (hb4.mono hw.size)
    refine ordQ_norm ?_; show _ ∧ _; refine ⟨hw4, ?_⟩
    refine anyH_do (i := 4) rfl (by kernel_rfl) ?_
    have hbs := (Hb.out.below hB2).below hw4
    go_wp2_with (go_at_call 21; refine (stream_any c' bx _ _ f b _ _ hc Hf.out hbs (by omega)).mono ?_; rintro e w5 ⟨vS, rfl, hvS, hb5⟩)
    have hw5 : Below w2.heap.size w2 w5 := hw4.trans (hb5.mono hw4.size)
    refine ordQ_norm ?_; show _ ∧ _; refine ⟨hw5, ?_⟩
    refine anyH_do (i := 5) rfl (by kernel_rfl) ?_
    go_wp2_with (go_at_call 20; refine (rboxes_any _).mono ?_; rintro e w6 ⟨vB, rfl, hvB, hb6⟩)
    have hw6 : Below w2.heap.size w2 w6 := hw5.trans (hb6.mono hw5.size)
    refine ordQ_norm ?_; show _ ∧ _; refine ⟨hw6, ?_⟩
    refine anyH_do (i := 9) rfl (by kernel_rfl) ?_
    have hk6 := SB.row (HR2.out.below hw6 HR2.out.lt) (by rw [Hk.out]; simp [maxLen])
    have hf6 := SB.row (HS2.out.below hw6 HS2.out.lt) (by rw [Hf.out]; simp [maxLen])
    rw [Hk.out] at hk6
    rw [Hf.out] at hf6
    have hBl : rboxes.length = 256 := boxesTo_length 256
    go_wp2_with (go_at_call 22; refine (rstream_any _ _ _ _ _ k f b _ hvB.sb hk6 hf6 ((Hb.out.below hB2).below hw6) hBl Hk.out Hf.out (by omega)).mono ?_; rintro e w7 ⟨vR, rfl, hvR, hb7⟩)
    have hw7 : Below w2.heap.size w2 w7 := hw6.trans (hb7.mono hw6.size)
    refine ordQ_norm ?_; show _ ∧ _; refine ⟨hw7, ?_⟩
    refine anyH_do (i := 10) rfl (by kernel_rfl) ?_
    have hvS7 := (hvS.sb.below hb6).below hb7
    go_wp2_with (go_at_call 18; refine (same_any _ _ _ _ _ hvS7 hvR.sb).mono ?_; rintro e w8 ⟨rfl, nq, rfl⟩)
    have hw8 := below_drewN hw7 nq
    refine ordQ_norm ?_; show _ ∧ _; refine ⟨hw8, ?_⟩
    refine anyH_do (i := 11) rfl (by kernel_rfl) ?_
    rw [decide_eq_true Hplain.out]
    go_wp2
    refine ordQ_norm ?_; show _ ∧ _; refine ⟨hw8, ?_⟩
    refine wpAnyH_done (by kernel_rfl) ?_ _
    go_wp2
    go_ret
    exact ⟨rfl, hB2.trans (hw8.mono hB2.size)⟩
  · have hd : decide ((b.length : Int) > 60) = true := by simp; omega
    go_wp2_with (go_at_call 15; refine (alive_any _).mono ?_; rintro e w2 ⟨rfl, hb2⟩)
    go_ret
    exact ⟨rfl, HB.out.trans (hb2.mono HB.out.size)⟩
end Go.Proofs.Ytjjcnijdjhhdoaa
