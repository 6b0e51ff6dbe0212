/- The walk of the law AesBlocks. -/
import Derived.Test.YtjjcnijdjhhdoaaAesA
import Derived.Test.YtjjcnijdjhhdoaaRefL
import Derived.Test.YtjjcnijdjhhdoaaSame
import Derived.Test.YtjjcnijdjhhdoaaOrd

namespace Go.Proofs.Ytjjcnijdjhhdoaa
open Go.RowKit Go.QT
theorem anyH_load {P : Program} {ops : Array Oper} {md : Region.Mode} {S : World → Prop} {Q : Exit → Act → World → Prop} {i : Nat} {o : Oper} {f : Nat} {listed : Array Bool} {a : Act} {w : World} (hi : ops[i]? = some o) (hs : Region.noSelect ops = true) (hf : Region.free md ops listed i = true) (hr : (Region.ready md ops listed).contains i = true)
    (hQ : ∀ c d v a w, Q (.panic c) (Act.put a d v) w → Q (.panic c) a w) (hw : Region.wanted o (yielded ops a.tmps) = true) (hS : S w) (ty : TypeId) (x : Operand) (ho : o.op = .load ty x)
    (b k : Nat) (hx : a.eval x = .pointer (some ⟨b, k, none⟩)) (T : TypeId) (cs ds : List Value) (d : TypeDesc) (hb : ∀ W, S W → Blk W b T cs) (hd : ∀ j v, ds[j]? = some v → cs[k + j]? = some v)
    (hu : P.underlying ty = some d) (hrr : d.isRow = true) (hinf : (P.info? ty).map (·.size) = some ds.length)
    (h : wpAnyH P md ops Q S f (listed.setIfInBounds i true) (a.put o.dst (.agg ds.toArray)) w) : wpAnyH P md ops Q S (f + 1) listed a w :=
  anyH_val _ hi hs hf hr hQ hw hS (fun W hW => by
    unfold execOp
    simp only [ho, hx, Instr.loadAt, Instr.sureAddr, Sem.run_bind, Sem.run_pure, Result.andThen_ok, run_loadVar_mid W b k ty ds d ((hb W hW).range hd) hu hrr hinf]) h
set_option maxRecDepth 100000 in
set_option maxHeartbeats 1000000 in
theorem law_aesBlocks (k b : Bytes) (w : World) (hk : k.length = 16) (hb : b.length = 16) (hplain : blk sbox (keys sbox k) b = rblk rboxes k b) :
    Calls Try.prog 3 #[.agg (vb k).toArray, .agg (vb b).toArray] w fun e w' => e = .returned (.bool true) ∧ Below w.heap.size w w' := by
  have hpl := blk_length sbox (keys sbox k) b hb
  have Hpl := Hd.mk hpl
  have Hplain := Hd.mk hplain
  clear hpl hplain
  have H16 : Hd (∀ W, Calls Try.prog 16 #[.agg (vb k).toArray] W (NewPost W k)) := ⟨fun W => new_any k W hk⟩
  have H17 : Hd (∀ W c bx, CAt W c bx sbox (keys sbox k) → Calls Try.prog 17 #[.pointer (some ⟨c, 0, none⟩), .agg (vb b).toArray] W fun e w' => e = .returned (.agg (vb (blk sbox (keys sbox k) b)).toArray) ∧ Below W.heap.size W w') := ⟨fun W c bx h => block_any c bx _ _ b W hb h⟩
  have hik : (Try.prog.info? 22).map (·.size) = some (vb k).length := by rw [i22]; simp [hk]
  have hib : (Try.prog.info? 22).map (·.size) = some (vb b).length := by rw [i22]; simp [hb]
  have Hik := Hd.mk hik
  have Hib := Hd.mk hib
  have Hk := Hd.mk hk
  have Hb := Hd.mk hb
  clear hik hib hk hb
  go_enter Try.func3, Try.ntmps3
  go_upto_region 1 with (fail)
  have hR : Row ((w.alloc (.cells (vb k).toArray 22)).alloc (.cells (vb b).toArray 22)) w.heap.size 22 k := Row.alloc (Row.new w 22 k) _
  have hS : Row ((w.alloc (.cells (vb k).toArray 22)).alloc (.cells (vb b).toArray 22)) (w.heap.size + 1) 22 b := by
    have := Row.new (w.alloc (.cells (vb k).toArray 22)) 22 b
    simp only [World.size_alloc] at this
    exact this
  have hB : Below w.heap.size w ((w.alloc (.cells (vb k).toArray 22)).alloc (.cells (vb b).toArray 22)) := ((Below.refl _ _).alloc (Nat.le_refl _) _).alloc (by simp) _
  have hsz : ((w.alloc (.cells (vb k).toArray 22)).alloc (.cells (vb b).toArray 22)).heap.size = w.heap.size + 1 + 1 := by simp
  have Hsz := Hd.mk hsz
  clear hsz
  generalize (w.alloc (.cells (vb k).toArray 22)).alloc (.cells (vb b).toArray 22) = w1 at *
  have HR := Hd.mk hR
  have HS := Hd.mk hS
  clear hR hS
  go_upto_region 3 with (go_at_call 15; refine (alive_any _).mono ?_; rintro e w2 ⟨rfl, hb2⟩)
  have hR2 := Row.below HR.out hb2 HR.out.lt
  have hS2 := Row.below HS.out hb2 HS.out.lt
  have hB2 : Below w.heap.size w w2 := hB.trans (hb2.mono hB.size)
  have hs2 : w.heap.size + 1 < w2.heap.size := hS2.lt
  clear HR HS hb2 hB
  go_cut [5] (fun p wx => ∃ g : Nat, p = .pointer (some ⟨g, 0, none⟩) ∧ Row wx g 22 (blk sbox (keys sbox k) b) ∧ (Row wx w.heap.size 22 k ∧ Row wx (w.heap.size + 1) 22 b) ∧ Below w.heap.size w wx)
  case first =>
    refine wp_region_any_held (fun W => Row W w.heap.size 22 k ∧ Row W (w.heap.size + 1) 22 b) (by kernel_rfl) ?_
    simp only [List.length_cons, List.length_nil]
    have hR2 := hR2.drewN 1
    have hS2 := hS2.drewN 1
    have hB2 := below_drewN hB2 1
    have hs2 : w.heap.size + 1 < (w2.drewN 1).heap.size := hs2
    generalize w2.drewN 1 = w2 at *
    refine anyH_load (i := 0) rfl (by kernel_rfl) (by kernel_rfl) (by kernel_rfl) (fun _ d _ _ _ h => by cases d <;> exact h) rfl ⟨hR2, hS2⟩ 22 _ rfl w.heap.size 0 rfl 22 (vb k) (vb k) _ (fun W h => h.1) (by simp) ty22 rfl Hik.out ?_
    simp only [Act.put, List.setIfInBounds_toArray]
    refine anyH_load (i := 2) rfl (by kernel_rfl) (by kernel_rfl) (by kernel_rfl) (fun _ d _ _ _ h => by cases d <;> exact h) rfl ⟨hR2, hS2⟩ 22 _ rfl (w.heap.size + 1) 0 rfl 22 (vb b) (vb b) _ (fun W h => h.2) (by simp) ty22 rfl Hib.out ?_
    simp only [Act.put]
    generalize blk sbox (keys sbox k) b = X at *
    have hiX : (Try.prog.info? 22).map (·.size) = some (vb X).length := by rw [i22]; simp [Hpl.out]
    have HiX := Hd.mk hiX
    clear hiX
    refine anyH_do2 (i := 1) (j := 4) rfl rfl (by kernel_rfl) ?_ ?_
    · go_wp2_with (go_at_call 16; refine (H16.out _).mono ?_; rintro e w3 ⟨c, bx, rfl, hc, hc1, hc2, hb3⟩)
      have hR3 := Row.below hR2 hb3 hR2.lt
      have hS3 := Row.below hS2 hb3 hS2.lt
      have hB3 := hB2.trans (hb3.mono hB2.size)
      have hs3 := hS3.lt
      have hcl := hc.c.lt
      have hbl := hc.b.lt
      refine ordQ_norm ?_; show _ ∧ _; refine ⟨⟨hR3, hS3⟩, ?_⟩
      refine anyH_do2 (i := 3) (j := 4) rfl rfl (by kernel_rfl) ?_ ?_
      · go_wp2_with (go_at_call 17; refine (H17.out _ c bx hc).mono ?_; rintro e w4 ⟨rfl, hb4⟩)
        have hR4 := Row.below hR3 hb4 hR3.lt
        have hS4 := Row.below hS3 hb4 hS3.lt
        have hB4 := hB3.trans (hb4.mono hB3.size)
        have hs4 := hS4.lt
        refine ordQ_norm ?_; show _ ∧ _; refine ⟨⟨hR4, hS4⟩, ?_⟩
        refine anyH_do (i := 4) rfl (by kernel_rfl) ?_
        go_wp2
        refine ordQ_norm ?_; show _ ∧ _; refine ⟨⟨hR4.alloc _, hS4.alloc _⟩, ?_⟩
        refine anyH_do (i := 5) rfl (by kernel_rfl) ?_
        refine wl_storeW rfl 22 _ _ rfl w4.heap.size 0 (vb X) rfl rfl 22 _ (vb X) (Blk.new _ _ (List.replicate 16 (.int .u8 0))) (by simp [Hpl.out]) HiX.out (vb_ones _) (by simp [Hpl.out]) ?_
        intro w6 hb6 hg6 _
        refine wpList_nil ?_
        refine ordQ_norm ?_; show _ ∧ _
        have hR6 : Row w6 w.heap.size 22 k := Row.grown' (hR4.alloc _) hg6 (by simp; omega)
        have hS6 : Row w6 (w.heap.size + 1) 22 b := Row.grown' (hS4.alloc _) hg6 (by simp; omega)
        have hB6 : Below w.heap.size w w6 := (hB4.alloc hB4.size (.cells (List.replicate 16 (Value.int .u8 0)).toArray 22)).grown hg6 (by have := (hB4.alloc hB4.size (.cells (List.replicate 16 (Value.int .u8 0)).toArray 22)).size; omega) (by rintro q hq; cases hq; omega)
        refine ⟨⟨hR6, hS6⟩, ?_⟩
        refine wpAnyH_done (by kernel_rfl) ?_ _
        change Exit.then _ _ .normal ⟨_, _⟩ _
        go_wp2_with fail
        go_meet
        exact ⟨w4.heap.size, rfl, hb6, ⟨hR6, hS6⟩, hB6⟩
      · go_wp2
        refine ordQ_norm ?_; show _ ∧ _; refine ⟨⟨hR3.alloc _, hS3.alloc _⟩, ?_⟩
        refine anyH_do (i := 3) rfl (by kernel_rfl) ?_
        have hc4 : CAt (w3.alloc (.cells (List.replicate 16 (Value.int .u8 0)).toArray 22)) c bx sbox (keys sbox k) := ⟨hc.c.alloc _, Row.alloc hc.b _, hc.lb, hc.lk⟩
        go_wp2_with (go_at_call 17; refine (H17.out _ c bx hc4).mono ?_; rintro e w4 ⟨rfl, hb4⟩)
        have hR4 := Row.below (hR3.alloc _) hb4 (hR3.alloc _).lt
        have hS4 := Row.below (hS3.alloc _) hb4 (hS3.alloc _).lt
        have hz4 : Blk w4 w3.heap.size 22 (List.replicate 16 (.int .u8 0)) := (Blk.new w3 22 _).below hb4 (by simp)
        have hB4 := (hB3.alloc hB3.size (.cells (List.replicate 16 (Value.int .u8 0)).toArray 22)).trans (hb4.mono (by have := hB3.size; simp; omega))
        have hlt4 := hz4.lt
        refine ordQ_norm ?_; show _ ∧ _; refine ⟨⟨hR4, hS4⟩, ?_⟩
        refine anyH_do (i := 5) rfl (by kernel_rfl) ?_
        refine wl_storeW rfl 22 _ _ rfl w3.heap.size 0 (vb X) rfl rfl 22 _ (vb X) hz4 (by simp [Hpl.out]) HiX.out (vb_ones _) (by simp [Hpl.out]) ?_
        intro w6 hb6 hg6 _
        refine wpList_nil ?_
        have hR6 : Row w6 w.heap.size 22 k := Row.grown' hR4 hg6 (by simp; omega)
        have hS6 : Row w6 (w.heap.size + 1) 22 b := Row.grown' hS4 hg6 (by simp; omega)
        have hB6 : Below w.heap.size w w6 := hB4.grown hg6 (by have := hB4.size; omega) (by rintro q hq; cases hq; have := hB3.size; omega)
        refine ordQ_norm ?_; show _ ∧ _; refine ⟨⟨hR6, hS6⟩, ?_⟩
        refine wpAnyH_done (by kernel_rfl) ?_ _
        change Exit.then _ _ .normal ⟨_, _⟩ _
        go_wp2_with fail
        go_meet
        exact ⟨w3.heap.size, rfl, hb6, ⟨hR6, hS6⟩, hB6⟩
    · go_wp2
      have hz2 := Blk.new w2 22 (List.replicate 16 (.int .u8 0))
      have hR2' := hR2.alloc (.cells (List.replicate 16 (Value.int .u8 0)).toArray 22)
      have hS2' := hS2.alloc (.cells (List.replicate 16 (Value.int .u8 0)).toArray 22)
      have hB2' := hB2.alloc hB2.size (.cells (List.replicate 16 (Value.int .u8 0)).toArray 22)
      refine ordQ_norm ?_; show _ ∧ _; refine ⟨⟨hR2', hS2'⟩, ?_⟩
      refine anyH_do (i := 1) rfl (by kernel_rfl) ?_
      go_wp2_with (go_at_call 16; refine (H16.out _).mono ?_; rintro e w3 ⟨c, bx, rfl, hc, hc1, hc2, hb3⟩)
      have hR3 := Row.below hR2' hb3 hR2'.lt
      have hS3 := Row.below hS2' hb3 hS2'.lt
      have hz3 := Blk.below hz2 hb3 hz2.lt
      have hB3 := hB2'.trans (hb3.mono hB2'.size)
      refine ordQ_norm ?_; show _ ∧ _; refine ⟨⟨hR3, hS3⟩, ?_⟩
      refine anyH_do (i := 3) rfl (by kernel_rfl) ?_
      go_wp2_with (go_at_call 17; refine (H17.out _ c bx hc).mono ?_; rintro e w4 ⟨rfl, hb4⟩)
      have hR4 := Row.below hR3 hb4 hR3.lt
      have hS4 := Row.below hS3 hb4 hS3.lt
      have hz4 := Blk.below hz3 hb4 hz3.lt
      have hB4 := hB3.trans (hb4.mono hB3.size)
      have hlt4 := hz4.lt
      refine ordQ_norm ?_; show _ ∧ _; refine ⟨⟨hR4, hS4⟩, ?_⟩
      refine anyH_do (i := 5) rfl (by kernel_rfl) ?_
      refine wl_storeW rfl 22 _ _ rfl w2.heap.size 0 (vb X) rfl rfl 22 _ (vb X) hz4 (by simp [Hpl.out]) HiX.out (vb_ones _) (by simp [Hpl.out]) ?_
      intro w6 hb6 hg6 _
      refine wpList_nil ?_
      have hR6 : Row w6 w.heap.size 22 k := Row.grown' hR4 hg6 (by simp; omega)
      have hS6 : Row w6 (w.heap.size + 1) 22 b := Row.grown' hS4 hg6 (by simp; omega)
      have hB6 : Below w.heap.size w w6 := hB4.grown hg6 (by have := hB4.size; omega) (by rintro q hq; cases hq; omega)
      refine ordQ_norm ?_; show _ ∧ _; refine ⟨⟨hR6, hS6⟩, ?_⟩
      refine wpAnyH_done (by kernel_rfl) ?_ _
      change Exit.then _ _ .normal ⟨_, _⟩ _
      go_wp2_with fail
      go_meet
      exact ⟨w2.heap.size, rfl, hb6, ⟨hR6, hS6⟩, hB6⟩
  case rest =>
    obtain ⟨g, rfl, hX, ⟨hR3, hS3⟩, hB3⟩ := hcut
    clear hR2 hS2 hB2 hs2 Hik Hib H16 H17
    obtain ⟨w3, rfl⟩ : ∃ w3 : World, w3 = wc := ⟨_, rfl⟩
    have HX := Hd.mk hX
    have HR3 := Hd.mk hR3
    have HS3 := Hd.mk hS3
    have hgl := hX.lt
    have hkl := hR3.lt
    have hbl := hS3.lt
    clear hX hR3 hS3
    go_wp2
    refine wp_region_any_held (fun _ => True) (by kernel_rfl) ?_
    simp only [List.length_cons, List.length_nil]
    refine anyH_val (i := 0) (.slice (some ⟨g, 0, none⟩) 16 16) rfl (by kernel_rfl) (by kernel_rfl) (by kernel_rfl) (fun _ d _ _ _ h => by cases d <;> exact h) rfl trivial (by intro W _; simp [go_sem]) ?_
    simp only [Act.put, List.setIfInBounds_toArray]
    refine anyH_val (i := 2) (.slice (some ⟨w.heap.size, 0, none⟩) 16 16) rfl (by kernel_rfl) (by kernel_rfl) (by kernel_rfl) (fun _ d _ _ _ h => by cases d <;> exact h) rfl trivial (by intro W _; simp [go_sem]) ?_
    simp only [Act.put]
    refine anyH_val (i := 3) (.slice (some ⟨w.heap.size + 1, 0, none⟩) 16 16) rfl (by kernel_rfl) (by kernel_rfl) (by kernel_rfl) (fun _ d _ _ _ h => by cases d <;> exact h) rfl trivial (by intro W _; simp [go_sem]) ?_
    simp only [Act.put]
    have hB3' := below_drewN hB3 1
    have HX' : Hd (Row (w3.drewN 1) g 22 (blk sbox (keys sbox k) b)) := ⟨HX.out.drewN 1⟩
    have HR' : Hd (Row (w3.drewN 1) w.heap.size 22 k) := ⟨HR3.out.drewN 1⟩
    have HS' : Hd (Row (w3.drewN 1) (w.heap.size + 1) 22 b) := ⟨HS3.out.drewN 1⟩
    clear HX HR3 HS3 hB3
    have hgl : g < (w3.drewN 1).heap.size := hgl
    have hkl : w.heap.size < (w3.drewN 1).heap.size := hkl
    have hbl : w.heap.size + 1 < (w3.drewN 1).heap.size := hbl
    generalize w3.drewN 1 = w3 at *
    refine anyH_do (i := 1) rfl (by kernel_rfl) ?_
    go_wp2_with (go_at_call 20; refine (rboxes_any _).mono ?_; rintro e w4 ⟨vB, rfl, hvB, hb4⟩)
    refine ordQ_norm ?_; show _ ∧ _; refine ⟨trivial, ?_⟩
    refine anyH_do (i := 4) rfl (by kernel_rfl) ?_
    have hk4 := SB.row (HR'.out.below hb4 hkl) (by rw [Hk.out]; simp [maxLen])
    have hb4' := SB.row (HS'.out.below hb4 hbl) (by rw [Hb.out]; simp [maxLen])
    rw [Hk.out] at hk4
    rw [Hb.out] at hb4'
    have hBl : rboxes.length = 256 := boxesTo_length 256
    go_wp2_with (go_at_call 19; refine (rblk_any _ _ _ _ k b _ hvB.sb hk4 hb4' hBl Hk.out Hb.out).mono ?_; rintro e w5 ⟨vR, rfl, hvR, hb5⟩)
    refine ordQ_norm ?_; show _ ∧ _; refine ⟨trivial, ?_⟩
    refine anyH_do (i := 5) rfl (by kernel_rfl) ?_
    have hX5 := SB.row ((HX'.out.below hb4 hgl).below hb5 (HX'.out.below hb4 hgl).lt) (by rw [Hpl.out]; simp [maxLen])
    rw [Hpl.out] at hX5
    go_wp2_with (go_at_call 18; refine (same_any _ _ _ _ _ hX5 hvR.sb).mono ?_; rintro e w6 ⟨rfl, nq, rfl⟩)
    refine ordQ_norm ?_; show _ ∧ _; refine ⟨trivial, ?_⟩
    refine anyH_do (i := 6) rfl (by kernel_rfl) ?_
    rw [decide_eq_true Hplain.out]
    go_wp2
    refine ordQ_norm ?_; show _ ∧ _; refine ⟨trivial, ?_⟩
    refine wpAnyH_done (by kernel_rfl) ?_ _
    go_wp2
    go_ret
    exact ⟨rfl, below_drewN ((hB3'.trans (hb4.mono hB3'.size)).trans (hb5.mono (hB3'.trans (hb4.mono hB3'.size)).size)) nq⟩
end Go.Proofs.Ytjjcnijdjhhdoaa
