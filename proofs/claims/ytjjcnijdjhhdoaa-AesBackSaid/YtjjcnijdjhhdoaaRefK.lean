/- The walk of compeerref05.Keys. -/
import Derived.Test.YtjjcnijdjhhdoaaRefB

namespace Go.Proofs.Ytjjcnijdjhhdoaa
open Go.RowKit Go.QT
attribute [local go_sem] bits_xor8 bits_or8 bits_and8 u8_ub
theorem rkRow_length (out t : Bytes) (n k : Nat) : (rkRow out t n k).length = out.length + k := by
  induction k with
  | zero => rfl
  | succ k ih => rw [rkRow, List.length_append, ih]; rfl
theorem rkTo_length (B k : Bytes) (hk : k.length = 16) (m : Nat) : (rkTo B k m).1.length = 16 + 4 * m := by
  induction m with
  | zero => exact hk
  | succ m ih => rw [rkTo, rkRow_length, ih]; omega
set_option maxRecDepth 100000 in
set_option maxHeartbeats 1000000 in
theorem rkeys_any (vB vk : Value) (B k : Bytes) (w : World) (hB : SB w vB B) (hk : SB w vk k) (hBl : B.length = 256) (hkl : k.length = 16) :
    Calls Try.prog 62 #[vB, vk] w (BPost w (rkeys B k)) := by
  obtain ⟨A, cB, rfl, hc1, hc2, hB⟩ := hB
  obtain ⟨bb, ob, rfl, hbl, hBc⟩ := hB (by rintro rfl; simp at hBl)
  clear hB
  rw [hBl] at *
  have HBc := Lib.hid hBc
  clear hBc hBl
  unfold maxLen at hc2
  have hone : ub 1 = 1 := by simp [ub]
  have Hone := Lib.hid hone
  clear hone
  have Hkl := Lib.hid hkl
  clear hkl
  go_enter Try.func62, Try.ntmps62
  go_upto_region 4 with (at_builtin; refine wl_append rfl (.tmp 10) (.tmp 11) rfl w.heap.size (.slice (some ⟨w.heap.size, 0, none⟩) 0 0) vk [] k rfl rfl (OB.new _ _ [] (by simp) (Row.new w 5 []) (Nat.le_refl _)) (hk.alloc _) (by rw [Hkl.out]; simp) (by simp) ?_; intro v' w' hv' hg' hat)
  go_wp2
  go_loopw [5, 6, 7] (fun v r n wr => ∃ m N : Nat, m ≤ 40 ∧ N = 16 + 4 * m ∧ n = .int .i64 (N : Int) ∧ r = .int .u8 (ub (rkTo B k m).2) ∧ OB wr w.heap.size v (rkTo B k m).1 ∧ Below w.heap.size w wr) (fun _ _ n _ => 176 - (intOf n).toNat)
  case atStart => exact ⟨0, 16, by omega, rfl, rfl, by rw [show (rkTo B k 0).2 = 1 from rfl, Hone.out], hv', (OB.new _ _ [] (by simp) (Row.new w 5 []) (Nat.le_refl _)).grownBelow ((Below.refl _ _).alloc (Nat.le_refl _) _) hg' (Nat.le_refl _) (Nat.le_refl _)⟩
  case round =>
    clear hv' hg' hat
    obtain ⟨m, N, hm, hN, rfl, rfl, hv, hB⟩ := hrel
    have hlen := rkTo_length B k Hkl.out m
    rw [← hN] at hlen
    have h16 : 16 ≤ N := by omega
    have h176 : N ≤ 176 := by omega
    by_cases hlt : m < 40
    · have hltN : N < 176 := by omega
      have hdN : decide ((N : Int) < 176) = true := by simp; omega
      have hs : rkTo B k (m+1) = (rkRow (rkTo B k m).1 (rkT B (rkTo B k m).1 (rkTo B k m).2 (16+4*m)) (16+4*m) 4, if (16+4*m) % 16 = 0 then rprod (rkTo B k m).2 2 else (rkTo B k m).2) := rfl
      rw [← hN] at hs
      have Hs := Lib.hid hs
      have HN := Lib.hid hN
      clear hs hN
      generalize (rkTo B k m).1 = l at *
      generalize (rkTo B k m).2 = r at *
      obtain ⟨g, cap, rfl, hg1, hg2, hc3, hc4, hcell⟩ := hv.open_ (by rintro rfl; simp at hlen; omega)
      rw [hlen] at hc3 hcell hv ⊢
      unfold maxLen at hc4
      have e1 := hcell (N - 4) (by omega)
      have e2 := hcell (N - 3) (by omega)
      have e3 := hcell (N - 2) (by omega)
      have e4 := hcell (N - 1) (by omega)
      have Hcell := Lib.hid hcell
      have Hlen := Lib.hid hlen
      have Hv := Lib.hid hv
      clear hcell hlen hv
      obtain ⟨w2, rfl⟩ : ∃ w1 : World, w1 = wr := ⟨_, rfl⟩
      go_wp2
      refine wp_region_qt 20 (by kernel_rfl) (by kernel_rfl) ?_
      simp only [List.take_succ_cons, List.take_zero, List.drop_succ_cons, List.drop_zero]
      repeat (go_big_quiet_step (fail))
      refine wpQuiet_nil ?_
      rintro _ ⟨nq1, rfl⟩
      go_upto_region 7 with (fail)
      have hR4 : Row ((w2.drewN nq1).alloc (.cells #[.int .u8 (ub (gb l (N - 4))), .int .u8 (ub (gb l (N - 3))), .int .u8 (ub (gb l (N - 2))), .int .u8 (ub (gb l (N - 1)))] 5)) w2.heap.size 5 [gb l (N - 4), gb l (N - 3), gb l (N - 2), gb l (N - 1)] := by
        have := Row.new (w2.drewN nq1) 5 [gb l (N - 4), gb l (N - 3), gb l (N - 2), gb l (N - 1)]
        exact this
      have hv2 : OB ((w2.drewN nq1).alloc (.cells #[.int .u8 (ub (gb l (N - 4))), .int .u8 (ub (gb l (N - 3))), .int .u8 (ub (gb l (N - 2))), .int .u8 (ub (gb l (N - 1)))] 5)) w.heap.size (.slice (some ⟨g, 0, none⟩) N cap) l := (Hv.out.drewN nq1).alloc _
      have hB2 : Below w.heap.size w ((w2.drewN nq1).alloc (.cells #[.int .u8 (ub (gb l (N - 4))), .int .u8 (ub (gb l (N - 3))), .int .u8 (ub (gb l (N - 2))), .int .u8 (ub (gb l (N - 1)))] 5)) := (below_drewN hB nq1).alloc hB.size _
      have hs2 : w.heap.size ≤ w2.heap.size := hB.size
      generalize (w2.drewN nq1).alloc (.cells #[.int .u8 (ub (gb l (N - 4))), .int .u8 (ub (gb l (N - 3))), .int .u8 (ub (gb l (N - 2))), .int .u8 (ub (gb l (N - 1)))] 5) = w3 at *
      have hgg : g ≠ w2.heap.size := by omega
      have hs3 := hR4.lt
      generalize w2.heap.size = gt at *
      clear Hcell Hv e1 e2 e3 e4 hB
      by_cases h0 : N % 16 = 0
      · have ht : (((N : Int) % 16) == 0) = true := by simp; omega
        have H0 := Lib.hid h0
        clear h0
        have hb2 : bb < gt := by omega
        have b1 := (hB2.cell (p := ⟨bb, ob + nb (gb l (N - 1)), none⟩) hbl).trans (HBc.out _ (nb_lt _))
        have l1 := nb_lt (gb l (N - 1))
        have b2 := (hB2.cell (p := ⟨bb, ob + nb (gb l (N - 2)), none⟩) hbl).trans (HBc.out _ (nb_lt _))
        have l2 := nb_lt (gb l (N - 2))
        have b3 := (hB2.cell (p := ⟨bb, ob + nb (gb l (N - 3)), none⟩) hbl).trans (HBc.out _ (nb_lt _))
        have l3 := nb_lt (gb l (N - 3))
        have b4 := (hB2.cell (p := ⟨bb, ob + nb (gb l (N - 4)), none⟩) hbl).trans (HBc.out _ (nb_lt _))
        have l4 := nb_lt (gb l (N - 4))
        have t0 : w3.cell? ⟨gt, 0, none⟩ = some (.int .u8 (ub (gb l (N - 4)))) := Row.cell hR4 (i := 0) (by simp)
        have t1 : w3.cell? ⟨gt, 1, none⟩ = some (.int .u8 (ub (gb l (N - 3)))) := Row.cell hR4 (i := 1) (by simp)
        have t2 : w3.cell? ⟨gt, 2, none⟩ = some (.int .u8 (ub (gb l (N - 2)))) := Row.cell hR4 (i := 2) (by simp)
        have t3 : w3.cell? ⟨gt, 3, none⟩ = some (.int .u8 (ub (gb l (N - 1)))) := Row.cell hR4 (i := 3) (by simp)
        go_wp2
        refine wp_region_qt 26 (by kernel_rfl) (by kernel_rfl) ?_
        simp only [List.take_succ_cons, List.take_zero, List.drop_succ_cons, List.drop_zero]
        repeat (go_big_quiet_step (fail))
        refine wpQuiet_nil ?_
        rintro _ ⟨nq2, rfl⟩
        go_upto_region 10 with (go_at_call 63; refine (rprod_any _ _ (by simp) (by simp) (by simp) (by simp) _).mono ?_; rintro e w' ⟨rfl, rfl⟩)
        clear b1 b2 b3 b4 t0 t1 t2 t3
        have hT : Row ((w3.drewN nq2).alloc (.cells #[.int .u8 (ub (gb B (nb (gb l (N - 3))) ^^^ r)), .int .u8 (ub (gb B (nb (gb l (N - 2))))), .int .u8 (ub (gb B (nb (gb l (N - 1))))), .int .u8 (ub (gb B (nb (gb l (N - 4)))))] 5)) w3.heap.size 5 (rkT B l r N) := by rw [rkT, if_pos H0.out]; exact Row.new (w3.drewN nq2) 5 [gb B (nb (gb l (N - 3))) ^^^ r, gb B (nb (gb l (N - 2))), gb B (nb (gb l (N - 1))), gb B (nb (gb l (N - 4)))]
        have hTl : (rkT B l r N).length = 4 := by rw [rkT]; split <;> rfl
        have HTl := Lib.hid hTl
        clear hTl
        generalize rkT B l r N = T at *
        have hv4 : OB ((w3.drewN nq2).alloc (.cells #[.int .u8 (ub (gb B (nb (gb l (N - 3))) ^^^ r)), .int .u8 (ub (gb B (nb (gb l (N - 2))))), .int .u8 (ub (gb B (nb (gb l (N - 1))))), .int .u8 (ub (gb B (nb (gb l (N - 4)))))] 5)) w.heap.size (.slice (some ⟨g, 0, none⟩) N cap) (rkRow l T N 0) := (hv2.drewN nq2).alloc _
        have hB4 : Below w.heap.size w ((w3.drewN nq2).alloc (.cells #[.int .u8 (ub (gb B (nb (gb l (N - 3))) ^^^ r)), .int .u8 (ub (gb B (nb (gb l (N - 2))))), .int .u8 (ub (gb B (nb (gb l (N - 1))))), .int .u8 (ub (gb B (nb (gb l (N - 4)))))] 5)) := (below_drewN hB2 nq2).alloc hB2.size _
        have hne : ∀ q, (Value.slice (some ⟨g, 0, none⟩) N cap).ownBlock = some q → q ≠ w3.heap.size := by intro q hq; simp [Value.ownBlock] at hq; omega
        have Hne := Lib.hid hne
        clear hne
        generalize (w3.drewN nq2).alloc (.cells #[.int .u8 (ub (gb B (nb (gb l (N - 3))) ^^^ r)), .int .u8 (ub (gb B (nb (gb l (N - 2))))), .int .u8 (ub (gb B (nb (gb l (N - 1))))), .int .u8 (ub (gb B (nb (gb l (N - 4)))))] 5) = w5 at *
        generalize w3.heap.size = g5 at *
        go_wp2
        go_loopw [5, 9] (fun v j wr => ∃ j' : Nat, j' ≤ 4 ∧ j = .int .i64 (j' : Int) ∧ OB wr w.heap.size v (rkRow l T N j') ∧ Row wr g5 5 T ∧ (∀ q, v.ownBlock = some q → q ≠ g5) ∧ Below w.heap.size w wr) (fun _ j _ => 4 - (intOf j).toNat)
        case atStart => exact ⟨0, by omega, rfl, hv4, hT, Hne.out, hB4⟩
        case round =>
          clear hv4 hT hB4 Hne
          obtain ⟨j, hj, rfl, hv, hT, hne, hB⟩ := hrel
          have hrl := rkRow_length l T N j
          rw [Hlen.out] at hrl
          by_cases hj4 : j < 4
          · have Hs2 : Hid (rkRow l T N (j+1) = rkRow l T N j ++ [gb (rkRow l T N j) (N+j-16) ^^^ gb T j]) := rfl
            generalize rkRow l T N j = L at *
            obtain ⟨g', cap', rfl, hg1, hg2, hc3, hc4, hcell⟩ := hv.open_ (by rintro rfl; simp at hrl; omega)
            rw [hrl] at hc3 hcell hv ⊢
            unfold maxLen at hc4
            have e1 := hcell (N + j - 16) (by omega)
            have e2 := Row.cell hT (i := j) (by rw [HTl.out]; exact hj4)
            have Hrl := Lib.hid hrl
            have Hv := Lib.hid hv
            have HT := Lib.hid hT
            have Hne := Lib.hid hne
            clear hcell hrl hv hT hne
            obtain ⟨w4, rfl⟩ : ∃ w1 : World, w1 = wr := ⟨_, rfl⟩
            go_wp2
            refine wp_region_pq [0] [1,2,3,4,5,6,7,8,9,10,11,12] 13 (by kernel_rfl) (by kernel_rfl) (fun _ d _ _ _ h => by cases d <;> exact h) ?_
            simp only [List.map_cons, List.map_nil, List.cons_append, List.nil_append, List.drop_succ_cons, List.drop_zero, List.getD_cons_zero, List.getD_cons_succ]
            repeat (go_big_quiet_step (fail))
            refine wpQuiet_nil ?_
            rintro _ ⟨nq3, rfl⟩
            go_wp2_with (at_builtin; refine wl_push rfl (.tmp 74) (.tmp 87) rfl w.heap.size _ L _ w4.heap.size rfl rfl ((Hv.out.drewN nq3).alloc _) (Row.new (w4.drewN nq3) 5 [_]) (by rw [Hrl.out]; omega) (by have := hB.size; simp; omega) ?_; intro v' w' hv' hg' hat')
            have hrel' : ∃ j' : Nat, j' ≤ 4 ∧ Value.int IntKind.i64 ((j : Int) + 1) = .int .i64 (j' : Int) ∧ OB w' w.heap.size v' (rkRow l T N j') ∧ Row w' g5 5 T ∧ (∀ q, v'.ownBlock = some q → q ≠ g5) ∧ Below w.heap.size w w' := by
              refine ⟨j + 1, by omega, by go_num, by rw [Hs2.out]; exact hv', ((HT.out.drewN nq3).alloc _).grown hg' (fun e => Hne.out g5 e.symm rfl), fun q hq => ?_, ((Hv.out.drewN nq3).alloc _).grownBelow ((below_drewN hB nq3).alloc hB.size _) hg' (Nat.le_refl _) (Nat.le_refl _)⟩
              have hlt' := HT.out.lt
              rcases hat' with e | e
              · rw [e] at hq; exact Hne.out q hq
              · rw [e] at hq; simp at hq; omega
            exact ⟨hrel', by simp [intOf]; omega⟩
          · have hj' : j = 4 := by omega
            rw [hj'] at hv
            clear hj'
            have Hv := Lib.hid hv
            clear hv hrl hT hne
            go_wp2
            have hN := HN.out
            refine ⟨⟨m + 1, N + 4, by omega, by omega, by go_num, ?_, ?_, hB⟩, by simp [intOf]; omega⟩
            · have h0 := H0.out
              rw [Hs.out]; show _ = Value.int .u8 (ub (if N % 16 = 0 then _ else _)); rw [if_pos h0]; rfl
            · rw [Hs.out]; exact Hv.out
      · have ht : (((N : Int) % 16) == 0) = false := by simp; omega
        have H0 := Lib.hid h0
        clear h0
        go_upto_region 10 with (fail)
        have hT : Row w3 gt 5 (rkT B l r N) := by rw [rkT, if_neg H0.out]; exact hR4
        have hTl : (rkT B l r N).length = 4 := by rw [rkT]; split <;> rfl
        have HTl := Lib.hid hTl
        clear hTl
        generalize rkT B l r N = T at *
        have hv4 : OB w3 w.heap.size (.slice (some ⟨g, 0, none⟩) N cap) (rkRow l T N 0) := hv2
        have hB4 : Below w.heap.size w (w3) := hB2
        have hne : ∀ q, (Value.slice (some ⟨g, 0, none⟩) N cap).ownBlock = some q → q ≠ gt := by intro q hq; simp [Value.ownBlock] at hq; omega
        have Hne := Lib.hid hne
        clear hne
        generalize w3 = w5 at *
        generalize gt = g5 at *
        go_wp2
        go_loopw [5, 9] (fun v j wr => ∃ j' : Nat, j' ≤ 4 ∧ j = .int .i64 (j' : Int) ∧ OB wr w.heap.size v (rkRow l T N j') ∧ Row wr g5 5 T ∧ (∀ q, v.ownBlock = some q → q ≠ g5) ∧ Below w.heap.size w wr) (fun _ j _ => 4 - (intOf j).toNat)
        case atStart => exact ⟨0, by omega, rfl, hv4, hT, Hne.out, hB4⟩
        case round =>
          clear hv4 hT hB4 Hne
          obtain ⟨j, hj, rfl, hv, hT, hne, hB⟩ := hrel
          have hrl := rkRow_length l T N j
          rw [Hlen.out] at hrl
          by_cases hj4 : j < 4
          · have Hs2 : Hid (rkRow l T N (j+1) = rkRow l T N j ++ [gb (rkRow l T N j) (N+j-16) ^^^ gb T j]) := rfl
            generalize rkRow l T N j = L at *
            obtain ⟨g', cap', rfl, hg1, hg2, hc3, hc4, hcell⟩ := hv.open_ (by rintro rfl; simp at hrl; omega)
            rw [hrl] at hc3 hcell hv ⊢
            unfold maxLen at hc4
            have e1 := hcell (N + j - 16) (by omega)
            have e2 := Row.cell hT (i := j) (by rw [HTl.out]; exact hj4)
            have Hrl := Lib.hid hrl
            have Hv := Lib.hid hv
            have HT := Lib.hid hT
            have Hne := Lib.hid hne
            clear hcell hrl hv hT hne
            obtain ⟨w4, rfl⟩ : ∃ w1 : World, w1 = wr := ⟨_, rfl⟩
            go_wp2
            refine wp_region_pq [0] [1,2,3,4,5,6,7,8,9,10,11,12] 13 (by kernel_rfl) (by kernel_rfl) (fun _ d _ _ _ h => by cases d <;> exact h) ?_
            simp only [List.map_cons, List.map_nil, List.cons_append, List.nil_append, List.drop_succ_cons, List.drop_zero, List.getD_cons_zero, List.getD_cons_succ]
            repeat (go_big_quiet_step (fail))
            refine wpQuiet_nil ?_
            rintro _ ⟨nq3, rfl⟩
            go_wp2_with (at_builtin; refine wl_push rfl (.tmp 74) (.tmp 87) rfl w.heap.size _ L _ w4.heap.size rfl rfl ((Hv.out.drewN nq3).alloc _) (Row.new (w4.drewN nq3) 5 [_]) (by rw [Hrl.out]; omega) (by have := hB.size; simp; omega) ?_; intro v' w' hv' hg' hat')
            have hrel' : ∃ j' : Nat, j' ≤ 4 ∧ Value.int IntKind.i64 ((j : Int) + 1) = .int .i64 (j' : Int) ∧ OB w' w.heap.size v' (rkRow l T N j') ∧ Row w' g5 5 T ∧ (∀ q, v'.ownBlock = some q → q ≠ g5) ∧ Below w.heap.size w w' := by
              refine ⟨j + 1, by omega, by go_num, by rw [Hs2.out]; exact hv', ((HT.out.drewN nq3).alloc _).grown hg' (fun e => Hne.out g5 e.symm rfl), fun q hq => ?_, ((Hv.out.drewN nq3).alloc _).grownBelow ((below_drewN hB nq3).alloc hB.size _) hg' (Nat.le_refl _) (Nat.le_refl _)⟩
              have hlt' := HT.out.lt
              rcases hat' with e | e
              · rw [e] at hq; exact Hne.out q hq
              · rw [e] at hq; simp at hq; omega
            exact ⟨hrel', by simp [intOf]; omega⟩
          · have hj' : j = 4 := by omega
            rw [hj'] at hv
            clear hj'
            have Hv := Lib.hid hv
            clear hv hrl hT hne
            go_wp2
            have hN := HN.out
            refine ⟨⟨m + 1, N + 4, by omega, by omega, by go_num, ?_, ?_, hB⟩, by simp [intOf]; omega⟩
            · have h0 := H0.out
              rw [Hs.out]; show _ = Value.int .u8 (ub (if N % 16 = 0 then _ else _)); rw [if_neg h0]
            · rw [Hs.out]; exact Hv.out
    · have hm40 : m = 40 := by omega
      rw [hm40] at hv
      clear hm40 hlen
      have Hv := Lib.hid hv
      clear hv
      go_wp2
      go_ret
      exact ⟨_, rfl, Hv.out, hB⟩
end Go.Proofs.Ytjjcnijdjhhdoaa
