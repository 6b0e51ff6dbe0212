/- The walk of compeerref05.Stream. -/
import Derived.Test.YtjjcnijdjhhdoaaRefL
namespace Go.Proofs.Ytjjcnijdjhhdoaa
open Go.RowKit Go.QT
attribute [local go_sem] bits_xor8 bits_or8 bits_and8 u8_ub
theorem carryTo_length (f : Bytes) (i : Nat) : (carryTo f i).1.length = f.length := by
  induction i with
  | zero => rfl
  | succ i ih => exact List.length_set.trans ih
theorem carryTo_le (f : Bytes) (i : Nat) : (carryTo f i).2 ≤ 1 := by
  induction i with
  | zero => exact Nat.le_refl _
  | succ i ih => have := nb_lt (gb (carryTo f i).1 (15-i)); show (_ + _) / 256 ≤ 1; omega
theorem nbc_le (x : UInt8) (c : Nat) (hc : c ≤ 1) : nb x + c ≤ 256 := by have := nb_lt x; omega
theorem rblk_length (B k b : Bytes) : (rblk B k b).length = 16 := rrounds_length B (rkeys B k) b 10
structure RLen (s : RSt) (n : Nat) : Prop where
  at_ : s.at_.length = 16
  out : s.out.length = n
  pad : 0 < n → s.pad.length = 16
theorem rstTo_len (B k f b : Bytes) (hf : f.length = 16) (n : Nat) : RLen (rstTo B k f b n) n := by
  induction n with
  | zero => exact ⟨hf, rfl, fun h => absurd h (by omega)⟩
  | succ n ih =>
    have hp : (rpad B k n (rstTo B k f b n)).at_.length = 16 ∧ (rpad B k n (rstTo B k f b n)).out.length = n ∧ (rpad B k n (rstTo B k f b n)).pad.length = 16 := by
      unfold rpad
      split
      · dsimp only
        refine ⟨?_, ih.out, ?_⟩
        · unfold rinc; rw [carryTo_length]; exact ih.at_
        · rw [rblk_length]
      · exact ⟨ih.at_, ih.out, ih.pad (by omega)⟩
    exact ⟨hp.1, by show (_ ++ _ : Bytes).length = _; rw [List.length_append, hp.2.1]; rfl, fun _ => hp.2.2⟩
/-- What the loop keeps: three rows of the call's own, apart from one another. -/
structure St (w wr : World) (ga ca : Nat) (v p : Value) (s : RSt) : Prop where
  at_ : OB wr w.heap.size (.slice (some ⟨ga, 0, none⟩) 16 ca) s.at_
  out : OB wr w.heap.size v s.out
  pad : OB wr w.heap.size p s.pad
  d1 : Disj v (.slice (some ⟨ga, 0, none⟩) 16 ca)
  d2 : Disj p (.slice (some ⟨ga, 0, none⟩) 16 ca)
  d3 : Disj v p
  low : Below w.heap.size w wr
theorem OB.cells {w : World} {base g n c : Nat} {l : Bytes} (h : OB w base (.slice (some ⟨g, 0, none⟩) n c) l) : n = l.length ∧ base ≤ g ∧ g < w.heap.size ∧ n ≤ c ∧ c ≤ maxLen ∧ ∀ i, i < l.length → w.cell? ⟨g, i, none⟩ = some (.int .u8 (ub (gb l i))) := by
  have hl : n = l.length := by
    rcases h.2 with ⟨e, _⟩ | ⟨g', cap, cur, e, _⟩
    · cases e
    · injection e with _ e2 _
  have ho := h.own g rfl
  have hc : n ≤ c ∧ c ≤ maxLen := by
    rcases h.2 with ⟨e, _⟩ | ⟨g', cap, cur, e, _, _, h1, h2, _⟩
    · cases e
    · injection e with _ e2 e3; subst e3; exact ⟨by omega, h2⟩
  refine ⟨hl, ho.1, ho.2, hc.1, hc.2, fun i hi => ?_⟩
  obtain ⟨g', cap, e, _, _, _, _, hcell⟩ := h.open_ (by rintro rfl; simp at hi)
  injection e with e1 _ _
  injection e1 with e1
  injection e1 with e1
  subst e1
  exact hcell i hi
theorem St.set {w wr : World} {ga ca : Nat} {v p : Value} {s : RSt} (h : St w wr ga ca v p s) (j : Nat) (x : UInt8) : St w (wr.setCell ⟨ga, j, none⟩ (.int .u8 (ub x))) ga ca v p ⟨s.at_.set j x, s.pad, s.out⟩ :=
  ⟨h.at_.set j x, h.out.far (fun q hq e => h.d1 q hq (by rw [e]; rfl)) _, h.pad.far (fun q hq e => h.d2 q hq (by rw [e]; rfl)) _, h.d1, h.d2, h.d3, h.low.setCell h.at_.cells.2.1 _⟩
set_option maxRecDepth 100000 in
set_option maxHeartbeats 1000000 in
theorem rstream_any (vB vk vf vb' : Value) (B k f b : Bytes) (w : World) (hB : SB w vB B) (hk : SB w vk k) (hf : SB w vf f) (hb : SB w vb' b) (hBl : B.length = 256) (hkl : k.length = 16) (hfl : f.length = 16) (hbl : b.length ≤ 1000) :
    Calls Try.prog 22 #[vB, vk, vf, vb'] w (BPost w (rstream B k f b)) := by
  have Hend : Hd (rstream B k f b = (rstTo B k f b b.length).out) := ⟨rfl⟩
  have hLen := rstTo_len B k f b hfl
  have hstep : ∀ n, rstTo B k f b (n+1) = rput b n (rpad B k n (rstTo B k f b n)) := fun _ => rfl
  have hst0 : rstTo B k f b 0 = ⟨f, [], []⟩ := rfl
  have HLen := Hd.mk hLen
  have Hstep := Hd.mk hstep
  have Hst0 := Hd.mk hst0
  clear hLen hstep hst0
  have hbc : ∃ A, (∃ c, vb' = .slice A b.length c) ∧ (b ≠ [] → ∃ bb o, A = some ⟨bb, o, none⟩ ∧ bb < w.heap.size ∧ ∀ i, i < b.length → w.cell? ⟨bb, o + i, none⟩ = some (.int .u8 (ub (gb b i)))) := by obtain ⟨A, c, e, h1, h2, h3⟩ := hb; exact ⟨A, ⟨c, e⟩, h3⟩
  have hbv : ∃ A c, vb' = .slice A b.length c ∧ b.length ≤ c ∧ c ≤ 2 ^ 63 - 1 := by obtain ⟨A, c, e, h1, h2, _⟩ := hb; exact ⟨A, c, e, h1, by unfold maxLen at h2; exact h2⟩
  obtain ⟨Ab, cb, rfl, hb1, hb2⟩ := hbv
  obtain ⟨Ab', ⟨cb', eA⟩, hb3⟩ := hbc
  obtain rfl : Ab' = Ab := by injection eA with e _ _; exact e.symm
  clear eA
  have Hb2 := Hd.mk hb3
  clear hb3
  go_enter Try.func22, Try.ntmps22
  go_upto_region 2 with (at_builtin; refine wl_append rfl (.tmp 16) (.tmp 17) rfl w.heap.size (.slice (some ⟨w.heap.size, 0, none⟩) 0 0) vf [] f rfl rfl (OB.new _ _ [] (by simp) (Row.new w 5 []) (Nat.le_refl _)) (hf.alloc _) (by simp; omega) (by simp) ?_; intro v' w' hv' hg' hat)
  have hB1 : Below w.heap.size w w' := (OB.new _ _ [] (by simp) (Row.new w 5 []) (Nat.le_refl _)).grownBelow ((Below.refl _ _).alloc (Nat.le_refl _) _) hg' (Nat.le_refl _) (Nat.le_refl _)
  rw [List.nil_append] at hv'
  obtain ⟨ga, ca, rfl, ha1, ha2, ha3, ha4, _⟩ := hv'.open_ (by rintro rfl; simp at hfl)
  unfold maxLen at ha4
  clear hg' hat ha2
  have HB := Hd.mk hB
  have Hk := Hd.mk hk
  have Hb := Hd.mk hb
  have HB1 := Hd.mk hB1
  have Hat := Hd.mk hv'
  clear hB hk hf hb hB1 hv'
  rw [hfl] at *
  obtain ⟨w1, rfl⟩ : ∃ w1 : World, w1 = w' := ⟨_, rfl⟩
  go_upto_region 5 with (fail)
  have hst : St w ((w1.alloc (.cells #[] 5)).alloc (.cells #[] 5)) ga ca (.slice (some ⟨w1.heap.size, 0, none⟩) 0 0) (.slice (some ⟨w1.heap.size + 1, 0, none⟩) 0 0) (rstTo B k f b 0) := by
    rw [Hst0.out]
    have hs := HB1.out.size
    have ha := (Hat.out.own ga rfl).2
    refine ⟨(Hat.out.alloc _).alloc _, (OB.new _ _ [] (by simp) (Row.new w1 5 []) hs).alloc _, ?_, ?_, ?_, ?_, ?_⟩
    · have := OB.new (base := w.heap.size) _ _ [] (by simp) (Row.new (w1.alloc (.cells #[] 5)) 5 []) (by simp; omega)
      simpa using this
    · intro q hq hq'; simp [Value.ownBlock] at hq hq'; omega
    · intro q hq hq'; simp [Value.ownBlock] at hq hq'; omega
    · intro q hq hq'; simp [Value.ownBlock] at hq hq'; omega
    · exact (HB1.out.alloc hs _).alloc (by simp; omega) _
  generalize (w1.alloc (.cells #[] 5)).alloc (.cells #[] 5) = w2 at *
  clear HB1 Hat Hst0
  go_loopw [10, 11, 12] (fun v p n wr => ∃ m : Nat, m ≤ b.length ∧ n = .int .i64 (m : Int) ∧ St w wr ga ca v p (rstTo B k f b m)) (fun _ _ n _ => b.length - (intOf n).toNat)
  case atStart => exact ⟨0, by omega, rfl, hst⟩
  case round =>
    clear hst
    obtain ⟨m, hm, rfl, hst⟩ := hrel
    by_cases hlt : m < b.length
    · have hd : decide ((m : Int) < b.length) = true := by simp; omega
      have Hs := Hd.mk (Hstep.out m)
      have hl := HLen.out m
      have hw : w.heap.size ≤ wr.heap.size := hst.low.size
      generalize rstTo B k f b m = s at *
      obtain ⟨w3, rfl⟩ : ∃ w1 : World, w1 = wr := ⟨_, rfl⟩
      have Hst := Hd.mk hst
      have Hl := Hd.mk hl
      clear hst hl
      by_cases h0 : m % 16 = 0
      · have ht : (((m : Int) % 16) == 0) = true := by simp; omega
        have hp0 : rpad B k m s = ⟨rinc s.at_, rblk B k s.at_, s.out⟩ := if_pos h0
        rw [hp0] at Hs
        clear hp0 h0
        go_upto_region 11 with (go_at_call 19; refine (rblk_any _ _ _ B k s.at_ _ (HB.out.below Hst.out.low) (Hk.out.below Hst.out.low) Hst.out.at_.sb hBl hkl Hl.out.at_).mono ?_; rintro e w' ⟨vp, rfl, hp, hb3⟩)
        have hpl := rblk_length B k s.at_
        have Hinc : Hd (rinc s.at_ = (carryTo s.at_ 16).1) := ⟨rfl⟩
        have Hc1 : Hd (∀ j, carryTo s.at_ (j+1) = ((carryTo s.at_ j).1.set (15-j) (UInt8.ofNat ((nb (gb (carryTo s.at_ j).1 (15-j)) + (carryTo s.at_ j).2) % 256)), (nb (gb (carryTo s.at_ j).1 (15-j)) + (carryTo s.at_ j).2) / 256)) := ⟨fun _ => rfl⟩
        generalize rblk B k s.at_ = P at *
        have hst4 : St w w' ga ca u10 vp ⟨(carryTo s.at_ 0).1, P, s.out⟩ :=
          ⟨Hst.out.at_.below hb3, Hst.out.out.below hb3, hp.mono hw, Hst.out.d1, fun q hq hq' => Disj.fresh Hst.out.at_ (fun k hk => (hp.own k hk).1) (Nat.le_refl _) q hq' hq, Disj.fresh Hst.out.out (fun k hk => (hp.own k hk).1) (Nat.le_refl _), Hst.out.low.trans (hb3.mono hw)⟩
        have hcl := carryTo_length s.at_
        have hcc := carryTo_le s.at_
        rw [Hl.out.at_] at hcl
        have Hpl := Hd.mk hpl
        have Hcl := Hd.mk hcl
        have Hcc := Hd.mk hcc
        clear hpl hcl hcc hp hb3 Hst
        obtain ⟨w4, rfl⟩ : ∃ w1 : World, w1 = w' := ⟨_, rfl⟩
        have hc0 : Value.int .i64 1 = .int .i64 ((carryTo s.at_ 0).2 : Int) := rfl
        have Hc0 := Hd.mk hc0
        clear hc0
        go_loopw [13, 14] (fun c j wr => ∃ i : Nat, i ≤ 16 ∧ c = .int .i64 ((carryTo s.at_ i).2 : Int) ∧ j = .int .i64 (15 - (i : Int)) ∧ St w wr ga ca u10 vp ⟨(carryTo s.at_ i).1, P, s.out⟩) (fun _ j _ => (intOf j + 1).toNat)
        case atStart => exact ⟨0, by omega, Hc0.out, rfl, hst4⟩
        case round =>
          clear hst4
          obtain ⟨i, hi, rfl, rfl, hst⟩ := hrel
          by_cases hi16 : i < 16
          · obtain ⟨j, hj, hj2⟩ : ∃ j : Nat, i + j = 15 ∧ (15 - (i : Int)) = j := ⟨15 - i, by omega, by omega⟩
            rw [hj2]
            have hcl := Hcl.out i
            have hcc := Hcc.out i
            have Hn := Hd.mk (Hc1.out i)
            rw [show 15 - i = j by omega] at Hn
            generalize (carryTo s.at_ i).1 = L at *
            generalize (carryTo s.at_ i).2 = c at *
            have e1 := hst.at_.cells.2.2.2.2.2 j (by show j < L.length; omega)
            have e3 := hst.at_.frozen_ j
            have e4 : w.heap.size ≤ ga := hst.at_.cells.2.1
            have HL := Hd.mk hcl
            have Hst := Hd.mk hst
            clear hst hcl
            obtain ⟨w5, rfl⟩ : ∃ w1 : World, w1 = wr := ⟨_, rfl⟩
            go_wp2
            have hN : wrap64 (wrap64 (ub (gb L j)) + (c : Int)) = ((nb (gb L j) + c : Nat) : Int) := by
              have := nb_lt (gb L j)
              rw [wrap64_ub, ub_nb, ← Int.natCast_add, wrap64_nat _ (by omega)]
            have hN2 : nb (gb L j) + c ≤ 256 := nbc_le _ _ hcc
            rw [hN]
            generalize nb (gb L j) + c = N at *
            have hD : wrap64 ((N : Int).tdiv 256) = ((N / 256 : Nat) : Int) := by
              rw [Int.tdiv_eq_ediv_of_nonneg (by omega), show (N : Int) / 256 = ((N / 256 : Nat) : Int) by omega, wrap64_nat _ (by omega)]
            have hM : (N : Int).tmod 256 % 256 = ub (UInt8.ofNat (N % 256)) := by
              rw [Int.tmod_eq_emod_of_nonneg (by omega), ub_ofNat]; omega
            rw [hD, hM]
            refine ⟨⟨i + 1, by omega, by rw [Hn.out], congrArg (Value.int .i64) (by omega), ?_⟩, ?_⟩
            · rw [Hn.out]
              exact Hst.out.set j _
            · show ((j : Int) - 1 + 1).toNat < ((j : Int) + 1).toNat
              omega
          · have hi' : i = 16 := by omega
            rw [hi', ← Hinc.out] at hst
            have Hst := Hd.mk hst
            clear hst hi'
            obtain ⟨w5, rfl⟩ : ∃ w1 : World, w1 = wr := ⟨_, rfl⟩
            have hpad := Hst.out.pad
            obtain ⟨gp, cp, rfl, hp1, hp2, hp3, hp4, hp5⟩ := hpad.open_ (by intro e; have h := Hpl.out; rw [show P = [] from e] at h; cases h)
            unfold maxLen at hp4
            rw [show P.length = 16 from Hpl.out] at hp3 hp5 hpad Hst ⊢
            obtain ⟨bb, ob, hbA, hb3, hb4⟩ := Hb2.out (by rintro rfl; simp at hlt)
            subst hbA
            have e1 := (Hst.out.low.cell (p := ⟨bb, ob + m, none⟩) hb3).trans (hb4 m hlt)
            have e2 := hp5 (m % 16) (Nat.mod_lt _ (by omega))
            have hwz := Hst.out.low.size
            have Hpad := Hd.mk hpad
            clear hp5 hpad hb4
            go_upto_region 16 with (fail)
            refine wp_region_pq [0] [1,2,3,4,5,6,7,8,9,10] 11 (by kernel_rfl) (by kernel_rfl) (fun _ d _ _ _ h => by cases d <;> exact h) ?_
            simp only [List.map_cons, List.map_nil, List.cons_append, List.nil_append, List.drop_succ_cons, List.drop_zero, List.getD_cons_zero, List.getD_cons_succ]
            repeat (go_big_quiet_step (fail))
            refine wpQuiet_nil ?_
            rintro _ ⟨nq3, rfl⟩
            go_wp2_with (at_builtin; refine wl_push rfl (.tmp 53) (.tmp 64) rfl w.heap.size _ s.out _ w5.heap.size rfl rfl ((Hst.out.out.drewN nq3).alloc _) (Row.new (w5.drewN nq3) 5 [_]) (by have := Hl.out.out; omega) (by simp; omega) ?_; intro v' w' hv' hg' hat')
            have hn := Hs.out
            refine ⟨⟨m + 1, by omega, by go_num, ?_⟩, by simp [intOf]; omega⟩
            rw [hn]
            refine ⟨((Hst.out.at_.drewN nq3).alloc _).apart hg' Hst.out.d1.symm ((Hst.out.out.drewN nq3).alloc _), hv', ((Hst.out.pad.drewN nq3).alloc _).apart hg' Hst.out.d3.symm ((Hst.out.out.drewN nq3).alloc _), ?_, Hst.out.d2, ?_, ((Hst.out.out.drewN nq3).alloc _).grownBelow ((below_drewN Hst.out.low nq3).alloc hwz _) hg' (Nat.le_refl _) (Nat.le_refl _)⟩
            · exact (Disj.grown ((Hst.out.at_.drewN nq3).alloc _) Hst.out.d1.symm hat').symm
            · exact (Disj.grown ((Hst.out.pad.drewN nq3).alloc _) Hst.out.d3.symm hat').symm
      · have ht : (((m : Int) % 16) == 0) = false := by simp; omega
        have hp0 : rpad B k m s = s := if_neg h0
        rw [hp0] at Hs
        have Hpl : Hd (s.pad.length = 16) := ⟨Hl.out.pad (by omega)⟩
        clear hp0 h0
        obtain ⟨w5, rfl⟩ : ∃ w1 : World, w1 = w3 := ⟨_, rfl⟩
        have hpad := Hst.out.pad
        obtain ⟨gp, cp, rfl, hp1, hp2, hp3, hp4, hp5⟩ := hpad.open_ (by intro e; have h := Hpl.out; rw [show s.pad = [] from e] at h; cases h)
        unfold maxLen at hp4
        rw [show s.pad.length = 16 from Hpl.out] at hp3 hp5 hpad Hst ⊢
        obtain ⟨bb, ob, hbA, hb3, hb4⟩ := Hb2.out (by rintro rfl; simp at hlt)
        subst hbA
        have e1 := (Hst.out.low.cell (p := ⟨bb, ob + m, none⟩) hb3).trans (hb4 m hlt)
        have e2 := hp5 (m % 16) (Nat.mod_lt _ (by omega))
        have hwz := Hst.out.low.size
        have Hpad := Hd.mk hpad
        clear hp5 hpad hb4
        go_upto_region 16 with (fail)
        refine wp_region_pq [0] [1,2,3,4,5,6,7,8,9,10] 11 (by kernel_rfl) (by kernel_rfl) (fun _ d _ _ _ h => by cases d <;> exact h) ?_
        simp only [List.map_cons, List.map_nil, List.cons_append, List.nil_append, List.drop_succ_cons, List.drop_zero, List.getD_cons_zero, List.getD_cons_succ]
        repeat (go_big_quiet_step (fail))
        refine wpQuiet_nil ?_
        rintro _ ⟨nq3, rfl⟩
        go_wp2_with (at_builtin; refine wl_push rfl (.tmp 53) (.tmp 64) rfl w.heap.size _ s.out _ w5.heap.size rfl rfl ((Hst.out.out.drewN nq3).alloc _) (Row.new (w5.drewN nq3) 5 [_]) (by have := Hl.out.out; omega) (by simp; omega) ?_; intro v' w' hv' hg' hat')
        have hn := Hs.out
        refine ⟨⟨m + 1, by omega, by go_num, ?_⟩, by simp [intOf]; omega⟩
        rw [hn]
        refine ⟨((Hst.out.at_.drewN nq3).alloc _).apart hg' Hst.out.d1.symm ((Hst.out.out.drewN nq3).alloc _), hv', ((Hst.out.pad.drewN nq3).alloc _).apart hg' Hst.out.d3.symm ((Hst.out.out.drewN nq3).alloc _), ?_, Hst.out.d2, ?_, ((Hst.out.out.drewN nq3).alloc _).grownBelow ((below_drewN Hst.out.low nq3).alloc hwz _) hg' (Nat.le_refl _) (Nat.le_refl _)⟩
        · exact (Disj.grown ((Hst.out.at_.drewN nq3).alloc _) Hst.out.d1.symm hat').symm
        · exact (Disj.grown ((Hst.out.pad.drewN nq3).alloc _) Hst.out.d3.symm hat').symm
    · have hm2 : m = b.length := by omega
      have hd : decide ((m : Int) < b.length) = false := by simp; omega
      rw [hm2] at hst
      have Hst := Hd.mk hst
      clear hst hm2
      go_wp2
      go_ret
      exact ⟨_, rfl, by rw [Hend.out]; exact Hst.out.out, Hst.out.low⟩
end Go.Proofs.Ytjjcnijdjhhdoaa
