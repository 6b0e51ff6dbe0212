/- The walk of (*Cipher).Stream: it answers stream. -/
import Derived.Test.YtjjcnijdjhhdoaaAesN
import Derived.Test.YtjjcnijdjhhdoaaRefB

namespace Go.Proofs.Ytjjcnijdjhhdoaa
open Go.RowKit Go.QT
theorem ub_succ (a : UInt8) : (ub a + 1) % 256 = ub (a + 1) := by
  have := ub_add a 1
  rwa [show ub 1 = 1 by simp [ub]] at this
attribute [local go_sem] bits_xor8 bits_or8 bits_and8 u8_ub ub_succ
theorem padTo_length (out pad : Bytes) (a i : Nat) : (padTo out pad a i).length = out.length := by
  induction i with
  | zero => rfl
  | succ i ih => exact List.length_set.trans ih
theorem incFrom_length (f : Bytes) (i : Nat) : (incFrom f i).length = f.length := by
  induction i generalizing f with
  | zero => rfl
  | succ i ih => rw [incFrom]; split
                 · rw [ih, List.length_set]
                 · exact List.length_set
theorem streamTo_length (B K f b : Bytes) (hf : f.length = 16) (n : Nat) : (streamTo B K f b n).1.length = b.length ∧ (streamTo B K f b n).2.length = 16 := by
  induction n with
  | zero => exact ⟨rfl, hf⟩
  | succ n ih => exact ⟨(padTo_length _ _ _ _).trans ih.1, (incFrom_length _ _).trans ih.2⟩
theorem blk_length (B K s : Bytes) (hs : s.length = 16) : (blk B K s).length = 16 := roundsTo_length B K s hs 10
set_option maxRecDepth 100000 in
set_option maxHeartbeats 1000000 in
theorem stream_any (c bx : Nat) (B K f b : Bytes) (v : Value) (w : World) (hc : CAt w c bx B K) (hf : f.length = 16) (hb : SB w v b) (hlen : b.length ≤ 70368744177664) :
    Calls Try.prog 21 #[.pointer (some ⟨c, 0, none⟩), .agg (vb f).toArray, v] w (BPost w (stream B K f b)) := by
  have hcl := hc.c.lt
  have hbl := hc.b.lt
  have Hsl := Hd.mk (streamTo_length B K f b hf)
  have Hst : Hd (∀ n, streamTo B K f b (n+1) = (padTo (streamTo B K f b n).1 (blk B K (streamTo B K f b n).2) (16*n) (min 16 (b.length-16*n)), inc (streamTo B K f b n).2)) := ⟨fun _ => rfl⟩
  have Hfin : Hd (stream B K f b = (streamTo B K f b ((b.length+15)/16)).1) := ⟨rfl⟩
  go_enter Try.func21, Try.ntmps21
  go_upto_region 3 with (at_builtin; refine wl_append rfl _ _ rfl (w.heap.size + 1) (.slice none 0 0) v [] b rfl rfl (OB.nil _ _) (hb.alloc _) (by simp; omega) (by simp) ?_; intro v1 w1 hv1 hg1 hat1)
  have hF1 : Row w1 w.heap.size 22 (streamTo B K f b 0).2 := (Row.new w 22 f).grown hg1 (by simp [Value.ownBlock])
  have hB1 : Below w.heap.size w w1 := ((Below.refl _ _).alloc (Nat.le_refl _) _).grown hg1 (by simp) (by simp [Value.ownBlock])
  have hv2 : OB w1 (w.heap.size + 1) v1 (streamTo B K f b 0).1 := hv1
  clear hv1 hg1 hat1 hb
  go_wp2
  go_loopw [8] (fun i wr => ∃ n : Nat, 16 * n ≤ b.length + 15 ∧ i = .int .i64 (16 * (n : Int)) ∧ OB wr (w.heap.size + 1) v1 (streamTo B K f b n).1 ∧ Row wr w.heap.size 22 (streamTo B K f b n).2 ∧ Below w.heap.size w wr) (fun i _ => b.length + 15 - (intOf i).toNat)
  case atStart => exact ⟨0, by omega, by go_num, hv2, hF1, hB1⟩
  case round =>
    clear hv2 hF1 hB1
    obtain ⟨n, hn, rfl, hv, hF, hB⟩ := hrel
    have hl := Hsl.out n
    by_cases hlt : 16 * n < b.length
    · have Hs := Hd.mk (Hst.out n)
      generalize (streamTo B K f b n).2 = F at *
      generalize (streamTo B K f b n).1 = O at *
      obtain ⟨hl1, hl2⟩ := hl
      obtain ⟨g, cap, rfl, ho1, ho2, ho3, ho4, ho5⟩ := hv.open_ (by rintro rfl; simp at hl1; omega)
      unfold maxLen at ho4
      rw [hl1] at ho3 ho5 hv ⊢
      have hcr := hc.below hB hcl hbl
      have hi42 : (Try.prog.info? 22).map (·.size) = some (vb F).length := by rw [i22]; simp [hl2]
      have Hi42 := Hd.mk hi42
      have Hv := Hd.mk hv
      have HF := Hd.mk hF
      have Hl1 := Hd.mk hl1
      have Hl2 := Hd.mk hl2
      clear hv hF ho5 hl1 hl2 hi42
      obtain ⟨w2, rfl⟩ : ∃ w1 : World, w1 = wr := ⟨_, rfl⟩
      have H17 : Hd (∀ W, CAt W c bx B K → Calls Try.prog 17 #[.pointer (some ⟨c, 0, none⟩), .agg (vb F).toArray] W fun e w' => e = .returned (.agg (vb (blk B K F)).toArray) ∧ Below W.heap.size W w') := ⟨fun W h => block_any c bx B K F W Hl2.out h⟩
      have hpl := blk_length B K F Hl2.out
      generalize blk B K F = pad at *
      have hi42' : (Try.prog.info? 22).map (·.size) = some (vb pad).length := by rw [i22]; simp [hpl]
      have Hi42' := Hd.mk hi42'
      have Hpl := Hd.mk hpl
      clear hi42' hpl
      go_upto_region 6 with (first | (refine wl_load rfl 22 _ rfl w.heap.size 0 rfl 22 (vb F) (vb F) _ HF.out (by simp) ty22 rfl (by exact Hi42.out) ?_) | (go_at_call 17; refine (H17.out _ hcr).mono ?_; rintro e w3 ⟨rfl, hb3⟩) | (refine wl_storeW rfl 22 _ _ rfl w3.heap.size 0 (vb pad) rfl rfl 22 _ (vb pad) (Blk.new _ _ (List.replicate 16 (.int .u8 0))) (by simp [Hpl.out]) (by exact Hi42'.out) (vb_ones _) (by simp [Hpl.out]) ?_; intro w4 hb4 hg4 hs4))
      have hsz : w.heap.size ≤ w2.heap.size := hB.size
      have hv4 : OB w4 (w.heap.size + 1) (.slice (some ⟨g, 0, none⟩) b.length cap) (padTo O pad (16 * n) 0) := ((Hv.out.below hb3).alloc _).grown hg4 (by intro k hk e; simp [Value.ownBlock] at hk; have := hb3.size; simp at e; omega)
      have hF4 : Row w4 w.heap.size 22 F := ((HF.out.below hb3 (by have := HF.out.lt; omega)).alloc _).grown hg4 (by have := HF.out.lt; have := hb3.size; simp; omega)
      have hB4 : Below w.heap.size w w4 := ((hB.trans (hb3.mono hsz)).alloc (by have := hb3.size; omega) _).grown hg4 (by have := hb3.size; simp; omega) (by rintro j hj; have := hb3.size; cases hj; omega)
      have hP4 : Row w4 w3.heap.size 22 pad := hb4
      have hgp : g ≠ w3.heap.size := by have := hb3.size; omega
      have hfp : w.heap.size < w3.heap.size := by have := HF.out.lt; have := hb3.size; omega
      clear Hv HF hcr hB hb4 hg4 hs4 hb3 H17 Hi42 Hi42'
      generalize w3.heap.size = gp at *
      go_wp2
      have hM : min 16 (b.length - 16 * n) ≤ 16 ∧ 16 * n + min 16 (b.length - 16 * n) ≤ b.length ∧ (min 16 (b.length - 16 * n) = 16 ∨ 16 * n + min 16 (b.length - 16 * n) = b.length) := by omega
      generalize min 16 (b.length - 16 * n) = M at *
      obtain ⟨hM1, hM2, hM3⟩ := hM
      go_loopw [10] (fun i wr => ∃ k : Nat, k ≤ M ∧ i = .int .i64 (16 * (n : Int) + k) ∧ OB wr (w.heap.size + 1) (.slice (some ⟨g, 0, none⟩) b.length cap) (padTo O pad (16 * n) k) ∧ Row wr gp 22 pad ∧ Row wr w.heap.size 22 F ∧ Below w.heap.size w wr) (fun i _ => 16 * n + 16 - (intOf i).toNat)
      case atStart => exact ⟨0, by omega, by go_num, hv4, hP4, hF4, hB4⟩
      case round =>
        clear hv4 hP4 hF4 hB4
        obtain ⟨k, hk, rfl, hv, hP, hF, hB⟩ := hrel
        have hpl := padTo_length O pad (16 * n) k
        rw [Hl1.out] at hpl
        by_cases hkM : k < M
        · have Hs2 : Hd (padTo O pad (16 * n) (k+1) = (padTo O pad (16 * n) k).set (16*n+k) (gb (padTo O pad (16 * n) k) (16*n+k) ^^^ gb pad k)) := ⟨rfl⟩
          generalize padTo O pad (16 * n) k = X at *
          obtain ⟨g', cap', e, _, _, _, _, hcell⟩ := hv.open_ (by rintro rfl; simp at hpl; omega)
          injection e with e1 e2 e3
          injection e1 with e1
          injection e1 with e1
          subst e1
          clear e2 e3
          have x1 := hcell (16 * n + k) (by omega)
          have x2 := Row.cell hP (i := k) (by rw [Hpl.out]; omega)
          have x3 := hv.frozen_ (16 * n + k)
          have Hv := Hd.mk hv
          have HP := Hd.mk hP
          have HF := Hd.mk hF
          clear hv hP hF hcell hpl
          go_wp2
          all_goals
            refine wp_region_qt 11 (by kernel_rfl) (by kernel_rfl) ?_
            simp only [List.take_succ_cons, List.take_zero, List.drop_succ_cons, List.drop_zero]
            repeat (go_big_quiet_step (fail))
            refine wpQuiet_nil ?_
            rintro _ ⟨nq4, rfl⟩
            go_wp2
            refine ⟨⟨k + 1, by omega, by go_num, by rw [Hs2.out]; exact (Hv.out.drewN nq4).set _ _, (HP.out.drewN nq4).far (by simp; omega) _, (HF.out.drewN nq4).far (by simp; omega) _, (below_drewN hB nq4).setCell (by simp; omega) _⟩, by simp [intOf]; omega⟩
        · have hkM' : k = M := by omega
          have hs1 : (streamTo B K f b (n+1)).1 = padTo O pad (16 * n) M := by rw [Hs.out]
          have hs2 : (streamTo B K f b (n+1)).2 = incFrom F 16 := by rw [Hs.out]; rfl
          rw [hkM', ← hs1] at hv
          have Hs2 := Hd.mk hs2
          clear hs1 hs2
          have Hv := Hd.mk hv
          have HF := Hd.mk hF
          clear hkM' hv hF hP hpl
          go_wp2
          all_goals
            go_loopw [11] (fun j wr => ∃ (i : Nat) (G : Bytes), i ≤ 16 ∧ j = .int .i64 (↑i - 1) ∧ G.length = 16 ∧ incFrom G i = incFrom F 16 ∧ OB wr (w.heap.size + 1) (.slice (some ⟨g, 0, none⟩) b.length cap) (streamTo B K f b (n+1)).1 ∧ Row wr w.heap.size 22 G ∧ Below w.heap.size w wr) (fun j _ => (1 + intOf j).toNat)
            case atStart => exact ⟨16, F, by omega, by go_num, Hl2.out, rfl, Hv.out, HF.out, hB⟩
            case round =>
              obtain ⟨i, G, hi, rfl, hGl, hG, hv, hF, hB⟩ := hrel
              have Hv := Hd.mk hv
              have HG := Hd.mk hG
              by_cases hi0 : 1 ≤ i
              · have e1 := Row.cell hF (i := i - 1) (by rw [hGl]; omega)
                have e2 := Row.frozen hF (i - 1)
                have HF := Hd.mk hF
                have HGl := Hd.mk hGl
                have hstep : incFrom G i = if gb G (i - 1) + 1 = 0 then incFrom (G.set (i - 1) 0) (i - 1) else G.set (i - 1) (gb G (i - 1) + 1) := by
                  obtain ⟨i', rfl⟩ : ∃ i', i = i' + 1 := ⟨i - 1, by omega⟩
                  rfl
                have Hstep := Hd.mk hstep
                clear hv hG hF hGl hstep
                by_cases hz : gb G (i - 1) + 1 = 0
                · have ht : (ub (gb G (i - 1) + 1) != 0) = false := by rw [hz]; simp [ub]
                  have Hz := Hd.mk hz
                  clear hz
                  go_wp2
                  refine ⟨⟨i - 1, G.set (i - 1) (gb G (i - 1) + 1), by omega, by go_num, by rw [List.length_set]; exact HGl.out, ?_, Hv.out.far (by intro q hq; simp [Value.ownBlock] at hq; simp; omega) _, HF.out.set _ _, hB.setCell (Nat.le_refl _) _⟩, by simp [intOf]; omega⟩
                  have h1 := Hstep.out
                  rw [if_pos Hz.out] at h1
                  rw [Hz.out, ← h1]; exact HG.out
                · have ht : (ub (gb G (i - 1) + 1) != 0) = true := by
                    have : ub 0 = 0 := by simp [ub]
                    rw [← this]; simp [ub_inj, hz]
                  have Hz := Hd.mk hz
                  clear hz
                  go_wp2
                  refine ⟨⟨n + 1, by omega, by go_num, Hv.out.far (by intro q hq; simp [Value.ownBlock] at hq; simp; omega) _, ?_, hB.setCell (Nat.le_refl _) _⟩, by simp [intOf]; omega⟩
                  have h1 := Hstep.out
                  rw [if_neg Hz.out] at h1
                  rw [Hs2.out, ← HG.out, h1]
                  exact HF.out.set _ _
              · have hi' : i = 0 := by omega
                have HF := Hd.mk hF
                clear hv hF hG hGl
                go_wp2
                refine ⟨⟨n + 1, by omega, by go_num, Hv.out, ?_, hB⟩, by simp [intOf]; omega⟩
                have h1 := HG.out
                rw [hi'] at h1
                rw [Hs2.out, ← h1]
                exact HF.out
    · have hn' : (b.length + 15) / 16 = n := by omega
      have hs := Hfin.out
      rw [hn'] at hs
      obtain ⟨A, cap, hV, _⟩ := hv.sb
      subst hV
      rw [hl.1, ← hs] at hv
      rw [hl.1]
      have Hv := Hd.mk hv
      clear hv hs hn' hl hF
      go_wp2
      go_ret
      exact ⟨_, rfl, Hv.out.mono (by omega), hB⟩
end Go.Proofs.Ytjjcnijdjhhdoaa
