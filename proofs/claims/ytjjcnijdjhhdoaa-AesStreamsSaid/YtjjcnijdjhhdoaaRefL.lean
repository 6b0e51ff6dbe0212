/- The walk of compeerref05.Block. -/
import Derived.Test.YtjjcnijdjhhdoaaRefK

namespace Go.Proofs.Ytjjcnijdjhhdoaa
open Go.RowKit Go.QT
attribute [local go_sem] bits_xor8 bits_or8 bits_and8 u8_ub
theorem rkeys_length (B k : Bytes) (hk : k.length = 16) : (rkeys B k).length = 176 := rkTo_length B k hk 40
theorem raddTo_length (b ks : Bytes) (k : Nat) : (raddTo b ks k).length = k := by
  induction k with
  | zero => rfl
  | succ k ih => rw [raddTo, List.length_append, ih]; rfl
theorem rsubRow_length (B s : Bytes) (c : Nat) (t : Bytes) (r : Nat) : (rsubRow B s c t r).length = t.length + r := by
  induction r with
  | zero => rfl
  | succ r ih => rw [rsubRow, List.length_append, ih]; rfl
theorem rsubTo_length (B s : Bytes) (c : Nat) : (rsubTo B s c).length = 4 * c := by
  induction c with
  | zero => rfl
  | succ c ih => rw [rsubTo, rsubRow_length, ih]; omega
theorem rmixRow_length (t : Bytes) (c : Nat) (u : Bytes) (r : Nat) : (rmixRow t c u r).length = u.length + r := by
  induction r with
  | zero => rfl
  | succ r ih => rw [rmixRow, List.length_append, ih]; rfl
theorem rmixTo_length (t : Bytes) (c : Nat) : (rmixTo t c).length = 4 * c := by
  induction c with
  | zero => rfl
  | succ c ih => rw [rmixTo, rmixRow_length, ih]; omega
theorem rxorTo_length (t ks : Bytes) (n k : Nat) : (rxorTo t ks n k).length = t.length := by
  induction k with
  | zero => rfl
  | succ k ih => exact List.length_set.trans ih
theorem rrounds_length (B ks b : Bytes) (n : Nat) : (rrounds B ks b n).length = 16 := by
  cases n with
  | zero => exact raddTo_length _ _ _
  | succ n => rw [rrounds, rxorTo_length]; split
              · exact rmixTo_length _ 4
              · exact rsubTo_length _ _ 4
set_option maxRecDepth 100000 in
set_option maxHeartbeats 2000000 in
theorem rblk_any (vB vk vb' : Value) (B k b : Bytes) (w : World) (hB : SB w vB B) (hk : SB w vk k) (hb : SB w vb' b) (hBl : B.length = 256) (hkl : k.length = 16) (hbl : b.length = 16) :
    Calls Try.prog 19 #[vB, vk, vb'] w (BPost w (rblk B k b)) := by
  have hksl := rkeys_length B k hkl
  have Hr : Hd (∀ n, rrounds B (rkeys B k) b (n+1) = rxorTo (if n+1 < 10 then rmixTo (rsubTo B (rrounds B (rkeys B k) b n) 4) 4 else rsubTo B (rrounds B (rkeys B k) b n) 4) (rkeys B k) (n+1) 16) := ⟨fun _ => rfl⟩
  have Hr0 : Hd (rrounds B (rkeys B k) b 0 = raddTo b (rkeys B k) 16) := ⟨rfl⟩
  have Hb : Hd (rblk B k b = rrounds B (rkeys B k) b 10) := ⟨rfl⟩
  go_enter Try.func19, Try.ntmps19
  go_upto_region 2 with (go_at_call 62; refine (rkeys_any _ _ B k _ hB hk hBl hkl).mono ?_; rintro e w1 ⟨vks, rfl, hks, hb1⟩)
  have hB1 := hB.below hb1
  have hbb1 := hb.below hb1
  have hks1 := hks.sb
  clear hB hk hb hks hkl
  generalize rkeys B k = KS at *
  have hraL := raddTo_length b KS
  have Hra : Hd (∀ n, raddTo b KS (n+1) = raddTo b KS n ++ [gb b n ^^^ gb KS n]) := ⟨fun _ => rfl⟩
  obtain ⟨bB, oB, cB, rfl, hB2, hB3, hB4, hB5⟩ := hB1.open_ (by rintro rfl; simp at hBl)
  obtain ⟨bb, ob, cb, rfl, hb2, hb3, hb4, hb5⟩ := hbb1.open_ (by rintro rfl; simp at hbl)
  obtain ⟨bk, ok, ck, rfl, hk2, hk3, hk4, hk5⟩ := hks1.open_ (by rintro rfl; simp at hksl)
  unfold maxLen at hB3 hb3 hk3
  rw [hBl] at hB2 hB5 hB1 ⊢
  rw [hbl] at hb2 hb5 hbb1 ⊢
  rw [hksl] at hk2 hk5 hks1 ⊢
  have HB5 := Hd.mk hB5
  have Hb5 := Hd.mk hb5
  have Hk5 := Hd.mk hk5
  have HraL := Hd.mk hraL
  clear hB5 hb5 hk5 hraL hBl hbl hksl hB1 hbb1 hks1
  go_upto_region 3 with (fail)
  have hv : OB (w1.alloc (.cells #[] 5)) w1.heap.size (.slice (some ⟨w1.heap.size, 0, none⟩) 0 0) (raddTo b KS 0) := OB.new _ _ [] (by simp) (Row.new w1 5 []) (Nat.le_refl _)
  have hB6 : Below w1.heap.size w1 (w1.alloc (.cells #[] 5)) := (Below.refl _ _).alloc (Nat.le_refl _) _
  generalize w1.alloc (.cells #[] 5) = w2 at *
  go_wp2
  go_loopw [8, 9] (fun v i wr => ∃ n : Nat, n ≤ 16 ∧ i = .int .i64 n ∧ OB wr w1.heap.size v (raddTo b KS n) ∧ Below w1.heap.size w1 wr) (fun _ i _ => 16 - (intOf i).toNat)
  case atStart => exact ⟨0, by omega, rfl, hv, hB6⟩
  case round =>
    clear hv hB6
    obtain ⟨n, hn, rfl, hv, hB6⟩ := hrel
    have hlen := HraL.out n
    by_cases hlt : n < 16
    · have Hs := Hd.mk (Hra.out n)
      generalize raddTo b KS n = L at *
      have e1 := (hB6.cell (p := ⟨bb, ob + n, none⟩) hb4).trans (Hb5.out n hlt)
      have e2 := (hB6.cell (p := ⟨bk, ok + n, none⟩) hk4).trans (Hk5.out n (by omega))
      have Hl := Hd.mk hlen
      have Hv := Hd.mk hv
      clear hlen hv
      obtain ⟨w3, rfl⟩ : ∃ w1 : World, w1 = wr := ⟨_, rfl⟩
      go_wp2
      refine wp_region_pq [0] [1,2,3,4,5,6,7,8,9] 10 (by kernel_rfl) (by kernel_rfl) (fun _ d _ _ _ h => by cases d <;> exact h) ?_
      simp only [List.map_cons, List.map_nil, List.cons_append, List.nil_append, List.drop_succ_cons, List.drop_zero, List.getD_cons_zero, List.getD_cons_succ]
      repeat (go_big_quiet_step (fail))
      refine wpQuiet_nil ?_
      rintro _ ⟨nq3, rfl⟩
      go_wp2_with (at_builtin; refine wl_push rfl (.tmp 30) (.tmp 40) rfl w1.heap.size _ L _ w3.heap.size rfl rfl ((Hv.out.drewN nq3).alloc _) (Row.new (w3.drewN nq3) 5 [_]) (by rw [Hl.out]; omega) (by have := hB6.size; simp; omega) ?_; intro v' w' hv' hg' hat')
      refine ⟨⟨n + 1, by omega, by go_num, by rw [Hs.out]; exact hv', ((Hv.out.drewN nq3).alloc _).grownBelow ((below_drewN hB6 nq3).alloc hB6.size _) hg' (Nat.le_refl _) (Nat.le_refl _)⟩, by simp [intOf]; omega⟩
    · have hn16 : n = 16 := by omega
      rw [hn16, ← Hr0.out] at hv
      clear hlen hn16
      have Hv := Hd.mk hv
      clear hv
      obtain ⟨w3, rfl⟩ : ∃ w1 : World, w1 = wr := ⟨_, rfl⟩
      go_wp2
      go_loopw [8, 10] (fun v i wr => ∃ n : Nat, n ≤ 10 ∧ i = .int .i64 (↑n + 1) ∧ OB wr w1.heap.size v (rrounds B KS b n) ∧ Below w1.heap.size w1 wr) (fun _ i _ => 11 - (intOf i).toNat)
      case atStart => exact ⟨0, by omega, by go_num, Hv.out, hB6⟩
      case round =>
        clear Hv hB6
        obtain ⟨n, hn, rfl, hv, hB6⟩ := hrel
        have hlen := rrounds_length B KS b n
        by_cases hlt : n < 10
        · have hdn : decide ((n : Int) + 1 ≤ 10) = true := by simp; omega
          have Hs := Hd.mk (Hr.out n)
          generalize rrounds B KS b n = S at *
          obtain ⟨gs, cs, rfl, hs1, hs2, hs3, hs4, hs5⟩ := hv.open_ (by rintro rfl; simp at hlen)
          unfold maxLen at hs4
          rw [hlen] at hs3 hs5 hv ⊢
          have hsz : w1.heap.size ≤ wr.heap.size := hB6.size
          have Hs5 := Hd.mk hs5
          clear hs5 hv hlen
          obtain ⟨w4, rfl⟩ : ∃ w1 : World, w1 = wr := ⟨_, rfl⟩
          go_upto_region 11 with (fail)
          have ht : OB (w4.alloc (.cells #[] 5)) w4.heap.size (.slice (some ⟨w4.heap.size, 0, none⟩) 0 0) (rsubTo B S 0) := OB.new _ _ [] (by simp) (Row.new w4 5 []) (Nat.le_refl _)
          have hB7 : Below w4.heap.size w4 (w4.alloc (.cells #[] 5)) := (Below.refl _ _).alloc (Nat.le_refl _) _
          generalize w4.alloc (.cells #[] 5) = w5 at *
          go_wp2
          go_loopw [11, 12] (fun v i wr => ∃ c : Nat, c ≤ 4 ∧ i = .int .i64 c ∧ OB wr w4.heap.size v (rsubTo B S c) ∧ Below w4.heap.size w4 wr) (fun _ i _ => 4 - (intOf i).toNat)
          case atStart => exact ⟨0, by omega, rfl, ht, hB7⟩
          case round =>
            clear ht hB7
            obtain ⟨c, hc, rfl, ht, hB7⟩ := hrel
            by_cases hc4 : c < 4
            · have hdc : decide ((c : Int) < 4) = true := by simp; omega
              have Hs2 : Hd (rsubTo B S (c+1) = rsubRow B S c (rsubTo B S c) 4) := ⟨rfl⟩
              have hlr := rsubRow_length B S c (rsubTo B S c)
              rw [rsubTo_length] at hlr
              have Hlr := Hd.mk hlr
              clear hlr
              have ht0 : OB wr w4.heap.size u11 (rsubRow B S c (rsubTo B S c) 0) := ht
              clear ht
              have Hrr : Hd (∀ r, rsubRow B S c (rsubTo B S c) (r+1) = rsubRow B S c (rsubTo B S c) r ++ [gb B (nb (gb S ((c+r)%4*4+r)))]) := ⟨fun _ => rfl⟩
              generalize rsubTo B S c = T0 at *
              obtain ⟨w6, rfl⟩ : ∃ w1 : World, w1 = wr := ⟨_, rfl⟩
              go_wp2
              go_loopw [11, 13] (fun v i wr => ∃ r : Nat, r ≤ 4 ∧ i = .int .i64 r ∧ OB wr w4.heap.size v (rsubRow B S c T0 r) ∧ Below w4.heap.size w4 wr) (fun _ i _ => 4 - (intOf i).toNat)
              case atStart => exact ⟨0, by omega, rfl, ht0, hB7⟩
              case round =>
                clear ht0 hB7
                obtain ⟨r, hr, rfl, ht, hB7⟩ := hrel
                by_cases hr4 : r < 4
                · have hL := Hlr.out r
                  have Hs3 := Hd.mk (Hrr.out r)
                  generalize rsubRow B S c T0 r = L at *
                  have e1 := (hB7.cell (p := ⟨gs, (c+r)%4*4+r, none⟩) hs2).trans (Hs5.out ((c+r)%4*4+r) (by omega))
                  have e2 := (hB7.cell (p := ⟨bB, oB + nb (gb S ((c+r)%4*4+r)), none⟩) (by simp; omega)).trans ((hB6.cell (p := ⟨bB, oB + nb (gb S ((c+r)%4*4+r)), none⟩) hB4).trans (HB5.out _ (nb_lt _)))
                  have l1 := nb_lt (gb S ((c+r)%4*4+r))
                  have HL := Hd.mk hL
                  have Ht := Hd.mk ht
                  clear hL ht
                  obtain ⟨w7, rfl⟩ : ∃ w1 : World, w1 = wr := ⟨_, rfl⟩
                  go_wp2_with (at_builtin; refine wl_push rfl (.tmp 55) (.tmp 69) rfl w4.heap.size _ L _ w7.heap.size rfl rfl (Ht.out.alloc _) (Row.new w7 5 [_]) (by rw [HL.out]; omega) (by have := hB7.size; simp; omega) ?_; intro v' w' hv' hg' hat')
                  exact ⟨⟨r + 1, by omega, by go_num, by rw [Hs3.out]; exact hv', (Ht.out.alloc _).grownBelow (hB7.alloc hB7.size _) hg' (Nat.le_refl _) (Nat.le_refl _)⟩, by simp [intOf]; omega⟩
                · have hr4' : r = 4 := by omega
                  rw [hr4', ← Hs2.out] at ht
                  have Ht := Hd.mk ht
                  clear ht hr4'
                  go_wp2
                  exact ⟨⟨c + 1, by omega, by go_num, Ht.out, hB7⟩, by simp [intOf]; omega⟩
            · have hc4' : c = 4 := by omega
              rw [hc4'] at ht
              clear hc4'
              have htl : (rsubTo B S 4).length = 16 := rsubTo_length B S 4
              generalize hTT : rsubTo B S 4 = T at *
              have HTT := Hd.mk hTT
              clear hTT
              by_cases hn9 : n < 9
              · have hd9 : decide ((n : Int) + 1 < 10) = true := by simp; omega
                obtain ⟨gt, ct, hV, ht1, ht2, ht3, ht4, ht5⟩ := ht.open_ (by rintro rfl; simp at htl)
                subst hV
                unfold maxLen at ht4
                rw [htl] at ht3 ht5 ht ⊢
                obtain ⟨w8, rfl⟩ : ∃ w1 : World, w1 = wr := ⟨_, rfl⟩
                have Ht5 := Hd.mk ht5
                clear ht5
                go_upto_region 20 with (fail)
                have hu : OB (w8.alloc (.cells #[] 5)) w8.heap.size (.slice (some ⟨w8.heap.size, 0, none⟩) 0 0) (rmixTo T 0) := OB.new _ _ [] (by simp) (Row.new w8 5 []) (Nat.le_refl _)
                have hB9 : Below w8.heap.size w8 (w8.alloc (.cells #[] 5)) := (Below.refl _ _).alloc (Nat.le_refl _) _
                have hsz8 : w4.heap.size ≤ w8.heap.size := hB7.size
                generalize w8.alloc (.cells #[] 5) = w11 at *
                go_wp2
                go_loopw [14, 15] (fun v i wr => ∃ c : Nat, c ≤ 4 ∧ i = .int .i64 c ∧ OB wr w8.heap.size v (rmixTo T c) ∧ Below w8.heap.size w8 wr) (fun _ i _ => 4 - (intOf i).toNat)
                case atStart => exact ⟨0, by omega, rfl, hu, hB9⟩
                case round =>
                  clear hu hB9
                  obtain ⟨c, hc, rfl, hu, hB9⟩ := hrel
                  by_cases hc4 : c < 4
                  · have hdc : decide ((c : Int) < 4) = true := by simp; omega
                    have Hs2 : Hd (rmixTo T (c+1) = rmixRow T c (rmixTo T c) 4) := ⟨rfl⟩
                    have hlr := rmixRow_length T c (rmixTo T c)
                    rw [rmixTo_length] at hlr
                    have Hlr := Hd.mk hlr
                    clear hlr
                    have hu0 : OB wr w8.heap.size u14 (rmixRow T c (rmixTo T c) 0) := hu
                    clear hu
                    have Hrr : Hd (∀ r, rmixRow T c (rmixTo T c) (r+1) = rmixRow T c (rmixTo T c) r ++ [rprod 2 (gb T (c*4+r)) ^^^ rprod 3 (gb T (c*4+(r+1)%4)) ^^^ gb T (c*4+(r+2)%4) ^^^ gb T (c*4+(r+3)%4)]) := ⟨fun _ => rfl⟩
                    generalize rmixTo T c = U0 at *
                    obtain ⟨w12, rfl⟩ : ∃ w1 : World, w1 = wr := ⟨_, rfl⟩
                    go_wp2
                    go_loopw [14, 16] (fun v i wr => ∃ r : Nat, r ≤ 4 ∧ i = .int .i64 r ∧ OB wr w8.heap.size v (rmixRow T c U0 r) ∧ Below w8.heap.size w8 wr) (fun _ i _ => 4 - (intOf i).toNat)
                    case atStart => exact ⟨0, by omega, rfl, hu0, hB9⟩
                    case round =>
                      clear hu0 hB9
                      obtain ⟨r, hr, rfl, hu, hB9⟩ := hrel
                      by_cases hr4 : r < 4
                      · have hL := Hlr.out r
                        have Hs3 := Hd.mk (Hrr.out r)
                        generalize rmixRow T c U0 r = L at *
                        have e1 := (hB9.cell (p := ⟨gt, c*4+r, none⟩) ht2).trans (Ht5.out (c*4+r) (by omega))
                        have e2 := (hB9.cell (p := ⟨gt, c*4+(r+1)%4, none⟩) ht2).trans (Ht5.out (c*4+(r+1)%4) (by omega))
                        have e3 := (hB9.cell (p := ⟨gt, c*4+(r+2)%4, none⟩) ht2).trans (Ht5.out (c*4+(r+2)%4) (by omega))
                        have e4 := (hB9.cell (p := ⟨gt, c*4+(r+3)%4, none⟩) ht2).trans (Ht5.out (c*4+(r+3)%4) (by omega))
                        have HL := Hd.mk hL
                        have Hu := Hd.mk hu
                        clear hL hu
                        obtain ⟨w7, rfl⟩ : ∃ w1 : World, w1 = wr := ⟨_, rfl⟩
                        go_wp2_with (first | (at_builtin; refine wl_push rfl (.tmp 116) (.tmp 126) rfl w8.heap.size _ L _ w7.heap.size rfl rfl (Hu.out.alloc _) (Row.new w7 5 [_]) (by rw [HL.out]; omega) (by have := hB9.size; simp; omega) ?_; intro v' w' hv' hg' hat') | (go_at_call 63; refine (rprod_any _ _ (by simp) (by simp) (by simp) (by simp) _).mono ?_; rintro e w' ⟨rfl, rfl⟩))
                        have e5 : toB 2 = 2 := rfl
                        have e6 : toB 3 = 3 := rfl
                        rw [e5, e6] at hv'
                        exact ⟨⟨r + 1, by omega, by go_num, by rw [Hs3.out]; exact hv', (Hu.out.alloc _).grownBelow (hB9.alloc hB9.size _) hg' (Nat.le_refl _) (Nat.le_refl _)⟩, by simp [intOf]; omega⟩
                      · have hr4' : r = 4 := by omega
                        rw [hr4', ← Hs2.out] at hu
                        have Hu := Hd.mk hu
                        clear hu hr4'
                        go_wp2
                        exact ⟨⟨c + 1, by omega, by go_num, Hu.out, hB9⟩, by simp [intOf]; omega⟩
                  · have hc4' : c = 4 := by omega
                    rw [hc4'] at hu
                    clear hc4'
                    have hul : (rmixTo T 4).length = 16 := rmixTo_length T 4
                    have Hu := Hd.mk hu
                    have Hul := Hd.mk hul
                    clear hu hul
                    go_upto_region 32 with (fail)
                    obtain ⟨w9, rfl⟩ : ∃ w1 : World, w1 = wr := ⟨_, rfl⟩
                    have hx0 : OB w9 w4.heap.size u14 (rxorTo (rmixTo T 4) KS (n+1) 0) := Hu.out.mono hsz8
                    have hB8 : Below w4.heap.size w4 w9 := hB7.trans (hB9.mono hsz8)
                    have hTl : (rmixTo T 4).length = 16 := Hul.out
                    have hgs : rrounds B KS b (n+1) = rxorTo (rmixTo T 4) KS (n+1) 16 := by rw [Hs.out, if_pos (by omega)]
                    have Hgs := Hd.mk hgs
                    clear hgs
                    have Hxs : Hd (∀ k, rxorTo (rmixTo T 4) KS (n+1) (k+1) = (rxorTo (rmixTo T 4) KS (n+1) k).set k (gb (rxorTo (rmixTo T 4) KS (n+1) k) k ^^^ gb KS (16*(n+1)+k))) := ⟨fun _ => rfl⟩
                    have HTl := Hd.mk hTl
                    clear hTl
                    generalize rmixTo T 4 = TT at *
                    go_wp2
                    go_loopw [21] (fun i wr => ∃ k : Nat, k ≤ 16 ∧ i = .int .i64 k ∧ OB wr w4.heap.size u14 (rxorTo TT KS (n+1) k) ∧ Below w4.heap.size w4 wr) (fun i _ => 16 - (intOf i).toNat)
                    case atStart => exact ⟨0, by omega, rfl, hx0, hB8⟩
                    case round =>
                      clear hx0 hB8
                      obtain ⟨k, hk, rfl, hx, hB8⟩ := hrel
                      have hxl := rxorTo_length TT KS (n+1) k
                      rw [HTl.out] at hxl
                      by_cases hk16 : k < 16
                      · have Hx1 := Hd.mk (Hxs.out k)
                        generalize rxorTo TT KS (n+1) k = X at *
                        obtain ⟨g', cap', hV, hg1, hg2, hg3, hg4, hcell⟩ := hx.open_ (by rintro rfl; simp at hxl)
                        subst hV
                        rw [hxl] at hg3 hcell hx ⊢
                        unfold maxLen at hg4
                        have e1 := hcell k hk16
                        have e2 := (hB8.cell (p := ⟨bk, ok + (16*(n+1)+k), none⟩) (by simp; omega)).trans ((hB6.cell (p := ⟨bk, ok + (16*(n+1)+k), none⟩) hk4).trans (Hk5.out (16*(n+1)+k) (by omega)))
                        have e3 := hx.frozen_ k
                        have Hx := Hd.mk hx
                        clear hx hcell hxl
                        obtain ⟨w10, rfl⟩ : ∃ w1 : World, w1 = wr := ⟨_, rfl⟩
                        go_wp2
                        refine wp_region_qt 15 (by kernel_rfl) (by kernel_rfl) ?_
                        simp only [List.take_succ_cons, List.take_zero, List.drop_succ_cons, List.drop_zero]
                        repeat (go_big_quiet_step (fail))
                        refine wpQuiet_nil ?_
                        rintro _ ⟨nq4, rfl⟩
                        go_wp2
                        exact ⟨⟨k + 1, by omega, by go_num, by rw [Hx1.out]; exact (Hx.out.drewN nq4).set k _, (below_drewN hB8 nq4).setCell hg1 _⟩, by simp [intOf]; omega⟩
                      · have hk16' : k = 16 := by omega
                        rw [hk16', ← Hgs.out] at hx
                        have Hx := Hd.mk hx
                        clear hx hk16' hxl
                        go_wp2
                        exact ⟨⟨n + 1, by omega, by go_num, Hx.out.mono (by simpa using hB6.size), hB6.trans (hB8.mono (by simpa using hB6.size))⟩, by simp [intOf]; omega⟩
              · have hd9 : decide ((n : Int) + 1 < 10) = false := by simp; omega
                have Ht := Hd.mk ht
                have Htl := Hd.mk htl
                clear ht htl
                go_upto_region 32 with (fail)
                obtain ⟨w9, rfl⟩ : ∃ w1 : World, w1 = wr := ⟨_, rfl⟩
                have hx0 : OB w9 w4.heap.size u11 (rxorTo (T) KS (n+1) 0) := Ht.out
                have hB8 : Below w4.heap.size w4 w9 := hB7
                have hTl : (T).length = 16 := Htl.out
                have hgs : rrounds B KS b (n+1) = rxorTo (T) KS (n+1) 16 := by rw [Hs.out, if_neg (by omega)]
                have Hgs := Hd.mk hgs
                clear hgs
                have Hxs : Hd (∀ k, rxorTo (T) KS (n+1) (k+1) = (rxorTo (T) KS (n+1) k).set k (gb (rxorTo (T) KS (n+1) k) k ^^^ gb KS (16*(n+1)+k))) := ⟨fun _ => rfl⟩
                have HTl := Hd.mk hTl
                clear hTl
                generalize T = TT at *
                go_wp2
                go_loopw [21] (fun i wr => ∃ k : Nat, k ≤ 16 ∧ i = .int .i64 k ∧ OB wr w4.heap.size u11 (rxorTo TT KS (n+1) k) ∧ Below w4.heap.size w4 wr) (fun i _ => 16 - (intOf i).toNat)
                case atStart => exact ⟨0, by omega, rfl, hx0, hB8⟩
                case round =>
                  clear hx0 hB8
                  obtain ⟨k, hk, rfl, hx, hB8⟩ := hrel
                  have hxl := rxorTo_length TT KS (n+1) k
                  rw [HTl.out] at hxl
                  by_cases hk16 : k < 16
                  · have Hx1 := Hd.mk (Hxs.out k)
                    generalize rxorTo TT KS (n+1) k = X at *
                    obtain ⟨g', cap', hV, hg1, hg2, hg3, hg4, hcell⟩ := hx.open_ (by rintro rfl; simp at hxl)
                    subst hV
                    rw [hxl] at hg3 hcell hx ⊢
                    unfold maxLen at hg4
                    have e1 := hcell k hk16
                    have e2 := (hB8.cell (p := ⟨bk, ok + (16*(n+1)+k), none⟩) (by simp; omega)).trans ((hB6.cell (p := ⟨bk, ok + (16*(n+1)+k), none⟩) hk4).trans (Hk5.out (16*(n+1)+k) (by omega)))
                    have e3 := hx.frozen_ k
                    have Hx := Hd.mk hx
                    clear hx hcell hxl
                    obtain ⟨w10, rfl⟩ : ∃ w1 : World, w1 = wr := ⟨_, rfl⟩
                    go_wp2
                    refine wp_region_qt 15 (by kernel_rfl) (by kernel_rfl) ?_
                    simp only [List.take_succ_cons, List.take_zero, List.drop_succ_cons, List.drop_zero]
                    repeat (go_big_quiet_step (fail))
                    refine wpQuiet_nil ?_
                    rintro _ ⟨nq4, rfl⟩
                    go_wp2
                    exact ⟨⟨k + 1, by omega, by go_num, by rw [Hx1.out]; exact (Hx.out.drewN nq4).set k _, (below_drewN hB8 nq4).setCell hg1 _⟩, by simp [intOf]; omega⟩
                  · have hk16' : k = 16 := by omega
                    rw [hk16', ← Hgs.out] at hx
                    have Hx := Hd.mk hx
                    clear hx hk16' hxl
                    go_wp2
                    exact ⟨⟨n + 1, by omega, by go_num, Hx.out.mono (by simpa using hB6.size), hB6.trans (hB8.mono (by simpa using hB6.size))⟩, by simp [intOf]; omega⟩
        · have hn10 : n = 10 := by omega
          rw [hn10, ← Hb.out] at hv
          have Hv := Hd.mk hv
          clear hv hn10
          go_wp2
          go_ret
          exact ⟨_, rfl, Hv.out.mono hb1.size, hb1.trans (hB6.mono hb1.size)⟩
end Go.Proofs.Ytjjcnijdjhhdoaa
