/- The walk of (*Cipher).Block: it answers blk. -/
import Derived.Test.YtjjcnijdjhhdoaaAesW

namespace Go.Proofs.Ytjjcnijdjhhdoaa
open Go.RowKit Go.QT
attribute [local go_sem] bits_xor8 bits_or8 bits_and8 u8_ub
/-- A cipher: its box, its keys. -/
structure CAt (w : World) (c bx : Nat) (B K : Bytes) : Prop where
  c : Blk w c 106 (.pointer (some ⟨bx, 0, none⟩) :: vb K)
  b : Row w bx 135 B
  lb : B.length = 256
  lk : K.length = 176
theorem CAt.box {w : World} {c bx : Nat} {B K : Bytes} (h : CAt w c bx B K) : w.cell? ⟨c, 0, none⟩ = some (.pointer (some ⟨bx, 0, none⟩)) := by rw [Blk.cell h.c]; rfl
theorem CAt.key {w : World} {c bx : Nat} {B K : Bytes} (h : CAt w c bx B K) {i : Nat} (hi : i < 176) : w.cell? ⟨c, 1 + i, none⟩ = some (.int .u8 (ub (gb K i))) := by
  rw [Blk.cell h.c, Nat.add_comm, List.getElem?_cons_succ, vb_get K i (by rw [h.lk]; exact hi)]
theorem CAt.below {w w' : World} {c bx B0 : Nat} {B K : Bytes} (h : CAt w c bx B K) (hb : Below B0 w w') (h1 : c < B0) (h2 : bx < B0) : CAt w' c bx B K :=
  ⟨h.c.below hb h1, h.b.below hb h2, h.lb, h.lk⟩
theorem ty22 : Try.prog.underlying 22 = some (.array 16 5) := by kernel_rfl
theorem i22 : (Try.prog.info? 22).map (·.size) = some 16 := by kernel_rfl
theorem i22s (l : Bytes) (h : l.length = 16) : (Try.prog.info? 22).map (·.size) = some (vb l).toArray.size := by rw [i22]; simp [h]
theorem addTo_length (s K : Bytes) (o i : Nat) : (addTo s K o i).length = s.length := by
  induction i with
  | zero => rfl
  | succ i ih => simp [addTo, ih]
theorem putTo_length (s t K : Bytes) (o i : Nat) : (putTo s t K o i).length = s.length := by
  induction i with
  | zero => rfl
  | succ i ih => simp [putTo, ih]
theorem subTo_length (B s : Bytes) (i : Nat) : (subTo B s i).length = 16 := by
  induction i with
  | zero => rfl
  | succ i ih => simp [subTo, ih]
theorem mixTo_length (t : Bytes) (i : Nat) : (mixTo t i).length = t.length := by
  induction i with
  | zero => rfl
  | succ i ih => simp [mixTo, mix_len, ih]
theorem roundsTo_length (B K s : Bytes) (hs : s.length = 16) (n : Nat) : (roundsTo B K s n).length = 16 := by
  induction n with
  | zero => simp [roundsTo, addTo_length, hs]
  | succ i ih => simp [roundsTo, putTo_length, ih]
set_option maxRecDepth 100000 in
set_option maxHeartbeats 400000 in
theorem block_any (c bx : Nat) (B K s : Bytes) (w : World) (hs : s.length = 16) (hc : CAt w c bx B K) :
    Calls Try.prog 17 #[.pointer (some ⟨c, 0, none⟩), .agg (vb s).toArray] w fun e w' => e = .returned (.agg (vb (blk B K s)).toArray) ∧ Below w.heap.size w w' := by
  have h3 : Row (w.alloc (.cells (vb s).toArray 22)) w.heap.size 22 s := Row.new _ _ _
  have hi := i22s s hs
  have hz : (16 : Nat) = (vb s).toArray.size := by simp [hs]
  have Hz := Lib.hid hz
  clear hz
  have hcl : c < w.heap.size := hc.c.lt
  have hbl : bx < w.heap.size := hc.b.lt
  go_enter Try.func17, Try.ntmps17
  go_upto_region 2 with (first | (refine wpList_load_row rfl 22 _ rfl w.heap.size rfl _ (vb s).toArray (0, 0) _ (Row.alloc h3 _) ty22 rfl hi ?_) | (refine wpList_store_row rfl 22 _ _ rfl (w.heap.size + 2) (vb s).toArray rfl rfl _ _ (new3 w _ _ _ _) hi (by exact Hz.out) (vb_one s) ?_))
  go_wp2
  go_loopw [13] (fun i wr => ∃ k : Nat, k ≤ 16 ∧ i = .int .i64 k ∧ Row wr (w.heap.size + 1 + 1) 22 (addTo s K 0 k) ∧ (∃ Z, Z.length = 16 ∧ Blk wr (w.heap.size + 1) 22 Z) ∧ Below w.heap.size w wr) (fun i _ => 16 - (intOf i).toNat)
  case atStart => exact ⟨0, by omega, rfl, (by exact setRow_heap _ _ _ _ 22 _ (new3 w _ _ 22 _)), ⟨_, by rfl, (Blk.alloc (T := 22) (cs := List.replicate 16 (.int .u8 0)) (by exact new2 w _ 22 _) _).setRow_far (by omega) _⟩, below_setRow' (((((Below.refl _ _).alloc (Nat.le_refl _) _).alloc (by simp) _).alloc (by simp; omega) _)) (by omega) _⟩
  case round =>
    obtain ⟨k, hk, rfl, hS, hZ, hB⟩ := hrel
    have hcr := hc.below hB hcl hbl
    have hl : (addTo s K 0 k).length = 16 := by rw [addTo_length, hs]
    by_cases hlt : k < 16
    · have e1 := Row.cell hS (i := k) (by omega)
      have e2 := hcr.key (i := k) (by omega)
      have e3 := Row.frozen hS k
      have HZ := Lib.hid hZ
      have HS := Lib.hid hS
      have HL := Lib.hid hl
      clear hZ hS hl
      go_wp2
      refine wp_region_qt 12 (by kernel_rfl) (by kernel_rfl) ?_
      simp only [List.take_succ_cons, List.take_zero, List.drop_succ_cons, List.drop_zero]
      repeat (go_big_quiet_step (fail))
      refine wpQuiet_nil ?_
      rintro _ ⟨nq1, rfl⟩
      go_wp2
      go_roundw
      case rel => exact ⟨k + 1, by omega, by go_num, (by have := (HS.out.drewN nq1).set k (gb (addTo s K 0 k) k ^^^ gb K k); simpa [addTo] using this), (by obtain ⟨Z, h1, h2⟩ := HZ.out; exact ⟨Z, h1, (h2.drewN _).far (by simp) _⟩), (below_drewN hB _).setCell (by simp; omega) _⟩
      case measure => simp [intOf]; omega
    · have hk' : k = 16 := by omega
      rw [hk'] at hS
      clear hk' hl
      go_wp2
      obtain ⟨w1, rfl⟩ : ∃ w1 : World, w1 = wr := ⟨_, rfl⟩
      have hS' : Row w1 (w.heap.size + 1 + 1) 22 (roundsTo B K s 0) := hS
      clear hS
      go_loopw [7] (fun i wr => ∃ n : Nat, n ≤ 10 ∧ i = .int .i64 (↑n + 1) ∧ Row wr (w.heap.size + 1 + 1) 22 (roundsTo B K s n) ∧ (∃ Z, Z.length = 16 ∧ Blk wr (w.heap.size + 1) 22 Z) ∧ Below w.heap.size w wr) (fun i _ => 11 - (intOf i).toNat)
      case atStart => exact ⟨0, by omega, by go_num, hS', hZ, hB⟩
      case round =>
        clear hS' hB hZ hcr
        obtain ⟨n, hn, rfl, hS, hZ, hB⟩ := hrel
        have hcr := hc.below hB hcl hbl
        have HZ := Lib.hid hZ
        have HS := Lib.hid hS
        clear hZ hS
        by_cases hlt : n < 10
        · obtain ⟨w2, rfl⟩ : ∃ w1 : World, w1 = wr := ⟨_, rfl⟩
          have hd : decide ((n : Int) + 1 < 11) = true := by simp; omega
          have hls : w.heap.size + 1 + 1 < w2.heap.size := HS.out.lt
          go_upto_region 11 with (fail)
          go_wp2
          go_loopw [33] (fun i wr => ∃ k : Nat, k ≤ 16 ∧ i = .int .i64 k ∧ Row wr (w.heap.size + 1 + 1) 22 (roundsTo B K s n) ∧ Row wr w2.heap.size 22 (subTo B (roundsTo B K s n) k) ∧ (∃ Z, Z.length = 16 ∧ Blk wr (w.heap.size + 1) 22 Z) ∧ Below w.heap.size w wr) (fun i _ => 16 - (intOf i).toNat)
          case atStart => exact ⟨0, by omega, rfl, Row.alloc HS.out _, (by have := Row.new w2 22 (List.replicate 16 0); rw [vb_zeros] at this; exact this), (by obtain ⟨Z, h1, h2⟩ := HZ.out; exact ⟨Z, h1, h2.alloc _⟩), hB.alloc (by omega) _⟩
          case round =>
            clear HZ hB hcr
            obtain ⟨k, hk, rfl, hS, hT, hZ, hB⟩ := hrel
            have hcr := hc.below hB hcl hbl
            have HZ := Lib.hid hZ
            have HS' := Lib.hid hS
            clear hZ
            by_cases hk16 : k < 16
            · have e1 := Row.cell hS (i := (k+4*(k%4))%16) (by rw [roundsTo_length _ _ _ hs]; omega)
              have e0 := hcr.box
              have e2 := Row.cell hcr.b (i := nb (gb (roundsTo B K s n) ((k+4*(k%4))%16))) (by rw [hcr.lb]; exact nb_lt _)
              have e3 := Row.frozen hT k
              have e4 := Row.cell hT (i := k) (by rw [subTo_length]; exact hk16)
              have HT := Lib.hid hT
              clear hS hT
              go_wp2
              refine wp_region_qt 17 (by kernel_rfl) (by kernel_rfl) ?_
              simp only [List.take_succ_cons, List.take_zero, List.drop_succ_cons, List.drop_zero]
              repeat (go_big_quiet_step (fail))
              refine wpQuiet_nil ?_
              rintro _ ⟨nq1, rfl⟩
              go_wp2
              go_roundw
              case rel => exact ⟨k + 1, by omega, by go_num, (HS'.out.drewN _).far (by simp; omega) _, (HT.out.drewN _).set _ _, (by obtain ⟨Z, h1, h2⟩ := HZ.out; exact ⟨Z, h1, (h2.drewN _).far (by simp; omega) _⟩), (below_drewN hB _).setCell (by simp; omega) _⟩
              case measure => simp [intOf]; omega
            · have hk' : k = 16 := by omega
              rw [hk'] at hT
              clear hk'
              obtain ⟨w3, rfl⟩ : ∃ w1 : World, w1 = wr := ⟨_, rfl⟩
              clear hS hcr
              have HT := Lib.hid hT
              clear hT
              by_cases hn9 : n < 9
              · go_wp2
                have hd10 : decide ((n : Int) + 1 < 10) = true := by simp; omega
                go_loopw [10] (fun i wr => ∃ k : Nat, k ≤ 4 ∧ i = .int .i64 (4 * ↑k) ∧ Row wr (w.heap.size + 1 + 1) 22 (roundsTo B K s n) ∧ Row wr w2.heap.size 22 (mixTo (subTo B (roundsTo B K s n) 16) k) ∧ (∃ Z, Z.length = 16 ∧ Blk wr (w.heap.size + 1) 22 Z) ∧ Below w.heap.size w wr) (fun i _ => 16 - (intOf i).toNat)
                case atStart => exact ⟨0, by omega, rfl, HS'.out, HT.out, HZ.out, hB⟩
                case round =>
                  clear HZ hB HT HS'
                  obtain ⟨k, hk, rfl, hS, hT, hZ, hB⟩ := hrel
                  have HZ := Lib.hid hZ
                  have HS := Lib.hid hS
                  have HT := Lib.hid hT
                  clear hZ hS hT
                  by_cases hk4 : k < 4
                  · have hx4 : (4 : Int) * ↑k = ((4 * k : Nat) : Int) := by omega
                    have hl4 : (mixTo (subTo B (roundsTo B K s n) 16) k).length = 16 := by rw [mixTo_length, subTo_length]
                    have Hx4 := Lib.hid hx4
                    have Hl4 := Lib.hid hl4
                    clear hx4 hl4
                    go_wp2_with (go_at_call 61; (with_reducible refine (mix_any _ 22 (4 * k) _ _ _ Hx4.out (by omega) Hl4.out HT.out).mono ?_); rintro e w' ⟨rfl, hr1, hr2⟩)
                    go_roundw
                    case rel => exact ⟨k + 1, by omega, by go_num, Blk.grown HS.out hr2 (by simp; omega), hr1, (by obtain ⟨Z, h1, h2⟩ := HZ.out; exact ⟨Z, h1, h2.grown hr2 (by simp; omega)⟩), hB.grown hr2 (by have := hB.size; omega) (by rintro k hk; cases hk; omega)⟩
                    case measure => simp [intOf]; omega
                  · have hk' : k = 4 := by omega
                    rw [hk'] at HT
                    clear hk'
                    obtain ⟨w4, rfl⟩ : ∃ w1 : World, w1 = wr := ⟨_, rfl⟩
                    go_wp2
                    go_loopw [64] (fun i wr => ∃ k : Nat, k ≤ 16 ∧ i = .int .i64 k ∧ Row wr (w.heap.size + 1 + 1) 22 (putTo (roundsTo B K s n) (mixTo (subTo B (roundsTo B K s n) 16) 4) K (16 * (n + 1)) k) ∧ Row wr w2.heap.size 22 (mixTo (subTo B (roundsTo B K s n) 16) 4) ∧ (∃ Z, Z.length = 16 ∧ Blk wr (w.heap.size + 1) 22 Z) ∧ Below w.heap.size w wr) (fun i _ => 16 - (intOf i).toNat)
                    case atStart => exact ⟨0, by omega, rfl, HS.out, HT.out, HZ.out, hB⟩
                    case round =>
                      clear HZ HS HT hB
                      obtain ⟨k, hk, rfl, hS, hT, hZ, hB⟩ := hrel
                      have hcr := hc.below hB hcl hbl
                      by_cases hlt5 : k < 16
                      · have e1 := Row.cell hT (i := k) (by rw [mixTo_length, subTo_length]; omega)
                        have e2 := hcr.key (i := 16 * (n + 1) + k) (by omega)
                        have e2' : wr.cell? ⟨c, 1 + (n + 1) * 16 + k, none⟩ = some (.int .u8 (ub (gb K (16 * (n + 1) + k)))) := by rw [← e2, Nat.add_assoc, Nat.mul_comm]
                        have e3 := Row.frozen hS k
                        have e4 := Row.cell hS (i := k) (by rw [putTo_length, roundsTo_length _ _ _ hs]; omega)
                        have HZ := Lib.hid hZ
                        have HS := Lib.hid hS
                        have HT := Lib.hid hT
                        clear hZ hS hT e2
                        go_wp2
                        refine wp_region_qt 14 (by kernel_rfl) (by kernel_rfl) ?_
                        simp only [List.take_succ_cons, List.take_zero, List.drop_succ_cons, List.drop_zero]
                        repeat (go_big_quiet_step (fail))
                        refine wpQuiet_nil ?_
                        rintro _ ⟨nq1, rfl⟩
                        go_wp2
                        go_roundw
                        case rel => exact ⟨k + 1, by omega, by go_num, (HS.out.drewN _).set _ _, (HT.out.drewN _).far (by simp; omega) _, (by obtain ⟨Z, h1, h2⟩ := HZ.out; exact ⟨Z, h1, (h2.drewN _).far (by simp) _⟩), (below_drewN hB _).setCell (by simp; omega) _⟩
                        case measure => simp [intOf]; omega
                      · have hk' : k = 16 := by omega
                        rw [hk'] at hS
                        clear hk'
                        go_wp2
                        refine ⟨⟨n + 1, by omega, by go_num, (by rw [roundsTo, if_pos (by omega)]; exact hS), hZ, hB⟩, by simp [intOf]; omega⟩
              · have hd10 : decide ((n : Int) + 1 < 10) = false := by simp; omega
                go_wp2_with fail
                refine wp_loop_rounds 1 ?_
                rw [rounds_succ]
                go_wp2
                go_loopw [64] (fun i wr => ∃ k : Nat, k ≤ 16 ∧ i = .int .i64 k ∧ Row wr (w.heap.size + 1 + 1) 22 (putTo (roundsTo B K s n) (subTo B (roundsTo B K s n) 16) K (16 * (n + 1)) k) ∧ Row wr w2.heap.size 22 (subTo B (roundsTo B K s n) 16) ∧ (∃ Z, Z.length = 16 ∧ Blk wr (w.heap.size + 1) 22 Z) ∧ Below w.heap.size w wr) (fun i _ => 16 - (intOf i).toNat)
                case atStart => exact ⟨0, by omega, rfl, HS'.out, HT.out, HZ.out, hB⟩
                case round =>
                  clear HZ HS' HT hB
                  obtain ⟨k, hk, rfl, hS, hT, hZ, hB⟩ := hrel
                  have hcr := hc.below hB hcl hbl
                  by_cases hlt5 : k < 16
                  · have e1 := Row.cell hT (i := k) (by rw [subTo_length]; omega)
                    have e2 := hcr.key (i := 16 * (n + 1) + k) (by omega)
                    have e2' : wr.cell? ⟨c, 1 + (n + 1) * 16 + k, none⟩ = some (.int .u8 (ub (gb K (16 * (n + 1) + k)))) := by rw [← e2, Nat.add_assoc, Nat.mul_comm]
                    have e3 := Row.frozen hS k
                    have e4 := Row.cell hS (i := k) (by rw [putTo_length, roundsTo_length _ _ _ hs]; omega)
                    have HZ := Lib.hid hZ
                    have HS := Lib.hid hS
                    have HT := Lib.hid hT
                    clear hZ hS hT e2
                    go_wp2
                    refine wp_region_qt 14 (by kernel_rfl) (by kernel_rfl) ?_
                    simp only [List.take_succ_cons, List.take_zero, List.drop_succ_cons, List.drop_zero]
                    repeat (go_big_quiet_step (fail))
                    refine wpQuiet_nil ?_
                    rintro _ ⟨nq1, rfl⟩
                    go_wp2
                    go_roundw
                    case rel => exact ⟨k + 1, by omega, by go_num, (HS.out.drewN _).set _ _, (HT.out.drewN _).far (by simp; omega) _, (by obtain ⟨Z, h1, h2⟩ := HZ.out; exact ⟨Z, h1, (h2.drewN _).far (by simp) _⟩), (below_drewN hB _).setCell (by simp; omega) _⟩
                    case measure => simp [intOf]; omega
                  · have hk' : k = 16 := by omega
                    rw [hk'] at hS
                    clear hk'
                    go_wp2
                    refine ⟨⟨n + 1, by omega, by go_num, (by rw [roundsTo, if_neg (by omega)]; exact hS), hZ, hB⟩, by simp [intOf]; omega⟩
        · have hn' : n = 10 := by omega
          rw [hn'] at HS
          clear hn'
          obtain ⟨Z, hzl, hz⟩ := HZ.out
          have hrow : Row wr (w.heap.size + 1 + 1) 22 (blk B K s) := HS.out
          have hbl16 : (blk B K s).length = 16 := roundsTo_length _ _ _ hs 10
          have hi2 := i22s _ hbl16
          have hz2 : Z.toArray.size = (vb (blk B K s)).toArray.size := by simp [hzl, hbl16]
          have Hz2 := Lib.hid hz2
          clear hz2 hbl16 hzl
          go_wp2_with (first | (refine wpList_load_row rfl 22 _ rfl (w.heap.size + 1 + 1) rfl _ (vb (blk B K s)).toArray (0, 0) _ hrow ty22 rfl hi2 ?_) | (refine wpList_store_row rfl 22 _ _ rfl (w.heap.size + 1) (vb (blk B K s)).toArray rfl rfl _ _ hz hi2 (by exact Hz2.out) (vb_one _) ?_))
          refine bodyPost_ret (results_cell_row (p := 4) (ty := 22) rfl _ _ (w.heap.size + 1) 22 (vb (blk B K s)).toArray (0, 0) _ rfl (by exact setRow_heap _ _ _ _ 22 _ hz) ty22 rfl hi2) rfl ?_
          exact ⟨rfl, below_setRow' hB (by omega) _⟩
end Go.Proofs.Ytjjcnijdjhhdoaa
