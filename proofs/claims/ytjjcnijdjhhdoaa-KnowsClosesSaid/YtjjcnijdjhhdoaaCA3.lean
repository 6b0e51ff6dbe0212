/- The walks of octet.Get, compeerref01.Get: the number of some bytes. (Texts laid one behind the other: RefX, RefB, Dbg, Put, Cut, Copy, AesW, AesB, AesX, AesN, SMark, Res, OKey, Cont, Gets.) -/
import Derived.Outline
import Derived.BigQuiet
import Derived.Laws.CopyRow
import Derived.Deep.MidRow
import Derived.Deep.DeepCutAuto
import Derived.Laws.Rows
import Derived.Laws.BitsAllLaws
import Derived.Test.YtjjcnijdjhhdoaaCA2
/-! The walk of compeerref05.Box: it answers rbox. -/
section
namespace Go.Proofs.Ytjjcnijdjhhdoaa
open Go.RowKit Go.QT
attribute [local go_sem] bits_xor8 bits_or8 bits_and8 u8_ub
theorem bitTo_le (x : UInt8) (k j : Nat) : bitTo x k j ≤ j := by
  induction j with
  | zero => exact Nat.le_refl _
  | succ j ih => rw [bitTo]; omega
set_option maxRecDepth 100000 in
set_option maxHeartbeats 400000 in
theorem rbox_any (y : Int) (hy : 0 ≤ y) (hy' : y ≤ 255) (w : World) :
    Calls Try.prog 64 #[.int .u8 y] w fun e w' => e = .returned (.int .u8 (ub (rbox (toB y)))) ∧ w = w' := by
  obtain ⟨b, rfl⟩ : ∃ a, y = ub a := ⟨toB y, (ub_u8 hy hy').symm⟩
  rw [u8_ub]
  go_enter Try.func64, Try.ntmps64
  go_wp2
  go_loop [3, 4] (fun x k => ∃ k' : Nat, k' ≤ 254 ∧ k = .int .i64 k' ∧ x = .int .u8 (ub (powTo b k'))) (fun _ k => 254 - (intOf k).toNat)
  case atStart => exact ⟨0, by omega, rfl, by simp [powTo, ub]⟩
  case round =>
    obtain ⟨k, hk, rfl, rfl⟩ := hrel
    by_cases hlt : k < 254
    · have Hs : Hid (powTo b (k+1) = rprod (powTo b k) b) := rfl
      generalize powTo b k = x at *
      go_wp2_with (go_at_call 63; refine (rprod_any _ _ (by simp) (by simp) (by simp) (by simp) _).mono ?_; rintro e w' ⟨rfl, rfl⟩)
      exact ⟨⟨k + 1, by omega, by go_num, by rw [Hs.out]⟩, by simp [intOf]; omega⟩
    · have Hx : Hid (rbox b = outTo (powTo b k) 8) := by
        have : k = 254 := by omega
        rw [this]; rfl
      generalize powTo b k = x at *
      go_wp2
      go_loop [5, 6] (fun o k => ∃ k' : Nat, k' ≤ 8 ∧ k = .int .i64 k' ∧ o = .int .u8 (ub (outTo x k'))) (fun _ k => 8 - (intOf k).toNat)
      case atStart => exact ⟨0, by omega, rfl, by simp [outTo, ub]⟩
      case round =>
        obtain ⟨k2, hk2, rfl, rfl⟩ := hrel
        by_cases hlt2 : k2 < 8
        · have Hs : Hid (outTo x (k2+1) = outTo x k2 + UInt8.ofNat ((bitTo x k2 5 + 99 / 2 ^ k2 % 2) % 2 * 2 ^ k2)) := rfl
          generalize outTo x k2 = o at *
          go_wp2
          go_loop [7, 8] (fun t j => ∃ j' : Nat, j' ≤ 5 ∧ j = .int .i64 j' ∧ t = .int .i64 ((bitTo x k2 j' : Nat) : Int)) (fun _ j => 5 - (intOf j).toNat)
          case atStart => exact ⟨0, by omega, rfl, rfl⟩
          case round =>
            obtain ⟨j, hj, rfl, rfl⟩ := hrel
            have hbt : bitTo x k2 j ≤ j := bitTo_le x k2 j
            by_cases hlt3 : j < 5
            · have Hs2 : Hid (bitTo x k2 (j+1) = bitTo x k2 j + nb x / 2 ^ ((k2 + 8 - j) % 8) % 2) := rfl
              generalize bitTo x k2 j = t at *
              go_wp2
              refine ⟨⟨j + 1, by omega, by go_num, ?_⟩, by simp [intOf]; omega⟩
              rw [Hs2.out, wrap64_ub, ub_nb, div_pow, tmod_nat, ← Int.natCast_add, wrap64_nat _ (by omega)]
            · have hj5 : j = 5 := by omega
              have hs := Hs.out
              rw [← hj5] at hs
              have Hs3 := Lib.hid hs
              clear hs hj5 Hs
              generalize bitTo x k2 j = t at *
              go_wp2
              refine ⟨⟨k2 + 1, by omega, by go_num, ?_⟩, by simp [intOf]; omega⟩
              have hp := pow_lt8 k2 hlt2
              have hm : (t + 99 / 2 ^ k2 % 2) % 2 * 2 ^ k2 ≤ 1 * 128 := Nat.mul_le_mul (by omega) hp
              have e1 : ((99 : Int) / 2 ^ k2) = ((99 / 2 ^ k2 : Nat) : Int) := div_pow 99 k2
              rw [Hs3.out, e1, tmod_nat, ← Int.natCast_add, wrap64_nat _ (by omega), tmod_nat, pow_cast, ← Int.natCast_mul, wrap64_nat _ (by omega), ← ub_ofNat, ub_add]
        · have hk8 : k2 = 8 := by omega
          have hx := Hx.out
          rw [← hk8] at hx
          have Hx2 := Lib.hid hx
          clear hx hk8 Hx
          generalize outTo x k2 = o at *
          go_wp2
          go_ret
          exact ⟨by rw [Hx2.out]; rfl, rfl⟩
end Go.Proofs.Ytjjcnijdjhhdoaa
end
/-! The walk of compeerref05.Boxes. -/
section
namespace Go.Proofs.Ytjjcnijdjhhdoaa
open Go.RowKit Go.QT
attribute [local go_sem] bits_xor8 bits_or8 bits_and8 u8_ub
/-- What a call leaves that makes a row of bytes. -/
def BPost (w : World) (l : Bytes) (e : Ending) (w' : World) : Prop := ∃ v, e = .returned v ∧ OB w' w.heap.size v l ∧ Below w.heap.size w w'
theorem boxesTo_length (n : Nat) : (boxesTo n).length = n := by
  induction n with
  | zero => rfl
  | succ n ih => rw [boxesTo, List.length_append, ih]; rfl
set_option maxRecDepth 100000 in
set_option maxHeartbeats 400000 in
theorem rboxes_any (w : World) : Calls Try.prog 20 #[] w (BPost w rboxes) := by
  go_enter Try.func20, Try.ntmps20
  go_upto_region 2 with (fail)
  have hv : OB (w.alloc (.cells #[] 5)) w.heap.size (.slice (some ⟨w.heap.size, 0, none⟩) 0 0) (boxesTo 0) := OB.new _ _ [] (by simp) (Row.new w 5 []) (Nat.le_refl _)
  have hB : Below w.heap.size w (w.alloc (.cells #[] 5)) := (Below.refl _ _).alloc (Nat.le_refl _) _
  generalize w.alloc (.cells #[] 5) = w1 at *
  go_wp2
  go_loopw [1, 2] (fun v k wr => ∃ n : Nat, n ≤ 256 ∧ k = .int .i64 n ∧ OB wr w.heap.size v (boxesTo n) ∧ Below w.heap.size w wr) (fun _ k _ => 256 - (intOf k).toNat)
  case atStart => exact ⟨0, by omega, rfl, hv, hB⟩
  case round =>
    clear hv hB
    obtain ⟨n, hn, rfl, hv, hB⟩ := hrel
    have hlen := boxesTo_length n
    by_cases hlt : n < 256
    · have hub : ub (UInt8.ofNat n) = (n : Int) := by rw [ub_ofNat]; omega
      have Hub := Lib.hid hub
      have Hs : Hid (boxesTo (n+1) = boxesTo n ++ [rbox (UInt8.ofNat n)]) := rfl
      clear hub
      have Hl := Lib.hid hlen
      clear hlen
      generalize boxesTo n = l at *
      go_wp2_with (first | (go_at_call 64; refine (rbox_any _ (by simp) (by omega) _).mono ?_; rintro e w' ⟨rfl, rfl⟩) | (at_builtin; refine wl_push rfl (.tmp 8) (.tmp 12) rfl w.heap.size _ l _ wr.heap.size rfl rfl (hv.alloc _) (Row.new _ 5 [_]) (by rw [Hl.out]; omega) (by have := hB.size; simp; omega) ?_; intro v' w' hv' hg' hat))
      refine ⟨⟨n + 1, by omega, by go_num, ?_, (hv.alloc _).grownBelow (hB.alloc hB.size _) hg' (Nat.le_refl _) (Nat.le_refl _)⟩, by simp [intOf]; omega⟩
      rw [Hs.out]
      have e : toB (n : Int) = UInt8.ofNat n := by simp [toB]
      rwa [e] at hv'
    · have hn' : n = 256 := by omega
      have Hv := Lib.hid hv
      clear hv hlen
      go_wp2
      go_ret
      have hv := Hv.out
      rw [hn'] at hv
      exact ⟨_, rfl, hv, hB⟩
end Go.Proofs.Ytjjcnijdjhhdoaa
end
/-! Dbg -/
section
namespace Go
open Lean Elab Tactic Meta
/-- lab only -/
elab "dbg" : tactic => do
  for g in ← getUnsolvedGoals do
    g.withContext do
      let t := (← instantiateMVars (← g.getType)).consumeMData
      let showAct (a : Lean.Expr) : TacticM MessageData := do
        match BigFrame.slotsOf a with
        | some slots =>
          let mut ms : Array MessageData := #[]
          for h : i in [0:slots.size] do
            let v := slots[i]
            unless v.isConstOf ``undef || v.isFVar do ms := ms.push m!"\n  {i}: {v}"
          return MessageData.joinSep ms.toList ""
        | none => return m!"{a}"
      let showOps (op a : Lean.Expr) : TacticM MessageData := do
        match BigFrame.slotsOf a with
        | some slots =>
          let mut ms : Array MessageData := #[]
          for (n, _) in BigFrame.tmpsOf op #[] do ms := ms.push m!"\n  {n}: {slots.getD n (mkConst ``undef)}"
          return MessageData.joinSep ms.toList ""
        | none => return m!"?"
      if t.isAppOf ``wpQuiet then
        let args := t.getAppArgs
        let l := args[4]!
        let hd := if l.isAppOf ``List.cons then m!"{(l.getAppArgs[1]!).getAppArgs[1]!}" else m!"{l}"
        let l := if l.isAppOf ``List.cons then l.getAppArgs[1]! else l
        logInfo m!"QUIET at {hd}\nframe:{← showOps l args[5]!}\nclass: {args[2]!}"
      else if t.isAppOf ``wpList then
        let args := t.getAppArgs
        let l := args[3]!
        let hd := if l.isAppOf ``List.cons then m!"{(l.getAppArgs[1]!).getAppArgs[1]!}" else m!"{l}"
        logInfo m!"LIST at {hd}\nframe:{← showOps (if l.isAppOf ``List.cons then l.getAppArgs[1]! else l) args[4]!}\nworld: {args[5]!}"
      else if t.isAppOf ``Code.wp then
        let args := t.getAppArgs
        let code := args[1]!
        let hd := code.getAppFn.constName?
        logInfo m!"CODE {hd} {if code.isAppOf ``Code.region then m!"{code.getAppArgs[0]!} draws {code.getAppArgs[2]!}" else m!""}\nframe:{← showAct args[3]!}\nworld: {args[4]!}"
      else if t.isAppOf ``Oper.upon then
        let args := t.getAppArgs
        logInfo m!"UPON {args[1]!.getAppArgs[1]!}\nframe:{← showOps args[1]! args[2]!}\nrun: {args[5]!}"
      else if t.isAppOf ``bodyPost then
        let args := t.getAppArgs
        logInfo m!"POST {args[3]!}\nframe:{← showAct args[4]!}\nworld: {args[5]!}\nR: {args[2]!}"
      else
        logInfo m!"GOAL {t}"
elab "dbge" : tactic => withMainContext do
  let t := (← instantiateMVars (← getMainTarget)).consumeMData
  let some (_, l, r) := t.eq? | throwError "no eq"
  match BigFrame.slotsOf l, BigFrame.slotsOf r with
  | some a, some b =>
    for h : i in [0:a.size] do
      let x := a[i]
      let y := b.getD i (mkConst ``undef)
      unless ← withReducible (isDefEq x y) do logInfo m!"{i}: {x}  VS  {y}"
  | _, _ => logInfo m!"not frames: {l} {r}"
elab "dbgs" : tactic => do
  for g in ← getUnsolvedGoals do
    g.withContext do
      let t := (← instantiateMVars (← g.getType)).consumeMData
      if t.isAppOf ``Code.wp then
        let args := t.getAppArgs
        let code := args[1]!
        logInfo m!"CODE {code.getAppFn.constName?} {if code.isAppOf ``Code.region then m!"{code.getAppArgs[0]!} draws {code.getAppArgs[2]!}" else m!""} world: {args[4]!}"
      else evalTactic (← `(tactic| dbg))
elab "dbgh" : tactic => withMainContext do
  let mut ms : Array MessageData := #[]
  for d in ← getLCtx do
    if d.isImplementationDetail then continue
    let ty ← instantiateMVars d.type
    if ty.isConstOf ``Value then continue
    ms := ms.push m!"\n{d.userName} : {ty}"
  logInfo (MessageData.joinSep ms.toList "")
end Go
end
/-! The walk of octet.Put. -/
section
namespace Go.Proofs.Ytjjcnijdjhhdoaa
open Go.RowKit Go.QT
attribute [local go_sem] bits_xor8 bits_or8 bits_and8 u8_ub
def zrow (n : Nat) : Array Value := (vb (List.replicate n 0)).toArray
theorem put_byte (n k : Nat) (hk : k < 8) : ((n : Int) / 2 ^ (56 - 8 * k) % 256) = ub (UInt8.ofNat (n / 256 ^ (7 - k))) := by
  have e : (256 : Nat) ^ (7 - k) = 2 ^ (56 - 8 * k) := by
    rw [show (256 : Nat) = 2 ^ 8 from rfl, ← Nat.pow_mul]; congr 1; omega
  rw [ub_ofNat, e]
  simp
def putRow (n : Nat) : Nat → Bytes
  | 0 => List.replicate 8 0
  | k+1 => (putRow n k).set k (UInt8.ofNat (n / 256 ^ (7 - k)))
theorem putRow_eq (n : Nat) : putRow n 8 = put8 n := rfl
theorem putRow_len (n k : Nat) : (putRow n k).length = 8 := by
  induction k with
  | zero => rfl
  | succ k ih => exact List.length_set.trans ih
theorem put8_len (n : Nat) : (put8 n).length = 8 := rfl
set_option maxRecDepth 100000 in
set_option maxHeartbeats 1000000 in
theorem put_any (n : Nat) (w : World) : Calls Try.prog 72 #[.int .u64 (n : Int)] w (BPost w (put8 n)) := by
  have Hfin := Hd.mk (putRow_eq n)
  have HL := Hd.mk (putRow_len n)
  have hmk : ∀ W, (Instr.makeSlice 28 (.int .i64 8) (.int .i64 8)).run Try.prog W = .ok (.slice (some ⟨W.heap.size, 0, none⟩) 8 8) (W.alloc (.cells (zrow 8) 5)) := fun W => by kernel_rfl
  go_enter Try.func72, Try.ntmps72
  go_upto_region 2 with (fail)
  have hv : OB (w.alloc (.cells (zrow 8) 5)) w.heap.size (.slice (some ⟨w.heap.size, 0, none⟩) 8 8) (putRow n 0) := OB.new _ _ (List.replicate 8 0) (by simp [maxLen]) (Row.new w 5 (List.replicate 8 0)) (Nat.le_refl _)
  have hB : Below w.heap.size w (w.alloc (.cells (zrow 8) 5)) := (Below.refl _ _).alloc (Nat.le_refl _) _
  generalize w.alloc (.cells (zrow 8) 5) = w1 at *
  clear hmk
  go_wp2
  go_loopw [8] (fun i wr => ∃ k : Nat, k ≤ 8 ∧ i = .int .i64 (k : Int) ∧ OB wr w.heap.size (.slice (some ⟨w.heap.size, 0, none⟩) 8 8) (putRow n k) ∧ Below w.heap.size w wr) (fun i _ => 8 - (intOf i).toNat)
  case atStart => exact ⟨0, by omega, rfl, hv, hB⟩
  case round =>
    clear hv hB
    obtain ⟨k, hk, rfl, hv, hB⟩ := hrel
    by_cases hlt : k < 8
    · have Hs : Hd (putRow n (k+1) = (putRow n k).set k (UInt8.ofNat (n / 256 ^ (7 - k)))) := ⟨rfl⟩
      have e3 := hv.frozen_ k
      obtain ⟨g', cap', e, _, h3, _, _, hcell⟩ := hv.open_ (by intro e; have := HL.out k; rw [e] at this; simp at this)
      have hx := hcell k (by rw [HL.out]; omega)
      injection e with e1 e2 e4
      injection e1 with e1
      injection e1 with e1
      subst e1
      have Hv := Hd.mk hv
      clear hv hcell e2 e4
      go_wp2
      refine ⟨⟨k + 1, by omega, by go_num, ?_, hB.setCell (Nat.le_refl _) _⟩, by simp [intOf]; omega⟩
      rw [Hs.out, put_byte n k hlt]
      exact Hv.out.set _ _
    · have hk8 : k = 8 := by omega
      rw [hk8, Hfin.out] at hv
      clear hk8
      have Hv := Hd.mk hv
      clear hv
      go_wp2
      go_ret
      exact ⟨_, rfl, Hv.out, hB⟩
end Go.Proofs.Ytjjcnijdjhhdoaa
end
/-! Slices of slices of bytes. -/
section
namespace Go.Proofs.Ytjjcnijdjhhdoaa
open Go.RowKit
/-- v[lo:hi]. -/
def cutS (v : Value) (lo hi : Nat) : Value :=
  match v with
  | .slice A _ c => .slice (if c = lo then A else A.map (·.add lo)) (hi - lo) (c - lo)
  | _ => undef
theorem gb_cut (l : Bytes) (lo hi i : Nat) (h : lo + i < hi) : gb ((l.take hi).drop lo) i = gb l (lo + i) := by
  simp [gb, h]
theorem len_cut (l : Bytes) (lo hi : Nat) (hhi : hi ≤ l.length) : ((l.take hi).drop lo).length = hi - lo := by
  simp; omega
theorem SB.cut {w : World} {v : Value} {l : Bytes} (h : SB w v l) (lo hi : Nat) (hhi : hi ≤ l.length) : SB w (cutS v lo hi) ((l.take hi).drop lo) := by
  obtain ⟨A, c, rfl, hc, hm, hcell⟩ := h
  have hl := len_cut l lo hi hhi
  refine ⟨_, c - lo, by rw [hl]; rfl, by rw [hl]; omega, by omega, fun hne => ?_⟩
  have hpos : lo < hi := by
    have : (((l.take hi).drop lo)).length ≠ 0 := fun h0 => hne (List.eq_nil_of_length_eq_zero h0)
    omega
  obtain ⟨b, o, rfl, hb, hcl⟩ := hcell (by rintro rfl; simp at hhi; omega)
  refine ⟨b, o + lo, ?_, hb, fun i hi' => ?_⟩
  · rw [if_neg (by omega)]; simp [Addr.add]
  · rw [gb_cut l lo hi i (by omega), Nat.add_assoc]
    exact hcl (lo + i) (by omega)
theorem cutS_block {v : Value} {lo hi : Nat} : (cutS v lo hi).ownBlock = v.ownBlock := by
  cases v <;> try rfl
  rename_i A n c
  simp only [cutS]
  by_cases h : c = lo
  · rw [if_pos h]; cases A <;> rfl
  · rw [if_neg h]
    cases A with
    | none => rfl
    | some p => exact congrArg some (block_of_add p lo)
theorem elem28 : Try.prog.elem 28 = 5 := by kernel_rfl
theorem und28 : Try.prog.underlying 28 = some (.slice (Try.prog.elem 28)) := by kernel_rfl
theorem run_size5 (w : World) : (sizeOf 5).run Try.prog w = .ok 1 w := by
  obtain ⟨i0, hi0, hz0, hz1, hz2⟩ := info_parts i5
  simp [sizeOf, typeInfo, hi0, hz1]
theorem run_cut_lh (w : World) (v : Value) (l : Bytes) (h : SB w v l) (k k' : IntKind) (lo hi : Int) (h0 : 0 ≤ lo) (h1 : lo ≤ hi) (h2 : hi ≤ l.length) (W : World) :
    (Instr.sliceAt 28 v (some (.int k lo)) (some (.int k' hi)) none).run Try.prog W = .ok (cutS v lo.toNat hi.toNat) W := by
  obtain ⟨A, c, rfl, hc, hm, hcell⟩ := h
  rw [run_sliceAt_slice W 28 _ _ _ _ und28, run_slice_lh W 28 A _ c und28 k k' lo hi h0 h1 (by omega), elem28, run_size5]
  simp only [Result.andThen_ok, sliced, cutS, Nat.mul_one]
theorem run_cut_h (w : World) (v : Value) (l : Bytes) (h : SB w v l) (k' : IntKind) (hi : Int) (h1 : 0 ≤ hi) (h2 : hi ≤ l.length) (W : World) :
    (Instr.sliceAt 28 v none (some (.int k' hi)) none).run Try.prog W = .ok (cutS v 0 hi.toNat) W := by
  obtain ⟨A, c, rfl, hc, hm, hcell⟩ := h
  rw [run_sliceAt_slice W 28 _ _ _ _ und28, run_slice_h W 28 A _ c und28 k' hi h1 (by omega), elem28, run_size5]
  simp only [Result.andThen_ok, sliced, cutS, Nat.mul_one]
theorem run_cut_l (w : World) (v : Value) (l : Bytes) (h : SB w v l) (k : IntKind) (lo : Int) (h1 : 0 ≤ lo) (h2 : lo ≤ l.length) (W : World) :
    (Instr.sliceAt 28 v (some (.int k lo)) none none).run Try.prog W = .ok (cutS v lo.toNat l.length) W := by
  obtain ⟨A, c, rfl, hc, hm, hcell⟩ := h
  rw [run_sliceAt_slice W 28 _ _ _ _ und28, run_slice_l W 28 A _ c und28 k lo h1 h2, elem28, run_size5]
  simp only [Result.andThen_ok, sliced, cutS, Nat.mul_one]
section
variable {ops : Array Oper} {rest : List Oper} {o : Oper} {a : Act} {w : World} {Q : Exit → Act → World → Prop}
theorem exec_cut_lh (x lo hi : Operand) (ho : o.op = .slice 28 x (some lo) (some hi) none) (v : Value) (l : Bytes) (hx : a.eval x = v) (h : SB w v l) (k k' : IntKind) (i j : Int) (hlo : a.eval lo = .int k i) (hhi : a.eval hi = .int k' j)
    (h0 : 0 ≤ i) (h1 : i ≤ j) (h2 : j ≤ l.length) (W : World) : (execOp a.eval o).run Try.prog W = .ok (.value (cutS v i.toNat j.toNat)) W := by
  unfold execOp
  simp only [ho, hx, Option.map_some, Option.map_none, hlo, hhi, Sem.run_bind, run_cut_lh w v l h k k' i j h0 h1 h2 W, Result.andThen_ok, Sem.run_pure]
theorem exec_cut_h (x hi : Operand) (ho : o.op = .slice 28 x none (some hi) none) (v : Value) (l : Bytes) (hx : a.eval x = v) (h : SB w v l) (k' : IntKind) (j : Int) (hhi : a.eval hi = .int k' j)
    (h1 : 0 ≤ j) (h2 : j ≤ l.length) (W : World) : (execOp a.eval o).run Try.prog W = .ok (.value (cutS v 0 j.toNat)) W := by
  unfold execOp
  simp only [ho, hx, Option.map_some, Option.map_none, hhi, Sem.run_bind, run_cut_h w v l h k' j h1 h2 W, Result.andThen_ok, Sem.run_pure]
theorem exec_cut_l (x lo : Operand) (ho : o.op = .slice 28 x (some lo) none none) (v : Value) (l : Bytes) (hx : a.eval x = v) (h : SB w v l) (k : IntKind) (i : Int) (hlo : a.eval lo = .int k i)
    (h0 : 0 ≤ i) (h2 : i ≤ l.length) (W : World) : (execOp a.eval o).run Try.prog W = .ok (.value (cutS v i.toNat l.length)) W := by
  unfold execOp
  simp only [ho, hx, Option.map_some, Option.map_none, hlo, Sem.run_bind, run_cut_l w v l h k i h0 h2 W, Result.andThen_ok, Sem.run_pure]
/-- In a walk. -/
theorem wl_val (hgd : o.guard = none) (v : Value) (hv : (execOp a.eval o).run Try.prog w = .ok (.value v) w) (h : wpList Try.prog ops Q rest (a.put o.dst v) w) : wpList Try.prog ops Q (o :: rest) a w :=
  wpList_plain hgd fun K hK => by
    unfold Oper.wp
    rw [hv]
    exact hK _ _ h
end
end Go.Proofs.Ytjjcnijdjhhdoaa
end
/-! copy of a slice of bytes into a row that is known whole; a val or a run as a step of a walk. -/
section
namespace Go.Proofs.Ytjjcnijdjhhdoaa
open Go.RowKit Go.QT
theorem s5 : (Try.prog.info? 5).map (·.size) = some 1 := by kernel_rfl
theorem u28 : Try.prog.underlying 28 = some (.slice 5) := by kernel_rfl
/-- What a row becomes. -/
def ovr (cur : Bytes) (off : Nat) (l : Bytes) : Bytes := cur.take off ++ l ++ cur.drop (off + l.length)
theorem ovr_len (cur : Bytes) (off : Nat) (l : Bytes) (h : off + l.length ≤ cur.length) : (ovr cur off l).length = cur.length := by
  simp [ovr]; omega
theorem exec_copy {o : Oper} {a : Act} {w : World} (d s : Operand) (ho : o.op = .call { callee := .builtin .copy, args := #[d, s], argTypes := #[28, 28] })
    (g off dLen dCap : Nat) (T : TypeId) (cur l : Bytes) (v : Value) (hd : a.eval d = .slice (some ⟨g, off, none⟩) dLen dCap) (hs : a.eval s = v) (hr : Row w g T cur) (hv : SB w v l) (hne : l ≠ []) (hle : l.length ≤ dLen) (hfit : off + l.length ≤ cur.length) :
    (execOp a.eval o).run Try.prog w = .ok (.value (goInt l.length)) (w.setRow g (vb (ovr cur off l)).toArray) := by
  obtain ⟨b, ob, c, rfl, hc, hm, hb, hcell⟩ := hv.open_ hne
  have hcur : (vb cur).toArray.size = cur.length := by simp
  have hrun := run_copy_row (P := Try.prog) w 28 28 o.type 5 g off dLen dCap ⟨b, ob, none⟩ l.length c (vb cur).toArray T (vb l) u28 s5 hr (by rw [vb_length]; exact (Nat.min_eq_left hle).symm)
    (fun j u hj => by
      have hjl : j < l.length := by
        rcases Nat.lt_or_ge j l.length with h | h
        · exact h
        · rw [List.getElem?_eq_none (by simpa using h)] at hj; cases hj
      rw [vb_get l j hjl] at hj
      rw [Addr.add_mid, hcell j hjl, hj]) (by rw [hcur]; simpa using hfit) (vb_ones l)
  have e : ((vb cur).toArray.toList.take off ++ vb l ++ (vb cur).toArray.toList.drop (off + (vb l).length)).toArray = (vb (ovr cur off l)).toArray := by
    simp [ovr, vb]
  rw [e] at hrun
  unfold execOp
  simp only [ho, resolve, invoke, builtin, Sem.run_bind, Sem.run_pure, Result.andThen_ok, List.map_toArray, List.map_cons, List.map_nil, hs, hd, hrun]
  simp
theorem wl_copy {ops : Array Oper} {rest : List Oper} {o : Oper} {a : Act} {w : World} {Q : Exit → Act → World → Prop} (hgd : o.guard = none) (d s : Operand) (ho : o.op = .call { callee := .builtin .copy, args := #[d, s], argTypes := #[28, 28] })
    (g off dLen dCap : Nat) (T : TypeId) (cur l : Bytes) (v : Value) (hd : a.eval d = .slice (some ⟨g, off, none⟩) dLen dCap) (hs : a.eval s = v) (hr : Row w g T cur) (hv : SB w v l) (hne : l ≠ []) (hle : l.length ≤ dLen) (hfit : off + l.length ≤ cur.length)
    (h : ∀ w', Row w' g T (ovr cur off l) → w.grownBy w' (some g) → w'.heap.size = w.heap.size → wpList Try.prog ops Q rest (a.put o.dst (goInt l.length)) w') : wpList Try.prog ops Q (o :: rest) a w :=
  wpList_plain hgd fun K hK => by
    unfold Oper.wp
    rw [exec_copy d s ho g off dLen dCap T cur l v hd hs hr hv hne hle hfit]
    exact hK _ _ (h _ (Blk.setRow hr _) (only_setRow g _) (by simp))
end Go.Proofs.Ytjjcnijdjhhdoaa
end
/-! The walks of package aes: double, product, mix. -/
section
namespace Go.Proofs.Ytjjcnijdjhhdoaa
open Go.RowKit Go.QT
attribute [local go_sem] bits_xor8 bits_or8 bits_and8 u8_ub
theorem dbl_hi (a : UInt8) (h : 128 ≤ ub a) : bits .xor .u8 (ub a * 2 % 256) 27 = ub (dbl a) := by
  have := all8 (fun a => !(decide (128 ≤ ub a)) || decide (bits .xor .u8 (ub a * 2 % 256) 27 = ub (dbl a))) (by decide +kernel) a
  simpa [h] using this
theorem dbl_lo (a : UInt8) (h : ub a < 128) : ub a * 2 = ub (dbl a) := by
  have := all8 (fun a => !(decide (ub a < 128)) || decide (ub a * 2 = ub (dbl a))) (by decide +kernel) a
  simpa [h] using this
set_option maxRecDepth 100000 in
set_option maxHeartbeats 400000 in
theorem double_any (x : Int) (h0 : 0 ≤ x) (h1 : x ≤ 255) (w : World) :
    Calls Try.prog 60 #[.int .u8 x] w fun e w' => e = .returned (.int .u8 (ub (dbl (toB x)))) ∧ w = w' := by
  obtain ⟨a, rfl⟩ : ∃ a, x = ub a := ⟨toB x, (ub_u8 h0 h1).symm⟩
  rw [u8_ub]
  go_enter Try.func60, Try.ntmps60
  go_wp2
  all_goals go_ret
  · exact ⟨by rw [← dbl_hi a (by assumption)]; rfl, rfl⟩
  · exact ⟨by rw [← dbl_lo a (by assumption)]; rfl, rfl⟩
theorem prodLoop_zero (k : Nat) (a p : UInt8) : prodLoop k a 0 p = p := by cases k <;> simp [prodLoop]
theorem ub_zero : ub 0 = 0 := by unfold ub; rfl
theorem ub_half (b : UInt8) : ub b / (2 : Int) = ub (b >>> 1) := by
  have := all8 (fun b => decide (ub b / (2 : Int) = ub (b >>> 1))) (by decide +kernel) b
  simpa using this
theorem ub_odd (b : UInt8) : (bits .and .u8 (ub b) 1 == 1) = decide (b &&& 1 = 1) := by
  have := all8 (fun b => (bits .and .u8 (ub b) 1 == 1) == decide (b &&& 1 = 1)) (by decide +kernel) b
  simpa using this
theorem half_lt (b : UInt8) (k : Nat) (h : b.toNat < 2 ^ (k + 1)) : (b >>> 1).toNat < 2 ^ k := by
  have e : (b >>> 1).toNat = b.toNat / 2 := by
    have := all8 (fun b => decide ((b >>> 1).toNat = b.toNat / 2)) (by decide +kernel) b
    simpa using this
  rw [e]; omega
set_option maxRecDepth 100000 in
set_option maxHeartbeats 400000 in
theorem prod_any (x y : Int) (hx : 0 ≤ x) (hx' : x ≤ 255) (hy : 0 ≤ y) (hy' : y ≤ 255) (w : World) :
    Calls Try.prog 82 #[.int .u8 x, .int .u8 y] w fun e w' => e = .returned (.int .u8 (ub (prod (toB x) (toB y)))) ∧ w = w' := by
  obtain ⟨a, rfl⟩ : ∃ a, x = ub a := ⟨toB x, (ub_u8 hx hx').symm⟩
  obtain ⟨b, rfl⟩ : ∃ a, y = ub a := ⟨toB y, (ub_u8 hy hy').symm⟩
  rw [u8_ub, u8_ub]
  go_enter Try.func82, Try.ntmps82
  go_wp2
  go_loop [0, 1, 5] (fun x y p => ∃ (k : Nat) (a' b' p' : UInt8), x = .int .u8 (ub a') ∧ y = .int .u8 (ub b') ∧ p = .int .u8 (ub p') ∧ prodLoop k a' b' p' = prod a b ∧ b'.toNat < 2 ^ k) (fun _ y _ => (intOf y).toNat)
  case atStart => exact ⟨8, a, b, 0, rfl, rfl, by rw [ub_zero], rfl, b.toNat_lt⟩
  case round =>
    obtain ⟨k, a', b', p', rfl, rfl, rfl, hl, hk⟩ := hrel
    have H := Lib.hid hl; clear hl
    have H2 := Lib.hid hk; clear hk
    go_wp2_with (go_at_call 60; refine (double_any _ (by simp) (by simp) _).mono ?_; rintro e w' ⟨rfl, rfl⟩)
    · go_round
      case rel =>
        have hodd : (bits .and .u8 (ub b') 1 == 1) = true := by assumption
        rw [ub_odd, decide_eq_true_eq] at hodd
        have hl := H.out; have hk := H2.out
        rcases k with _ | k
        · exfalso
          have : 0 < ub b' := by assumption
          have : b' = 0 := by apply UInt8.toNat_inj.1; simp at hk ⊢; omega
          subst this; rw [ub_zero] at *; omega
        · refine ⟨k, dbl a', b' >>> 1, p' ^^^ a', rfl, by rw [ub_half], rfl, ?_, half_lt _ _ hk⟩
          rw [prodLoop, if_neg, if_pos hodd] at hl
          · exact hl
          · rintro rfl; simp at hodd
      case measure =>
        have hpos : 0 < ub b' := by assumption
        simp only [intOf]; omega
    · go_round
      case rel =>
        have hodd : (bits .and .u8 (ub b') 1 == 1) = false := by assumption
        have hpos : 0 < ub b' := by assumption
        rw [ub_odd, decide_eq_false_iff_not] at hodd
        have hl := H.out; have hk := H2.out
        have hne : b' ≠ 0 := by rintro rfl; rw [ub_zero] at hpos; omega
        rcases k with _ | k
        · exfalso
          apply hne
          apply UInt8.toNat_inj.1; simp at hk ⊢; omega
        · refine ⟨k, dbl a', b' >>> 1, p', rfl, by rw [ub_half], rfl, ?_, half_lt _ _ hk⟩
          rw [prodLoop, if_neg hne, if_neg hodd] at hl
          exact hl
      case measure =>
        have hpos : 0 < ub b' := by assumption
        simp only [intOf]; omega
    · go_ret
      have hz : ub b' ≤ 0 := by assumption
      have hz' : b' = 0 := by rw [← ub_inj, ub_zero]; have := ub_nonneg b'; omega
      have hl := H.out
      subst hz'
      rw [prodLoop_zero] at hl
      exact ⟨by rw [← hl]; rfl, rfl⟩
theorem prod_q (x y : Int) (hx : 0 ≤ x) (hx' : x ≤ 255) (hy : 0 ≤ y) (hy' : y ≤ 255) (w : World) (a n : Nat) :
    Calls Try.prog 82 #[.int .u8 x, .int .u8 y] (w.drewN (a + n)) fun e w'' => e = .returned (.int .u8 (ub (prod (toB x) (toB y)))) ∧ ∃ m, w'' = w.drewN (a + m) :=
  (prod_any x y hx hx' hy hy' _).mono fun _ _ ⟨he, hw⟩ => ⟨he, n, hw.symm⟩
theorem prod_q0 (x y : Int) (hx : 0 ≤ x) (hx' : x ≤ 255) (hy : 0 ≤ y) (hy' : y ≤ 255) (w : World) (n : Nat) :
    Calls Try.prog 82 #[.int .u8 x, .int .u8 y] (w.drewN n) fun e w'' => e = .returned (.int .u8 (ub (prod (toB x) (toB y)))) ∧ ∃ m, w'' = w.drewN m :=
  (prod_any x y hx hx' hy hy' _).mono fun _ _ ⟨he, hw⟩ => ⟨he, n, hw.symm⟩
theorem u8_2 : toB 2 = 2 := rfl
theorem u8_3 : toB 3 = 3 := rfl
theorem gb_set_ne (l : Bytes) (i j : Nat) (v : UInt8) (h : i ≠ j) : gb (l.set i v) j = gb l j := by simp [gb, h]
theorem mix_len (l : Bytes) (i : Nat) : (mixCol l i).length = l.length := by simp [mixCol]
set_option maxRecDepth 100000 in
set_option maxHeartbeats 800000 in
theorem mix_any (p T at_ : Nat) (t : Bytes) (w : World) (x : Int) (hx : x = at_) (hat : at_ + 4 ≤ 16) (ht : t.length = 16) (hp : Row w p T t) :
    Calls Try.prog 61 #[.pointer (some ⟨p, 0, none⟩), .int .i64 x] w fun e w' => e = .returned (.tuple #[]) ∧ Row w' p T (mixCol t at_) ∧ w.grownBy w' (some p) := by
  subst hx
  have h0 := Row.cell hp (i := at_) (by omega)
  have h1 := Row.cell hp (i := at_ + 1) (by omega)
  have h2 := Row.cell hp (i := at_ + 2) (by omega)
  have h3 := Row.cell hp (i := at_ + 3) (by omega)
  have f0 := Row.frozen hp at_
  have f1 := Row.frozen hp (at_ + 1)
  have f2 := Row.frozen hp (at_ + 2)
  have f3 := Row.frozen hp (at_ + 3)
  have HP := Lib.hid hp
  have HT := Lib.hid ht
  clear hp ht
  go_enter Try.func61, Try.ntmps61
  go_wp2
  go_quiet (fail)
  go_wp2
  refine wp_region_qt 13 (by kernel_rfl) (by kernel_rfl) ?_
  simp only [List.take_succ_cons, List.take_zero, List.drop_succ_cons, List.drop_zero]
  repeat (go_big_quiet_step ((go_at_call 82; exact prod_q _ _ (by simp) (by simp) (by simp) (by simp) _ _ _)))
  refine wpQuiet_nil ?_
  rintro _ ⟨nq1, rfl⟩
  go_wp2
  refine wp_region_qt 14 (by kernel_rfl) (by kernel_rfl) ?_
  simp only [List.take_succ_cons, List.take_zero, List.drop_succ_cons, List.drop_zero]
  repeat (go_big_quiet_step ((go_at_call 82; exact prod_q0 _ _ (by simp) (by simp) (by simp) (by simp) _ _)))
  refine wpQuiet_nil ?_
  rintro _ ⟨nq2, rfl⟩
  go_wp2
  refine wp_region_qt 14 (by kernel_rfl) (by kernel_rfl) ?_
  simp only [List.take_succ_cons, List.take_zero, List.drop_succ_cons, List.drop_zero]
  repeat (go_big_quiet_step ((go_at_call 82; exact prod_q0 _ _ (by simp) (by simp) (by simp) (by simp) _ _)))
  refine wpQuiet_nil ?_
  rintro _ ⟨nq3, rfl⟩
  go_wp2
  refine wp_region_qt 14 (by kernel_rfl) (by kernel_rfl) ?_
  simp only [List.take_succ_cons, List.take_zero, List.drop_succ_cons, List.drop_zero]
  repeat (go_big_quiet_step ((go_at_call 82; exact prod_q0 _ _ (by simp) (by simp) (by simp) (by simp) _ _)))
  refine wpQuiet_nil ?_
  rintro _ ⟨nq4, rfl⟩
  go_wp2
  go_end0
  refine ⟨rfl, ?_, ?_⟩
  · simp only [u8_2, u8_3, mixCol]
    have g1 := (HP.out.drewN (nq + nq1)).set at_ (prod (gb t at_) 2 ^^^ prod (gb t (at_ + 1)) 3 ^^^ gb t (at_ + 2) ^^^ gb t (at_ + 3))
    have g2 := (g1.drewN nq2).set (at_ + 1) (gb t at_ ^^^ prod (gb t (at_ + 1)) 2 ^^^ prod (gb t (at_ + 2)) 3 ^^^ gb t (at_ + 3))
    have g3 := (g2.drewN nq3).set (at_ + 2) (gb t at_ ^^^ gb t (at_ + 1) ^^^ prod (gb t (at_ + 2)) 2 ^^^ prod (gb t (at_ + 3)) 3)
    have g4 := (g3.drewN nq4).set (at_ + 3) (prod (gb t at_) 3 ^^^ gb t (at_ + 1) ^^^ gb t (at_ + 2) ^^^ prod (gb t (at_ + 3)) 2)
    with_reducible exact g4
  · with_reducible
      refine only_setCell (only_drewN (only_setCell (only_drewN (only_setCell (only_drewN (only_setCell (only_drewN ?_ _) ?_ _) _) ?_ _) _) ?_ _) _) ?_ _
    · exact only_refl _ _
    all_goals exact .inl rfl
end Go.Proofs.Ytjjcnijdjhhdoaa
end
/-! The walk of (*Cipher).Block: it answers blk. -/
section
namespace Go.Proofs.Ytjjcnijdjhhdoaa
open Go.RowKit Go.QT
attribute [local go_sem] bits_xor8 bits_or8 bits_and8 u8_ub
/-- A cipher: its box, its keys. -/
structure CAt (w : World) (c bx : Nat) (B K : Bytes) : Prop where
  c : Blk w c 106 (.pointer (some ⟨bx, 0, none⟩) :: vb K)
  b : Row w bx 135 B
  lb : B.length = 256
  lk : K.length = 176
theorem CAt.box {w : World} {c bx : Nat} {B K : Bytes} (h : CAt w c bx B K) : w.cell? ⟨c, 0, none⟩ = some (.pointer (some ⟨bx, 0, none⟩)) := by rw [Blk.cell h.c]; rfl
theorem CAt.key {w : World} {c bx : Nat} {B K : Bytes} (h : CAt w c bx B K) {i : Nat} (hi : i < 176) : w.cell? ⟨c, 1 + i, none⟩ = some (.int .u8 (ub (gb K i))) := by
  rw [Blk.cell h.c, Nat.add_comm, List.getElem?_cons_succ, vb_get K i (by rw [h.lk]; exact hi)]
theorem CAt.below {w w' : World} {c bx B0 : Nat} {B K : Bytes} (h : CAt w c bx B K) (hb : Below B0 w w') (h1 : c < B0) (h2 : bx < B0) : CAt w' c bx B K :=
  ⟨h.c.below hb h1, h.b.below hb h2, h.lb, h.lk⟩
theorem ty22 : Try.prog.underlying 22 = some (.array 16 5) := by kernel_rfl
theorem i22 : (Try.prog.info? 22).map (·.size) = some 16 := by kernel_rfl
theorem i22s (l : Bytes) (h : l.length = 16) : (Try.prog.info? 22).map (·.size) = some (vb l).toArray.size := by rw [i22]; simp [h]
theorem addTo_length (s K : Bytes) (o i : Nat) : (addTo s K o i).length = s.length := by
  induction i with
  | zero => rfl
  | succ i ih => simp [addTo, ih]
theorem putTo_length (s t K : Bytes) (o i : Nat) : (putTo s t K o i).length = s.length := by
  induction i with
  | zero => rfl
  | succ i ih => simp [putTo, ih]
theorem subTo_length (B s : Bytes) (i : Nat) : (subTo B s i).length = 16 := by
  induction i with
  | zero => rfl
  | succ i ih => simp [subTo, ih]
theorem mixTo_length (t : Bytes) (i : Nat) : (mixTo t i).length = t.length := by
  induction i with
  | zero => rfl
  | succ i ih => simp [mixTo, mix_len, ih]
theorem roundsTo_length (B K s : Bytes) (hs : s.length = 16) (n : Nat) : (roundsTo B K s n).length = 16 := by
  induction n with
  | zero => simp [roundsTo, addTo_length, hs]
  | succ i ih => simp [roundsTo, putTo_length, ih]
set_option maxRecDepth 100000 in
set_option maxHeartbeats 400000 in
theorem block_any (c bx : Nat) (B K s : Bytes) (w : World) (hs : s.length = 16) (hc : CAt w c bx B K) :
    Calls Try.prog 17 #[.pointer (some ⟨c, 0, none⟩), .agg (vb s).toArray] w fun e w' => e = .returned (.agg (vb (blk B K s)).toArray) ∧ Below w.heap.size w w' := by
  have h3 : Row (w.alloc (.cells (vb s).toArray 22)) w.heap.size 22 s := Row.new _ _ _
  have hi := i22s s hs
  have hz : (16 : Nat) = (vb s).toArray.size := by simp [hs]
  have Hz := Lib.hid hz
  clear hz
  have hcl : c < w.heap.size := hc.c.lt
  have hbl : bx < w.heap.size := hc.b.lt
  go_enter Try.func17, Try.ntmps17
  go_upto_region 2 with (first | (refine wpList_load_row rfl 22 _ rfl w.heap.size rfl _ (vb s).toArray (0, 0) _ (Row.alloc h3 _) ty22 rfl hi ?_) | (refine wpList_store_row rfl 22 _ _ rfl (w.heap.size + 2) (vb s).toArray rfl rfl _ _ (new3 w _ _ _ _) hi (by exact Hz.out) (vb_one s) ?_))
  go_wp2
  go_loopw [13] (fun i wr => ∃ k : Nat, k ≤ 16 ∧ i = .int .i64 k ∧ Row wr (w.heap.size + 1 + 1) 22 (addTo s K 0 k) ∧ (∃ Z, Z.length = 16 ∧ Blk wr (w.heap.size + 1) 22 Z) ∧ Below w.heap.size w wr) (fun i _ => 16 - (intOf i).toNat)
  case atStart => exact ⟨0, by omega, rfl, (by exact setRow_heap _ _ _ _ 22 _ (new3 w _ _ 22 _)), ⟨_, by rfl, (Blk.alloc (T := 22) (cs := List.replicate 16 (.int .u8 0)) (by exact new2 w _ 22 _) _).setRow_far (by omega) _⟩, below_setRow' (((((Below.refl _ _).alloc (Nat.le_refl _) _).alloc (by simp) _).alloc (by simp; omega) _)) (by omega) _⟩
  case round =>
    obtain ⟨k, hk, rfl, hS, hZ, hB⟩ := hrel
    have hcr := hc.below hB hcl hbl
    have hl : (addTo s K 0 k).length = 16 := by rw [addTo_length, hs]
    by_cases hlt : k < 16
    · have e1 := Row.cell hS (i := k) (by omega)
      have e2 := hcr.key (i := k) (by omega)
      have e3 := Row.frozen hS k
      have HZ := Lib.hid hZ
      have HS := Lib.hid hS
      have HL := Lib.hid hl
      clear hZ hS hl
      go_wp2
      refine wp_region_qt 12 (by kernel_rfl) (by kernel_rfl) ?_
      simp only [List.take_succ_cons, List.take_zero, List.drop_succ_cons, List.drop_zero]
      repeat (go_big_quiet_step (fail))
      refine wpQuiet_nil ?_
      rintro _ ⟨nq1, rfl⟩
      go_wp2
      go_roundw
      case rel => exact ⟨k + 1, by omega, by go_num, (by have := (HS.out.drewN nq1).set k (gb (addTo s K 0 k) k ^^^ gb K k); simpa [addTo] using this), (by obtain ⟨Z, h1, h2⟩ := HZ.out; exact ⟨Z, h1, (h2.drewN _).far (by simp) _⟩), (below_drewN hB _).setCell (by simp; omega) _⟩
      case measure => simp [intOf]; omega
    · have hk' : k = 16 := by omega
      rw [hk'] at hS
      clear hk' hl
      go_wp2
      obtain ⟨w1, rfl⟩ : ∃ w1 : World, w1 = wr := ⟨_, rfl⟩
      have hS' : Row w1 (w.heap.size + 1 + 1) 22 (roundsTo B K s 0) := hS
      clear hS
      go_loopw [7] (fun i wr => ∃ n : Nat, n ≤ 10 ∧ i = .int .i64 (↑n + 1) ∧ Row wr (w.heap.size + 1 + 1) 22 (roundsTo B K s n) ∧ (∃ Z, Z.length = 16 ∧ Blk wr (w.heap.size + 1) 22 Z) ∧ Below w.heap.size w wr) (fun i _ => 11 - (intOf i).toNat)
      case atStart => exact ⟨0, by omega, by go_num, hS', hZ, hB⟩
      case round =>
        clear hS' hB hZ hcr
        obtain ⟨n, hn, rfl, hS, hZ, hB⟩ := hrel
        have hcr := hc.below hB hcl hbl
        have HZ := Lib.hid hZ
        have HS := Lib.hid hS
        clear hZ hS
        by_cases hlt : n < 10
        · obtain ⟨w2, rfl⟩ : ∃ w1 : World, w1 = wr := ⟨_, rfl⟩
          have hd : decide ((n : Int) + 1 < 11) = true := by simp; omega
          have hls : w.heap.size + 1 + 1 < w2.heap.size := HS.out.lt
          go_upto_region 11 with (fail)
          go_wp2
          go_loopw [33] (fun i wr => ∃ k : Nat, k ≤ 16 ∧ i = .int .i64 k ∧ Row wr (w.heap.size + 1 + 1) 22 (roundsTo B K s n) ∧ Row wr w2.heap.size 22 (subTo B (roundsTo B K s n) k) ∧ (∃ Z, Z.length = 16 ∧ Blk wr (w.heap.size + 1) 22 Z) ∧ Below w.heap.size w wr) (fun i _ => 16 - (intOf i).toNat)
          case atStart => exact ⟨0, by omega, rfl, Row.alloc HS.out _, (by have := Row.new w2 22 (List.replicate 16 0); rw [vb_zeros] at this; exact this), (by obtain ⟨Z, h1, h2⟩ := HZ.out; exact ⟨Z, h1, h2.alloc _⟩), hB.alloc (by omega) _⟩
          case round =>
            clear HZ hB hcr
            obtain ⟨k, hk, rfl, hS, hT, hZ, hB⟩ := hrel
            have hcr := hc.below hB hcl hbl
            have HZ := Lib.hid hZ
            have HS' := Lib.hid hS
            clear hZ
            by_cases hk16 : k < 16
            · have e1 := Row.cell hS (i := (k+4*(k%4))%16) (by rw [roundsTo_length _ _ _ hs]; omega)
              have e0 := hcr.box
              have e2 := Row.cell hcr.b (i := nb (gb (roundsTo B K s n) ((k+4*(k%4))%16))) (by rw [hcr.lb]; exact nb_lt _)
              have e3 := Row.frozen hT k
              have e4 := Row.cell hT (i := k) (by rw [subTo_length]; exact hk16)
              have HT := Lib.hid hT
              clear hS hT
              go_wp2
              refine wp_region_qt 17 (by kernel_rfl) (by kernel_rfl) ?_
              simp only [List.take_succ_cons, List.take_zero, List.drop_succ_cons, List.drop_zero]
              repeat (go_big_quiet_step (fail))
              refine wpQuiet_nil ?_
              rintro _ ⟨nq1, rfl⟩
              go_wp2
              go_roundw
              case rel => exact ⟨k + 1, by omega, by go_num, (HS'.out.drewN _).far (by simp; omega) _, (HT.out.drewN _).set _ _, (by obtain ⟨Z, h1, h2⟩ := HZ.out; exact ⟨Z, h1, (h2.drewN _).far (by simp; omega) _⟩), (below_drewN hB _).setCell (by simp; omega) _⟩
              case measure => simp [intOf]; omega
            · have hk' : k = 16 := by omega
              rw [hk'] at hT
              clear hk'
              obtain ⟨w3, rfl⟩ : ∃ w1 : World, w1 = wr := ⟨_, rfl⟩
              clear hS hcr
              have HT := Lib.hid hT
              clear hT
              by_cases hn9 : n < 9
              · go_wp2
                have hd10 : decide ((n : Int) + 1 < 10) = true := by simp; omega
                go_loopw [10] (fun i wr => ∃ k : Nat, k ≤ 4 ∧ i = .int .i64 (4 * ↑k) ∧ Row wr (w.heap.size + 1 + 1) 22 (roundsTo B K s n) ∧ Row wr w2.heap.size 22 (mixTo (subTo B (roundsTo B K s n) 16) k) ∧ (∃ Z, Z.length = 16 ∧ Blk wr (w.heap.size + 1) 22 Z) ∧ Below w.heap.size w wr) (fun i _ => 16 - (intOf i).toNat)
                case atStart => exact ⟨0, by omega, rfl, HS'.out, HT.out, HZ.out, hB⟩
                case round =>
                  clear HZ hB HT HS'
                  obtain ⟨k, hk, rfl, hS, hT, hZ, hB⟩ := hrel
                  have HZ := Lib.hid hZ
                  have HS := Lib.hid hS
                  have HT := Lib.hid hT
                  clear hZ hS hT
                  by_cases hk4 : k < 4
                  · have hx4 : (4 : Int) * ↑k = ((4 * k : Nat) : Int) := by omega
                    have hl4 : (mixTo (subTo B (roundsTo B K s n) 16) k).length = 16 := by rw [mixTo_length, subTo_length]
                    have Hx4 := Lib.hid hx4
                    have Hl4 := Lib.hid hl4
                    clear hx4 hl4
                    go_wp2_with (go_at_call 61; (with_reducible refine (mix_any _ 22 (4 * k) _ _ _ Hx4.out (by omega) Hl4.out HT.out).mono ?_); rintro e w' ⟨rfl, hr1, hr2⟩)
                    go_roundw
                    case rel => exact ⟨k + 1, by omega, by go_num, Blk.grown HS.out hr2 (by simp; omega), hr1, (by obtain ⟨Z, h1, h2⟩ := HZ.out; exact ⟨Z, h1, h2.grown hr2 (by simp; omega)⟩), hB.grown hr2 (by have := hB.size; omega) (by rintro k hk; cases hk; omega)⟩
                    case measure => simp [intOf]; omega
                  · have hk' : k = 4 := by omega
                    rw [hk'] at HT
                    clear hk'
                    obtain ⟨w4, rfl⟩ : ∃ w1 : World, w1 = wr := ⟨_, rfl⟩
                    go_wp2
                    go_loopw [64] (fun i wr => ∃ k : Nat, k ≤ 16 ∧ i = .int .i64 k ∧ Row wr (w.heap.size + 1 + 1) 22 (putTo (roundsTo B K s n) (mixTo (subTo B (roundsTo B K s n) 16) 4) K (16 * (n + 1)) k) ∧ Row wr w2.heap.size 22 (mixTo (subTo B (roundsTo B K s n) 16) 4) ∧ (∃ Z, Z.length = 16 ∧ Blk wr (w.heap.size + 1) 22 Z) ∧ Below w.heap.size w wr) (fun i _ => 16 - (intOf i).toNat)
                    case atStart => exact ⟨0, by omega, rfl, HS.out, HT.out, HZ.out, hB⟩
                    case round =>
                      clear HZ HS HT hB
                      obtain ⟨k, hk, rfl, hS, hT, hZ, hB⟩ := hrel
                      have hcr := hc.below hB hcl hbl
                      by_cases hlt5 : k < 16
                      · have e1 := Row.cell hT (i := k) (by rw [mixTo_length, subTo_length]; omega)
                        have e2 := hcr.key (i := 16 * (n + 1) + k) (by omega)
                        have e2' : wr.cell? ⟨c, 1 + (n + 1) * 16 + k, none⟩ = some (.int .u8 (ub (gb K (16 * (n + 1) + k)))) := by rw [← e2, Nat.add_assoc, Nat.mul_comm]
                        have e3 := Row.frozen hS k
                        have e4 := Row.cell hS (i := k) (by rw [putTo_length, roundsTo_length _ _ _ hs]; omega)
                        have HZ := Lib.hid hZ
                        have HS := Lib.hid hS
                        have HT := Lib.hid hT
                        clear hZ hS hT e2
                        go_wp2
                        refine wp_region_qt 14 (by kernel_rfl) (by kernel_rfl) ?_
                        simp only [List.take_succ_cons, List.take_zero, List.drop_succ_cons, List.drop_zero]
                        repeat (go_big_quiet_step (fail))
                        refine wpQuiet_nil ?_
                        rintro _ ⟨nq1, rfl⟩
                        go_wp2
                        go_roundw
                        case rel => exact ⟨k + 1, by omega, by go_num, (HS.out.drewN _).set _ _, (HT.out.drewN _).far (by simp; omega) _, (by obtain ⟨Z, h1, h2⟩ := HZ.out; exact ⟨Z, h1, (h2.drewN _).far (by simp) _⟩), (below_drewN hB _).setCell (by simp; omega) _⟩
                        case measure => simp [intOf]; omega
                      · have hk' : k = 16 := by omega
                        rw [hk'] at hS
                        clear hk'
                        go_wp2
                        refine ⟨⟨n + 1, by omega, by go_num, (by rw [roundsTo, if_pos (by omega)]; exact hS), hZ, hB⟩, by simp [intOf]; omega⟩
              · have hd10 : decide ((n : Int) + 1 < 10) = false := by simp; omega
                go_wp2_with fail
                refine wp_loop_rounds 1 ?_
                rw [rounds_succ]
                go_wp2
                go_loopw [64] (fun i wr => ∃ k : Nat, k ≤ 16 ∧ i = .int .i64 k ∧ Row wr (w.heap.size + 1 + 1) 22 (putTo (roundsTo B K s n) (subTo B (roundsTo B K s n) 16) K (16 * (n + 1)) k) ∧ Row wr w2.heap.size 22 (subTo B (roundsTo B K s n) 16) ∧ (∃ Z, Z.length = 16 ∧ Blk wr (w.heap.size + 1) 22 Z) ∧ Below w.heap.size w wr) (fun i _ => 16 - (intOf i).toNat)
                case atStart => exact ⟨0, by omega, rfl, HS'.out, HT.out, HZ.out, hB⟩
                case round =>
                  clear HZ HS' HT hB
                  obtain ⟨k, hk, rfl, hS, hT, hZ, hB⟩ := hrel
                  have hcr := hc.below hB hcl hbl
                  by_cases hlt5 : k < 16
                  · have e1 := Row.cell hT (i := k) (by rw [subTo_length]; omega)
                    have e2 := hcr.key (i := 16 * (n + 1) + k) (by omega)
                    have e2' : wr.cell? ⟨c, 1 + (n + 1) * 16 + k, none⟩ = some (.int .u8 (ub (gb K (16 * (n + 1) + k)))) := by rw [← e2, Nat.add_assoc, Nat.mul_comm]
                    have e3 := Row.frozen hS k
                    have e4 := Row.cell hS (i := k) (by rw [putTo_length, roundsTo_length _ _ _ hs]; omega)
                    have HZ := Lib.hid hZ
                    have HS := Lib.hid hS
                    have HT := Lib.hid hT
                    clear hZ hS hT e2
                    go_wp2
                    refine wp_region_qt 14 (by kernel_rfl) (by kernel_rfl) ?_
                    simp only [List.take_succ_cons, List.take_zero, List.drop_succ_cons, List.drop_zero]
                    repeat (go_big_quiet_step (fail))
                    refine wpQuiet_nil ?_
                    rintro _ ⟨nq1, rfl⟩
                    go_wp2
                    go_roundw
                    case rel => exact ⟨k + 1, by omega, by go_num, (HS.out.drewN _).set _ _, (HT.out.drewN _).far (by simp; omega) _, (by obtain ⟨Z, h1, h2⟩ := HZ.out; exact ⟨Z, h1, (h2.drewN _).far (by simp) _⟩), (below_drewN hB _).setCell (by simp; omega) _⟩
                    case measure => simp [intOf]; omega
                  · have hk' : k = 16 := by omega
                    rw [hk'] at hS
                    clear hk'
                    go_wp2
                    refine ⟨⟨n + 1, by omega, by go_num, (by rw [roundsTo, if_neg (by omega)]; exact hS), hZ, hB⟩, by simp [intOf]; omega⟩
        · have hn' : n = 10 := by omega
          rw [hn'] at HS
          clear hn'
          obtain ⟨Z, hzl, hz⟩ := HZ.out
          have hrow : Row wr (w.heap.size + 1 + 1) 22 (blk B K s) := HS.out
          have hbl16 : (blk B K s).length = 16 := roundsTo_length _ _ _ hs 10
          have hi2 := i22s _ hbl16
          have hz2 : Z.toArray.size = (vb (blk B K s)).toArray.size := by simp [hzl, hbl16]
          have Hz2 := Lib.hid hz2
          clear hz2 hbl16 hzl
          go_wp2_with (first | (refine wpList_load_row rfl 22 _ rfl (w.heap.size + 1 + 1) rfl _ (vb (blk B K s)).toArray (0, 0) _ hrow ty22 rfl hi2 ?_) | (refine wpList_store_row rfl 22 _ _ rfl (w.heap.size + 1) (vb (blk B K s)).toArray rfl rfl _ _ hz hi2 (by exact Hz2.out) (vb_one _) ?_))
          refine bodyPost_ret (results_cell_row (p := 4) (ty := 22) rfl _ _ (w.heap.size + 1) 22 (vb (blk B K s)).toArray (0, 0) _ rfl (by exact setRow_heap _ _ _ _ 22 _ hz) ty22 rfl hi2) rfl ?_
          exact ⟨rfl, below_setRow' hB (by omega) _⟩
end Go.Proofs.Ytjjcnijdjhhdoaa
end
/-! The walk of box: it answers a pointer to a new row, sbox. -/
section
namespace Go.Proofs.Ytjjcnijdjhhdoaa
open Go.RowKit Go.QT
theorem bits_sh1 (q : UInt8) : bits .xor .u8 (ub q) (ub q * (2 : Int) % (256 : Int)) = ub (sh1 q) := by
  have := all8 (fun q => decide (bits .xor .u8 (ub q) (ub q * (2 : Int) % (256 : Int)) = ub (sh1 q))) (by decide +kernel) q
  simpa using this
theorem bits_sh2 (q : UInt8) : bits .xor .u8 (ub q) (ub q * (4 : Int) % (256 : Int)) = ub (sh2 q) := by
  have := all8 (fun q => decide (bits .xor .u8 (ub q) (ub q * (4 : Int) % (256 : Int)) = ub (sh2 q))) (by decide +kernel) q
  simpa using this
theorem bits_sh4 (q : UInt8) : bits .xor .u8 (ub q) (ub q * (16 : Int) % (256 : Int)) = ub (sh4 q) := by
  have := all8 (fun q => decide (bits .xor .u8 (ub q) (ub q * (16 : Int) % (256 : Int)) = ub (sh4 q))) (by decide +kernel) q
  simpa using this
theorem bits_9 (q : UInt8) : bits .xor .u8 (ub q) 9 = ub (q ^^^ 9) := by
  have := all8 (fun q => decide (bits .xor .u8 (ub q) 9 = ub (q ^^^ 9))) (by decide +kernel) q
  simpa using this
theorem bits_99 (q : UInt8) : bits .xor .u8 (ub q) 99 = ub (q ^^^ 99) := by
  have := all8 (fun q => decide (bits .xor .u8 (ub q) 99 = ub (q ^^^ 99))) (by decide +kernel) q
  simpa using this
theorem bits_rot1 (q : UInt8) : bits .or .u8 (ub q * (2 : Int) % (256 : Int)) (ub q / (128 : Int)) = ub (rot q 1) := by
  have := all8 (fun q => decide (bits .or .u8 (ub q * (2 : Int) % (256 : Int)) (ub q / (128 : Int)) = ub (rot q 1))) (by decide +kernel) q
  simpa using this
theorem bits_rot2 (q : UInt8) : bits .or .u8 (ub q * (4 : Int) % (256 : Int)) (ub q / (64 : Int)) = ub (rot q 2) := by
  have := all8 (fun q => decide (bits .or .u8 (ub q * (4 : Int) % (256 : Int)) (ub q / (64 : Int)) = ub (rot q 2))) (by decide +kernel) q
  simpa using this
theorem bits_rot3 (q : UInt8) : bits .or .u8 (ub q * (8 : Int) % (256 : Int)) (ub q / (32 : Int)) = ub (rot q 3) := by
  have := all8 (fun q => decide (bits .or .u8 (ub q * (8 : Int) % (256 : Int)) (ub q / (32 : Int)) = ub (rot q 3))) (by decide +kernel) q
  simpa using this
theorem bits_rot4 (q : UInt8) : bits .or .u8 (ub q * (16 : Int) % (256 : Int)) (ub q / (16 : Int)) = ub (rot q 4) := by
  have := all8 (fun q => decide (bits .or .u8 (ub q * (16 : Int) % (256 : Int)) (ub q / (16 : Int)) = ub (rot q 4))) (by decide +kernel) q
  simpa using this
attribute [local go_sem] bits_rot1 bits_rot2 bits_rot3 bits_rot4 bits_xor8 bits_or8 bits_and8 u8_ub bits_sh1 bits_sh2 bits_sh4 bits_9 bits_99
theorem i135 : (Try.prog.info? 135).map (·.size) = some 256 := by kernel_rfl
theorem boxTo_length (n : Nat) : (boxTo n).out.length = 256 := by
  induction n with
  | zero => exact List.length_replicate
  | succ n ih => exact List.length_set.trans ih
set_option maxRecDepth 100000 in
set_option maxHeartbeats 400000 in
theorem box_any (w : World) :
    Calls Try.prog 59 #[] w fun e w' => e = .returned (.pointer (some ⟨w.heap.size, 0, none⟩)) ∧ Row w' w.heap.size 135 sbox ∧ Below w.heap.size w w' := by
  go_enter Try.func59, Try.ntmps59
  have hz : Row (w.alloc (.cells Try.zeroCells135 135)) w.heap.size 135 (List.replicate 256 0) := by
    have h := heap_alloc_new w (.cells Try.zeroCells135 135)
    have e : Try.zeroCells135 = (List.replicate 256 (Value.int .u8 0)).toArray := by kernel_rfl
    unfold Row Blk; rw [vb_zeros, h, e]
  go_upto_region 2 with (fail)
  have hB : Below w.heap.size w (w.alloc (.cells Try.zeroCells135 135)) := (Below.refl _ _).alloc (Nat.le_refl _) _
  generalize w.alloc (.cells Try.zeroCells135 135) = w1 at *
  go_wp2
  go_loopw [2, 3, 6] (fun p q i wr => ∃ n : Nat, n ≤ 255 ∧ i = .int .i64 n ∧ p = .int .u8 (ub (boxTo n).p) ∧ q = .int .u8 (ub (boxTo n).q) ∧ Row wr w.heap.size 135 (boxTo n).out ∧ Below w.heap.size w wr) (fun _ _ i _ => 255 - (intOf i).toNat)
  case atStart => exact ⟨0, by omega, rfl, by rw [show (boxTo 0).p = 1 from rfl]; simp [ub], by rw [show (boxTo 0).q = 1 from rfl]; simp [ub], hz, hB⟩
  case round =>
    clear hz hB
    obtain ⟨n, hn, rfl, rfl, rfl, hR, hB⟩ := hrel
    have HR := Lib.hid hR
    clear hR
    by_cases hlt : n < 255
    · have hpn : (boxTo (n+1)).p = (boxTo n).p ^^^ dbl (boxTo n).p := rfl
      have hqn : (boxTo (n+1)).q = boxQ (boxTo n).q := rfl
      have hon : (boxTo (n+1)).out = (boxTo n).out.set (nb ((boxTo n).p ^^^ dbl (boxTo n).p)) (boxX (boxQ (boxTo n).q) 4 ^^^ 99) := rfl
      have HP := Lib.hid hpn
      have HQ := Lib.hid hqn
      have HO := Lib.hid hon
      clear hpn hqn hon
      generalize (boxTo n).p = p at *
      generalize (boxTo n).q = q at *
      by_cases hq : 128 ≤ sh4 (sh2 (sh1 q))
      · have hq' : 128 ≤ ub (sh4 (sh2 (sh1 q))) := by
          rw [UInt8.le_iff_toNat_le] at hq; unfold ub; simp at hq ⊢; omega
        have e : sh4 (sh2 (sh1 q)) ^^^ 9 = boxQ q := by rw [boxQ, if_pos hq]
        go_wp2_with (go_at_call 60; refine (double_any _ (by simp) (by simp) _).mono ?_; rintro e w' ⟨rfl, rfl⟩)
        obtain ⟨w2, rfl⟩ : ∃ w1 : World, w1 = wr := ⟨_, rfl⟩
        clear e hq' hq
        generalize boxQ q = q' at *
        go_loopw [4, 5] (fun x n wr => ∃ k m : Nat, k ≤ 4 ∧ x = .int .u8 (ub (boxX q' k)) ∧ n = .int .i64 (↑k + 1) ∧ wr = w2.drewN m) (fun _ n _ => 5 - (intOf n).toNat)
        case atStart => exact ⟨0, 0, by omega, rfl, by go_num, rfl⟩
        case round =>
          obtain ⟨k, m, hk, rfl, rfl, rfl⟩ := hrel
          by_cases hk4 : k < 4
          · have hk' : k = 0 ∨ k = 1 ∨ k = 2 ∨ k = 3 := by omega
            have Hx : Hid (boxX q' (k+1) = boxX q' k ^^^ rot q' (k+1)) := rfl
            rcases hk' with rfl | rfl | rfl | rfl
            all_goals
              go_wp2
              go_quiet (fail)
              go_wp2
              refine ⟨⟨_, m + nq, ?_, by rw [← Hx.out], ?_, rfl⟩, by simp [intOf]⟩
              · omega
              · rfl
          · have hk' : k = 4 := by omega
            rw [hk'] at *
            have HR' : Row w2 w.heap.size 135 (boxTo n).out := HR.out
            have hlen : (boxTo n).out.length = 256 := boxTo_length n
            have c1 := Row.cell HR' (i := nb (p ^^^ dbl p)) (by rw [hlen]; exact nb_lt _)
            have f1 := Row.frozen HR' (nb (p ^^^ dbl p))
            have hnb : nb (p ^^^ dbl p) < 256 := nb_lt _
            clear hlen
            have HR2 := Lib.hid HR'
            clear HR'
            go_wp2
            refine ⟨⟨n + 1, by omega, by go_num, by rw [HP.out], by rw [HQ.out], by rw [HO.out]; exact (HR2.out.drewN _).set _ _, (below_drewN hB _).setCell (Nat.le_refl _) _⟩, by simp [intOf]; omega⟩
      · have hq' : ub (boxQ q) < 128 := by
          rw [boxQ, if_neg hq]; rw [UInt8.le_iff_toNat_le] at hq; unfold ub; simp at hq ⊢; omega
        have e : sh4 (sh2 (sh1 q)) = boxQ q := by rw [boxQ, if_neg hq]
        go_wp2_with (go_at_call 60; refine (double_any _ (by simp) (by simp) _).mono ?_; rintro e w' ⟨rfl, rfl⟩)
        obtain ⟨w2, rfl⟩ : ∃ w1 : World, w1 = wr := ⟨_, rfl⟩
        clear hq' hq
        clear e
        generalize boxQ q = q' at *
        go_loopw [4, 5] (fun x n wr => ∃ k m : Nat, k ≤ 4 ∧ x = .int .u8 (ub (boxX q' k)) ∧ n = .int .i64 (↑k + 1) ∧ wr = w2.drewN m) (fun _ n _ => 5 - (intOf n).toNat)
        case atStart => exact ⟨0, 0, by omega, rfl, by go_num, rfl⟩
        case round =>
          obtain ⟨k, m, hk, rfl, rfl, rfl⟩ := hrel
          by_cases hk4 : k < 4
          · have hk' : k = 0 ∨ k = 1 ∨ k = 2 ∨ k = 3 := by omega
            have Hx : Hid (boxX q' (k+1) = boxX q' k ^^^ rot q' (k+1)) := rfl
            rcases hk' with rfl | rfl | rfl | rfl
            all_goals
              go_wp2
              go_quiet (fail)
              go_wp2
              refine ⟨⟨_, m + nq, ?_, by rw [← Hx.out], ?_, rfl⟩, by simp [intOf]⟩
              · omega
              · rfl
          · have hk' : k = 4 := by omega
            rw [hk'] at *
            have HR' : Row w2 w.heap.size 135 (boxTo n).out := HR.out
            have hlen : (boxTo n).out.length = 256 := boxTo_length n
            have c1 := Row.cell HR' (i := nb (p ^^^ dbl p)) (by rw [hlen]; exact nb_lt _)
            have f1 := Row.frozen HR' (nb (p ^^^ dbl p))
            have hnb : nb (p ^^^ dbl p) < 256 := nb_lt _
            clear hlen
            have HR2 := Lib.hid HR'
            clear HR'
            go_wp2
            refine ⟨⟨n + 1, by omega, by go_num, by rw [HP.out], by rw [HQ.out], by rw [HO.out]; exact (HR2.out.drewN _).set _ _, (below_drewN hB _).setCell (Nat.le_refl _) _⟩, by simp [intOf]; omega⟩
    · have hn' : n = 255 := by omega
      have HR' : Row wr w.heap.size 135 (boxTo 255).out := by rw [← hn']; exact HR.out
      have c1 := Row.cell HR' (i := 0) (by rw [boxTo_length]; omega)
      have f1 := Row.frozen HR' 0
      have HR2 := Lib.hid HR'
      clear HR' hn'
      go_wp2
      go_ret
      refine ⟨rfl, ?_, hB.setCell (Nat.le_refl _) _⟩
      have h99 : ub 99 = 99 := by simp [ub]
      have := HR2.out.set 0 99
      rw [h99] at this
      exact this
end Go.Proofs.Ytjjcnijdjhhdoaa
end
/-! The walk of New: it answers a pointer to a cipher of the key. -/
section
namespace Go.Proofs.Ytjjcnijdjhhdoaa
open Go.RowKit Go.QT
attribute [local go_sem] bits_xor8 bits_or8 bits_and8 u8_ub
theorem ty42 : Try.prog.underlying 42 = some (.array 16 5) := by kernel_rfl
theorem i42 : (Try.prog.info? 42).map (·.size) = some 16 := by kernel_rfl
theorem sbox_length : sbox.length = 256 := List.length_set.trans (boxTo_length 255)
theorem key0 (k : Bytes) (p : Value) : (p :: vb (keysTo sbox k 0).1) = (p :: vb (List.replicate 176 0)).take 1 ++ vb k ++ (p :: vb (List.replicate 176 0)).drop (1 + 16) := by
  simp only [keysTo, vb_append, List.take_succ_cons, List.take_zero, List.cons_append, List.nil_append]
  rw [Nat.add_comm, List.drop_succ_cons, vb_zeros, vb_zeros, List.drop_replicate]
theorem keyRow_length (B K was : Bytes) (r : UInt8) (n i : Nat) : (keyRow B K was r n i).length = K.length := by
  induction i with
  | zero => rfl
  | succ i ih => exact List.length_set.trans ih
theorem keysTo_length (B k : Bytes) (n : Nat) (hk : k.length = 16) : (keysTo B k n).1.length = 176 := by
  induction n with
  | zero => simp [keysTo, hk]
  | succ n ih => exact (keyRow_length _ _ _ _ _ _).trans ih
theorem Blk.setKey {w : World} {c T : Nat} {p : Value} {L : Bytes} (h : Blk w c T (p :: vb L)) (m j : Nat) (v : UInt8) :
    Blk (w.setCell ⟨c, 1 + m * 16 + j, none⟩ (.int .u8 (ub v))) c T (p :: vb (L.set (16 * m + j) v)) := by
  have := Blk.set h (1 + m * 16 + j) (.int .u8 (ub v))
  rw [show 1 + m * 16 + j = (16 * m + j) + 1 by omega, List.set_cons_succ, vb_set] at this
  rwa [show 1 + m * 16 + j = (16 * m + j) + 1 by omega]
def NewPost (w : World) (k : Bytes) (e : Ending) (w' : World) : Prop := ∃ c bx : Nat, e = .returned (.pointer (some ⟨c, 0, none⟩)) ∧ CAt w' c bx sbox (keys sbox k) ∧ w.heap.size ≤ c ∧ w.heap.size ≤ bx ∧ Below w.heap.size w w'
set_option maxRecDepth 100000 in
set_option maxHeartbeats 800000 in
theorem new_any (k : Bytes) (w : World) (hk : k.length = 16) :
    Calls Try.prog 16 #[.agg (vb k).toArray] w (NewPost w k) := by
  go_enter Try.func16, Try.ntmps16
  go_upto_region 2 with (go_at_call 59; refine (box_any _).mono ?_; rintro e w1 ⟨rfl, hr, hb⟩)
  have hk1 : Row w1 w.heap.size 42 k := (Row.new w 42 k).below hb (by simp)
  have hB1 : Below w.heap.size w w1 := ((Below.refl _ _).alloc (Nat.le_refl _) _).trans (hb.mono (by simp))
  have hs1 : w.heap.size + 1 < w1.heap.size := by have := Row.lt hr; simpa using this
  have hc1 : Blk (w1.alloc (.cells (Try.zeroCells106.setIfInBounds 0 (.pointer (some ⟨w.heap.size + 1, 0, none⟩))) 106)) w1.heap.size 106 (.pointer (some ⟨w.heap.size + 1, 0, none⟩) :: vb (List.replicate 176 0)) := by
    have e : Try.zeroCells106.setIfInBounds 0 (.pointer (some ⟨w.heap.size + 1, 0, none⟩)) = (Value.pointer (some ⟨w.heap.size + 1, 0, none⟩) :: List.replicate 176 (Value.int .u8 0)).toArray := by kernel_rfl
    rw [e, vb_zeros]; exact Blk.new _ _ _
  have hr2 : Row w1 (w.heap.size + 1) 135 sbox := by simpa using hr
  have hr3 := Row.alloc hr2 (.cells (Try.zeroCells106.setIfInBounds 0 (.pointer (some ⟨w.heap.size + 1, 0, none⟩))) 106)
  have hk3 := Row.alloc hk1 (.cells (Try.zeroCells106.setIfInBounds 0 (.pointer (some ⟨w.heap.size + 1, 0, none⟩))) 106)
  have hB3 := hB1.alloc (by omega) (.cells (Try.zeroCells106.setIfInBounds 0 (.pointer (some ⟨w.heap.size + 1, 0, none⟩))) 106)
  have hs3 : (w1.alloc (.cells (Try.zeroCells106.setIfInBounds 0 (.pointer (some ⟨w.heap.size + 1, 0, none⟩))) 106)).heap.size = w1.heap.size + 1 := by simp
  generalize w1.alloc (.cells (Try.zeroCells106.setIfInBounds 0 (.pointer (some ⟨w.heap.size + 1, 0, none⟩))) 106) = w3 at *
  generalize w1.heap.size = c at *
  clear hr hr2 hk1 hB1 hb
  have HC := Lib.hid hc1
  have HR := Lib.hid hr3
  have HS := Lib.hid hs3
  clear hc1 hr3 hs3
  refine wp_region_qt 5 (by kernel_rfl) (by kernel_rfl) ?_
  simp only [List.take_succ_cons, List.take_zero, List.drop_succ_cons, List.drop_zero]
  go_big_quiet_step (fail)
  refine q_load rfl 42 _ rfl w.heap.size 0 rfl 42 (vb k) (vb k) _ hk3 (by simp) ty42 rfl (by rw [i42]; simp [hk]) ?_
  simp only [Act.put, List.setIfInBounds_toArray, List.set_cons_zero, List.set_cons_succ]
  repeat (go_big_quiet_step (fail))
  refine wpQuiet_nil ?_
  rintro _ ⟨nq1, rfl⟩
  refine wl_storeW rfl 22 _ _ rfl c 1 (vb k) rfl rfl 106 _ (.pointer (some ⟨w.heap.size + 1, 0, none⟩) :: vb (keysTo sbox k 0).1) (Blk.drewN HC.out _) (by simp [hk]) (by rw [i22]; simp [hk]) (vb_ones k) (by rw [vb_length, hk]; exact key0 k _) ?_
  intro w4 hc4 hg4 hs4
  have hR4 : Row w4 (w.heap.size + 1) 135 sbox := (HR.out.drewN nq1).grown hg4 (by simp; omega)
  have hB4 : Below w.heap.size w w4 := (below_drewN hB3 nq1).grown hg4 (by simp [HS.out]; omega) (by rintro j hj; cases hj; omega)
  have HC4 := Lib.hid hc4
  have HR4 := Lib.hid hR4
  have HS4 := Lib.hid hs4
  clear hc4 hR4 hs4 hg4 HC HR
  refine wpList_nil ?_
  go_wp2
  go_loopw [4, 5] (fun r n wr => ∃ n' : Nat, n' ≤ 10 ∧ n = .int .i64 (↑n' + 1) ∧ r = .int .u8 (ub (keysTo sbox k n').2) ∧ Blk wr c 106 (.pointer (some ⟨w.heap.size + 1, 0, none⟩) :: vb (keysTo sbox k n').1) ∧ Row wr (w.heap.size + 1) 135 sbox ∧ Below w.heap.size w wr) (fun _ n _ => 11 - (intOf n).toNat)
  case atStart => exact ⟨0, by omega, by go_num, by simp [keysTo, ub], HC4.out, HR4.out, hB4⟩
  case round =>
    clear HC4 HR4 HS4 hB4
    obtain ⟨n, hn, rfl, rfl, hC, hR, hB⟩ := hrel
    by_cases hlt : n < 10
    · have hKl : (keysTo sbox k n).1.length = 176 := keysTo_length _ _ _ hk
      generalize hr : (keysTo sbox k n).2 = r at *
      generalize hKK : (keysTo sbox k n).1 = K at *
      have Hr := Lib.hid hr
      have HKK := Lib.hid hKK
      have HKl := Lib.hid hKl
      have HC := Lib.hid hC
      have HR := Lib.hid hR
      clear hr hKK hKl hC hR
      obtain ⟨w5, rfl⟩ : ∃ w1 : World, w1 = wr := ⟨_, rfl⟩
      have hd11 : decide ((n : Int) + 1 < 11) = true := by simp; omega
      have hw1 : ∀ j v, (vb ((K.drop (16 * n)).take 16))[j]? = some v → (Value.pointer (some ⟨w.heap.size + 1, 0, none⟩) :: vb K)[1 + n * 16 + j]? = some v := by
        intro j v h
        rw [show 1 + n * 16 + j = (16 * n + j) + 1 by omega, List.getElem?_cons_succ]
        apply slice_get (vb K) (16 * n) 16 j v
        simpa [vb, List.map_drop, List.map_take] using h
      have hw2 : ((K.drop (16 * n)).take 16).length = 16 := by simp [HKl.out]; omega
      generalize hwas : (K.drop (16 * n)).take 16 = was at *
      have hw3 := i22s _ hw2
      have HW1 := Lib.hid hw1
      have HW2 := Lib.hid hw2
      have HW3 := Lib.hid hwas
      clear hw1 hw2 hwas
      have hw3' : (Try.prog.info? 22).map (·.size) = some (vb was).length := by rw [hw3]; simp
      have HW4 := Lib.hid hw3'
      clear hw3 hw3'
      go_upto_region 8 with (first | (refine wl_load rfl 22 _ rfl c (1 + n * 16) rfl 106 _ (vb was) _ HC.out (by exact HW1.out) ty22 rfl (by exact HW4.out) ?_) | (refine wl_storeW rfl 22 _ _ rfl w5.heap.size 0 (vb was) rfl rfl 22 _ (vb was) (Blk.new _ _ (List.replicate 16 (.int .u8 0))) (by simp [HW2.out]) (by exact HW4.out) (vb_ones _) (by simp [HW2.out]) ?_; intro w6 hb6 hg6 hs6))
      have hC6 := (Blk.alloc HC.out _).grown hg6 (by have := Blk.lt HC.out; simp; omega)
      have hR6 := (Row.alloc HR.out _).grown hg6 (by have := Row.lt HR.out; simp; omega)
      have hB6 := (hB.alloc (by have := hB.size; omega) _).grown hg6 (by have := hB.size; simp; omega) (by rintro j hj; cases hj; exact hB.size)
      have hT6 : Row w6 w5.heap.size 22 was := hb6
      have hcg : c < w5.heap.size := Blk.lt HC.out
      have hwg : w.heap.size + 1 < w5.heap.size := Row.lt HR.out
      clear hg6 hs6 hb6 hB
      generalize w5.heap.size = g at *
      clear HC HR
      go_wp2
      go_loopw [28] (fun i wr => ∃ k : Nat, k ≤ 16 ∧ i = .int .i64 k ∧ Blk wr c 106 (.pointer (some ⟨w.heap.size + 1, 0, none⟩) :: vb (keyRow sbox K was r (n + 1) k)) ∧ Row wr g 22 was ∧ Row wr (w.heap.size + 1) 135 sbox ∧ Below w.heap.size w wr) (fun i _ => 16 - (intOf i).toNat)
      case atStart => exact ⟨0, by omega, rfl, hC6, hT6, hR6, hB6⟩
      case round =>
        clear hC6 hT6 hR6 hB6
        obtain ⟨i, hi, rfl, hC, hT, hR, hB⟩ := hrel
        have hlen : (keyRow sbox K was r (n + 1) i).length = 176 := by rw [keyRow_length, HKl.out]
        have hc1 : ∀ j, j < 176 → wr.cell? ⟨c, 1 + j, none⟩ = some (.int .u8 (ub (gb (keyRow sbox K was r (n + 1) i) j))) := by
          intro j hj; rw [Blk.cell hC, Nat.add_comm 1 j, List.getElem?_cons_succ, vb_get _ j (by rw [hlen]; exact hj)]
        have e0 : wr.cell? ⟨c, 0, none⟩ = some (.pointer (some ⟨w.heap.size + 1, 0, none⟩)) := by rw [Blk.cell hC]; rfl
        have e1 := fun (h : i < 16) => Row.cell hT (i := i) (by rw [HW2.out]; exact h)
        have e2 := Row.cell hT (i := 12 + (i + 1) % 4) (by rw [HW2.out]; omega)
        have e3 := Row.cell hR (i := nb (gb was (12 + (i + 1) % 4))) (by rw [sbox_length]; exact nb_lt _)
        have hnb : nb (gb was (12 + (i + 1) % 4)) < 256 := nb_lt _
        have hc2 : ∀ m j, 16 * m + j < 176 → wr.cell? ⟨c, 1 + m * 16 + j, none⟩ = some (.int .u8 (ub (gb (keyRow sbox K was r (n + 1) i) (16 * m + j)))) := by
          intro m j h; rw [← hc1 _ h, Nat.add_assoc, Nat.mul_comm]
        have e4 := fun (h : i < 16) (h4 : 4 ≤ i) => hc2 (n + 1) (i - 4) (by omega)
        have e5 := fun (h : i < 16) => hc2 (n + 1) i (by omega)
        have e6 := Blk.frozen hC (1 + (n + 1) * 16 + i)
        clear hc2
        have hs : keyRow sbox K was r (n + 1) (i + 1) = (keyRow sbox K was r (n + 1) i).set (16 * (n + 1) + i) (keyByte sbox (keyRow sbox K was r (n + 1) i) was r (n + 1) i) := rfl
        have Hs := Lib.hid hs
        have HC := Lib.hid hC
        have HT := Lib.hid hT
        have HR := Lib.hid hR
        have Hlen := Lib.hid hlen
        clear hs hC hT hR hlen hc1
        generalize hL : keyRow sbox K was r (n + 1) i = L at *
        have HL := Lib.hid hL
        clear hL
        by_cases hi16 : i < 16
        · replace e1 := e1 hi16
          replace e5 := e5 hi16
          by_cases h4 : 4 ≤ i
          · replace e4 := e4 hi16 h4
            have hne : ((i : Int) == 0) = false := by simp; omega
            have hx : keyByte sbox L was r (n + 1) i = gb was i ^^^ gb L (16 * (n + 1) + (i - 4)) := by simp [keyByte, h4]; omega
            have Hx := Lib.hid hx
            clear e2 e3 hx
            go_wp2
            refine ⟨⟨i + 1, by omega, by go_num, ?_, (HT.out).far (by simp; omega) _, (HR.out).far (by simp; omega) _, (hB).setCell (by simp; omega) _⟩, by simp [intOf]; omega⟩
            rw [Hs.out, Hx.out]
            exact (HC.out).setKey _ _ _
          · clear e4
            have h4' : decide (4 ≤ (i : Int)) = false := by simp; omega
            by_cases h0 : i = 0
            · have heq : ((i : Int) == 0) = true := by simp; omega
              have hx : keyByte sbox L was r (n + 1) i = gb was i ^^^ gb sbox (nb (gb was (12 + (i + 1) % 4))) ^^^ r := by simp [keyByte, h0]
              have H0 := Lib.hid h0
              have Hx := Lib.hid hx
              clear h0 hx
              go_wp2
              go_quiet (fail)
              go_wp2
              refine ⟨⟨i + 1, by omega, by go_num, ?_, (HT.out.drewN _).far (by simp; omega) _, (HR.out.drewN _).far (by simp; omega) _, (below_drewN hB _).setCell (by simp; omega) _⟩, by simp [intOf]; omega⟩
              rw [Hs.out, Hx.out]
              exact (Blk.drewN HC.out _).setKey _ _ _
            · have hne : ((i : Int) == 0) = false := by simp; omega
              have hx : keyByte sbox L was r (n + 1) i = gb was i ^^^ gb sbox (nb (gb was (12 + (i + 1) % 4))) := by simp [keyByte, h4, h0]
              have H0 := Lib.hid h0
              have Hx := Lib.hid hx
              clear h0 hx
              go_wp2
              go_quiet (fail)
              go_wp2
              refine ⟨⟨i + 1, by omega, by go_num, ?_, (HT.out.drewN _).far (by simp; omega) _, (HR.out.drewN _).far (by simp; omega) _, (below_drewN hB _).setCell (by simp; omega) _⟩, by simp [intOf]; omega⟩
              rw [Hs.out, Hx.out]
              exact (Blk.drewN HC.out _).setKey _ _ _
        · have hi' : i = 16 := by omega
          have hk1 : keysTo sbox k (n + 1) = (L, dbl r) := by
            have hL := HL.out
            rw [hi'] at hL
            rw [← hL, ← HW3.out, ← HKK.out, ← Hr.out]; rfl
          have Hk1 := Lib.hid hk1
          clear hk1 hi' e1 e2 e3 e4 e5
          go_wp2_with (go_at_call 60; refine (double_any _ (by simp) (by simp) _).mono ?_; rintro e w' ⟨rfl, rfl⟩)
          refine ⟨⟨n + 1, by omega, by go_num, by rw [Hk1.out], by rw [Hk1.out]; exact HC.out, HR.out, hB⟩, by simp [intOf]; omega⟩
    · have hlen := keysTo_length sbox k n hk
      have HC := Lib.hid hC
      have Hlen := Lib.hid hlen
      have HR := Lib.hid hR
      clear hC hlen hR
      go_wp2
      go_ret
      have hn' : n = 10 := by omega
      have hC := HC.out
      have hlen := Hlen.out
      rw [hn'] at hC hlen
      exact ⟨c, w.heap.size + 1, rfl, ⟨hC, HR.out, sbox_length, hlen⟩, by omega, by omega, hB⟩
end Go.Proofs.Ytjjcnijdjhhdoaa
end
/-! The walk of sym.mark: a mark. -/
section
namespace Go.Proofs.Ytjjcnijdjhhdoaa
open Go.RowKit Go.QT
theorem z16_eq : (#[Value.int IntKind.u8 0, Value.int IntKind.u8 0, Value.int IntKind.u8 0, Value.int IntKind.u8 0, Value.int IntKind.u8 0, Value.int IntKind.u8 0, Value.int IntKind.u8 0, Value.int IntKind.u8 0, Value.int IntKind.u8 0, Value.int IntKind.u8 0, Value.int IntKind.u8 0, Value.int IntKind.u8 0, Value.int IntKind.u8 0, Value.int IntKind.u8 0, Value.int IntKind.u8 0, Value.int IntKind.u8 0] : Array Value) = (vb zKey).toArray := by
  rw [zKey, vb_zeros]; rfl
theorem zKey_len : zKey.length = 16 := rfl
theorem mkB_len (k : UInt8) (n : Nat) : (mkB k n).length = 16 := rfl
/-- What a call leaves that answers a row of bytes by value. -/
def APost (w : World) (l : Bytes) (e : Ending) (w' : World) : Prop := e = .returned (.agg (vb l).toArray) ∧ Below w.heap.size w w'
theorem ovr_mark (k : UInt8) (n : Nat) : ovr (ovr zKey 0 [255, 254, k]) 8 (put8 n) = mkB k n := rfl
theorem u64_of (n : Nat) (h : n < 9223372036854775808) : IntKind.u64.wrap (n : Int) = (n : Int) := by
  rw [IntKind.wrap_u64]; omega
set_option maxRecDepth 100000 in
set_option maxHeartbeats 1000000 in
theorem smark_any (k : UInt8) (n : Nat) (hn : n < 9223372036854775808) (w : World) : Calls Try.prog 69 #[.int .u8 (ub k), .int .i64 (n : Int)] w (APost w (mkB k n)) := by
  have Hov := Hd.mk (ovr_mark k n)
  go_enter Try.func69, Try.ntmps69
  go_upto_region 2 with (fail)
  rw [z16_eq]
  have h4 : Row ((w.alloc (.cells (vb zKey).toArray 42)).alloc (.cells (vb zKey).toArray 42)) w.heap.size 42 zKey := Row.alloc (Row.new w 42 zKey) _
  have h5 : Row ((w.alloc (.cells (vb zKey).toArray 42)).alloc (.cells (vb zKey).toArray 42)) (w.heap.size + 1) 42 zKey := new2 w _ 42 _
  have hB : Below w.heap.size w ((w.alloc (.cells (vb zKey).toArray 42)).alloc (.cells (vb zKey).toArray 42)) := ((Below.refl _ _).alloc (Nat.le_refl _) _).alloc (by simp) _
  generalize (w.alloc (.cells (vb zKey).toArray 42)).alloc (.cells (vb zKey).toArray 42) = w1 at *
  have hlt := h5.lt
  have H4 := Hd.mk h4
  have H5 := Hd.mk h5
  clear h4 h5
  have h255 : ub 255 = 255 := by simp [ub]
  have h254 : ub 254 = 254 := by simp [ub]
  have hR3 := Row.new w1 5 [255, 254, k]
  simp only [vb_cons, vb_nil, h255, h254] at hR3
  have HR3 : Hd (Row (w1.alloc (.cells #[.int .u8 255, .int .u8 254, .int .u8 (ub k)] 5)) w1.heap.size 5 [255, 254, k]) := ⟨by unfold Row; simp only [vb_cons, vb_nil, h255, h254]; exact heap_alloc_new w1 _⟩
  clear hR3 h255 h254
  go_upto_region 3 with (refine wl_copy rfl (.tmp 6) (.tmp 8) rfl (w.heap.size + 1) 0 16 16 42 zKey [255, 254, k] (.slice (some ⟨w1.heap.size, 0, none⟩) 3 3) rfl rfl (H5.out.alloc _) (SB.row HR3.out (by simp [maxLen])) (by simp) (by simp) (by simp [zKey]) ?_; intro w2 hr2 hg2 hs2)
  simp only [Act.put, List.setIfInBounds_toArray, List.set_cons_succ, List.set_cons_zero]
  have h42 : Row w2 w.heap.size 42 zKey := (H4.out.alloc _).grown' hg2 (by simp)
  have hB2 : Below w.heap.size w w2 := (hB.alloc hB.size (.cells #[.int .u8 255, .int .u8 254, .int .u8 (ub k)] 5)).grown hg2 (by have := hB.size; simp; omega) (by rintro j hj; cases hj; omega)
  clear H4 H5 HR3 hg2 hB
  refine oH_begin (n := 5) (fun _ => True) (by kernel_rfl) rfl ?_
  have hS : Row (w2.drewN 1) (w.heap.size + 1) 42 (ovr zKey 0 [255, 254, k]) ∧ Row (w2.drewN 1) w.heap.size 42 zKey ∧ Below w.heap.size w (w2.drewN 1) := ⟨hr2.drewN 1, h42.drewN 1, below_drewN hB2 1⟩
  generalize w2.drewN 1 = w3 at *
  refine oH_val (i := 0) (some 10) (.slice (some ⟨w.heap.size + 1, 8, none⟩) 8 8) rfl rfl (by kernel_rfl) (by kernel_rfl) (by kernel_rfl) (fun _ d _ _ _ h => by cases d <;> exact h) (by kernel_rfl) trivial (by intro W _; simp [go_sem]) ?_
  simp only [Act.put, List.setIfInBounds_toArray, List.set_cons_succ, List.set_cons_zero]
  refine oH_val (i := 1) (some 11) (.int .i64 (n : Int)) rfl rfl (by kernel_rfl) (by kernel_rfl) (by kernel_rfl) (fun _ d _ _ _ h => by cases d <;> exact h) (by kernel_rfl) trivial (fun _ _ => rfl) ?_
  simp only [Act.put, List.setIfInBounds_toArray, List.set_cons_succ, List.set_cons_zero]
  refine oH_val (i := 2) (some 12) (.int .u64 (n : Int)) rfl rfl (by kernel_rfl) (by kernel_rfl) (by kernel_rfl) (fun _ d _ _ _ h => by cases d <;> exact h) (by kernel_rfl) trivial (by intro W _; have e := u64_of n hn; simp [go_sem, e]) ?_
  simp only [Act.put, List.setIfInBounds_toArray, List.set_cons_succ, List.set_cons_zero]
  refine oH_call (i := 3) (some 13) rfl rfl (by kernel_rfl) (by kernel_rfl) 72 _ _ rfl [.int .u64 (n : Int)] rfl (by kernel_rfl) (put_any n _) ?_
  rintro e w4 ⟨vp, rfl, hp, hb4⟩
  have hS4 : Row w4 (w.heap.size + 1) 42 (ovr zKey 0 [255, 254, k]) ∧ Row w4 w.heap.size 42 zKey ∧ Below w.heap.size w w4 := ⟨hS.1.below hb4 hS.1.lt, hS.2.1.below hb4 hS.2.1.lt, hS.2.2.trans (hb4.mono hS.2.2.size)⟩
  refine ⟨_, rfl, trivial, ?_⟩
  simp only [Act.put, List.setIfInBounds_toArray, List.set_cons_succ, List.set_cons_zero]
  refine oH_run (i := 4) (some 14) (goInt (put8 n).length) rfl rfl (by kernel_rfl) (by kernel_rfl) (exec_copy (.tmp 10) (.tmp 13) (by rfl) (w.heap.size + 1) 8 8 8 42 _ (put8 n) vp (by rfl) (by rfl) hS4.1 hp.sb (fun e => by have := congrArg List.length e; rw [put8_len] at this; cases this) (by rw [put8_len]; omega) (by rw [put8_len, ovr_len _ _ _ (by simp [zKey])]; simp [zKey])) trivial ?_
  simp only [Act.put, List.setIfInBounds_toArray, List.set_cons_succ, List.set_cons_zero]
  have hr5 : Row (w4.setRow (w.heap.size + 1) (vb (ovr (ovr zKey 0 [255, 254, k]) 8 (put8 n))).toArray) (w.heap.size + 1) 42 (ovr (ovr zKey 0 [255, 254, k]) 8 (put8 n)) := Blk.setRow hS4.1 _
  have hg5 := only_setRow (w := w4) (w.heap.size + 1) (vb (ovr (ovr zKey 0 [255, 254, k]) 8 (put8 n))).toArray
  generalize w4.setRow (w.heap.size + 1) (vb (ovr (ovr zKey 0 [255, 254, k]) 8 (put8 n))).toArray = w5 at *
  rw [Hov.out] at hr5
  have h45 : Row w5 w.heap.size 42 zKey := hS4.2.1.grown' hg5 (by simp)
  have hB5 : Below w.heap.size w w5 := hS4.2.2.grown hg5 hS4.2.2.size (by rintro j hj; cases hj; omega)
  clear hS hS4 hb4 hp hg5 hr2 h42 hB2
  refine wpAnyH_done (by kernel_rfl) ?_ _
  have hi1 : (Try.prog.info? 42).map (·.size) = some (vb (mkB k n)).length := i42
  have hlt5 := hr5.lt
  have Hr5 := Hd.mk hr5
  have H45 := Hd.mk h45
  have Hi1 := Hd.mk hi1
  clear hr5 h45 hi1
  go_wp2_with (first | (refine wl_load rfl 42 _ rfl (w.heap.size + 1) 0 rfl 42 (vb (mkB k n)) (vb (mkB k n)) _ Hr5.out (by simp) ty42 rfl (by exact Hi1.out) ?_) | (refine wl_storeW rfl 42 _ _ rfl w.heap.size 0 (vb (mkB k n)) rfl rfl 42 _ (vb (mkB k n)) H45.out (by simp [zKey, mkB_len]) (by exact Hi1.out) (vb_ones _) (by simp [zKey, mkB_len]) ?_; intro w6 hb6 hg6 hs6))
  refine bodyPost_ret (results_cell_row (p := 4) (ty := 42) rfl _ _ w.heap.size 42 (vb (mkB k n)).toArray (0, 0) _ rfl (by exact hb6) ty42 rfl (by rw [Hi1.out]; simp)) rfl ?_
  exact ⟨rfl, hB5.grown hg6 hB5.size (by rintro j hj; cases hj; omega)⟩
end Go.Proofs.Ytjjcnijdjhhdoaa
end
/-! A result that lies in a cell, beside one in a slot. -/
section
namespace Go.Proofs.Ytjjcnijdjhhdoaa
open Go.RowKit
theorem results_cell_tmp {P : Program} {fn : Func} {p q : Tmp} {ty : TypeId} (h : fn.results = #[.cell p ty, .tmp q]) (tmps : Array Value) (w : World) (g : Nat) (t : TypeId) (cs : List Value) (d : TypeDesc) (u : Value)
    (hp : tmps.getD p undef = .pointer (some ⟨g, 0, none⟩)) (hq : tmps.getD q undef = u) (hg : Blk w g t cs)
    (hu : P.underlying ty = some d) (hd : (match d with | .struct _ | .array _ _ => true | _ => false) = true) (hi : (P.info? ty).map (·.size) = some cs.length) :
    (results fn tmps).run P w = .ok (.tuple #[.agg cs.toArray, u]) w := by
  have hp' : tmps[p]?.getD undef = .pointer (some ⟨g, 0, none⟩) := by simpa using hp
  have hq' : tmps[q]?.getD undef = u := by simpa using hq
  have hl := run_loadVar_row (P := P) w g t ty cs.toArray (0, 0) d hg hu hd (by rw [hi]; simp)
  simp [results, h, hp', hq', asAddr, hl]
end Go.Proofs.Ytjjcnijdjhhdoaa
end
/-! The walks of octet.Key; of slices.Index and Contains at bytes. -/
section
namespace Go.Proofs.Ytjjcnijdjhhdoaa
open Go.RowKit Go.QT
def KPost (w : World) (l : Bytes) (e : Ending) (w' : World) : Prop :=
  e = .returned (.tuple #[.agg (vb (if l.length = 16 then l else zKey)).toArray, .bool (decide (l.length = 16))]) ∧ Below w.heap.size w w'
theorem ovr_all (l : Bytes) (h : l.length = 16) : ovr zKey 0 l = l := by
  simp [ovr, h, zKey]
theorem sb_form {w : World} {v : Value} {l : Bytes} (hv : SB w v l) : ∃ A c, v = .slice A l.length c ∧ l.length ≤ c ∧ c ≤ 2 ^ 63 - 1 := by
  obtain ⟨A, c, e, h1, h2, _⟩ := hv
  exact ⟨A, c, e, h1, by unfold maxLen at h2; exact h2⟩
set_option maxRecDepth 100000 in
set_option maxHeartbeats 1000000 in
theorem okey_any (v : Value) (l : Bytes) (w : World) (hv : SB w v l) : Calls Try.prog 67 #[v] w (KPost w l) := by
  obtain ⟨A, c, rfl, hc1, hc2⟩ := sb_form hv
  have Hv := Hd.mk hv
  clear hv
  have hi0 : (Try.prog.info? 42).map (·.size) = some (vb zKey).length := i42
  have Hi0 := Hd.mk hi0
  clear hi0
  by_cases h16 : l.length = 16
  · have hd : (((l.length : Nat) : Int) != 16) = false := by rw [h16]; rfl
    have H16 := Hd.mk h16
    have Hov := Hd.mk (ovr_all l h16)
    have hi1 : (Try.prog.info? 42).map (·.size) = some (vb l).length := by rw [vb_length, h16]; exact i42
    have Hi1 := Hd.mk hi1
    clear hi1 h16
    go_enter Try.func67, Try.ntmps67
    go_upto_region 2 with (fail)
    rw [z16_eq]
    have h2 : Row ((w.alloc (.cells (vb zKey).toArray 42)).alloc (.cells (vb zKey).toArray 42)) w.heap.size 42 zKey := Row.alloc (Row.new w 42 zKey) _
    have h4 : Row ((w.alloc (.cells (vb zKey).toArray 42)).alloc (.cells (vb zKey).toArray 42)) (w.heap.size + 1) 42 zKey := new2 w _ 42 _
    have hB : Below w.heap.size w ((w.alloc (.cells (vb zKey).toArray 42)).alloc (.cells (vb zKey).toArray 42)) := ((Below.refl _ _).alloc (Nat.le_refl _) _).alloc (by simp) _
    generalize (w.alloc (.cells (vb zKey).toArray 42)).alloc (.cells (vb zKey).toArray 42) = w1 at *
    have hlt := h4.lt
    have H2 := Hd.mk h2
    have H4 := Hd.mk h4
    clear h2 h4
    go_upto_region 5 with (refine wl_copy rfl (.tmp 9) (.tmp 10) rfl (w.heap.size + 1) 0 16 16 42 zKey l (.slice A l.length c) rfl rfl H4.out (Hv.out.below hB) (by intro e; have := H16.out; rw [e] at this; cases this) (by rw [H16.out]; omega) (by rw [H16.out]; simp [zKey]) ?_; intro w2 hr2 hg2 hs2)
    rw [Hov.out] at hr2
    have h22 := H2.out.grown' hg2 (by simp)
    have hB2 : Below w.heap.size w w2 := hB.grown hg2 hB.size (by rintro j hj; cases hj; omega)
    have Hr2 := Hd.mk hr2
    have H22 := Hd.mk h22
    clear hr2 h22 H2 H4 hg2 hs2 hB
    go_wp2_with (first | (refine wl_load rfl 42 _ rfl (w.heap.size + 1) 0 rfl 42 (vb l) (vb l) _ Hr2.out (by simp) ty42 rfl (by exact Hi1.out) ?_) | (refine wl_storeW rfl 42 _ _ rfl w.heap.size 0 (vb l) rfl rfl 42 _ (vb l) H22.out (by simp [zKey, H16.out]) (by exact Hi1.out) (vb_ones _) (by simp [zKey, H16.out]) ?_; intro w3 hr3 hg3 hs3))
    have hB3 := hB2.grown hg3 hB2.size (by rintro j hj; cases hj; omega)
    refine bodyPost_ret (results_cell_tmp (p := 2) (q := 3) (ty := 42) rfl _ _ w.heap.size 42 (vb l) _ (.bool true) rfl rfl hr3 ty42 rfl Hi1.out) rfl ⟨?_, hB3⟩
    · rw [if_pos H16.out, decide_eq_true H16.out]
  · have hd : (((l.length : Nat) : Int) != 16) = true := by rw [bne_iff_ne]; omega
    have H16 := Hd.mk h16
    clear h16
    go_enter Try.func67, Try.ntmps67
    go_upto_region 2 with (fail)
    rw [z16_eq]
    have h2 : Row ((w.alloc (.cells (vb zKey).toArray 42)).alloc (.cells (vb zKey).toArray 42)) w.heap.size 42 zKey := Row.alloc (Row.new w 42 zKey) _
    have h4 : Row ((w.alloc (.cells (vb zKey).toArray 42)).alloc (.cells (vb zKey).toArray 42)) (w.heap.size + 1) 42 zKey := new2 w _ 42 _
    have hB : Below w.heap.size w ((w.alloc (.cells (vb zKey).toArray 42)).alloc (.cells (vb zKey).toArray 42)) := ((Below.refl _ _).alloc (Nat.le_refl _) _).alloc (by simp) _
    generalize (w.alloc (.cells (vb zKey).toArray 42)).alloc (.cells (vb zKey).toArray 42) = w1 at *
    have hlt := h4.lt
    have H2 := Hd.mk h2
    have H4 := Hd.mk h4
    clear h2 h4
    go_wp2_with (first | (refine wl_load rfl 42 _ rfl (w.heap.size + 1) 0 rfl 42 (vb zKey) (vb zKey) _ H4.out (by simp) ty42 rfl (by exact Hi0.out) ?_) | (refine wl_storeW rfl 42 _ _ rfl w.heap.size 0 (vb zKey) rfl rfl 42 _ (vb zKey) H2.out (by simp) (by exact Hi0.out) (vb_ones _) (by simp [zKey]) ?_; intro w3 hr3 hg3 hs3))
    have hB3 := hB.grown hg3 hB.size (by rintro j hj; cases hj; omega)
    refine bodyPost_ret (results_cell_tmp (p := 2) (q := 3) (ty := 42) rfl _ _ w.heap.size 42 (vb zKey) _ (.bool false) rfl rfl hr3 ty42 rfl Hi0.out) rfl ⟨?_, hB3⟩
    · rw [if_neg H16.out, decide_eq_false H16.out]
end Go.Proofs.Ytjjcnijdjhhdoaa
end
/-! The walks of slices.Index and slices.Contains at bytes; of slices.Clone. -/
section
namespace Go.Proofs.Ytjjcnijdjhhdoaa
open Go.RowKit Go.QT
/-- The first place of a byte; -1: there is none. -/
def idxB (x : UInt8) : Bytes → Nat → Int
  | [], _ => -1
  | c :: l, k => if x = c then k else idxB x l (k+1)
theorem idxB_hit (x : UInt8) : ∀ (l : Bytes) (k j : Nat), j < l.length → (∀ i, i < j → x ≠ gb l i) → x = gb l j → idxB x l k = ((k + j : Nat) : Int)
  | c :: l, k, 0, _, _, h => by
    have : x = c := h
    simp [idxB, this]
  | c :: l, k, j+1, hj, hn, h => by
    have h0 : x ≠ c := hn 0 (by omega)
    rw [idxB, if_neg h0, idxB_hit x l (k+1) j (by simpa using hj) (fun i hi => hn (i+1) (by omega)) h]
    omega
theorem idxB_miss (x : UInt8) : ∀ (l : Bytes) (k : Nat), (∀ i, i < l.length → x ≠ gb l i) → idxB x l k = -1
  | [], _, _ => rfl
  | c :: l, k, hn => by
    have h0 : x ≠ c := hn 0 (by simp)
    rw [idxB, if_neg h0, idxB_miss x l (k+1) (fun i hi => hn (i+1) (by simpa using hi))]
theorem idxB_mem (x : UInt8) : ∀ (l : Bytes) (k : Nat), decide (0 ≤ idxB x l k) = decide (x ∈ l)
  | [], _ => by simp [idxB]
  | c :: l, k => by
    have ih := idxB_mem x l (k+1)
    by_cases h : x = c
    · simp [idxB, h]
    · rw [idxB, if_neg h, ih]; simp [h]
def VPost (w : World) (v : Value) (e : Ending) (w' : World) : Prop := e = .returned v ∧ w = w'
set_option maxRecDepth 100000 in
set_option maxHeartbeats 1000000 in
theorem index_any (v : Value) (l : Bytes) (x : UInt8) (w : World) (hv : SB w v l) : Calls Try.prog 83 #[v, .int .u8 (ub x)] w (VPost w (.int .i64 (idxB x l 0))) := by
  obtain ⟨A, c, hve, hc1, hc2⟩ := sb_form hv
  have hcell : ∀ i, i < l.length → ∃ bb o, A = some ⟨bb, o, none⟩ ∧ w.cell? ⟨bb, o + i, none⟩ = some (.int .u8 (ub (gb l i))) := by
    intro i hi
    obtain ⟨A', c', e, _, _, h⟩ := hv
    obtain ⟨b, o, hA, _, hcl⟩ := h (by rintro rfl; simp at hi)
    rw [hve] at e
    injection e with e1
    exact ⟨b, o, e1.trans hA, hcl i hi⟩
  subst hve
  have Hcell := Hd.mk hcell
  have Hhit := Hd.mk (idxB_hit x l 0)
  have Hmiss := Hd.mk (idxB_miss x l 0)
  clear hcell hv
  go_enter Try.func83, Try.ntmps83
  go_wp2
  go_loop [8] (fun i => ∃ k : Nat, k ≤ l.length ∧ i = .int .i64 (k : Int) ∧ Hd (∀ i, i < k → x ≠ gb l i)) (fun i => l.length - (intOf i).toNat)
  case atStart => exact ⟨0, by omega, rfl, ⟨fun i hi => absurd hi (by omega)⟩⟩
  case round =>
    obtain ⟨k, hk, rfl, hno⟩ := hrel
    by_cases hlt : k < l.length
    · obtain ⟨bb, o, hA, hx⟩ := Hcell.out k hlt
      subst hA
      by_cases he : x = gb l k
      · have ht : (ub x == ub (gb l k)) = true := by rw [beq_iff_eq]; exact congrArg ub he
        have Hr := Hd.mk (Hhit.out k hlt hno.out he)
        clear he Hcell Hhit Hmiss
        go_wp2
        go_ret
        exact ⟨by rw [Hr.out, Nat.zero_add]; rfl, rfl⟩
      · have ht : (ub x == ub (gb l k)) = false := by rw [ub_beq]; simpa using he
        have hno2 : Hd (∀ i, i < k + 1 → x ≠ gb l i) := ⟨fun i hi => by
          by_cases hik : i = k
          · subst hik; exact he
          · exact hno.out i (by omega)⟩
        have He := Hd.mk he
        clear he
        go_wp2
        refine ⟨⟨k + 1, by omega, by go_num, hno2⟩, by simp [intOf]; omega⟩
    · have hk2 : k = l.length := by omega
      rw [hk2] at hno
      have Hr := Hd.mk (Hmiss.out hno.out)
      clear hk2
      go_wp2
      go_ret
      exact ⟨by rw [Hr.out]; rfl, rfl⟩
set_option maxRecDepth 100000 in
theorem contains_any (v : Value) (l : Bytes) (x : UInt8) (w : World) (hv : SB w v l) : Calls Try.prog 70 #[v, .int .u8 (ub x)] w (VPost w (.bool (decide (x ∈ l)))) := by
  have Hm := Hd.mk (idxB_mem x l 0)
  have Hv := Hd.mk hv
  clear hv
  go_enter Try.func70, Try.ntmps70
  go_wp2_with (go_at_call 83; refine (index_any _ l x _ Hv.out).mono ?_; rintro e w' ⟨rfl, rfl⟩)
  go_ret
  exact ⟨by rw [← Hm.out]; rfl, rfl⟩
/-- What a call leaves that clones a row of bytes. -/
def CPost (w : World) (l : Bytes) (e : Ending) (w' : World) : Prop := ∃ v, e = .returned v ∧ OB w' w.heap.size v l ∧ Below w.heap.size w w'
set_option maxRecDepth 100000 in
theorem clone_any (v : Value) (l : Bytes) (w : World) (hv : SB w v l) (hl : l.length ≤ 140737488355328) : Calls Try.prog 73 #[v] w (BPost w l) := by
  obtain ⟨A, c, rfl, hc1, hc2⟩ := sb_form hv
  have Hv := Hd.mk hv
  clear hv
  rcases A with _ | A
  · have h0 : l = [] := by
      by_cases h : l = []
      · exact h
      · obtain ⟨b, o, c', e, _⟩ := Hv.out.open_ h
        cases e
    have H0 := Hd.mk h0
    clear h0
    go_enter Try.func73, Try.ntmps73
    have hn : ∀ W, (binOp .eql 28 (.slice none l.length c) (.slice none 0 0)).run Try.prog W = .ok (.bool true) W := fun W => Lib.run_eql_slice_nil W 28 5 none _ _ _ _ u28
    go_wp2
    go_ret
    exact ⟨_, rfl, by rw [H0.out]; exact OB.nil _ _, Below.refl _ _⟩
  · go_enter Try.func73, Try.ntmps73
    have hn : ∀ W, (binOp .eql 28 (.slice (some A) l.length c) (.slice none 0 0)).run Try.prog W = .ok (.bool false) W := fun W => Lib.run_eql_slice_nil W 28 5 (some A) _ _ _ _ u28
    go_upto_region 3 with (fail)
    go_wp2_with (at_builtin; refine wl_append rfl (.tmp 5) (.tmp 6) rfl w.heap.size (.slice (some ⟨w.heap.size, 0, none⟩) 0 0) (.slice (some A) l.length c) [] l rfl rfl (OB.new _ _ [] (by simp) (Row.new w 5 []) (Nat.le_refl _)) (Hv.out.alloc _) (by simpa using hl) (by simp) ?_; intro v' w' hv' hg' hat')
    go_ret
    rw [List.nil_append] at hv'
    exact ⟨_, rfl, hv', ((Below.refl _ _).alloc (Nat.le_refl _) (.cells #[] 5)).grown hg' (by simp) (by rintro j hj; simp [Value.ownBlock] at hj; omega)⟩
end Go.Proofs.Ytjjcnijdjhhdoaa
end
/-! The walks of octet.Get, compeerref01.Get: the number of some bytes. -/
section
namespace Go.Proofs.Ytjjcnijdjhhdoaa
open Go.RowKit Go.QT
theorem getN_snoc (l : Bytes) (c : UInt8) : getN (l ++ [c]) = 256 * getN l + nb c := by simp [getN]
theorem getN_take (l : Bytes) (k : Nat) (h : k < l.length) : getN (l.take (k+1)) = 256 * getN (l.take k) + nb (gb l k) := by
  have e : l.take (k+1) = l.take k ++ [gb l k] := by
    rw [List.take_succ_eq_append_getElem h]; simp [gb, h]
  rw [e, getN_snoc]
theorem getN_lt (l : Bytes) (k : Nat) (h : k ≤ l.length) : getN (l.take k) < 256 ^ k := by
  induction k with
  | zero => simp [getN]
  | succ k ih =>
    rw [getN_take l k (by omega)]
    have := ih (by omega)
    have := nb_lt (gb l k)
    rw [Nat.pow_succ]; omega
theorem getN_lt8 (l : Bytes) (k : Nat) (h : k ≤ l.length) (h8 : k ≤ 8) : getN (l.take k) < 18446744073709551616 := by
  have h1 := getN_lt l k h
  have h2 : 256 ^ k ≤ 256 ^ 8 := Nat.pow_le_pow_right (by omega) h8
  have h3 : (256 : Nat) ^ 8 = 18446744073709551616 := rfl
  omega
theorem getN_lt7 (l : Bytes) (k : Nat) (h : k ≤ l.length) (h8 : k ≤ 7) : getN (l.take k) < 72057594037927936 := by
  have h1 := getN_lt l k h
  have h2 : 256 ^ k ≤ 256 ^ 7 := Nat.pow_le_pow_right (by omega) h8
  have h3 : (256 : Nat) ^ 7 = 72057594037927936 := rfl
  omega
theorem or_byte (N : Nat) (c : UInt8) (hN : N < 72057594037927936) : bits .or .u64 ((N : Int) * 256) (IntKind.u64.wrap (ub c)) = ((256 * N + nb c : Nat) : Int) := by
  have hc := nb_lt c
  have h1 : IntKind.u64.wrap (ub c) = ((nb c : Nat) : Int) := by rw [IntKind.wrap_u64]; unfold ub nb at *; omega
  have h2 : (N : Int) * 256 = ((N * 256 : Nat) : Int) := by omega
  rw [h1, h2]
  show IntKind.u64.wrap (((BitVec.ofInt 64 ((N * 256 : Nat) : Int) ||| BitVec.ofInt 64 ((nb c : Nat) : Int)).toNat : Nat) : Int) = _
  rw [BitVec.toNat_or, BitVec.ofInt_natCast, BitVec.ofInt_natCast, BitVec.toNat_ofNat, BitVec.toNat_ofNat, Nat.mod_eq_of_lt (by omega), Nat.mod_eq_of_lt (by omega)]
  have h3 := Nat.two_pow_add_eq_or_of_lt (i := 8) (b := nb c) (by omega) N
  rw [show (2 : Nat) ^ 8 * N = N * 256 by omega] at h3
  rw [← h3, IntKind.wrap_u64]
  omega
/-- The number of one to eight bytes. -/
def getP (l : Bytes) : Option Nat := if l.length = 0 ∨ 8 < l.length then none else some (getN l)
def GPost (w : World) (l : Bytes) (e : Ending) (w' : World) : Prop :=
  e = .returned (.tuple #[.int .u64 ((getP l).getD 0 : Nat), .bool (getP l).isSome]) ∧ ∃ n, w' = w.drewN n
theorem getP_yes (l : Bytes) (h0 : l.length ≠ 0) (h8 : l.length ≤ 8) : getP l = some (getN l) := if_neg (by omega)
theorem getP_no (l : Bytes) (h : l.length = 0 ∨ 8 < l.length) : getP l = none := if_pos h
set_option maxRecDepth 100000 in
set_option maxHeartbeats 1000000 in
theorem get_any (v : Value) (l : Bytes) (w : World) (hv : SB w v l) : Calls Try.prog 68 #[v] w (GPost w l) := by
  have hbv : ∃ A c, v = .slice A l.length c ∧ l.length ≤ c ∧ c ≤ 2 ^ 63 - 1 ∧ (l ≠ [] → ∃ bb o, A = some ⟨bb, o, none⟩ ∧ ∀ i, i < l.length → w.cell? ⟨bb, o + i, none⟩ = some (.int .u8 (ub (gb l i)))) := by
    obtain ⟨A, c, e, h1, h2, h3⟩ := hv
    exact ⟨A, c, e, h1, by unfold maxLen at h2; exact h2, fun hne => by obtain ⟨b, o, h4, _, h5⟩ := h3 hne; exact ⟨b, o, h4, h5⟩⟩
  obtain ⟨A, c, rfl, hc1, hc2, hcell⟩ := hbv
  have Hcell := Hd.mk hcell
  clear hcell hv
  by_cases h0 : l.length = 0
  · have Hp := Hd.mk (getP_no l (.inl h0))
    have hd : (((l.length : Nat) : Int) == 0) = true := by rw [beq_iff_eq]; omega
    have H0 := Hd.mk h0
    clear h0
    go_enter Try.func68, Try.ntmps68
    go_wp2
    go_ret2
    exact ⟨by rw [Hp.out]; rfl, 0, rfl⟩
  · have hd : (((l.length : Nat) : Int) == 0) = false := beq_eq_false_iff_ne.2 (by omega)
    by_cases h8 : l.length ≤ 8
    · have Hp := Hd.mk (getP_yes l h0 h8)
      have hd2 : decide ((l.length : Int) > 8) = false := by simp; omega
      obtain ⟨bb, o, rfl, hcell⟩ := Hcell.out (by rintro rfl; exact h0 rfl)
      have Hcell2 := Hd.mk hcell
      have H0 := Hd.mk h0
      clear h0 hcell Hcell
      go_enter Try.func68, Try.ntmps68
      go_upto_region 4 with (fail)
      go_wp2
      go_loop [4, 17] (fun n i => ∃ k : Nat, k ≤ l.length ∧ i = .int .i64 (k : Int) ∧ n = .int .u64 (getN (l.take k) : Nat)) (fun _ i => l.length - (intOf i).toNat)
      case atStart => exact ⟨0, by omega, rfl, rfl⟩
      case round =>
        obtain ⟨k, hk, rfl, rfl⟩ := hrel
        by_cases hlt : k < l.length
        · have hx := Hcell2.out k hlt
          have hN := getN_lt7 l k hk (by omega)
          have Hs := Hd.mk (getN_take l k hlt)
          generalize getN (l.take k) = N at *
          go_wp2
          refine ⟨⟨k + 1, by omega, by go_num, by rw [or_byte N _ hN, Hs.out]⟩, by simp [intOf]; omega⟩
        · have hk2 : k = l.length := by omega
          have Hk2 := Hd.mk hk2
          clear hk2
          go_wp2
          go_ret2
          refine ⟨?_, 0, rfl⟩
          rw [Hp.out, Hk2.out, List.take_length]; rfl
    · have Hp := Hd.mk (getP_no l (.inr (by omega)))
      have hd2 : decide ((l.length : Int) > 8) = true := by simp; omega
      have H0 := Hd.mk h0
      clear h0
      go_enter Try.func68, Try.ntmps68
      go_wp2
      go_ret2
      exact ⟨by rw [Hp.out]; rfl, 0, rfl⟩
set_option maxRecDepth 100000 in
set_option maxHeartbeats 1000000 in
theorem rget_any (v : Value) (l : Bytes) (w : World) (hv : SB w v l) : Calls Try.prog 66 #[v] w (GPost w l) := by
  have hbv : ∃ A c, v = .slice A l.length c ∧ l.length ≤ c ∧ c ≤ 2 ^ 63 - 1 ∧ (l ≠ [] → ∃ bb o, A = some ⟨bb, o, none⟩ ∧ ∀ i, i < l.length → w.cell? ⟨bb, o + i, none⟩ = some (.int .u8 (ub (gb l i)))) := by
    obtain ⟨A, c, e, h1, h2, h3⟩ := hv
    exact ⟨A, c, e, h1, by unfold maxLen at h2; exact h2, fun hne => by obtain ⟨b, o, h4, _, h5⟩ := h3 hne; exact ⟨b, o, h4, h5⟩⟩
  obtain ⟨A, c, rfl, hc1, hc2, hcell⟩ := hbv
  have Hcell := Hd.mk hcell
  clear hcell hv
  by_cases h0 : l.length = 0
  · have Hp := Hd.mk (getP_no l (.inl h0))
    have hd : decide (((l.length : Nat) : Int) < 1) = true := by simp; omega
    have H0 := Hd.mk h0
    clear h0
    go_enter Try.func66, Try.ntmps66
    go_wp2
    go_ret2
    exact ⟨by rw [Hp.out]; rfl, 0, rfl⟩
  · have hd : decide (((l.length : Nat) : Int) < 1) = false := by simp; omega
    by_cases h8 : l.length ≤ 8
    · have Hp := Hd.mk (getP_yes l h0 h8)
      have hd2 : decide ((l.length : Int) > 8) = false := by simp; omega
      obtain ⟨bb, o, rfl, hcell⟩ := Hcell.out (by rintro rfl; exact h0 rfl)
      have Hcell2 := Hd.mk hcell
      have H0 := Hd.mk h0
      clear h0 hcell Hcell
      go_enter Try.func66, Try.ntmps66
      go_wp2
      go_loop [4, 5] (fun n i => ∃ k : Nat, k ≤ l.length ∧ i = .int .i64 (k : Int) ∧ n = .int .u64 (getN (l.take k) : Nat)) (fun _ i => l.length - (intOf i).toNat)
      case atStart => exact ⟨0, by omega, rfl, rfl⟩
      case round =>
        obtain ⟨k, hk, rfl, rfl⟩ := hrel
        by_cases hlt : k < l.length
        · have hx := Hcell2.out k hlt
          have hN := getN_lt7 l k hk (by omega)
          have Hs := Hd.mk (getN_take l k hlt)
          have hc := ub_lt (gb l k)
          have hc0 := ub_nonneg (gb l k)
          have e1 : IntKind.u64.wrap (ub (gb l k)) = ub (gb l k) := by rw [IntKind.wrap_u64]; omega
          generalize getN (l.take k) = N at *
          go_wp2
          refine ⟨⟨k + 1, by omega, by go_num, ?_⟩, by simp [intOf]; omega⟩
          rw [Hs.out, show ((256 * N + nb (gb l k) : Nat) : Int) = 256 * (N : Int) + ub (gb l k) by rw [ub_nb]; omega]
          try (rw [IntKind.wrap_u64]; omega)
        · have hk2 : k = l.length := by omega
          have Hk2 := Hd.mk hk2
          clear hk2
          go_wp2
          go_ret2
          refine ⟨?_, 0, rfl⟩
          rw [Hp.out, Hk2.out, List.take_length]; rfl
    · have Hp := Hd.mk (getP_no l (.inr (by omega)))
      have hd2 : decide ((l.length : Int) > 8) = true := by simp; omega
      have H0 := Hd.mk h0
      clear h0
      go_enter Try.func66, Try.ntmps66
      go_wp2
      go_ret2
      exact ⟨by rw [Hp.out]; rfl, 0, rfl⟩
end Go.Proofs.Ytjjcnijdjhhdoaa
end
