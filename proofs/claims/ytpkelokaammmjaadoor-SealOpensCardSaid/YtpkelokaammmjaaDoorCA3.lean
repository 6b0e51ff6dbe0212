/- Steps for the walks of sha: products, copies of words, octet.Get's call. (Texts laid one behind the other: ShaFn, Cut, Copy, SMark, Res, OKey, Conv, Cont, Rv, BS, Same, Keq, ConstB, XS, Mask, Rw, Ex, ShaT, Gets, ShaX.) -/
import Derived.Laws.CopyRow
import Derived.Laws.Rows
import Derived.Laws.IdiomStrings
import Derived.Lib.SlBytesConst
import Derived.ChangeKeysEq
import Derived.Laws.BitsAllLaws
import Derived.Test.YtpkelokaammmjaaDoorCA2
/-! Plain functions of packages sha, mac: as the program reckons. -/
section
namespace Go.Proofs.YtpkelokaammmjaaDoor
open Go.RowKit
/-- A word's bits, turned to the right. -/
def trn (x : UInt32) (n : Nat) : UInt32 := wsr x n ||| wsl x (32 - n)
structure S8 where
  a : UInt32
  b : UInt32
  c : UInt32
  d : UInt32
  e : UInt32
  f : UInt32
  g : UInt32
  h : UInt32
def S8.l (s : S8) : List UInt32 := [s.a, s.b, s.c, s.d, s.e, s.f, s.g, s.h]
theorem S8.l_len (s : S8) : s.l.length = 8 := rfl
def shaK : List UInt32 := [0x428a2f98, 0x71374491, 0xb5c0fbcf, 0xe9b5dba5, 0x3956c25b, 0x59f111f1, 0x923f82a4, 0xab1c5ed5, 0xd807aa98, 0x12835b01, 0x243185be, 0x550c7dc3, 0x72be5d74, 0x80deb1fe, 0x9bdc06a7, 0xc19bf174,
  0xe49b69c1, 0xefbe4786, 0x0fc19dc6, 0x240ca1cc, 0x2de92c6f, 0x4a7484aa, 0x5cb0a9dc, 0x76f988da, 0x983e5152, 0xa831c66d, 0xb00327c8, 0xbf597fc7, 0xc6e00bf3, 0xd5a79147, 0x06ca6351, 0x14292967,
  0x27b70a85, 0x2e1b2138, 0x4d2c6dfc, 0x53380d13, 0x650a7354, 0x766a0abb, 0x81c2c92e, 0x92722c85, 0xa2bfe8a1, 0xa81a664b, 0xc24b8b70, 0xc76c51a3, 0xd192e819, 0xd6990624, 0xf40e3585, 0x106aa070,
  0x19a4c116, 0x1e376c08, 0x2748774c, 0x34b0bcb5, 0x391c0cb3, 0x4ed8aa4a, 0x5b9cca4f, 0x682e6ff3, 0x748f82ee, 0x78a5636f, 0x84c87814, 0x8cc70208, 0x90befffa, 0xa4506ceb, 0xbef9a3f7, 0xc67178f2]
theorem shaK_len : shaK.length = 64 := rfl
def shaH0 : S8 := ⟨0x6a09e667, 0xbb67ae85, 0x3c6ef372, 0xa54ff53a, 0x510e527f, 0x9b05688c, 0x1f83d9ab, 0x5be0cd19⟩
/-- A word of four bytes of a block. -/
def be32 (b : Bytes) (i : Nat) : UInt32 := UInt32.ofNat (getN ((b.take (4 * i + 4)).drop (4 * i)))
/-- The words, behind so many of the first sixteen. -/
def w16 (b : Bytes) : Nat → List UInt32
  | 0 => List.replicate 64 0
  | i + 1 => (w16 b i).set i (be32 b i)
/-- The next word of the others. -/
def nwd (l : List UInt32) (i : Nat) : UInt32 :=
  let x := gw l (i - 15)
  let y := gw l (i - 2)
  gw l (i - 16) + ((trn x 7 ^^^ trn x 18) ^^^ wsr x 3) + gw l (i - 7) + ((trn y 17 ^^^ trn y 19) ^^^ wsr y 10)
/-- .. behind so many of the others. -/
def w64 (b : Bytes) : Nat → List UInt32
  | 0 => w16 b 16
  | i + 1 => (w64 b i).set (i + 16) (nwd (w64 b i) (i + 16))
theorem w16_len (b : Bytes) (i : Nat) : (w16 b i).length = 64 := by
  induction i with
  | zero => rfl
  | succ i ih => simp only [w16, List.length_set, ih]
theorem w64_len (b : Bytes) (i : Nat) : (w64 b i).length = 64 := by
  induction i with
  | zero => exact w16_len b 16
  | succ i ih => simp only [w64, List.length_set, ih]
def rone (s : S8) (k w : UInt32) : UInt32 := s.h + ((trn s.e 6 ^^^ trn s.e 11) ^^^ trn s.e 25) + ((s.e &&& s.f) ^^^ (~~~s.e &&& s.g)) + k + w
def rtwo (s : S8) : UInt32 := ((trn s.a 2 ^^^ trn s.a 13) ^^^ trn s.a 22) + (((s.a &&& s.b) ^^^ (s.a &&& s.c)) ^^^ (s.b &&& s.c))
def rnd (s : S8) (k w : UInt32) : S8 := ⟨rone s k w + rtwo s, s.a, s.b, s.c, s.d + rone s k w, s.e, s.f, s.g⟩
/-- Behind so many rounds. -/
def rnN (W : List UInt32) (s : S8) : Nat → S8
  | 0 => s
  | i + 1 => rnd (rnN W s i) (gw shaK i) (gw W i)
def S8.add (s t : S8) : S8 := ⟨s.a + t.a, s.b + t.b, s.c + t.c, s.d + t.d, s.e + t.e, s.f + t.f, s.g + t.g, s.h + t.h⟩
/-- Behind a block. -/
def blk8 (s : S8) (b : Bytes) : S8 := s.add (rnN (w64 b 48) s 64)
def addN (s t : S8) : Nat → List UInt32
  | 0 => s.l
  | i + 1 => (addN s t i).set i (gw (addN s t i) i + gw t.l i)
theorem addN_len (s t : S8) (i : Nat) : (addN s t i).length = 8 := by
  induction i with
  | zero => rfl
  | succ i ih => simp only [addN, List.length_set, ih]
theorem addN_all (s t : S8) : addN s t 8 = (s.add t).l := rfl
/-- Behind so many blocks. -/
def absb : Nat → S8 → Bytes → S8
  | 0, s, _ => s
  | n + 1, s, b => absb n (blk8 s (b.take 64)) (b.drop 64)
def padB (m : Bytes) : Bytes := (128 : UInt8) :: List.replicate ((119 - m.length % 64) % 64) 0 ++ put8 (8 * m.length)
/-- The bytes of words. -/
def outW (l : List UInt32) : Bytes := (l.map fun x => (put8 x.toNat).drop 4).flatten
/-- The digest of bytes. -/
def shaF (m : Bytes) : Bytes := outW (absb ((m ++ padB m).length / 64) shaH0 (m ++ padB m)).l
/-- The sum with a key. -/
def key64 (k : Bytes) : Bytes := if k.length ≤ 64 then k else shaF k
def padS (k : Bytes) (c : UInt8) : Nat → Bytes
  | 0 => List.replicate 64 0
  | i + 1 => (padS k c i).set i (gb k i ^^^ c)
theorem padS_len (k : Bytes) (c : UInt8) (i : Nat) : (padS k c i).length = 64 := by
  induction i with
  | zero => rfl
  | succ i ih => simp only [padS, List.length_set, ih]
def padK (k : Bytes) (c : UInt8) : Bytes := padS (key64 k) c 64
def macF (k m : Bytes) : Bytes := shaF (padK k 0x5c ++ shaF (padK k 0x36 ++ m))
end Go.Proofs.YtpkelokaammmjaaDoor
end
/-! Slices of slices of bytes. -/
section
namespace Go.Proofs.YtpkelokaammmjaaDoor
open Go.RowKit
/-- v[lo:hi]. -/
def cutS (v : Value) (lo hi : Nat) : Value :=
  match v with
  | .slice A _ c => .slice (if c = lo then A else A.map (·.add lo)) (hi - lo) (c - lo)
  | _ => undef
theorem gb_cut (l : Bytes) (lo hi i : Nat) (h : lo + i < hi) : gb ((l.take hi).drop lo) i = gb l (lo + i) := by
  simp [gb, h]
theorem len_cut (l : Bytes) (lo hi : Nat) (hhi : hi ≤ l.length) : ((l.take hi).drop lo).length = hi - lo := by
  simp; omega
theorem SB.cut {w : World} {v : Value} {l : Bytes} (h : SB w v l) (lo hi : Nat) (hhi : hi ≤ l.length) : SB w (cutS v lo hi) ((l.take hi).drop lo) := by
  obtain ⟨A, c, rfl, hc, hm, hcell⟩ := h
  have hl := len_cut l lo hi hhi
  refine ⟨_, c - lo, by rw [hl]; rfl, by rw [hl]; omega, by omega, fun hne => ?_⟩
  have hpos : lo < hi := by
    have : (((l.take hi).drop lo)).length ≠ 0 := fun h0 => hne (List.eq_nil_of_length_eq_zero h0)
    omega
  obtain ⟨b, o, rfl, hb, hcl⟩ := hcell (by rintro rfl; simp at hhi; omega)
  refine ⟨b, o + lo, ?_, hb, fun i hi' => ?_⟩
  · rw [if_neg (by omega)]; simp [Addr.add]
  · rw [gb_cut l lo hi i (by omega), Nat.add_assoc]
    exact hcl (lo + i) (by omega)
theorem cutS_block {v : Value} {lo hi : Nat} : (cutS v lo hi).ownBlock = v.ownBlock := by
  cases v <;> try rfl
  rename_i A n c
  simp only [cutS]
  by_cases h : c = lo
  · rw [if_pos h]; cases A <;> rfl
  · rw [if_neg h]
    cases A with
    | none => rfl
    | some p => exact congrArg some (block_of_add p lo)
theorem elem28 : Tryd.prog.elem 22 = 5 := by kernel_rfl
theorem und28 : Tryd.prog.underlying 22 = some (.slice (Tryd.prog.elem 22)) := by kernel_rfl
theorem run_size5 (w : World) : (sizeOf 5).run Tryd.prog w = .ok 1 w := by
  obtain ⟨i0, hi0, hz0, hz1, hz2⟩ := info_parts i5
  simp [sizeOf, typeInfo, hi0, hz1]
theorem run_cut_lh (w : World) (v : Value) (l : Bytes) (h : SB w v l) (k k' : IntKind) (lo hi : Int) (h0 : 0 ≤ lo) (h1 : lo ≤ hi) (h2 : hi ≤ l.length) (W : World) :
    (Instr.sliceAt 22 v (some (.int k lo)) (some (.int k' hi)) none).run Tryd.prog W = .ok (cutS v lo.toNat hi.toNat) W := by
  obtain ⟨A, c, rfl, hc, hm, hcell⟩ := h
  rw [run_sliceAt_slice W 22 _ _ _ _ und28, run_slice_lh W 22 A _ c und28 k k' lo hi h0 h1 (by omega), elem28, run_size5]
  simp only [Result.andThen_ok, sliced, cutS, Nat.mul_one]
theorem run_cut_h (w : World) (v : Value) (l : Bytes) (h : SB w v l) (k' : IntKind) (hi : Int) (h1 : 0 ≤ hi) (h2 : hi ≤ l.length) (W : World) :
    (Instr.sliceAt 22 v none (some (.int k' hi)) none).run Tryd.prog W = .ok (cutS v 0 hi.toNat) W := by
  obtain ⟨A, c, rfl, hc, hm, hcell⟩ := h
  rw [run_sliceAt_slice W 22 _ _ _ _ und28, run_slice_h W 22 A _ c und28 k' hi h1 (by omega), elem28, run_size5]
  simp only [Result.andThen_ok, sliced, cutS, Nat.mul_one]
theorem run_cut_l (w : World) (v : Value) (l : Bytes) (h : SB w v l) (k : IntKind) (lo : Int) (h1 : 0 ≤ lo) (h2 : lo ≤ l.length) (W : World) :
    (Instr.sliceAt 22 v (some (.int k lo)) none none).run Tryd.prog W = .ok (cutS v lo.toNat l.length) W := by
  obtain ⟨A, c, rfl, hc, hm, hcell⟩ := h
  rw [run_sliceAt_slice W 22 _ _ _ _ und28, run_slice_l W 22 A _ c und28 k lo h1 h2, elem28, run_size5]
  simp only [Result.andThen_ok, sliced, cutS, Nat.mul_one]
section
variable {ops : Array Oper} {rest : List Oper} {o : Oper} {a : Act} {w : World} {Q : Exit → Act → World → Prop}
theorem exec_cut_lh (x lo hi : Operand) (ho : o.op = .slice 22 x (some lo) (some hi) none) (v : Value) (l : Bytes) (hx : a.eval x = v) (h : SB w v l) (k k' : IntKind) (i j : Int) (hlo : a.eval lo = .int k i) (hhi : a.eval hi = .int k' j)
    (h0 : 0 ≤ i) (h1 : i ≤ j) (h2 : j ≤ l.length) (W : World) : (execOp a.eval o).run Tryd.prog W = .ok (.value (cutS v i.toNat j.toNat)) W := by
  unfold execOp
  simp only [ho, hx, Option.map_some, Option.map_none, hlo, hhi, Sem.run_bind, run_cut_lh w v l h k k' i j h0 h1 h2 W, Result.andThen_ok, Sem.run_pure]
theorem exec_cut_h (x hi : Operand) (ho : o.op = .slice 22 x none (some hi) none) (v : Value) (l : Bytes) (hx : a.eval x = v) (h : SB w v l) (k' : IntKind) (j : Int) (hhi : a.eval hi = .int k' j)
    (h1 : 0 ≤ j) (h2 : j ≤ l.length) (W : World) : (execOp a.eval o).run Tryd.prog W = .ok (.value (cutS v 0 j.toNat)) W := by
  unfold execOp
  simp only [ho, hx, Option.map_some, Option.map_none, hhi, Sem.run_bind, run_cut_h w v l h k' j h1 h2 W, Result.andThen_ok, Sem.run_pure]
theorem exec_cut_l (x lo : Operand) (ho : o.op = .slice 22 x (some lo) none none) (v : Value) (l : Bytes) (hx : a.eval x = v) (h : SB w v l) (k : IntKind) (i : Int) (hlo : a.eval lo = .int k i)
    (h0 : 0 ≤ i) (h2 : i ≤ l.length) (W : World) : (execOp a.eval o).run Tryd.prog W = .ok (.value (cutS v i.toNat l.length)) W := by
  unfold execOp
  simp only [ho, hx, Option.map_some, Option.map_none, hlo, Sem.run_bind, run_cut_l w v l h k i h0 h2 W, Result.andThen_ok, Sem.run_pure]
/-- In a walk. -/
theorem wl_val (hgd : o.guard = none) (v : Value) (hv : (execOp a.eval o).run Tryd.prog w = .ok (.value v) w) (h : wpList Tryd.prog ops Q rest (a.put o.dst v) w) : wpList Tryd.prog ops Q (o :: rest) a w :=
  wpList_plain hgd fun K hK => by
    unfold Oper.wp
    rw [hv]
    exact hK _ _ h
end
end Go.Proofs.YtpkelokaammmjaaDoor
end
/-! copy of a slice of bytes into a row that is known whole; a val or a run as a step of a walk. -/
section
namespace Go.Proofs.YtpkelokaammmjaaDoor
open Go.RowKit Go.QT
theorem s5 : (Tryd.prog.info? 5).map (·.size) = some 1 := by kernel_rfl
theorem u28 : Tryd.prog.underlying 22 = some (.slice 5) := by kernel_rfl
/-- What a row becomes. -/
def ovr (cur : Bytes) (off : Nat) (l : Bytes) : Bytes := cur.take off ++ l ++ cur.drop (off + l.length)
theorem ovr_len (cur : Bytes) (off : Nat) (l : Bytes) (h : off + l.length ≤ cur.length) : (ovr cur off l).length = cur.length := by
  simp [ovr]; omega
theorem exec_copy {o : Oper} {a : Act} {w : World} (d s : Operand) (ho : o.op = .call { callee := .builtin .copy, args := #[d, s], argTypes := #[22, 22] })
    (g off dLen dCap : Nat) (T : TypeId) (cur l : Bytes) (v : Value) (hd : a.eval d = .slice (some ⟨g, off, none⟩) dLen dCap) (hs : a.eval s = v) (hr : Row w g T cur) (hv : SB w v l) (hne : l ≠ []) (hle : l.length ≤ dLen) (hfit : off + l.length ≤ cur.length) :
    (execOp a.eval o).run Tryd.prog w = .ok (.value (goInt l.length)) (w.setRow g (vb (ovr cur off l)).toArray) := by
  obtain ⟨b, ob, c, rfl, hc, hm, hb, hcell⟩ := hv.open_ hne
  have hcur : (vb cur).toArray.size = cur.length := by simp
  have hrun := run_copy_row (P := Tryd.prog) w 22 22 o.type 5 g off dLen dCap ⟨b, ob, none⟩ l.length c (vb cur).toArray T (vb l) u28 s5 hr (by rw [vb_length]; exact (Nat.min_eq_left hle).symm)
    (fun j u hj => by
      have hjl : j < l.length := by
        rcases Nat.lt_or_ge j l.length with h | h
        · exact h
        · rw [List.getElem?_eq_none (by simpa using h)] at hj; cases hj
      rw [vb_get l j hjl] at hj
      rw [Addr.add_mid, hcell j hjl, hj]) (by rw [hcur]; simpa using hfit) (vb_ones l)
  have e : ((vb cur).toArray.toList.take off ++ vb l ++ (vb cur).toArray.toList.drop (off + (vb l).length)).toArray = (vb (ovr cur off l)).toArray := by
    simp [ovr, vb]
  rw [e] at hrun
  unfold execOp
  simp only [ho, resolve, invoke, builtin, Sem.run_bind, Sem.run_pure, Result.andThen_ok, List.map_toArray, List.map_cons, List.map_nil, hs, hd, hrun]
  simp
theorem wl_copy {ops : Array Oper} {rest : List Oper} {o : Oper} {a : Act} {w : World} {Q : Exit → Act → World → Prop} (hgd : o.guard = none) (d s : Operand) (ho : o.op = .call { callee := .builtin .copy, args := #[d, s], argTypes := #[22, 22] })
    (g off dLen dCap : Nat) (T : TypeId) (cur l : Bytes) (v : Value) (hd : a.eval d = .slice (some ⟨g, off, none⟩) dLen dCap) (hs : a.eval s = v) (hr : Row w g T cur) (hv : SB w v l) (hne : l ≠ []) (hle : l.length ≤ dLen) (hfit : off + l.length ≤ cur.length)
    (h : ∀ w', Row w' g T (ovr cur off l) → w.grownBy w' (some g) → w'.heap.size = w.heap.size → wpList Tryd.prog ops Q rest (a.put o.dst (goInt l.length)) w') : wpList Tryd.prog ops Q (o :: rest) a w :=
  wpList_plain hgd fun K hK => by
    unfold Oper.wp
    rw [exec_copy d s ho g off dLen dCap T cur l v hd hs hr hv hne hle hfit]
    exact hK _ _ (h _ (Blk.setRow hr _) (only_setRow g _) (by simp))
end Go.Proofs.YtpkelokaammmjaaDoor
end
/-! The walk of sym.mark: a mark. -/
section
namespace Go.Proofs.YtpkelokaammmjaaDoor
open Go.RowKit Go.QT
theorem z16_eq : (#[Value.int IntKind.u8 0, Value.int IntKind.u8 0, Value.int IntKind.u8 0, Value.int IntKind.u8 0, Value.int IntKind.u8 0, Value.int IntKind.u8 0, Value.int IntKind.u8 0, Value.int IntKind.u8 0, Value.int IntKind.u8 0, Value.int IntKind.u8 0, Value.int IntKind.u8 0, Value.int IntKind.u8 0, Value.int IntKind.u8 0, Value.int IntKind.u8 0, Value.int IntKind.u8 0, Value.int IntKind.u8 0] : Array Value) = (vb zKey).toArray := by
  rw [zKey, vb_zeros]; rfl
theorem zKey_len : zKey.length = 16 := rfl
theorem mkB_len (k : UInt8) (n : Nat) : (mkB k n).length = 16 := rfl
/-- What a call leaves that answers a row of bytes by value. -/
def APost (w : World) (l : Bytes) (e : Ending) (w' : World) : Prop := e = .returned (.agg (vb l).toArray) ∧ Below w.heap.size w w'
theorem ovr_mark (k : UInt8) (n : Nat) : ovr (ovr zKey 0 [255, 254, k]) 8 (put8 n) = mkB k n := rfl
theorem u64_of (n : Nat) (h : n < 9223372036854775808) : IntKind.u64.wrap (n : Int) = (n : Int) := by
  rw [IntKind.wrap_u64]; omega
end Go.Proofs.YtpkelokaammmjaaDoor
end
/-! A result that lies in a cell, beside one in a slot. -/
section
namespace Go.Proofs.YtpkelokaammmjaaDoor
open Go.RowKit
theorem results_cell_tmp {P : Program} {fn : Func} {p q : Tmp} {ty : TypeId} (h : fn.results = #[.cell p ty, .tmp q]) (tmps : Array Value) (w : World) (g : Nat) (t : TypeId) (cs : List Value) (d : TypeDesc) (u : Value)
    (hp : tmps.getD p undef = .pointer (some ⟨g, 0, none⟩)) (hq : tmps.getD q undef = u) (hg : Blk w g t cs)
    (hu : P.underlying ty = some d) (hd : (match d with | .struct _ | .array _ _ => true | _ => false) = true) (hi : (P.info? ty).map (·.size) = some cs.length) :
    (results fn tmps).run P w = .ok (.tuple #[.agg cs.toArray, u]) w := by
  have hp' : tmps[p]?.getD undef = .pointer (some ⟨g, 0, none⟩) := by simpa using hp
  have hq' : tmps[q]?.getD undef = u := by simpa using hq
  have hl := run_loadVar_row (P := P) w g t ty cs.toArray (0, 0) d hg hu hd (by rw [hi]; simp)
  simp [results, h, hp', hq', asAddr, hl]
end Go.Proofs.YtpkelokaammmjaaDoor
end
/-! The walks of octet.Key; of slices.Index and Contains at bytes. -/
section
namespace Go.Proofs.YtpkelokaammmjaaDoor
open Go.RowKit Go.QT
def KPost (w : World) (l : Bytes) (e : Ending) (w' : World) : Prop :=
  e = .returned (.tuple #[.agg (vb (if l.length = 16 then l else zKey)).toArray, .bool (decide (l.length = 16))]) ∧ Below w.heap.size w w'
theorem ovr_all (l : Bytes) (h : l.length = 16) : ovr zKey 0 l = l := by
  simp [ovr, h, zKey]
theorem sb_form {w : World} {v : Value} {l : Bytes} (hv : SB w v l) : ∃ A c, v = .slice A l.length c ∧ l.length ≤ c ∧ c ≤ 2 ^ 63 - 1 := by
  obtain ⟨A, c, e, h1, h2, _⟩ := hv
  exact ⟨A, c, e, h1, by unfold maxLen at h2; exact h2⟩
set_option maxRecDepth 100000 in
set_option maxHeartbeats 1000000 in
theorem okey_any (v : Value) (l : Bytes) (w : World) (hv : SB w v l) : Calls Tryd.prog 27 #[v] w (KPost w l) := by
  obtain ⟨A, c, rfl, hc1, hc2⟩ := sb_form hv
  have Hv := Hd.mk hv
  clear hv
  have hi0 : (Tryd.prog.info? 28).map (·.size) = some (vb zKey).length := i42
  have Hi0 := Hd.mk hi0
  clear hi0
  by_cases h16 : l.length = 16
  · have hd : (((l.length : Nat) : Int) != 16) = false := by rw [h16]; rfl
    have H16 := Hd.mk h16
    have Hov := Hd.mk (ovr_all l h16)
    have hi1 : (Tryd.prog.info? 28).map (·.size) = some (vb l).length := by rw [vb_length, h16]; exact i42
    have Hi1 := Hd.mk hi1
    clear hi1 h16
    go_enter Tryd.func27, Tryd.ntmps27
    go_upto_region 2 with (fail)
    rw [z16_eq]
    have h2 : Row ((w.alloc (.cells (vb zKey).toArray 28)).alloc (.cells (vb zKey).toArray 28)) w.heap.size 28 zKey := Row.alloc (Row.new w 28 zKey) _
    have h4 : Row ((w.alloc (.cells (vb zKey).toArray 28)).alloc (.cells (vb zKey).toArray 28)) (w.heap.size + 1) 28 zKey := new2 w _ 28 _
    have hB : Below w.heap.size w ((w.alloc (.cells (vb zKey).toArray 28)).alloc (.cells (vb zKey).toArray 28)) := ((Below.refl _ _).alloc (Nat.le_refl _) _).alloc (by simp) _
    generalize (w.alloc (.cells (vb zKey).toArray 28)).alloc (.cells (vb zKey).toArray 28) = w1 at *
    have hlt := h4.lt
    have H2 := Hd.mk h2
    have H4 := Hd.mk h4
    clear h2 h4
    go_upto_region 5 with (refine wl_copy rfl (.tmp 9) (.tmp 10) rfl (w.heap.size + 1) 0 16 16 28 zKey l (.slice A l.length c) rfl rfl H4.out (Hv.out.below hB) (by intro e; have := H16.out; rw [e] at this; cases this) (by rw [H16.out]; omega) (by rw [H16.out]; simp [zKey]) ?_; intro w2 hr2 hg2 hs2)
    rw [Hov.out] at hr2
    have h22 := H2.out.grown' hg2 (by simp)
    have hB2 : Below w.heap.size w w2 := hB.grown hg2 hB.size (by rintro j hj; cases hj; omega)
    have Hr2 := Hd.mk hr2
    have H22 := Hd.mk h22
    clear hr2 h22 H2 H4 hg2 hs2 hB
    go_wp2_with (first | (refine wl_load rfl 28 _ rfl (w.heap.size + 1) 0 rfl 28 (vb l) (vb l) _ Hr2.out (by simp) ty42 rfl (by exact Hi1.out) ?_) | (refine wl_storeW rfl 28 _ _ rfl w.heap.size 0 (vb l) rfl rfl 28 _ (vb l) H22.out (by simp [zKey, H16.out]) (by exact Hi1.out) (vb_ones _) (by simp [zKey, H16.out]) ?_; intro w3 hr3 hg3 hs3))
    have hB3 := hB2.grown hg3 hB2.size (by rintro j hj; cases hj; omega)
    refine bodyPost_ret (results_cell_tmp (p := 2) (q := 3) (ty := 28) rfl _ _ w.heap.size 28 (vb l) _ (.bool true) rfl rfl hr3 ty42 rfl Hi1.out) rfl ⟨?_, hB3⟩
    · rw [if_pos H16.out, decide_eq_true H16.out]
  · have hd : (((l.length : Nat) : Int) != 16) = true := by rw [bne_iff_ne]; omega
    have H16 := Hd.mk h16
    clear h16
    go_enter Tryd.func27, Tryd.ntmps27
    go_upto_region 2 with (fail)
    rw [z16_eq]
    have h2 : Row ((w.alloc (.cells (vb zKey).toArray 28)).alloc (.cells (vb zKey).toArray 28)) w.heap.size 28 zKey := Row.alloc (Row.new w 28 zKey) _
    have h4 : Row ((w.alloc (.cells (vb zKey).toArray 28)).alloc (.cells (vb zKey).toArray 28)) (w.heap.size + 1) 28 zKey := new2 w _ 28 _
    have hB : Below w.heap.size w ((w.alloc (.cells (vb zKey).toArray 28)).alloc (.cells (vb zKey).toArray 28)) := ((Below.refl _ _).alloc (Nat.le_refl _) _).alloc (by simp) _
    generalize (w.alloc (.cells (vb zKey).toArray 28)).alloc (.cells (vb zKey).toArray 28) = w1 at *
    have hlt := h4.lt
    have H2 := Hd.mk h2
    have H4 := Hd.mk h4
    clear h2 h4
    go_wp2_with (first | (refine wl_load rfl 28 _ rfl (w.heap.size + 1) 0 rfl 28 (vb zKey) (vb zKey) _ H4.out (by simp) ty42 rfl (by exact Hi0.out) ?_) | (refine wl_storeW rfl 28 _ _ rfl w.heap.size 0 (vb zKey) rfl rfl 28 _ (vb zKey) H2.out (by simp) (by exact Hi0.out) (vb_ones _) (by simp [zKey]) ?_; intro w3 hr3 hg3 hs3))
    have hB3 := hB.grown hg3 hB.size (by rintro j hj; cases hj; omega)
    refine bodyPost_ret (results_cell_tmp (p := 2) (q := 3) (ty := 28) rfl _ _ w.heap.size 28 (vb zKey) _ (.bool false) rfl rfl hr3 ty42 rfl Hi0.out) rfl ⟨?_, hB3⟩
    · rw [if_neg H16.out, decide_eq_false H16.out]
end Go.Proofs.YtpkelokaammmjaaDoor
end
/-! Strings as bytes, bytes as strings. -/
section
namespace Go.Proofs.YtpkelokaammmjaaDoor
open Go.RowKit Go.QT
theorem ustr : Tryd.prog.underlying 9 = some .string := by kernel_rfl
theorem ubyte : Tryd.prog.underlying 5 = some (.int .u8) := by kernel_rfl
/-- A new block, whatever its mark, leaves what was there. -/
theorem below_allocMark {B : Nat} {w0 w : World} (h : Below B w0 w) (hB : B ≤ w.heap.size) (o : Obj) : Below B w0 (w.drew.alloc o) := (below_drewN h 1).alloc hB o
theorem conv_sb (s : ByteArray) (w : World) (hs : s.size ≤ maxLen) : ∃ v w', (convert 9 22 (.string s)).run Tryd.prog w = .ok v w' ∧ SB w' v s.data.toList ∧ Below w.heap.size w w' ∧ (∃ g c, g = w.heap.size ∧ v = .slice (some ⟨g, 0, none⟩) s.size c) := by
  refine ⟨_, _, run_bytes_of_string w 9 22 5 s ustr u28 ubyte, ?_, (below_drewN (Below.refl _ _) 1).alloc (Nat.le_refl _) _, ⟨_, _, rfl, rfl⟩⟩
  refine ⟨_, _, ?_, ?_, grownCap_le_maxLen w s.size 0 5 hs, fun hne => ⟨w.heap.size, 0, rfl, by simp [World.alloc, World.drew, -World.alloc_eq, -World.drew_eq], fun i hi => ?_⟩⟩
  · rfl
  · exact grownCap_ge w s.size 0 5
  · have := World.cell?_alloc_mark w.drew (bytesRow s (grownCap w s.size 0 5)) 5 ((bytesRow s (grownCap w s.size 0 5)).size, (bytesRow s (grownCap w s.size 0 5)).size + 1) i
    rw [Nat.zero_add]
    refine this.trans ?_
    have hi' : i < s.data.size := by simpa using hi
    have hi2 : i < s.size := hi'
    have hg : s.data[i]? = some s.data[i] := Array.getElem?_eq_getElem hi'
    simp [bytesRow, Array.getElem?_append, hi2, gb, ub]
theorem exec_conv_sb {o : Oper} {a : Act} (x : Operand) (ho : o.op = .convert 9 22 x) (s : ByteArray) (hx : a.eval x = .string s) (w : World) (hs : s.size ≤ maxLen) :
    ∃ v w', (execOp a.eval o).run Tryd.prog w = .ok (.value v) w' ∧ SB w' v s.data.toList ∧ Below w.heap.size w w' ∧ (∃ g c, g = w.heap.size ∧ v = .slice (some ⟨g, 0, none⟩) s.size c) := by
  obtain ⟨v, w', h1, h2, h3, h4⟩ := conv_sb s w hs
  refine ⟨v, w', ?_, h2, h3, h4⟩
  unfold execOp
  simp only [ho, hx, Sem.run_bind, h1, Result.andThen_ok, Sem.run_pure]
theorem wl_conv_sb {ops : Array Oper} {rest : List Oper} {o : Oper} {a : Act} {w : World} {Q : Exit → Act → World → Prop} (hgd : o.guard = none) (x : Operand) (ho : o.op = .convert 9 22 x) (s : ByteArray) (hx : a.eval x = .string s) (hs : s.size ≤ maxLen)
    (h : ∀ v w', SB w' v s.data.toList → Below w.heap.size w w' → wpList Tryd.prog ops Q rest (a.put o.dst v) w') : wpList Tryd.prog ops Q (o :: rest) a w := by
  obtain ⟨v, w', h1, h2, h3, _⟩ := exec_conv_sb x ho s hx w hs
  exact wl_run hgd v h1 (h v w' h2 h3)
theorem run_sb_conv {w : World} {v : Value} {l : Bytes} (h : SB w v l) (W : World) (hW : W = w) : (convert 22 9 v).run Tryd.prog W = .ok (.string ⟨l.toArray⟩) W := by
  subst hW
  obtain ⟨A, c, rfl, hc, hm, hcell⟩ := h
  by_cases hl : l = []
  · subst hl
    simp only [List.length_nil]
    rw [run_convert_bytes_string W 22 9 5 A 0 c u28 ubyte ustr]
    cases A with
    | none => simp [Conv.bytesToString]; rfl
    | some p =>
      rw [run_bytesToString W p 0 c [] (by simp [loadCells, loadCellsFrom])]
      rfl
  · obtain ⟨b, o, rfl, hb, hcl⟩ := hcell hl
    exact run_convert_bytes_back W 22 9 5 ⟨b, o, none⟩ c l u28 ubyte ustr fun j hj => by
      rw [Addr.add_mid, hcl j hj]
      simp [gb, hj, ub]
theorem exec_sb_conv {o : Oper} {a : Act} {w : World} (x : Operand) (ho : o.op = .convert 22 9 x) (v : Value) (l : Bytes) (hx : a.eval x = v) (h : SB w v l) : (execOp a.eval o).run Tryd.prog w = .ok (.value (.string ⟨l.toArray⟩)) w := by
  have h1 := run_sb_conv h w rfl
  unfold execOp
  simp only [ho, hx, Sem.run_bind, h1, Result.andThen_ok, Sem.run_pure]
end Go.Proofs.YtpkelokaammmjaaDoor
end
/-! The walks of slices.Index and slices.Contains at bytes; of slices.Clone. -/
section
namespace Go.Proofs.YtpkelokaammmjaaDoor
open Go.RowKit Go.QT
/-- The first place of a byte; -1: there is none. -/
def idxB (x : UInt8) : Bytes → Nat → Int
  | [], _ => -1
  | c :: l, k => if x = c then k else idxB x l (k+1)
theorem idxB_hit (x : UInt8) : ∀ (l : Bytes) (k j : Nat), j < l.length → (∀ i, i < j → x ≠ gb l i) → x = gb l j → idxB x l k = ((k + j : Nat) : Int)
  | c :: l, k, 0, _, _, h => by
    have : x = c := h
    simp [idxB, this]
  | c :: l, k, j+1, hj, hn, h => by
    have h0 : x ≠ c := hn 0 (by omega)
    rw [idxB, if_neg h0, idxB_hit x l (k+1) j (by simpa using hj) (fun i hi => hn (i+1) (by omega)) h]
    omega
theorem idxB_miss (x : UInt8) : ∀ (l : Bytes) (k : Nat), (∀ i, i < l.length → x ≠ gb l i) → idxB x l k = -1
  | [], _, _ => rfl
  | c :: l, k, hn => by
    have h0 : x ≠ c := hn 0 (by simp)
    rw [idxB, if_neg h0, idxB_miss x l (k+1) (fun i hi => hn (i+1) (by simpa using hi))]
theorem idxB_mem (x : UInt8) : ∀ (l : Bytes) (k : Nat), decide (0 ≤ idxB x l k) = decide (x ∈ l)
  | [], _ => by simp [idxB]
  | c :: l, k => by
    have ih := idxB_mem x l (k+1)
    by_cases h : x = c
    · simp [idxB, h]
    · rw [idxB, if_neg h, ih]; simp [h]
def VPost (w : World) (v : Value) (e : Ending) (w' : World) : Prop := e = .returned v ∧ w = w'
/-- What a call leaves that clones a row of bytes. -/
def CPost (w : World) (l : Bytes) (e : Ending) (w' : World) : Prop := ∃ v, e = .returned v ∧ OB w' w.heap.size v l ∧ Below w.heap.size w w'
end Go.Proofs.YtpkelokaammmjaaDoor
end
/-! Slices whose elements have any number of cells: what is read, what is the call's own; steps on them. -/
section
namespace Go.Proofs.YtpkelokaammmjaaDoor
open Go.RowKit Go.QT
/-- A slice reads as elements of sz cells. -/
structure RV (w : World) (sz : Nat) (A : Option Addr) (c : Nat) (xs : List (List Value)) : Prop where
  le : xs.length ≤ c
  cap : c ≤ maxLen
  len : ∀ x ∈ xs, x.length = sz
  at_ : xs ≠ [] → ∃ b o, A = some ⟨b, o, none⟩ ∧ b < w.heap.size ∧ ∀ i x, xs[i]? = some x → ∀ j u, x[j]? = some u → w.cell? ⟨b, o + i * sz + j, none⟩ = some u
def ownA : Option Addr → Option Nat := fun A => A.map (·.block)
def rRV (sz : Nat) (A : Option Addr) (c : Nat) (xs : List (List Value)) : Res where
  F := fun q => xs ≠ [] ∧ ownA A = some q
  Φ := fun w => RV w sz A c xs
  lt := fun h q hq => by
    obtain ⟨b, o, rfl, hb, _⟩ := h.at_ hq.1
    have : b = q := by simpa [ownA] using hq.2
    omega
  keep := fun h hs hk => ⟨h.le, h.cap, h.len, fun hne => by
    obtain ⟨b, o, rfl, hb, hc⟩ := h.at_ hne
    exact ⟨b, o, rfl, by omega, fun i x hx j u hu => (World.cell?_of_block (hk b ⟨hne, rfl⟩)).trans (hc i x hx j u hu)⟩⟩
/-- The bytes as elements. -/
def bx (l : Bytes) : List (List Value) := l.map fun x => [.int .u8 (ub x)]
@[simp] theorem bx_len (l : Bytes) : (bx l).length = l.length := by simp [bx]
theorem bx_get (l : Bytes) (i : Nat) (hi : i < l.length) : (bx l)[i]? = some [.int .u8 (ub (gb l i))] := by simp [bx, gb, hi]
theorem SB.rv {w : World} {A : Option Addr} {n c : Nat} {l : Bytes} (h : SB w (.slice A n c) l) : RV w 1 A c (bx l) := by
  obtain ⟨A', c', e, hc, hm, hcell⟩ := h
  injection e with e1 e2 e3
  subst e1; subst e3
  refine ⟨by simpa using hc, hm, by simp [bx], fun hne => ?_⟩
  obtain ⟨b, o, rfl, hb, hcl⟩ := hcell (by rintro rfl; exact hne rfl)
  refine ⟨b, o, rfl, hb, fun i x hx j u hu => ?_⟩
  have hi : i < l.length := by have := (List.getElem?_eq_some_iff.1 hx).1; simpa using this
  rw [bx_get l i hi] at hx
  injection hx with hx
  subst hx
  have hj : j = 0 := by have := (List.getElem?_eq_some_iff.1 hu).1; simpa using this
  subst hj
  injection hu with hu
  subst hu
  simpa using hcl i hi
theorem RV.sb {w : World} {A : Option Addr} {c : Nat} {l : Bytes} (h : RV w 1 A c (bx l)) : SB w (.slice A l.length c) l :=
  ⟨A, c, rfl, by simpa using h.le, h.cap, fun hne => by
    obtain ⟨b, o, rfl, hb, hc⟩ := h.at_ (by intro h0; apply hne; simpa [bx] using h0)
    refine ⟨b, o, rfl, hb, fun i hi => ?_⟩
    simpa using hc i _ (bx_get l i hi) 0 _ rfl⟩
/-- Where an element lies. -/
def eAt (A : Option Addr) (k : Nat) : Value := match A with | some a => .pointer (some (a.add k)) | none => undef
section
variable {P : Program} {o : Oper} {a : Act} {w w' : World} {sz c : Nat} {A : Option Addr} {xs : List (List Value)}
theorem RV.keep (h : RV w sz A c xs) (hs : w.heap.size ≤ w'.heap.size) (hk : ∀ q, ownA A = some q → w'.heap[q]? = w.heap[q]?) : RV w' sz A c xs :=
  (rRV sz A c xs).keep h hs fun q hq => hk q hq.2
theorem RV.below (h : RV w sz A c xs) (hb : Below w.heap.size w w') : RV w' sz A c xs :=
  (rRV sz A c xs).keep h hb.size fun q hq => hb.block q ((rRV sz A c xs).lt h q hq)
/-- The place of an element. -/
theorem e_idx (h : RV w sz A c xs) (i : Nat) (hi : i < xs.length) (t : TypeId) (x y : Operand) (ho : o.op = .indexAddr t x y) (k : IntKind) (hx : a.eval x = .slice A xs.length c) (hy : a.eval y = .int k (i : Int)) (E : TypeId) (ht : P.underlying t = some (.slice E)) (hE : pureVal P (sizeOf E) = some sz) (W : World) :
    (execOp a.eval o).run P W = .ok (.value (eAt A (i * sz))) W := by
  obtain ⟨b, o', rfl, hb, hc⟩ := h.at_ (by rintro rfl; simp at hi)
  have h0 : (0 : Int) ≤ i ∧ (i : Int) < xs.length := ⟨by omega, by omega⟩
  have h1 : (Instr.indexAt t (.slice (some ⟨b, o', none⟩) xs.length c) (.int k (i : Int))).run P W = .ok (eAt (some ⟨b, o', none⟩) (i * sz)) W := by
    simp [Instr.indexAt, asIntOf, run_underlying ht, hi, pureVal_run hE, eAt]
  unfold execOp
  simp only [ho, hx, hy, Sem.run_bind, h1, Result.andThen_ok, Sem.run_pure]
theorem eAt_some (h : RV w sz A c xs) (i : Nat) (hi : i < xs.length) : ∃ b k, A = some ⟨b, k, none⟩ ∧ eAt A (i * sz) = pt b (k + i * sz) ∧ ∀ j u, (xs[i]'hi)[j]? = some u → w.cell? ⟨b, k + i * sz + j, none⟩ = some u := by
  obtain ⟨b, o', rfl, hb, hc⟩ := h.at_ (by rintro rfl; simp at hi)
  refine ⟨b, o', rfl, ?_, fun j u hu => hc i _ (List.getElem?_eq_getElem hi) j u hu⟩
  unfold eAt pt
  by_cases h0 : i * sz = 0
  · rw [h0]; simp [Addr.add]
  · simp [Addr.add, h0]
/-- A cell of an element. -/
theorem e_elem (h : RV w sz A c xs) (i : Nat) (hi : i < xs.length) (t : TypeId) (x : Operand) (ho : o.op = .load t x) (v : Value) (hx : a.eval x = eAt A (i * sz)) (hv : (xs[i]'hi)[0]? = some v) (ht : pureVal P (isAgg t) = some false) :
    (execOp a.eval o).run P w = .ok (.value v) w := by
  obtain ⟨b, k, rfl, e, hc⟩ := eAt_some h i hi
  have hcell : w.cell? ⟨b, k + i * sz, none⟩ = some v := by simpa using hc 0 v hv
  have hl : (loadVar t ⟨b, k + i * sz, none⟩).run P w = .ok v w := by simp [loadVar, pureVal_run ht, hcell]
  unfold execOp
  rw [e] at hx
  simp only [ho, hx, pt, Instr.loadAt, Instr.sureAddr, Sem.run_bind, Sem.run_pure, Result.andThen_ok, hl]
/-- An element of more cells. -/
theorem e_elems (h : RV w sz A c xs) (i : Nat) (hi : i < xs.length) (t : TypeId) (x : Operand) (ho : o.op = .load t x) (ds : List Value) (hx : a.eval x = eAt A (i * sz)) (hv : xs[i]'hi = ds) (hB : rowB P t ds.length = true) :
    (execOp a.eval o).run P w = .ok (.value (.agg ds.toArray)) w := by
  obtain ⟨b, k, rfl, e, hc⟩ := eAt_some h i hi
  obtain ⟨d, hu, hr, hs⟩ := rowB_spec hB
  have hl := run_loadVar_mid (P := P) w b (k + i * sz) t ds d (fun j v hj => hc j v (by rw [hv]; exact hj)) hu hr hs
  unfold execOp
  rw [e] at hx
  simp only [ho, hx, pt, Instr.loadAt, Instr.sureAddr, Sem.run_bind, Sem.run_pure, Result.andThen_ok, hl]
theorem OV.rv {base E : Nat} {A : Option Addr} {n : Nat} (h : OV w base E sz (.slice A n c) xs) : n = xs.length ∧ RV w sz A c xs := by
  have hf := h.form
  obtain ⟨A', c', e, h1, h2⟩ := hf
  injection e with e1 e2 e3
  subst e1; subst e2; subst e3
  refine ⟨rfl, h1, h2, h.len, fun hne => ?_⟩
  have hpos : 0 < xs.length := by
    rcases Nat.eq_zero_or_pos xs.length with h0 | h0
    · exact absurd (List.eq_nil_of_length_eq_zero h0) hne
    · exact h0
  obtain ⟨g, cap, e, hb, hlt, _⟩ := h.at_ (i := 0) hpos
  injection e with e1 _ _
  subst e1
  refine ⟨g, 0, rfl, hlt, fun i x hx j u hu => ?_⟩
  have hi : i < xs.length := (List.getElem?_eq_some_iff.1 hx).1
  obtain ⟨g', cap', e', _, _, _, _, cur, hB, hcur⟩ := h.at_ hi
  injection e' with e1' _ _
  injection e1' with e1'
  injection e1' with e2'
  subst e2'
  have hxe : xs[i] = x := by rw [List.getElem?_eq_getElem hi] at hx; injection hx
  subst hxe
  have hj : j < sz := by rw [← h.len _ (List.getElem_mem hi)]; exact (List.getElem?_eq_some_iff.1 hu).1
  rw [Nat.zero_add, hB.cell, hcur j hj]
  exact hu
/-- append of one element, that lies in a block of its own, to a row of the call's own. -/
theorem x_push {F0 : Nat → Prop} {w0 : World} {ro rs : List Res} (h : Hp F0 w0 w ro rs) (i j : Nat) {E : TypeId} {v : Value} {g : Nat} {T : TypeId} {news : List Value} (hi : rs[i]? = some (rOV E sz v xs)) (hj : rs[j]? = some (rBlk g T news)) (_hij : i ≠ j)
    (s x : Operand) (t : TypeId) (ho : o.op = .call { callee := .builtin .append, args := #[s, x], argTypes := #[t, t] }) (bytes : Nat) (z : Value) (ht : P.underlying t = some (.slice E)) (hinf : (P.info? E).map (fun i => (i.zero, i.size, i.bytes)) = some (some z, sz, bytes))
    (hzs : z.cells.size = sz) (hsz : 0 < sz) (hs : a.eval s = v) (c : Nat) (hx : a.eval x = .slice (some ⟨g, 0, none⟩) 1 c) (hn : news.length = sz) (h1 : ∀ u ∈ news, u.oneCell' = true)
    (hlen : (xs.length + 1) * bytes ≤ 140737488355328) (hlen2 : xs.length < maxLen) :
    OpTo P o a w (fun u w' => ∃ A cc, u = .slice A (xs ++ [news]).length cc ∧ Hp F0 w0 w' ro (rs.set i (rOV E sz u (xs ++ [news])))) := by
  have hv : OV w 0 E sz v xs := h.own i _ hi
  have hb : Blk w g T news := h.own j _ hj
  obtain ⟨v', w', hrun, h2, h3, h4⟩ := OV.push (P := P) s x t ho 0 E sz bytes z ht hinf hzs hsz v xs hs hv g T news c hx hb hn h1 hlen hlen2 (Nat.zero_le _)
  obtain ⟨A, cc, e, _, _⟩ := h2.form
  refine OpTo.run v' hrun ⟨A, cc, e, h.upd i hi (Fr.of_grown h3 (fun q hq => .inl hq)) (rOV E sz v' (xs ++ [news])) h2 (fun q hq => ?_)⟩
  rcases h4 with h4 | h4
  · left; show v.ownBlock = some q; rw [← h4]; exact hq
  · right
    have : v'.ownBlock = some q := hq
    rw [h4] at this
    injection this with this
    omega
/-- A row of the call's own without elements. -/
theorem Hp.ovNil {F0 : Nat → Prop} {w0 : World} {ro rs : List Res} (h : Hp F0 w0 w ro rs) (E sz : Nat) : Hp F0 w0 w ro (rOV E sz (.slice none 0 0) [] :: rs) :=
  h.newS (Below.refl _ _) _ (OV.nil w 0 E sz) (fun q hq => by simp [rOV, Value.ownBlock] at hq)
theorem Hp.obNil {F0 : Nat → Prop} {w0 : World} {ro rs : List Res} (h : Hp F0 w0 w ro rs) : Hp F0 w0 w ro (rOB (.slice none 0 0) [] :: rs) :=
  h.newS (Below.refl _ _) _ (OB.nil w 0) (fun q hq => by simp [rOB, Value.ownBlock] at hq)
/-- A block of bytes becomes a row of the call's own. -/
theorem Hp.blkOB {F0 : Nat → Prop} {w0 : World} {ro rs : List Res} (h : Hp F0 w0 w ro rs) (i : Nat) {g : Nat} (l : Bytes) (hi : rs[i]? = some (rBlk g 5 (vb l))) (hl : l.length ≤ maxLen) : Hp F0 w0 w ro (rs.set i (rOB (.slice (some ⟨g, 0, none⟩) l.length l.length) l)) := by
  have hb : Row w g 5 l := h.own i _ hi
  refine h.upd i hi (Fr.refl _ _) _ (OB.new w g l hl hb (Nat.zero_le _)) (fun q hq => .inl ?_)
  have : g = q := by simpa [rOB, Value.ownBlock] using hq
  exact this.symm
/-- append of bytes that are read to a row of the call's own. -/
theorem x_appB {F0 : Nat → Prop} {w0 : World} {ro rs : List Res} (h : Hp F0 w0 w ro rs) (i : Nat) {v : Value} {l m : Bytes} (hi : rs[i]? = some (rOB v l)) (s x : Operand) (ho : o.op = .call { callee := .builtin .append, args := #[s, x], argTypes := #[22, 22] })
    (u : Value) (hs : a.eval s = v) (hx : a.eval x = u) (hu : SB w u m) (hlen : l.length + m.length ≤ 140737488355328) :
    OpTo Tryd.prog o a w (fun u w' => ∃ A cc, u = .slice A (l ++ m).length cc ∧ Hp F0 w0 w' ro (rs.set i (rOB u (l ++ m)))) := by
  have hv : OB w 0 v l := h.own i _ hi
  obtain ⟨i0, hi0, hz0, hz1, hz2⟩ := info_parts i5
  obtain ⟨A, c, rfl, hc, hm, hcell⟩ := hu
  have hr := (SB.reads (w := w) (A := A) (n := m.length) (c := c) ⟨A, c, rfl, hc, hm, hcell⟩).2
  obtain ⟨v', w', hrun, h2, h3, h4⟩ := run_append_any (P := Tryd.prog) w 0 22 o.type 5 i0 _ 1 1 ty28 hi0 hz0 hz1 hz2 rfl (by omega) v l.length (vb l) hv w.heap.size A m.length c (vb m) hr (vb_ones m) (by unfold maxLen; omega) (by omega) (Nat.zero_le _)
  have h2' : OB w' 0 v' (l ++ m) := by
    unfold OB
    rw [List.length_append, vb_append]
    exact h2
  have hsb := SB.own h2'
  obtain ⟨A', c', e, _, _⟩ := hsb
  have hrun' : (execOp a.eval o).run Tryd.prog w = .ok (.value v') w' := by
    unfold execOp
    simp only [ho, resolve, invoke, builtin, Sem.run_bind, Sem.run_pure, Result.andThen_ok, List.map_toArray, List.map_cons, List.map_nil, hs, hx, hrun]
  refine OpTo.run v' hrun' ⟨A', c', e, h.upd i hi (Fr.of_grown h3 (fun q hq => .inl hq)) (rOB v' (l ++ m)) h2' (fun q hq => ?_)⟩
  rcases h4 with h4 | h4
  · left; show v.ownBlock = some q; rw [← h4]; exact hq
  · right
    have : v'.ownBlock = some q := hq
    rw [h4] at this
    injection this with this
    omega
/-- A call that leaves new bytes. -/
theorem x_bytes {F0 : Nat → Prop} {w0 : World} {ro rs : List Res} (h : Hp F0 w0 w ro rs) {l : Bytes} (fn : FuncId) (al : List Value) (hp : pureVal P (execOp a.eval o) = some (.enter fn al.toArray)) (hc : Calls P fn al.toArray w (BPost w l)) :
    OpTo P o a w (fun u w' => ∃ A cc, u = .slice A l.length cc ∧ Hp F0 w0 w' ro (rOB u l :: rs)) :=
  OpTo.enter fn al hp hc fun e w' hq => by
    obtain ⟨v, he, ho, hb⟩ := hq
    obtain ⟨A, cc, e2, _⟩ := ho.sb
    exact ⟨v, he, A, cc, e2, h.newS hb _ (ho.mono (Nat.zero_le _)) (fun q hq => (ho.own q hq).1)⟩
/-- A call that leaves nothing. -/
theorem x_apost {F0 : Nat → Prop} {w0 : World} {ro rs : List Res} (h : Hp F0 w0 w ro rs) {l : Bytes} (fn : FuncId) (al : List Value) (hp : pureVal P (execOp a.eval o) = some (.enter fn al.toArray)) (hc : Calls P fn al.toArray w (APost w l)) :
    OpTo P o a w (fun u w' => u = .agg (vb l).toArray ∧ Hp F0 w0 w' ro rs) :=
  OpTo.enter fn al hp hc fun _e _w' hq => ⟨_, hq.1, rfl, h.below hq.2⟩
theorem x_vpost {F0 : Nat → Prop} {w0 : World} {ro rs : List Res} (h : Hp F0 w0 w ro rs) {v : Value} (fn : FuncId) (al : List Value) (hp : pureVal P (execOp a.eval o) = some (.enter fn al.toArray)) (hc : Calls P fn al.toArray w (VPost w v)) :
    OpTo P o a w (fun u w' => u = v ∧ Hp F0 w0 w' ro rs) :=
  OpTo.enter fn al hp hc fun e w' hq => ⟨_, hq.1, rfl, by rw [← hq.2]; exact h⟩
/-- []byte(s). -/
theorem x_conv {F0 : Nat → Prop} {w0 : World} {ro rs : List Res} (h : Hp F0 w0 w ro rs) (x : Operand) (ho : o.op = .convert 9 22 x) (s : ByteArray) (hx : a.eval x = .string s) (hs : s.size ≤ maxLen) :
    OpTo Tryd.prog o a w (fun u w' => ∃ A cc, u = .slice A s.data.toList.length cc ∧ Hp F0 w0 w' (rSB u s.data.toList :: ro) rs) := by
  obtain ⟨v, w', hrun, hsb, hb, g, c, hg, hf⟩ := conv_sb s w hs
  have hr : (execOp a.eval o).run Tryd.prog w = .ok (.value v) w' := by
    unfold execOp
    simp only [ho, hx, Sem.run_bind, hrun, Result.andThen_ok, Sem.run_pure]
  refine OpTo.run v hr ⟨some ⟨g, 0, none⟩, c, by rw [hf]; simp, h.newR hb _ hsb (fun q hq => ?_)⟩
  have h2 : v.ownBlock = some q := hq.2
  rw [hf] at h2
  have : g = q := by simpa [Value.ownBlock] using h2
  omega
end
end Go.Proofs.YtpkelokaammmjaaDoor
end
/-! Structs and slices of one element, built: over any program. -/
section
namespace Go.Proofs.YtpkelokaammmjaaDoor
open Go.RowKit Go.QT
/-- Cells laid over others, from a place on. -/
def lay (z : List Value) (off : Nat) (cs : List Value) : List Value := z.take off ++ cs ++ z.drop (off + cs.length)
theorem lay_len (z : List Value) (off : Nat) (cs : List Value) (h : off + cs.length ≤ z.length) : (lay z off cs).length = z.length := by
  simp [lay]; omega
theorem lay_fold (off : Nat) : ∀ (cs : List Value) (k : Nat) (z : List Value), off + k + cs.length ≤ z.length →
    (cs.zipIdx k).foldl (fun (a : List Value) (x : Value × Nat) => a.set (off + x.2) x.1) z = lay z (off + k) cs
  | [], k, z, _ => by simp [lay]
  | c :: cs, k, z, h => by
    simp only [List.length_cons] at h
    have ih := lay_fold off cs (k + 1) (z.set (off + k) c) (by simp; omega)
    simp only [List.zipIdx_cons, List.foldl_cons, ih, lay]
    have h1 : (z.set (off + k) c).take (off + (k + 1)) = z.take (off + k) ++ [c] := by
      rw [← Nat.add_assoc, List.take_succ_eq_append_getElem (by simp; omega), List.take_set_of_le (Nat.le_refl _)]
      simp
    have h2 : (z.set (off + k) c).drop (off + (k + 1) + cs.length) = z.drop (off + k + (cs.length + 1)) := by
      rw [List.drop_set_of_lt (by omega)]
      congr 1; omega
    rw [h1, h2]; simp
theorem fold_list (off : Nat) : ∀ (l : List (Value × Nat)) (z : List Value), l.foldl (fun (a : Array Value) (x : Value × Nat) => a.setIfInBounds (off + x.2) x.1) z.toArray = (l.foldl (fun (a : List Value) (x : Value × Nat) => a.set (off + x.2) x.1) z).toArray
  | [], _ => rfl
  | x :: l, z => by
    simp only [List.foldl_cons, List.setIfInBounds_toArray]
    exact fold_list off l _
theorem fill_one (place : Nat → Option (Nat × Nat)) (z : List Value) (i off size : Nat) (v : Value) (rest : List (Nat × Value)) (hp : place i = some (off, size)) (hv : v.cells.size = size) (hfit : off + size ≤ z.length) :
    Instr.fill place z.toArray ((i, v) :: rest) = Instr.fill place (lay z off v.cells.toList).toArray rest := by
  have h1 : (decide (v.cells.size ≠ size) || decide (off + v.cells.size > z.toArray.size)) = false := by
    simp [hv]; exact hfit
  rw [Instr.fill]
  simp only [hp]
  rw [if_neg (by simpa using h1)]
  congr 1
  rw [← Array.foldl_toList, Array.toList_zipIdx]
  have := lay_fold off v.cells.toList 0 z (by simp [hv]; exact hfit)
  rw [Nat.add_zero] at this
  rw [← this]
  exact fold_list off _ z
theorem lay_all (z cs : List Value) (h : z.length = cs.length) : lay z 0 cs = cs := by
  simp [lay, h]
section
variable {P : Program}
/-- []T{x}. -/
theorem exec_bs1 {o : Oper} {a : Act} (t E : TypeId) (x : Operand) (ho : o.op = .buildSlice t 1 #[(0, x)]) (v z : Value) (sz : Nat) (hx : a.eval x = v) (ht : P.underlying t = some (.slice E)) (hi : (P.info? E).map (·.size) = some sz) (hz : ∀ W, (zeroValue E).run P W = .ok z W)
    (hsz : 0 < sz) (hsz2 : sz ≤ 1000) (hzs : z.cells.size = sz) (hv : v.cells.size = sz) (w : World) :
    (execOp a.eval o).run P w = .ok (.value (.slice (some ⟨w.heap.size, 0, none⟩) 1 1)) (w.alloc (.cells v.cells E)) := by
  cases hq : P.info? E with
  | none => simp [hq] at hi
  | some i =>
    have hs : i.size = sz := by simpa [hq] using hi
    have hzero : ((Array.range (1 * sz)).map fun k => z.cells[k % z.cells.size]!) = z.cells := by
      apply Array.ext
      · simp [hzs]
      · intro j h1 h2
        have hj : j < sz := by simpa using h1
        simp [hzs, Nat.mod_eq_of_lt hj]
        rw [getElem!_pos z.cells j (by omega)]
    have hfill : Instr.fill (fun i => some (i * sz, sz)) z.cells [(0, v)] = some v.cells := by
      have h := fill_one (fun i => some (i * sz, sz)) z.cells.toList 0 0 sz v [] (by simp) hv (by simp [hzs])
      simp only [Array.toArray_toList] at h
      rw [h, lay_all _ _ (by simp [hv, hzs])]
      simp [Instr.fill]
    have hrun : (Instr.buildSlice t 1 #[(0, v)]).run P w = .ok (.slice (some ⟨w.heap.size, 0, none⟩) 1 1) (w.alloc (.cells v.cells E)) := by
      have h0 : ¬ (1 * sz > 2 ^ 24) := by omega
      have h1 : ¬ (1 * sz = 0) := by omega
      simp only [Instr.buildSlice, Sem.run_bind, run_underlying ht, Result.andThen_ok, sizeOf, typeInfo, run_program, hq]
      simp only [Sem.run_pure, Result.andThen_ok, hs]
      rw [if_neg h0, if_neg h1]
      simp only [Sem.run_bind, hz w, Result.andThen_ok, Sem.run_pure, hzero, hfill]
      simp [newRow]
    unfold execOp
    simp [ho, hx, hrun]
end
end Go.Proofs.YtpkelokaammmjaaDoor
end
/-! The walk of compeerref01.Same. -/
section
namespace Go.Proofs.YtpkelokaammmjaaDoor
open Go.RowKit Go.QT
theorem same_eq (a b : Bytes) (h : a.length = b.length) (hk : ∀ k, k < a.length → gb a k = gb b k) : a = b := by
  apply List.ext_getElem h
  intro i h1 h2
  have := hk i h1
  simpa [gb, h1, h2] using this
set_option maxRecDepth 100000 in
set_option maxHeartbeats 400000 in
theorem same_any (va vb' : Value) (a b : Bytes) (w : World) (ha : SB w va a) (hb : SB w vb' b) :
    Calls Tryd.prog 11 #[va, vb'] w (QPost w (.bool (decide (a = b)))) := by
  obtain ⟨A, c, rfl, hc, hm, ha⟩ := ha
  obtain ⟨B, d, rfl, hd, hm', hb⟩ := hb
  unfold maxLen at hm hm'
  by_cases hl : a.length = b.length
  · have hl1 : ((a.length : Int) != (b.length : Int)) = false := by simp [hl]
    have HA := Lib.hid ha
    have HB := Lib.hid hb
    have HL := Lib.hid hl
    clear ha hb hl
    go_enter Tryd.func11, Tryd.ntmps11
    go_wp2
    go_loopw [5] (fun i wr => ∃ k m : Nat, k ≤ a.length ∧ i = .int .i64 k ∧ wr = w.drewN m ∧ ∀ j, j < k → gb a j = gb b j) (fun i _ => a.length - (intOf i).toNat)
    case atStart => exact ⟨0, 0, by omega, rfl, rfl, fun j h => by omega⟩
    case round =>
      obtain ⟨k, m, hk, rfl, rfl, hj⟩ := hrel
      have HJ := Lib.hid hj
      clear hj
      by_cases hlt : k < a.length
      · have hlb : k < b.length := by have := HL.out; omega
        obtain ⟨ba, oa, rfl, hba, hca⟩ := HA.out (by rintro rfl; simp at hlt)
        obtain ⟨bb, ob, rfl, hbb, hcb⟩ := HB.out (by rintro rfl; simp at hlb)
        have e1 := hca k hlt
        have e2 := hcb k hlb
        clear hca hcb
        by_cases hab : gb a k = gb b k
        · have ht : ((ub (gb a k)) != (ub (gb b k))) = false := by simp [hab]
          have Hab := Lib.hid hab
          clear hab
          go_wp2
          go_quiet (fail)
          go_wp2
          refine ⟨⟨k + 1, m + nq, by omega, by go_num, rfl, fun j hj => ?_⟩, by simp [intOf]; omega⟩
          rcases Nat.lt_or_ge j k with h | h
          · exact HJ.out j h
          · rw [show j = k by omega]; exact Hab.out
        · have ht : ((ub (gb a k)) != (ub (gb b k))) = true := by simp [ub_inj, hab]
          have Hab := Lib.hid hab
          clear hab
          go_wp2
          go_quiet (fail)
          go_wp2
          go_ret
          exact ⟨by rw [decide_eq_false (fun e => Hab.out (by rw [e]))]; rfl, m + nq, by simp⟩
      · go_wp2
        go_ret
        exact ⟨by rw [decide_eq_true (same_eq a b HL.out (fun j h => HJ.out j (by omega)))]; rfl, m, rfl⟩
  · have hl1 : ((a.length : Int) != (b.length : Int)) = true := by simp; omega
    have HL := Lib.hid hl
    clear hl
    go_enter Tryd.func11, Tryd.ntmps11
    go_wp2
    go_ret
    exact ⟨by rw [decide_eq_false (fun e => HL.out (by rw [e]))]; rfl, 0, rfl⟩
end Go.Proofs.YtpkelokaammmjaaDoor
end
/-! Keys: rows of sixteen bytes held against one another. -/
section
namespace Go.Proofs.YtpkelokaammmjaaDoor
open Go.RowKit
theorem pk5 : Tryd.prog.plainKey 5 = true := by kernel_rfl
theorem cc5 : Tryd.prog.cellsOf 5 = 1 := by kernel_rfl
theorem run_eqItems_vb (d : Nat) (a b : Bytes) (w : World) : ∀ is : List Nat, (∀ i ∈ is, i < a.length ∧ i < b.length) →
    (Op.eqItems (d + 1) 5 1 (vb a).toArray (vb b).toArray is).run Tryd.prog w = .ok (is.all fun i => gb a i == gb b i) w
  | [], _ => by simp [Op.eqItems]
  | i :: is, h => by
    have hi := h i (by simp)
    have ha : (vb a).toArray[i * 1]? = some (.int .u8 (ub (gb a i))) := by rw [Nat.mul_one]; simpa using vb_get a i hi.1
    have hb : (vb b).toArray[i * 1]? = some (.int .u8 (ub (gb b i))) := by rw [Nat.mul_one]; simpa using vb_get b i hi.2
    have e : ((ub (gb a i)) == (ub (gb b i))) = (gb a i == gb b i) := ub_beq _ _
    have ih := run_eqItems_vb d a b w is (fun j hj => h j (by simp [hj]))
    simp only [Op.eqItems, Sem.run_bind, run_part_plain w pk5 ha, run_part_plain w pk5 hb, Result.andThen_ok, run_equalIn_int w d 5 .u8 .u8 _ _ Tryd.underlying5, e]
    cases hc : gb a i == gb b i
    · simp [hc]
    · simp [hc, ih]
theorem all_eq16 (a b : Bytes) (ha : a.length = 16) (hb : b.length = 16) : ((List.range 16).all fun i => gb a i == gb b i) = decide (a = b) := by
  rw [Bool.eq_iff_iff]
  simp only [List.all_eq_true, List.mem_range, beq_iff_eq, decide_eq_true_eq]
  constructor
  · intro h; exact same_eq a b (ha.trans hb.symm) fun k hk => h k (by omega)
  · rintro rfl i _; rfl
theorem info5 : ∃ i, Tryd.prog.info? 5 = some i := by
  have h : (Tryd.prog.info? 5).isSome = true := by kernel_rfl
  exact Option.isSome_iff_exists.1 h
/-- Two keys. -/
theorem run_equalIn16 (d : Nat) (t : TypeId) (a b : Bytes) (w : World) (ht : Tryd.prog.underlying t = some (.array 16 5)) (ha : a.length = 16) (hb : b.length = 16) :
    (Op.equalIn (d + 2) t (.agg (vb a).toArray) (.agg (vb b).toArray)).run Tryd.prog w = .ok (decide (a = b)) w := by
  obtain ⟨i, hi⟩ := info5
  rw [run_equalIn_array w (d + 1) _ _ ht hi, cc5, run_eqItems_vb d a b w _ (fun j hj => by have := List.mem_range.1 hj; omega), all_eq16 a b ha hb]
theorem run_eql16 (t : TypeId) (a b : Bytes) (w : World) (ht : Tryd.prog.underlying t = some (.array 16 5)) (ha : a.length = 16) (hb : b.length = 16) :
    (binOp .eql t (.agg (vb a).toArray) (.agg (vb b).toArray)).run Tryd.prog w = .ok (.bool (decide (a = b))) w := by
  rw [run_eql_struct, run_equalIn16 9998 t a b w ht ha hb]; rfl
theorem run_neq16 (t : TypeId) (a b : Bytes) (w : World) (ht : Tryd.prog.underlying t = some (.array 16 5)) (ha : a.length = 16) (hb : b.length = 16) :
    (binOp .neq t (.agg (vb a).toArray) (.agg (vb b).toArray)).run Tryd.prog w = .ok (.bool (!decide (a = b))) w := by
  rw [run_neq_struct, run_equalIn16 9998 t a b w ht ha hb]; rfl
/-- The operation. -/
theorem exec_eql16 {o : Oper} {a : Act} (op : BinOp) (hop : op = .eql ∨ op = .neq) (t t' : TypeId) (x y : Operand) (ho : o.op = .binOp op t x y t') (k l : Bytes) (hx : a.eval x = .agg (vb k).toArray) (hy : a.eval y = .agg (vb l).toArray)
    (ht : Tryd.prog.underlying t = some (.array 16 5)) (hg : Tryd.prog.eqGuardType Tryd.prog.depth t = false) (hk : k.length = 16) (hl : l.length = 16) (w : World) :
    (execOp a.eval o).run Tryd.prog w = .ok (.value (.bool (if op = .eql then decide (k = l) else !decide (k = l)))) w := by
  unfold execOp
  rcases hop with rfl | rfl
  · simp only [ho, hx, hy, Sem.run_bind, run_eqGuard_agg w _ t x y _ _ hg, Result.andThen_ok, run_eql16 t k l w ht hk hl, Sem.run_pure]; rfl
  · simp only [ho, hx, hy, Sem.run_bind, run_eqGuard_agg w _ t x y _ _ hg, Result.andThen_ok, run_neq16 t k l w ht hk hl, Sem.run_pure]; rfl
theorem exec_eq16 {o : Oper} {a : Act} (t t' : TypeId) (x y : Operand) (ho : o.op = .binOp .eql t x y t') (k l : Bytes) (hx : a.eval x = .agg (vb k).toArray) (hy : a.eval y = .agg (vb l).toArray)
    (ht : Tryd.prog.underlying t = some (.array 16 5)) (hg : Tryd.prog.eqGuardType Tryd.prog.depth t = false) (hk : k.length = 16) (hl : l.length = 16) (w : World) :
    (execOp a.eval o).run Tryd.prog w = .ok (.value (.bool (decide (k = l)))) w := by
  have := exec_eql16 .eql (.inl rfl) t t' x y ho k l hx hy ht hg hk hl w
  simpa using this
theorem exec_ne16 {o : Oper} {a : Act} (t t' : TypeId) (x y : Operand) (ho : o.op = .binOp .neq t x y t') (k l : Bytes) (hx : a.eval x = .agg (vb k).toArray) (hy : a.eval y = .agg (vb l).toArray)
    (ht : Tryd.prog.underlying t = some (.array 16 5)) (hg : Tryd.prog.eqGuardType Tryd.prog.depth t = false) (hk : k.length = 16) (hl : l.length = 16) (w : World) :
    (execOp a.eval o).run Tryd.prog w = .ok (.value (.bool (!decide (k = l)))) w := by
  have := exec_eql16 .neq (.inr rfl) t t' x y ho k l hx hy ht hg hk hl w
  simpa using this
theorem exec_eqb {o : Oper} {a : Act} (t t' : TypeId) (x y : Operand) (ho : o.op = .binOp .eql t x y t') (p q : Bool) (hx : a.eval x = .bool p) (hy : a.eval y = .bool q) (ht : Tryd.prog.underlying t = some .bool) (w : World) :
    (execOp a.eval o).run Tryd.prog w = .ok (.value (.bool (p == q))) w := by
  have h1 : (eqGuard .eql t x y (.bool p) (.bool q)).run Tryd.prog w = .ok () w := by simp [eqGuard]
  have h2 : (binOp .eql t (.bool p) (.bool q)).run Tryd.prog w = .ok (.bool (p == q)) w := by simp [binOp, Op.equal, Op.maxDepth, run_equalIn_bool w 9999 t p q ht]
  unfold execOp
  simp only [ho, hx, hy, Sem.run_bind, h1, h2, Result.andThen_ok, Sem.run_pure]
theorem eg22 : Tryd.prog.eqGuardType Tryd.prog.depth 23 = false := by kernel_rfl
theorem eg42 : Tryd.prog.eqGuardType Tryd.prog.depth 28 = false := by kernel_rfl
end Go.Proofs.YtpkelokaammmjaaDoor
end
/-! Constant bytes: []byte("..") of a constant. -/
section
namespace Go.Proofs.YtpkelokaammmjaaDoor
open Go.RowKit Go.QT
/-- A new block with a mark reads as its bytes. -/
theorem SB.marked (w : World) (l : Bytes) (fr : Nat × Nat) (hl : l.length ≤ maxLen) : SB (w.alloc (.cells (vb l).toArray 5 fr)) (.slice (some ⟨w.heap.size, 0, none⟩) l.length l.length) l := by
  refine ⟨_, _, rfl, Nat.le_refl _, hl, fun _ => ⟨w.heap.size, 0, rfl, by simp, fun i hi => ?_⟩⟩
  rw [Nat.zero_add, World.cell?_alloc_mark w (vb l).toArray 5 fr i]
  simpa using vb_get l i hi
theorem exec_convC {o : Oper} {a : Act} (x : Operand) (ho : o.op = .convert 22 22 x) (w : World) (C : Array Value) (n c : Nat) (hx : a.eval x = .slice (some ⟨w.heap.size, 0, none⟩) n c) :
    (execOp a.eval o).run Tryd.prog (w.alloc (.cells C 5)) = .ok (.value (.slice (some ⟨w.heap.size, 0, none⟩) n c)) (w.alloc (.cells C 5 (C.size, C.size + 1))) := by
  have h := Lib.run_convert_bytes_const (P := Tryd.prog) w 22 5 C n c u28 ubyte
  unfold execOp
  simp only [ho, hx, Sem.run_bind, h, Result.andThen_ok, Sem.run_pure]
end Go.Proofs.YtpkelokaammmjaaDoor
end
/-! Steps: calls of package sym, on what is held. -/
section
namespace Go.Proofs.YtpkelokaammmjaaDoor
open Go.RowKit Go.QT
section
variable {F0 F : Nat → Prop} {w0 w w' : World} {ro rs : List Res} {tb : Nat} {s s2 : STab} {o : Oper} {a : Act} {v : Value} {e : Ending}
theorem Hp.updR (h : Hp F0 w0 w ro rs) (i : Nat) {r : Res} (hi : rs[i]? = some r) (hf : Fr r.F w w') (r' : Res) (hr : r'.Φ w') (hF : ∀ q, r'.F q → r.F q ∨ w.heap.size ≤ q) (t : Res) (ht : t.Φ w') (hn : ∀ q, t.F q → w.heap.size ≤ q ∧ ¬ r'.F q) :
    Hp F0 w0 w' (t :: ro) (rs.set i r') := by
  have hil : i < rs.length := (List.getElem?_eq_some_iff.1 hi).1
  refine (h.upd i hi hf r' hr hF).addR t ht (fun j s hs q h1 h2 => ?_)
  by_cases e : j = i
  · subst e
    rw [List.getElem?_set_self hil] at hs
    injection hs with hs
    subst hs
    exact (hn q h1).2 h2
  · rw [List.getElem?_set_ne (Ne.symm e)] at hs
    exact absurd (s.lt (h.own j s hs) q h2) (Nat.not_lt.2 (hn q h1).1)
/-- A call that answers sixteen bytes. -/
theorem x_key (h : Hp F0 w0 w ro rs) {l : Bytes} (fn : FuncId) (al : List Value) (hp : pureVal Tryd.prog (execOp a.eval o) = some (.enter fn al.toArray)) (hl : l.length = 16) (hc : Calls Tryd.prog fn al.toArray w (APost w l)) :
    OpTo Tryd.prog o a w (fun u w' => ∃ K, u = .agg (vb (kl K)).toArray ∧ kl K = l ∧ Hp F0 w0 w' ro rs) :=
  (x_apost h fn al hp hc).mono fun u w' hr => by
    obtain ⟨K, hK⟩ := kl_of l hl
    exact ⟨K, by rw [← hK]; exact hr.1, hK.symm, hr.2⟩
theorem x_same (h : Hp F0 w0 w ro rs) (l m : Bytes) (u v : Value) (hp : pureVal Tryd.prog (execOp a.eval o) = some (.enter 11 #[u, v])) (hu : SB w u l) (hv : SB w v m) (b : Bool) (hb : decide (l = m) = b) :
    OpTo Tryd.prog o a w (fun u w' => u = .bool b ∧ Hp F0 w0 w' ro rs) :=
  OpTo.enter 11 [u, v] hp (same_any u v l m w hu hv) fun e w' hq => by
    subst hb
    obtain ⟨he, n, rfl⟩ := hq
    exact ⟨_, he, rfl, h.drewN n⟩
/-- Keys held against one another. -/
theorem e_keq (K L : Fin 16 → UInt8) (t t' : TypeId) (x y : Operand) (ho : o.op = .binOp .eql t x y t') (hx : a.eval x = .agg (vb (kl K)).toArray) (hy : a.eval y = .agg (vb (kl L)).toArray)
    (ht : Tryd.prog.underlying t = some (.array 16 5)) (hg : Tryd.prog.eqGuardType Tryd.prog.depth t = false) (b : Bool) (hb : decide (kl K = kl L) = b) (W : World) :
    (execOp a.eval o).run Tryd.prog W = .ok (.value (.bool b)) W := by
  subst hb; exact exec_eq16 t t' x y ho (kl K) (kl L) hx hy ht hg (kl_len K) (kl_len L) W
theorem e_kne (K L : Fin 16 → UInt8) (t t' : TypeId) (x y : Operand) (ho : o.op = .binOp .neq t x y t') (hx : a.eval x = .agg (vb (kl K)).toArray) (hy : a.eval y = .agg (vb (kl L)).toArray)
    (ht : Tryd.prog.underlying t = some (.array 16 5)) (hg : Tryd.prog.eqGuardType Tryd.prog.depth t = false) (b : Bool) (hb : decide (kl K ≠ kl L) = b) (W : World) :
    (execOp a.eval o).run Tryd.prog W = .ok (.value (.bool b)) W := by
  subst hb
  rw [exec_ne16 t t' x y ho (kl K) (kl L) hx hy ht hg (kl_len K) (kl_len L) W]
  by_cases h : kl K = kl L <;> simp [h]
theorem e_keqB (k l : Bytes) (hk : k.length = 16) (hl : l.length = 16) (t t' : TypeId) (x y : Operand) (ho : o.op = .binOp .eql t x y t') (hx : a.eval x = .agg (vb k).toArray) (hy : a.eval y = .agg (vb l).toArray)
    (ht : Tryd.prog.underlying t = some (.array 16 5)) (hg : Tryd.prog.eqGuardType Tryd.prog.depth t = false) (b : Bool) (hb : decide (k = l) = b) (W : World) :
    (execOp a.eval o).run Tryd.prog W = .ok (.value (.bool b)) W := by
  subst hb; exact exec_eq16 t t' x y ho k l hx hy ht hg hk hl W
theorem e_kneB (k l : Bytes) (hk : k.length = 16) (hl : l.length = 16) (t t' : TypeId) (x y : Operand) (ho : o.op = .binOp .neq t x y t') (hx : a.eval x = .agg (vb k).toArray) (hy : a.eval y = .agg (vb l).toArray)
    (ht : Tryd.prog.underlying t = some (.array 16 5)) (hg : Tryd.prog.eqGuardType Tryd.prog.depth t = false) (b : Bool) (hb : decide (k ≠ l) = b) (W : World) :
    (execOp a.eval o).run Tryd.prog W = .ok (.value (.bool b)) W := by
  subst hb
  rw [exec_ne16 t t' x y ho k l hx hy ht hg hk hl W]
  by_cases h : k = l <;> simp [h]
theorem e_min (x y : Operand) (ts : Array TypeId) (ho : o.op = .call { callee := .builtin .min, args := #[x, y], argTypes := ts }) (k k' : IntKind) (m n : Int) (hx : a.eval x = .int k m) (hy : a.eval y = .int k' n) (r : Int) (hr : (if n < m then n else m) = r) (W : World) :
    (execOp a.eval o).run Tryd.prog W = .ok (.value (.int k r)) W := by
  subst hr
  unfold execOp
  simp only [ho, resolve, invoke, builtin, Sem.run_bind, Sem.run_pure, Result.andThen_ok, List.map_toArray, List.map_cons, List.map_nil, hx, hy, run_min_int2]
/-- Keys of one text are one. -/
theorem kl_inj {K L : Fin 16 → UInt8} (h : kl K = kl L) : K = L := by
  funext i
  have h2 : (kl K)[i.val]? = (kl L)[i.val]? := by rw [h]
  unfold kl at h2
  rw [List.getElem?_ofFn, List.getElem?_ofFn, dif_pos i.isLt, dif_pos i.isLt] at h2
  exact Option.some.inj h2
/-- Bytes that stand in the program. -/
theorem x_bsl (h : Hp F0 w0 w ro rs) (l : Bytes) (hn : newVal Tryd.prog (execOp a.eval o) = some (.cells (vb l).toArray 5, fun r => some (.value (.slice (some ⟨r, 0, none⟩) l.length l.length)))) :
    OpTo Tryd.prog o a w (fun v w' => ∃ g, v = .slice (some ⟨g, 0, none⟩) l.length l.length ∧ w' = w.alloc (.cells (vb l).toArray 5) ∧ g = w.heap.size ∧ Hp F0 w0 w ro rs ∧ Hp F0 w0 w' ro (rBlk g 5 (vb l) :: rs)) :=
  OpTo.run (.slice (some ⟨w.heap.size, 0, none⟩) l.length l.length) (newVal_run hn w rfl) ⟨_, rfl, rfl, rfl, h, h.alloc 5 (vb l)⟩
theorem x_bcv {W : World} (h : Hp F0 w0 w ro rs) (l : Bytes) (hW : W = w.alloc (.cells (vb l).toArray 5)) (g : Nat) (hg : g = w.heap.size) (x : Operand) (ho : o.op = .convert 22 22 x) (hx : a.eval x = .slice (some ⟨g, 0, none⟩) l.length l.length) (hl : l.length ≤ maxLen) :
    OpTo Tryd.prog o a W (fun v w' => v = .slice (some ⟨g, 0, none⟩) l.length l.length ∧ Hp F0 w0 w' (rSB (.slice (some ⟨g, 0, none⟩) l.length l.length) l :: ro) rs) := by
  subst hW; subst hg
  refine OpTo.run _ (exec_convC x ho w (vb l).toArray l.length l.length hx) ⟨rfl, ?_⟩
  have hsz : (vb l).toArray.size = l.length := by simp
  rw [hsz]
  exact h.newR ((Below.refl _ _).alloc (Nat.le_refl _) _) (rSB (.slice (some ⟨w.heap.size, 0, none⟩) l.length l.length) l) (SB.marked w l (l.length, l.length + 1) hl) (fun q hq => by
    have : w.heap.size = q := by simpa [Value.ownBlock] using hq.2
    omega)
/-- A block of bytes, read. -/
theorem SB.blk {g : Nat} {T : TypeId} {l : Bytes} {n c : Nat} (hb : Blk w g T (vb l)) (hn : n = l.length) (hc : decide (n ≤ c) = true) (hm : decide (c ≤ maxLen) = true) : SB w (.slice (some ⟨g, 0, none⟩) n c) l := by
  subst hn
  refine ⟨_, _, rfl, of_decide_eq_true hc, of_decide_eq_true hm, fun _ => ⟨g, 0, rfl, hb.lt, fun i hi => ?_⟩⟩
  rw [hb.cell, Nat.zero_add]
  exact vb_get l i hi
theorem SB.blk16 {g : Nat} {T : TypeId} {K : Fin 16 → UInt8} (hb : Blk w g T (vb (kl K))) : SB w (.slice (some ⟨g, 0, none⟩) 16 16) (kl K) :=
  SB.blk hb (kl_len K).symm (by decide) (by decide)
end
end Go.Proofs.YtpkelokaammmjaaDoor
end
/-! Masks of ints. -/
section
namespace Go.Proofs.YtpkelokaammmjaaDoor
theorem and_mask (x : Int) (m : Nat) (hm : m < 4611686018427387904) : ∃ n : Nat, bits .and .i64 x (m : Int) = (n : Int) ∧ n ≤ m := by
  refine ⟨((BitVec.ofInt 64 x) &&& (BitVec.ofInt 64 (m : Int))).toNat, ?_, ?_⟩
  · show IntKind.i64.wrap ((((BitVec.ofInt 64 x) &&& (BitVec.ofInt 64 (m : Int))).toNat : Nat) : Int) = _
    have h : ((BitVec.ofInt 64 x) &&& (BitVec.ofInt 64 (m : Int))).toNat ≤ m := by
      rw [BitVec.toNat_and, BitVec.ofInt_natCast, BitVec.toNat_ofNat]
      exact Nat.le_trans Nat.and_le_right (Nat.mod_le _ _)
    rw [IntKind.wrap_i64]
    omega
  · rw [BitVec.toNat_and, BitVec.ofInt_natCast, BitVec.toNat_ofNat]
    exact Nat.le_trans Nat.and_le_right (Nat.mod_le _ _)
end Go.Proofs.YtpkelokaammmjaaDoor
end
/-! More steps on slices: parts of them, their elements' places and cells. -/
section
namespace Go.Proofs.YtpkelokaammmjaaDoor
open Go.RowKit Go.QT
section
variable {P : Program} {o : Oper} {a : Act} {w w' w0 : World} {sz c : Nat} {A : Option Addr} {xs : List (List Value)} {F0 : Nat → Prop} {ro rs : List Res}
theorem RV.lenIs {n : Nat} (h : RV w sz A c xs) (hn : xs.length = n) : xs.length = n ∧ RV w sz A c xs := ⟨hn, h⟩
theorem e_cut_lh {v : Value} {l : Bytes} (h : SB w v l) (x lo hi : Operand) (ho : o.op = .slice 22 x (some lo) (some hi) none) (hx : a.eval x = v) (k k' : IntKind) (i j : Nat) (hlo : a.eval lo = .int k (i : Int)) (hhi : a.eval hi = .int k' (j : Int)) (h1 : i ≤ j) (h2 : j ≤ l.length) (W : World) :
    (execOp a.eval o).run Tryd.prog W = .ok (.value (cutS v i j)) W :=
  exec_cut_lh x lo hi ho v l hx h k k' (i : Int) (j : Int) hlo hhi (by omega) (by omega) (by omega) W
theorem e_cut_h {v : Value} {l : Bytes} (h : SB w v l) (x hi : Operand) (ho : o.op = .slice 22 x none (some hi) none) (hx : a.eval x = v) (k' : IntKind) (j : Nat) (hhi : a.eval hi = .int k' (j : Int)) (h2 : j ≤ l.length) (W : World) :
    (execOp a.eval o).run Tryd.prog W = .ok (.value (cutS v 0 j)) W :=
  exec_cut_h x hi ho v l hx h k' (j : Int) hhi (by omega) (by omega) W
theorem e_cut_l {v : Value} {l : Bytes} (h : SB w v l) (x lo : Operand) (ho : o.op = .slice 22 x (some lo) none none) (hx : a.eval x = v) (k : IntKind) (i : Nat) (hlo : a.eval lo = .int k (i : Int)) (h2 : i ≤ l.length) (W : World) :
    (execOp a.eval o).run Tryd.prog W = .ok (.value (cutS v i l.length)) W :=
  exec_cut_l x lo ho v l hx h k (i : Int) hlo (by omega) (by omega) W
theorem e_idxN (h : RV w sz A c xs) (i n : Nat) (hn : xs.length = n) (hi : i < n) (t : TypeId) (x y : Operand) (ho : o.op = .indexAddr t x y) (k : IntKind) (hx : a.eval x = .slice A n c) (hy : a.eval y = .int k (i : Int)) (E : TypeId) (ht : P.underlying t = some (.slice E)) (hE : pureVal P (sizeOf E) = some sz) (W : World) :
    (execOp a.eval o).run P W = .ok (.value (eAt A (i * sz))) W := by
  subst hn
  exact e_idx h i hi t x y ho k hx hy E ht hE W
theorem eAt_at (h : RV w sz A c xs) (i : Nat) (x : List Value) (hxi : xs[i]? = some x) (j : Nat) : ∃ b k, A = some ⟨b, k, none⟩ ∧ eAt A (i * sz + j) = pt b (k + (i * sz + j)) ∧ ∀ m u, x[j + m]? = some u → w.cell? ⟨b, k + (i * sz + j) + m, none⟩ = some u := by
  have hi : i < xs.length := (List.getElem?_eq_some_iff.1 hxi).1
  obtain ⟨b, o', rfl, hb, hc⟩ := h.at_ (by rintro rfl; simp at hi)
  refine ⟨b, o', rfl, ?_, fun m u hu => ?_⟩
  · unfold eAt pt
    by_cases h0 : i * sz + j = 0
    · rw [h0]; simp [Addr.add]
    · simp only [Addr.add]
      simp
      intro h2 h3; exact h0 (by omega)
  · have := hc i x hxi (j + m) u hu
    rw [show o' + (i * sz + j) + m = o' + i * sz + (j + m) by omega]
    exact this
/-- A cell of an element: its j-th. -/
theorem e_elemN (h : RV w sz A c xs) (i j : Nat) (x : List Value) (hxi : xs[i]? = some x) (t : TypeId) (p : Operand) (ho : o.op = .load t p) (v : Value) (hx : a.eval p = eAt A (i * sz + j)) (hv : x[j]? = some v) (ht : pureVal P (isAgg t) = some false) :
    (execOp a.eval o).run P w = .ok (.value v) w := by
  obtain ⟨b, k, rfl, e, hc⟩ := eAt_at h i x hxi j
  have hcell : w.cell? ⟨b, k + (i * sz + j), none⟩ = some v := by simpa using hc 0 v hv
  have hl : (loadVar t ⟨b, k + (i * sz + j), none⟩).run P w = .ok v w := by simp [loadVar, pureVal_run ht, hcell]
  unfold execOp
  rw [e] at hx
  simp only [ho, hx, pt, Instr.loadAt, Instr.sureAddr, Sem.run_bind, Sem.run_pure, Result.andThen_ok, hl]
/-- Cells of an element, from the j-th on. -/
theorem e_elemsN (h : RV w sz A c xs) (i j : Nat) (x : List Value) (hxi : xs[i]? = some x) (t : TypeId) (p : Operand) (ho : o.op = .load t p) (ds : List Value) (hx : a.eval p = eAt A (i * sz + j)) (hv : (x.drop j).take ds.length = ds) (hB : rowB P t ds.length = true) :
    (execOp a.eval o).run P w = .ok (.value (.agg ds.toArray)) w := by
  obtain ⟨b, k, rfl, e, hc⟩ := eAt_at h i x hxi j
  obtain ⟨d, hu, hr, hs⟩ := rowB_spec hB
  have hl := run_loadVar_mid (P := P) w b (k + (i * sz + j)) t ds d (fun m v hm => hc m v (slice_get x j ds.length m v (by rw [hv]; exact hm))) hu hr hs
  unfold execOp
  rw [e] at hx
  simp only [ho, hx, pt, Instr.loadAt, Instr.sureAddr, Sem.run_bind, Sem.run_pure, Result.andThen_ok, hl]
/-- The place of an element's field. -/
theorem e_fldN (h : RV w sz A c xs) (i j k : Nat) (x : List Value) (hxi : xs[i]? = some x) (p : Operand) (hx : a.eval p = eAt A (i * sz + j)) (hf : ∀ b n, pureVal P (execOp (fun _ => pt b n) o) = some (.value (pt b (n + k)))) (hE : ∀ ev : Operand → Value, execOp ev o = execOp (fun _ => ev p) o) (W : World) :
    (execOp a.eval o).run P W = .ok (.value (eAt A (i * sz + (j + k)))) W := by
  obtain ⟨b, n, rfl, e, _⟩ := eAt_at h i x hxi j
  have e2 : eAt (some ⟨b, n, none⟩) (i * sz + (j + k)) = pt b (n + (i * sz + (j + k))) := by
    unfold eAt pt
    by_cases h0 : i * sz + (j + k) = 0
    · rw [h0]; simp [Addr.add]
    · simp only [Addr.add]
      simp
      intro h2 h3 h4; exact absurd (show i * sz + (j + k) = 0 by omega) h0
  rw [hE, hx, e, e2, show n + (i * sz + (j + k)) = n + (i * sz + j) + k by omega]
  exact pureVal_run (hf _ _) W
/-- A new slice of values. -/
theorem x_bs (h : Hp F0 w0 w ro rs) (T : TypeId) (cs : List Value) (n : Nat) (hn : newVal P (execOp a.eval o) = some (.cells cs.toArray T, fun r => some (.value (.slice (some ⟨r, 0, none⟩) n n)))) :
    OpTo P o a w (fun v w' => ∃ g, v = .slice (some ⟨g, 0, none⟩) n n ∧ Hp F0 w0 w' ro (rBlk g T cs :: rs)) :=
  OpTo.run (.slice (some ⟨w.heap.size, 0, none⟩) n n) (newVal_run hn w rfl) ⟨_, rfl, h.alloc T cs⟩
theorem x_bs0 (h : Hp F0 w0 w ro rs) (T : TypeId) (sz : Nat) (hn : newVal P (execOp a.eval o) = some (.cells #[] T, fun r => some (.value (.slice (some ⟨r, 0, none⟩) 0 0)))) :
    OpTo P o a w (fun v w' => ∃ A, v = .slice A 0 0 ∧ Hp F0 w0 w' ro (rOV T sz (.slice A 0 0) [] :: rs)) := by
  refine (x_bs h T [] 0 hn).mono fun v w' hr => ?_
  obtain ⟨g, hv, h'⟩ := hr
  have hb : Blk w' g T [] := h'.own 0 _ rfl
  refine ⟨_, hv, h'.upd 0 rfl (Fr.refl _ _) (rOV T sz (.slice (some ⟨g, 0, none⟩) 0 0) []) ⟨⟨by simp, .inr ⟨g, 0, #[], rfl, Nat.zero_le _, hb, Nat.le_refl _, by unfold maxLen; omega, by simp, by simp⟩⟩, by simp, by simp⟩ (fun q hq => .inl ?_)⟩
  have : g = q := by simpa [rOV, Value.ownBlock] using hq
  exact this.symm
theorem x_bs0B (h : Hp F0 w0 w ro rs) (hn : newVal P (execOp a.eval o) = some (.cells #[] 5, fun r => some (.value (.slice (some ⟨r, 0, none⟩) 0 0)))) :
    OpTo P o a w (fun v w' => ∃ A, v = .slice A 0 0 ∧ Hp F0 w0 w' ro (rOB (.slice A 0 0) [] :: rs)) := by
  refine (x_bs h 5 [] 0 hn).mono fun v w' hr => ?_
  obtain ⟨g, hv, h'⟩ := hr
  have hb : Blk w' g 5 [] := h'.own 0 _ rfl
  refine ⟨_, hv, h'.upd 0 rfl (Fr.refl _ _) (rOB (.slice (some ⟨g, 0, none⟩) 0 0) []) (OB.new w' g [] (by simp) hb (Nat.zero_le _)) (fun q hq => .inl ?_)⟩
  have : g = q := by simpa [rOB, Value.ownBlock] using hq
  exact this.symm
theorem SB.rvn {l : Bytes} {n : Nat} (h : SB w (.slice A n c) l) : (bx l).length = n ∧ RV w 1 A c (bx l) := by
  obtain ⟨A', c', e, h1, h2, h3⟩ := id h
  injection e with e1 e2 e3
  subst e2
  exact ⟨bx_len l, SB.rv h⟩
theorem OV.rvn {base E : Nat} {n : Nat} (h : OV w base E sz (.slice A n c) xs) : xs.length = n ∧ RV w sz A c xs := ⟨(OV.rv h).1.symm, (OV.rv h).2⟩
/-- append of one element, its answer as one likes to spell it. -/
theorem x_pushG (h : Hp F0 w0 w ro rs) (i j : Nat) {E : TypeId} {v : Value} {g : Nat} {T : TypeId} {news : List Value} (hi : rs[i]? = some (rOV E sz v xs)) (hj : rs[j]? = some (rBlk g T news)) (hij : decide (i ≠ j) = true)
    (s x : Operand) (t : TypeId) (ho : o.op = .call { callee := .builtin .append, args := #[s, x], argTypes := #[t, t] }) (bytes : Nat) (z : Value) (ht : P.underlying t = some (.slice E)) (hinf : (P.info? E).map (fun i => (i.zero, i.size, i.bytes)) = some (some z, sz, bytes))
    (hzs : z.cells.size = sz) (hsz : decide (0 < sz) = true) (hs : a.eval s = v) (c : Nat) (hx : a.eval x = .slice (some ⟨g, 0, none⟩) 1 c) (hn : news.length = sz) (h1 : news.all (·.oneCell') = true)
    (hlen : (xs.length + 1) * bytes ≤ 140737488355328) (hlen2 : xs.length < maxLen) (ys : List (List Value)) (n : Nat) (hys : ys = xs ++ [news]) (hyn : ys.length = n) :
    OpTo P o a w (fun u w' => ∃ A cc, u = .slice A n cc ∧ Hp F0 w0 w' ro (rs.set i (rOV E sz (.slice A n cc) ys))) := by
  subst hys; subst hyn
  refine (x_push h i j hi hj (of_decide_eq_true hij) s x t ho bytes z ht hinf hzs (of_decide_eq_true hsz) hs c hx hn (by simpa using h1) hlen hlen2).mono fun u w' hr => ?_
  obtain ⟨A, cc, rfl, h'⟩ := hr
  exact ⟨A, cc, rfl, h'⟩
theorem x_appG (h : Hp F0 w0 w ro rs) (i : Nat) {v : Value} {l m : Bytes} (hi : rs[i]? = some (rOB v l)) (s x : Operand) (ho : o.op = .call { callee := .builtin .append, args := #[s, x], argTypes := #[22, 22] })
    (u : Value) (hs : a.eval s = v) (hx : a.eval x = u) (hu : SB w u m) (hlen : l.length + m.length ≤ 140737488355328) (r : Bytes) (n : Nat) (hr : r = l ++ m) (hn : r.length = n) :
    OpTo Tryd.prog o a w (fun u w' => ∃ A cc, u = .slice A n cc ∧ Hp F0 w0 w' ro (rs.set i (rOB (.slice A n cc) r))) := by
  subst hr; subst hn
  refine (x_appB h i hi s x ho u hs hx hu hlen).mono fun u w' hr => ?_
  obtain ⟨A, cc, rfl, h'⟩ := hr
  exact ⟨A, cc, rfl, h'⟩
theorem e_sadd (x y : Operand) (t t' : TypeId) (ho : o.op = .binOp .add t x y t') (p q : ByteArray) (hx : a.eval x = .string p) (hy : a.eval y = .string q) (hp : p.size ≤ 1000000) (hq : q.size ≤ 1000000) (W : World) :
    (execOp a.eval o).run P W = .ok (.value (.string (p ++ q))) W := by
  unfold execOp
  simp only [ho, hx, hy, eqGuard_add, binOp_string_add, run_string_add_sum _ p q (by omega), Sem.run_bind, Sem.run_pure, Result.andThen_ok]
theorem u8_wrap (x : Int) : ∃ b : UInt8, IntKind.u8.wrap x = ub b := by
  refine ⟨toB (IntKind.u8.wrap x), (ub_u8 ?_ ?_).symm⟩ <;> (rw [IntKind.wrap_u8]; omega)
/-- A byte is stored into a row of the call's own. -/
theorem x_storeB (h : Hp F0 w0 w ro rs) (i : Nat) {n : Nat} {l : Bytes} (hi : rs[i]? = some (rOB (.slice A n c) l)) (j : Nat) (hj : j < l.length) (t : TypeId) (x y : Operand) (ho : o.op = .store t x y) (bv : UInt8) (hx : a.eval x = eAt A (j * 1 + 0)) (hy : a.eval y = .int .u8 (ub bv)) (hsz : (P.info? t).map (·.size) = some 1) :
    OpTo P o a w (fun _ w' => Hp F0 w0 w' ro (rs.set i (rOB (.slice A n c) (l.set j bv)))) := by
  have hv : OB w 0 (.slice A n c) l := h.own i _ hi
  obtain ⟨h1, h2⟩ := id hv
  rcases h2 with ⟨e, h0⟩ | ⟨g, cap, cur, e, hg, hh, hn, hm, hs, ht⟩
  · omega
  · injection e with e1 e2 e3
    subst e1; subst e2; subst e3
    have hb : Blk w g 5 cur.toList := by unfold Blk; simpa using hh
    have hx' : a.eval x = .pointer (some ⟨g, j, none⟩) := by
      rw [hx]; simp only [eAt, Addr.add, Nat.mul_one, Nat.add_zero, Nat.zero_add]
      by_cases h0 : j = 0
      · subst h0; rfl
      · simp [h0]
    have hl : j < cur.toList.length := by simp; omega
    refine OpTo.runs (w' := w.setCell ⟨g, j, none⟩ (.int .u8 (ub bv))) (exec_storeCell t x y ho g j _ hx' hy 5 cur.toList hb hl hsz rfl rfl) ?_
    have hf := Fr.setCell w g j (.int .u8 (ub bv))
    exact h.upd i hi ⟨hf.os, hf.tape, hf.output, hf.size, fun k hk hn => hf.block k hk (fun e => hn (by subst e; rfl))⟩ (rOB (.slice (some ⟨g, 0, none⟩) l.length c) (l.set j bv)) (hv.set j bv) (fun q hq => .inl hq)
theorem e_rem (x y : Operand) (t t' : TypeId) (ho : o.op = .binOp .rem t x y t') (m n : Nat) (hx : a.eval x = .int .i64 (m : Int)) (hy : a.eval y = .int .i64 (n : Int)) (hn : 0 < n) (W : World) :
    (execOp a.eval o).run P W = .ok (.value (.int .i64 ((m % n : Nat) : Int))) W := by
  have h0 : ¬ ((n : Int) = 0) := by omega
  unfold execOp
  simp only [ho, hx, hy, eqGuard_rem, binOp_rem, Op.intDiv, Sem.run_bind, Sem.run_pure, Result.andThen_ok, if_neg h0, Int.ofNat_tmod]
end
end Go.Proofs.YtpkelokaammmjaaDoor
end
/-! Operations as runs: sums, loads, extracts. -/
section
namespace Go.Proofs.YtpkelokaammmjaaDoor
open Go.RowKit Go.QT
variable {P : Program} {o : Oper} {a : Act}
theorem exec_add (t t' : TypeId) (x y : Operand) (ho : o.op = .binOp .add t x y t') (m n : Int) (hx : a.eval x = .int .i64 m) (hy : a.eval y = .int .i64 n) (p : Int) (hp : m + n = p) (h1 : -9223372036854775808 ≤ p) (h2 : p ≤ 9223372036854775807) (w : World) :
    (execOp a.eval o).run P w = .ok (.value (.int .i64 p)) w := by
  have e : IntKind.i64.wrap (m + n) = p := by rw [hp, IntKind.wrap_i64]; omega
  have h3 : (eqGuard .add t x y (.int .i64 m) (.int .i64 n)).run P w = .ok () w := by simp [eqGuard]
  have h4 : (binOp .add t (.int .i64 m) (.int .i64 n)).run P w = .ok (.int .i64 p) w := by simp [binOp, Op.intArith, e]
  unfold execOp
  simp only [ho, hx, hy, Sem.run_bind, h3, h4, Result.andThen_ok, Sem.run_pure]
theorem exec_sub (t t' : TypeId) (x y : Operand) (ho : o.op = .binOp .sub t x y t') (m n : Int) (hx : a.eval x = .int .i64 m) (hy : a.eval y = .int .i64 n) (p : Int) (hp : m - n = p) (h1 : -9223372036854775808 ≤ p) (h2 : p ≤ 9223372036854775807) (w : World) :
    (execOp a.eval o).run P w = .ok (.value (.int .i64 p)) w := by
  have e : IntKind.i64.wrap (m - n) = p := by rw [hp, IntKind.wrap_i64]; omega
  have h3 : (eqGuard .sub t x y (.int .i64 m) (.int .i64 n)).run P w = .ok () w := by simp [eqGuard]
  have h4 : (binOp .sub t (.int .i64 m) (.int .i64 n)).run P w = .ok (.int .i64 p) w := by simp [binOp, Op.intArith, e]
  unfold execOp
  simp only [ho, hx, hy, Sem.run_bind, h3, h4, Result.andThen_ok, Sem.run_pure]
end Go.Proofs.YtpkelokaammmjaaDoor
end
/-! The walks of sha.turn, rounds. -/
section
namespace Go.Proofs.YtpkelokaammmjaaDoor
open Go.RowKit Go.QT
/-- A call that leaves nothing. -/
def NPost (w : World) (v : Value) (e : Ending) (w' : World) : Prop := e = .returned v ∧ Below w.heap.size w w'
theorem x_np {P : Program} {o : Oper} {a : Act} {w : World} {F0 : Nat → Prop} {w0 : World} {ro rs : List Res} (h : Hp F0 w0 w ro rs) {v : Value} (fn : FuncId) (al : List Value) (hp : pureVal P (execOp a.eval o) = some (.enter fn al.toArray)) (hc : Calls P fn al.toArray w (NPost w v)) :
    OpTo P o a w (fun u w' => u = v ∧ Hp F0 w0 w' ro rs) :=
  OpTo.enter fn al hp hc fun _e _w' hq => ⟨_, hq.1, rfl, h.below hq.2⟩
set_option maxRecDepth 100000 in
set_option maxHeartbeats 4000000 in
theorem turn_any (x : UInt32) (n : Nat) (hn : n ≤ 32) (w : World) : Calls Tryd.prog 64 #[.int .u32 (uw x), .int .i64 (n : Int)] w (NPost w (.int .u32 (uw (trn x n)))) := by
  have h0 := Hp.nil (fun _ => False) w
  refine enter 11 Tryd.func64 rfl rfl ?_
  refine wp_reset 13 [(0, (Value.int .u32 (uw x))), (1, (Value.int .i64 ((n : Int))))] (fun x0 => ?_)
  refine wp_seq_k ?_
  intro K1 hK1
  refine reg_lit ?_
  refine wq_p 1 [(4, (Value.int .u32 0))] ?_
  refine wl_end rfl ?_
  refine seq_n hK1 ?_
  refine wp_seq_k ?_
  intro K2 hK2
  refine pR_go h0 8 (fun W => True) [(6, [0], 0), (7, [1], 0), (8, [5, 6], 3), (9, [0], 0), (10, [1], 0), (11, [9], 16), (12, [8, 10], 40), (13, [7, 11], 68), (5, [12], 255)] rfl (fun _ d _ _ _ h => by cases d <;> exact h) ?_
  intro hs3 w3 h3
  refine pR_p 5 [0, 1, 3, 4] [(9, (Value.int .i64 ((n : Int)))), (8, (Value.int .u32 (uw x))), (6, (Value.int .i64 ((n : Int)))), (5, (Value.int .u32 (uw x)))] 27 hs3 trivial ?_
  refine pR_v 2 (some 7) (Value.int .u32 (uw (wsr x n))) 31 rfl hs3 trivial (fun W hW => e_shr32 64 3 (.tmp 5) (.tmp 6) (by kernel_rfl) x .i64 n (by omega) (by kernel_rfl) (by kernel_rfl) _) ?_
  refine pR_v 5 (some 10) (Value.int .i64 (((32 - n : Nat) : Int))) 63 rfl hs3 trivial (fun W hW => exec_sub _ _ _ _ rfl 32 ((n : Int)) (by kernel_rfl) (by kernel_rfl) (((32 - n : Nat) : Int)) (by omega) (by omega) (by omega) _) ?_
  refine pR_v 6 (some 11) (Value.int .u32 (uw (wsl x (((32 - n)))))) 127 rfl hs3 trivial (fun W hW => e_shl32 64 3 (.tmp 8) (.tmp 10) (by kernel_rfl) x .i64 (((32 - n))) (by omega) (by kernel_rfl) (by kernel_rfl) _) ?_
  refine pR_v 7 (some 12) (Value.int .u32 (uw ((wsr x n) ||| (wsl x (((32 - n))))))) 255 rfl hs3 trivial (fun W hW => eq_is (v := Value.int .u32 (bits .or .u32 (uw (wsr x n)) (uw (wsl x (((32 - n))))))) (by kernel_rfl) (w_or (wsr x n) (wsl x (((32 - n)))))) ?_
  refine pR_to 8 (some 4) 511 rfl hs3 (OpTo.run (Value.int .u32 (uw ((wsr x n) ||| (wsl x (((32 - n))))))) (pureOp_run (by kernel_rfl) _) (R := fun v w => v = (Value.int .u32 (uw ((wsr x n) ||| (wsl x (((32 - n))))))) ∧ w3 = w) ⟨rfl, rfl⟩) ?_
  rintro _ _ ⟨rfl, rfl⟩
  refine ⟨fun h => absurd h (by decide), ?_⟩
  refine pR_done hs3 ?_ _
  refine seq_n hK2 ?_
  refine wp_ret ?_
  refine post_1 rfl (by kernel_rfl) (rtmp (v := (Value.int .u32 (uw ((wsr x n) ||| (wsl x (((32 - n)))))))) (by kernel_rfl)) ?_
  exact ⟨rfl, h3.below0⟩
set_option maxRecDepth 100000 in
set_option maxHeartbeats 4000000 in
theorem rounds_any (w : World) : Calls Tryd.prog 65 #[] w (NPost w (.agg (vw shaK).toArray)) := by
  have h0 := Hp.nil (fun _ => False) w
  refine enter 2 Tryd.func65 rfl rfl ?_
  refine wp_reset 2 [] (fun x0 => ?_)
  refine wp_seq_k ?_
  intro K1 hK1
  refine reg_lit ?_
  refine wq_to (some 0) (x_new h0 96 (vw (List.replicate 64 0)) (fun r => pt r 0) (by kernel_rfl)) ?_
  rintro _ w2 ⟨g2, rfl, h2⟩
  refine wl_end rfl ?_
  refine seq_n hK1 ?_
  refine wp_seq_k ?_
  intro K3 hK3
  refine reg_lit ?_
  refine wq_v (some 1) (Value.agg (vw shaK).toArray) (pureOp_run (by kernel_rfl) _) ?_
  refine wq_to none (x_stores h2 0 rfl 96 (.tmp 0) (.tmp 1) (by kernel_rfl) 0 (vw shaK) (vw shaK) (by kernel_rfl) (by kernel_rfl) (by simp [shaK_len]) (by kernel_rfl) (by kernel_rfl) (by simp [shaK_len])) ?_
  rintro _ w4 h4
  refine wl_end rfl ?_
  refine seq_n hK3 ?_
  refine wp_ret ?_
  refine post_1 rfl (by kernel_rfl) (rcell (h4.at_ 0 rfl) (by kernel_rfl) (by kernel_rfl)) ?_
  exact ⟨rfl, h4.below0⟩
end Go.Proofs.YtpkelokaammmjaaDoor
end
/-! The walks of octet.Get, compeerref01.Get: the number of some bytes. -/
section
namespace Go.Proofs.YtpkelokaammmjaaDoor
open Go.RowKit Go.QT
theorem getN_snoc (l : Bytes) (c : UInt8) : getN (l ++ [c]) = 256 * getN l + nb c := by simp [getN]
theorem getN_take (l : Bytes) (k : Nat) (h : k < l.length) : getN (l.take (k+1)) = 256 * getN (l.take k) + nb (gb l k) := by
  have e : l.take (k+1) = l.take k ++ [gb l k] := by
    rw [List.take_succ_eq_append_getElem h]; simp [gb, h]
  rw [e, getN_snoc]
theorem getN_lt (l : Bytes) (k : Nat) (h : k ≤ l.length) : getN (l.take k) < 256 ^ k := by
  induction k with
  | zero => simp [getN]
  | succ k ih =>
    rw [getN_take l k (by omega)]
    have := ih (by omega)
    have := nb_lt (gb l k)
    rw [Nat.pow_succ]; omega
theorem getN_lt8 (l : Bytes) (k : Nat) (h : k ≤ l.length) (h8 : k ≤ 8) : getN (l.take k) < 18446744073709551616 := by
  have h1 := getN_lt l k h
  have h2 : 256 ^ k ≤ 256 ^ 8 := Nat.pow_le_pow_right (by omega) h8
  have h3 : (256 : Nat) ^ 8 = 18446744073709551616 := rfl
  omega
theorem getN_lt7 (l : Bytes) (k : Nat) (h : k ≤ l.length) (h8 : k ≤ 7) : getN (l.take k) < 72057594037927936 := by
  have h1 := getN_lt l k h
  have h2 : 256 ^ k ≤ 256 ^ 7 := Nat.pow_le_pow_right (by omega) h8
  have h3 : (256 : Nat) ^ 7 = 72057594037927936 := rfl
  omega
theorem or_byte (N : Nat) (c : UInt8) (hN : N < 72057594037927936) : bits .or .u64 ((N : Int) * 256) (IntKind.u64.wrap (ub c)) = ((256 * N + nb c : Nat) : Int) := by
  have hc := nb_lt c
  have h1 : IntKind.u64.wrap (ub c) = ((nb c : Nat) : Int) := by rw [IntKind.wrap_u64]; unfold ub nb at *; omega
  have h2 : (N : Int) * 256 = ((N * 256 : Nat) : Int) := by omega
  rw [h1, h2]
  show IntKind.u64.wrap (((BitVec.ofInt 64 ((N * 256 : Nat) : Int) ||| BitVec.ofInt 64 ((nb c : Nat) : Int)).toNat : Nat) : Int) = _
  rw [BitVec.toNat_or, BitVec.ofInt_natCast, BitVec.ofInt_natCast, BitVec.toNat_ofNat, BitVec.toNat_ofNat, Nat.mod_eq_of_lt (by omega), Nat.mod_eq_of_lt (by omega)]
  have h3 := Nat.two_pow_add_eq_or_of_lt (i := 8) (b := nb c) (by omega) N
  rw [show (2 : Nat) ^ 8 * N = N * 256 by omega] at h3
  rw [← h3, IntKind.wrap_u64]
  omega
/-- The number of one to eight bytes. -/
def getP (l : Bytes) : Option Nat := if l.length = 0 ∨ 8 < l.length then none else some (getN l)
def GPost (w : World) (l : Bytes) (e : Ending) (w' : World) : Prop :=
  e = .returned (.tuple #[.int .u64 ((getP l).getD 0 : Nat), .bool (getP l).isSome]) ∧ ∃ n, w' = w.drewN n
theorem getP_yes (l : Bytes) (h0 : l.length ≠ 0) (h8 : l.length ≤ 8) : getP l = some (getN l) := if_neg (by omega)
theorem getP_no (l : Bytes) (h : l.length = 0 ∨ 8 < l.length) : getP l = none := if_pos h
set_option maxRecDepth 100000 in
set_option maxHeartbeats 1000000 in
theorem get_any (v : Value) (l : Bytes) (w : World) (hv : SB w v l) : Calls Tryd.prog 63 #[v] w (GPost w l) := by
  have hbv : ∃ A c, v = .slice A l.length c ∧ l.length ≤ c ∧ c ≤ 2 ^ 63 - 1 ∧ (l ≠ [] → ∃ bb o, A = some ⟨bb, o, none⟩ ∧ ∀ i, i < l.length → w.cell? ⟨bb, o + i, none⟩ = some (.int .u8 (ub (gb l i)))) := by
    obtain ⟨A, c, e, h1, h2, h3⟩ := hv
    exact ⟨A, c, e, h1, by unfold maxLen at h2; exact h2, fun hne => by obtain ⟨b, o, h4, _, h5⟩ := h3 hne; exact ⟨b, o, h4, h5⟩⟩
  obtain ⟨A, c, rfl, hc1, hc2, hcell⟩ := hbv
  have Hcell := Hd.mk hcell
  clear hcell hv
  by_cases h0 : l.length = 0
  · have Hp := Hd.mk (getP_no l (.inl h0))
    have hd : (((l.length : Nat) : Int) == 0) = true := by rw [beq_iff_eq]; omega
    have H0 := Hd.mk h0
    clear h0
    go_enter Tryd.func63, Tryd.ntmps63
    go_wp2
    go_ret2
    exact ⟨by rw [Hp.out]; rfl, 0, rfl⟩
  · have hd : (((l.length : Nat) : Int) == 0) = false := beq_eq_false_iff_ne.2 (by omega)
    by_cases h8 : l.length ≤ 8
    · have Hp := Hd.mk (getP_yes l h0 h8)
      have hd2 : decide ((l.length : Int) > 8) = false := by simp; omega
      obtain ⟨bb, o, rfl, hcell⟩ := Hcell.out (by rintro rfl; exact h0 rfl)
      have Hcell2 := Hd.mk hcell
      have H0 := Hd.mk h0
      clear h0 hcell Hcell
      go_enter Tryd.func63, Tryd.ntmps63
      go_upto_region 4 with (fail)
      go_wp2
      go_loop [4, 17] (fun n i => ∃ k : Nat, k ≤ l.length ∧ i = .int .i64 (k : Int) ∧ n = .int .u64 (getN (l.take k) : Nat)) (fun _ i => l.length - (intOf i).toNat)
      case atStart => exact ⟨0, by omega, rfl, rfl⟩
      case round =>
        obtain ⟨k, hk, rfl, rfl⟩ := hrel
        by_cases hlt : k < l.length
        · have hx := Hcell2.out k hlt
          have hN := getN_lt7 l k hk (by omega)
          have Hs := Hd.mk (getN_take l k hlt)
          generalize getN (l.take k) = N at *
          go_wp2
          refine ⟨⟨k + 1, by omega, by go_num, by rw [or_byte N _ hN, Hs.out]⟩, by simp [intOf]; omega⟩
        · have hk2 : k = l.length := by omega
          have Hk2 := Hd.mk hk2
          clear hk2
          go_wp2
          go_ret2
          refine ⟨?_, 0, rfl⟩
          rw [Hp.out, Hk2.out, List.take_length]; rfl
    · have Hp := Hd.mk (getP_no l (.inr (by omega)))
      have hd2 : decide ((l.length : Int) > 8) = true := by simp; omega
      have H0 := Hd.mk h0
      clear h0
      go_enter Tryd.func63, Tryd.ntmps63
      go_wp2
      go_ret2
      exact ⟨by rw [Hp.out]; rfl, 0, rfl⟩
end Go.Proofs.YtpkelokaammmjaaDoor
end
/-! Steps for the walks of sha: products, copies of words, octet.Get's call. -/
section
namespace Go.Proofs.YtpkelokaammmjaaDoor
open Go.RowKit Go.QT
section
variable {P : Program} {o : Oper} {a : Act} {w w' : World} {F0 : Nat → Prop} {w0 : World} {ro rs : List Res}
theorem exec_mulN (t t' : TypeId) (x y : Operand) (ho : o.op = .binOp .mul t x y t') (m n : Nat) (hx : a.eval x = .int .i64 (m : Int)) (hy : a.eval y = .int .i64 (n : Int)) (p : Nat) (hp : m * n = p) (h2 : p < 9223372036854775808) (w : World) :
    (execOp a.eval o).run P w = .ok (.value (.int .i64 ((p : Nat) : Int))) w := by
  have e : IntKind.i64.wrap ((m : Int) * (n : Int)) = (p : Int) := by rw [← Int.natCast_mul, hp, IntKind.wrap_i64]; omega
  have h3 : (eqGuard .mul t x y (.int .i64 (m : Int)) (.int .i64 (n : Int))).run P w = .ok () w := by simp [eqGuard]
  have h4 : (binOp .mul t (.int .i64 (m : Int)) (.int .i64 (n : Int))).run P w = .ok (.int .i64 (p : Int)) w := by simp [binOp, Op.intArith, e]
  unfold execOp
  simp only [ho, hx, hy, Sem.run_bind, h3, h4, Result.andThen_ok, Sem.run_pure]
/-- octet.Get of one to eight bytes. -/
theorem x_get (h : Hp F0 w0 w ro rs) (l : Bytes) (bv : Value) (hp : pureVal Tryd.prog (execOp a.eval o) = some (.enter 63 #[bv])) (hb : SB w bv l) (h0 : l.length ≠ 0) (h8 : l.length ≤ 8) (n : Nat) (hn : getN l = n) :
    OpTo Tryd.prog o a w (fun u w' => u = .tuple #[.int .u64 ((n : Nat) : Int), .bool true] ∧ Hp F0 w0 w' ro rs) :=
  OpTo.enter 63 [bv] hp (get_any bv l w hb) fun e w' hq => by
    obtain ⟨he, m, rfl⟩ := hq
    rw [getP_yes l h0 h8, Option.getD_some, hn] at he
    exact ⟨_, he, rfl, h.drewN m⟩
/-- copy of cells of a block into the same one. -/
theorem x_copyB (h : Hp F0 w0 w ro rs) (i : Nat) {g : Nat} {T : TypeId} {cs : List Value} (hi : rs[i]? = some (rBlk g T cs)) (x y : Operand) (t E : TypeId) (ho : o.op = .call { callee := .builtin .copy, args := #[x, y], argTypes := #[t, t] })
    (k j n c d : Nat) (ds es : List Value) (hx : a.eval x = .slice (some ⟨g, k, none⟩) n c) (hy : a.eval y = .slice (some ⟨g, j, none⟩) n d) (ht : P.underlying t = some (.slice E)) (hE : (P.info? E).map (·.size) = some 1)
    (hd : (cs.drop j).take n = ds) (hn : ds.length = n) (hfit : decide (k + ds.length ≤ cs.length) = true) (h1 : ds.all (·.oneCell') = true) (he : es = cs.take k ++ ds ++ cs.drop (k + ds.length)) :
    OpTo P o a w (fun u w' => u = goInt n ∧ Hp F0 w0 w' ro (rs.set i (rBlk g T es))) := by
  have hb : Blk w g T cs := h.own i _ hi
  subst he
  have hr := run_copy_row (P := P) w t t o.type E g k n c ⟨g, j, none⟩ n d cs.toArray T ds ht hE hb (by rw [hn]; exact (Nat.min_self n).symm)
    (fun q v hq => by
      have := slice_get cs j n q v (by rw [hd]; exact hq)
      rw [Addr.add_mid, hb.cell]; exact this) (by simpa using of_decide_eq_true hfit) (by simpa using h1)
  have hrun : (execOp a.eval o).run P w = .ok (.value (goInt n)) (w.setRow g (cs.take k ++ ds ++ cs.drop (k + ds.length)).toArray) := by
    rw [hn] at hr
    unfold execOp
    simp only [ho, resolve, invoke, builtin, Sem.run_bind, Sem.run_pure, Result.andThen_ok, List.map_toArray, List.map_cons, List.map_nil, hx, hy, hr, hn]
  exact OpTo.run _ hrun ⟨rfl, h.upd i hi (Fr.of_grown (only_setRow g _) (fun q hq => by injection hq with hq; exact .inl hq.symm)) _ (hb.setRow _) (fun q hq => .inl hq)⟩
end
end Go.Proofs.YtpkelokaammmjaaDoor
end
