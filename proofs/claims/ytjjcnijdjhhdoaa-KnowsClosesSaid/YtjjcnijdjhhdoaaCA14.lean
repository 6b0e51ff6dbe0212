/- Steps of the walk of KnowsCloses. (Texts laid one behind the other: KClL.) -/
import Derived.Test.YtjjcnijdjhhdoaaCA13
/-! Steps of the walk of KnowsCloses. -/
section
namespace Go.Proofs.Ytjjcnijdjhhdoaa
open Go.RowKit Go.QT
section
variable {F0 : Nat → Prop} {w0 w : World} {ro rs : List Res} {o : Oper} {a : Act}
theorem x_joined (h : Hp F0 w0 w ro rs) (ls : List Bytes) (v : Value) (hp : pureVal Try.prog (execOp a.eval o) = some (.enter 57 #[v])) (hv : SS w v ls) (r : Bytes) (hr : r = ls.flatten) (hl : r.length ≤ 1000000) :
    OpTo Try.prog o a w (fun u w' => ∃ A c, u = .slice A r.length c ∧ Hp F0 w0 w' ro (rOB (.slice A r.length c) r :: rs)) := by
  subst hr
  refine (x_bytes h 57 [v] hp (joined_any v ls w hv (by omega))).mono fun u w' hq => ?_
  obtain ⟨A, c, rfl, h'⟩ := hq
  exact ⟨A, c, rfl, h'⟩
theorem ss3 {g : Nat} {u1 u2 u3 : Value} {l1 l2 l3 : Bytes} (hb : Blk w g 28 [u1, u2, u3]) (h1 : SB w u1 l1) (h2 : SB w u2 l2) (h3 : SB w u3 l3) : SS w (.slice (some ⟨g, 0, none⟩) 3 3) [l1, l2, l3] :=
  ⟨_, 3, rfl, Nat.le_refl _, by decide, fun i hi => by
    match i, hi with
    | 0, _ => exact ⟨g, 0, u1, rfl, hb.lt, hb.cell 0, h1⟩
    | 1, _ => exact ⟨g, 0, u2, rfl, hb.lt, hb.cell 1, h2⟩
    | 2, _ => exact ⟨g, 0, u3, rfl, hb.lt, hb.cell 2, h3⟩⟩
theorem ss2 {g : Nat} {u1 u2 : Value} {l1 l2 : Bytes} (hb : Blk w g 28 [u1, u2]) (h1 : SB w u1 l1) (h2 : SB w u2 l2) : SS w (.slice (some ⟨g, 0, none⟩) 2 2) [l1, l2] :=
  ⟨_, 2, rfl, Nat.le_refl _, by decide, fun i hi => by
    match i, hi with
    | 0, _ => exact ⟨g, 0, u1, rfl, hb.lt, hb.cell 0, h1⟩
    | 1, _ => exact ⟨g, 0, u2, rfl, hb.lt, hb.cell 1, h2⟩⟩
theorem e_maxN (x y : Operand) (ts : Array TypeId) (ho : o.op = .call { callee := .builtin .max, args := #[x, y], argTypes := ts }) (k k' : IntKind) (m n : Nat) (hx : a.eval x = .int k (m : Int)) (hy : a.eval y = .int k' (n : Int)) (W : World) :
    (execOp a.eval o).run Try.prog W = .ok (.value (.int k ((max m n : Nat) : Int))) W := by
  have e : (if (n : Int) > (m : Int) then (n : Int) else (m : Int)) = ((max m n : Nat) : Int) := by
    split <;> omega
  unfold execOp
  simp only [ho, resolve, invoke, builtin, Sem.run_bind, Sem.run_pure, Result.andThen_ok, List.map_toArray, List.map_cons, List.map_nil, hx, hy, run_max_int2, e]
theorem x_rclose {A B C D : Option Addr} {a1 b1 c1 d1 n m : Nat} {of : List Int} {hb : List KBox} {k0 s0 : List Bool} (h : Hp F0 w0 w ro rs) (hp : pureVal Try.prog (execOp a.eval o) = some (.enter 58 #[.slice A n a1, .slice B m b1, .slice C n c1, .slice D m d1])) (r1 : RV w 1 A a1 (ivs of)) (r2 : RV w 3 B b1 (hb.map kbCells)) (r3 : (rISs (hb.map (·.kv)) (hb.map (·.ks))).Φ w) (r4 : (rISs (hb.map (·.bv)) (hb.map (·.bs))).Φ w) (r5 : RV w 1 C c1 (bvs k0)) (r6 : RV w 1 D d1 (bvs s0))
    (hn : k0.length = n) (hm : hb.length = m) (hof : of.length = n) (hs : s0.length = m) (h3 : n ≤ 12) (h4 : m ≤ 12) (h5 : ∀ (k : Nat) (x : Int), of[k]? = some x → x ≤ (n : Int)) (h6 : ∀ y ∈ hb, y.ks.length ≤ 6 ∧ y.bs.length ≤ 6) :
    OpTo Try.prog o a w (fun u w' => ∃ A1 c1 A2 c2 A3, ∃ X : KHO, u = .tuple #[.slice A1 n c1, .slice A2 m c2, .slice A3 m m] ∧ X = closeS of (hb.map triOf) ⟨k0, s0, List.replicate m false⟩ (n + m + 2) ∧
      Hp F0 w0 w' ro ([rOV 4 1 (.slice A1 n c1) (bvs X.kn), rOV 4 1 (.slice A2 m c2) (bvs X.hd), rOV 4 1 (.slice A3 m m) (bvs X.op)] ++ rs)) := by
  subst hn; subst hm
  exact OpTo.enter 58 [.slice A k0.length a1, .slice B hb.length b1, .slice C k0.length c1, .slice D hb.length d1] hp (rclose_any A B C D a1 b1 c1 d1 of hb k0 s0 w r1 r2 r3 r4 r5 r6 hof hs h3 h4 h5 h6) fun e w' hq => by
    obtain ⟨A1, c1, A2, c2, A3, X, he, hX, hh⟩ := hq
    exact ⟨_, he, A1, c1, A2, c2, A3, X, rfl, hX, h.call0 hh⟩
end
section
variable {n m i v : Nat} {l : List Int} {x : Int} {Lk Lb : List Bytes} {k0 : List Bool} {s : STab} {N : Nat} {S : KM} {k b : Bytes}
theorem lkTo_stay (h : ¬ i < l.length) : lkTo n l (i + 1) = lkTo n l i := by
  unfold lkTo
  rw [List.take_of_length_le (by omega), List.take_of_length_le (by omega)]
theorem lbTo_stay (h : ¬ i < l.length) : lbTo n l (i + 1) = lbTo n l i := by
  unfold lbTo
  rw [List.take_of_length_le (by omega), List.take_of_length_le (by omega)]
/-- A flag is set as a key (a box) comes. -/
def Flags (c : UInt8) (n : Nat) (f : List Bool) (L : List Bytes) : Prop := f.length = n ∧ ∀ j, bt f j = true ↔ (j < n ∧ mkB c (j + 1) ∈ L)
theorem Flags.zero (c : UInt8) (n : Nat) : Flags c n (List.replicate n false) [] := by
  refine ⟨by simp, fun j => ⟨fun h => ?_, fun h => absurd h.2 (by simp)⟩⟩
  unfold bt at h
  rw [List.getD_eq_getElem?_getD, List.getElem?_replicate] at h
  split at h <;> cases h
theorem Flags.set {c : UInt8} {f : List Bool} {L L' : List Bytes} (h : Flags c n f L) (hv : v < n) (hn : n ≤ 12) (hL : L' = L ++ [mkB c (v + 1)]) : Flags c n (f.set v true) L' := by
  subst hL
  refine ⟨by rw [List.length_set]; exact h.1, fun j => ?_⟩
  rw [bt_set, h.2 j, List.mem_append, List.mem_singleton, h.1]
  constructor
  · rintro (⟨a, b⟩ | ⟨rfl, _⟩)
    · exact ⟨a, .inl b⟩
    · exact ⟨hv, .inr rfl⟩
  · rintro ⟨a, b | b⟩
    · exact .inl ⟨a, b⟩
    · have := mkB_inj (by omega) (by omega) b
      exact .inr ⟨by omega, hv⟩
theorem Flags.eq {c : UInt8} {f : List Bool} {L L' : List Bytes} (h : Flags c n f L) (hL : L' = L) : Flags c n f L' := hL ▸ h
theorem lk_all (hn : 0 < n) : ∀ k ∈ lkTo n l i, ∃ j, j < n ∧ k = mkB 107 (j + 1) := by
  intro k hk
  unfold lkTo at hk
  obtain ⟨x, _, rfl⟩ := List.mem_map.1 hk
  exact ⟨_, kN_lt x hn, rfl⟩
theorem lb_all : ∀ k ∈ lbTo m l i, ∃ j, j < m ∧ k = mkB 98 (j + 1) := by
  intro k hk
  unfold lbTo at hk
  split at hk
  · simp at hk
  · obtain ⟨x, _, rfl⟩ := List.mem_map.1 hk
    exact ⟨_, kN_lt x (by omega), rfl⟩
theorem seen_of {f g : List Bool} (hk : Flags 107 n f Lk) (hb : Flags 98 m g Lb) (h1 : ∀ k ∈ Lk, ∃ j, j < n ∧ k = mkB 107 (j + 1)) (h2 : ∀ k ∈ Lb, ∃ j, j < m ∧ k = mkB 98 (j + 1)) : Seen n m Lk Lb f g :=
  ⟨hk.1, hb.1, hk.2, hb.2, h1, h2⟩
theorem findB_123 (hk : k = mkB 98 v) (hv : v < 255) : findB ([1, 2] ++ k ++ [3]) = [k] := by
  subst hk
  rw [List.append_assoc, findB_skips [1, 2] _ (by decide), findB_mark (.inr (.inl rfl)) hv]
  have : findB [3] = [] := by
    have := findB_skips [3] [] (by decide)
    rw [List.append_nil] at this
    exact this
  rw [this]
/-- A mark between other bytes was seen. -/
theorem WS.saw123 (h : WSl s (Lk ++ marksIn 107 ([1, 2] ++ k ++ [3])) (Lb ++ marksIn 98 ([1, 2] ++ k ++ [3])) N S) (hk : k = mkB 98 v) (hv : v < 255) : WSl s Lk (Lb ++ [k]) N S := by
  have e1 : marksIn 107 ([1, 2] ++ k ++ [3]) = marksIn 107 k := by
    unfold marksIn
    rw [findB_123 hk hv, hk, findB_mk (.inr (.inl rfl)) (by omega)]
  have e2 : marksIn 98 ([1, 2] ++ k ++ [3]) = marksIn 98 k := by
    unfold marksIn
    rw [findB_123 hk hv, hk, findB_mk (.inr (.inl rfl)) (by omega)]
  rw [e1, e2] at h
  exact h.sawMark hk (by omega)
theorem decFbb (c : Bool) (hk : k = mkB 98 v) (hv : v < 255) (h : Knl s Lk Lb 1 k ↔ c = true) : ∀ S', MSl s Lk Lb N S' → fitsB S' (k ++ k) = c := fun S' hM => by
  have hd := decX c h S' hM
  have hf : findB (k ++ k) = [k, k] := by
    subst hk
    rw [findB_mark (.inr (.inl rfl)) hv, findB_mk (.inr (.inl rfl)) (by omega)]
  unfold fitsB
  rw [hf]
  have h1 : isKdB 107 k = false := by
    subst hk
    unfold isKdB
    rw [markOf_mkB (.inr (.inl rfl)) (by omega)]; rfl
  have h2 : isKdB 98 k = true := isKdB_iff.2 (hk ▸ (isKd_mk (.inr (.inl rfl)) (by omega)).2 rfl)
  simp only [List.all_cons, List.all_nil, Bool.and_true, fitB, h1, h2, Bool.not_false, Bool.not_true, Bool.true_or, Bool.false_or, Bool.true_and]
  rw [hd, Bool.and_self]
theorem decFtext : ∀ S', MSl s Lk Lb N S' → fitsB S' [116, 101, 120, 116] = true := fun S' _ => by
  unfold fitsB
  have : findB [116, 101, 120, 116] = [] := by
    have := findB_skips [116, 101, 120, 116] [] (by decide)
    rw [List.append_nil] at this
    exact this
  rw [this]; rfl
theorem knb {p : Prop} {f : List Bool} {c : Bool} (h : p ↔ bt f i = true) (hc : f[i]? = some c) : p ↔ c = true := by rw [h, bt_of hc]
def cntTo (f : List Bool) (i : Nat) : Nat := ((List.range i).filter fun j => bt f j).length
theorem cntTo_yes {f : List Bool} (h : f[i]? = some true) : cntTo f (i + 1) = cntTo f i + 1 := by
  unfold cntTo
  rw [List.range_succ, List.filter_append]
  simp [bt_of h]
theorem cntTo_no {f : List Bool} (h : f[i]? = some false) : cntTo f (i + 1) = cntTo f i := by
  unfold cntTo
  rw [List.range_succ, List.filter_append]
  simp [bt_of h]
theorem cntTo_le {f : List Bool} : cntTo f i ≤ i := by
  unfold cntTo
  exact Nat.le_trans (List.length_filter_le _ _) (by simp)
theorem known_cnt {f : List Bool} (hM : MSl s Lk Lb N S) (h : ∀ j, j < n → (Knl s Lk Lb 0 (mkB 107 (j + 1)) ↔ bt f j = true)) : knownN S n = cntTo f n := by
  unfold knownN cntTo
  congr 1
  apply List.filter_congr
  intro j hj
  have hj := List.mem_range.1 hj
  rw [Bool.eq_iff_iff, decide_eq_true_iff, ← h j hj]
  exact hM.iff.1 _
theorem made_of {of : List Int} {n k : Nat} {x : Int} (h : (ofTo of n)[k]? = some x) : x ≤ (n : Int) := by
  have hk : k < n := by have := (List.getElem?_eq_some_iff.1 h).1; rw [ofTo_len] at this; exact this
  unfold ofTo at h
  rw [List.getElem?_map, List.getElem?_range hk] at h
  injection h with h
  have := ofV_le of k
  rw [← h]; omega
theorem made_six {n : Nat} {bx hb : List KBox} (h : ∀ y ∈ bx, y.ks.length ≤ 6 ∧ y.bs.length ≤ 6) (ht : hb.map triOf = triTo n bx bx.length) : ∀ y ∈ hb, y.ks.length ≤ 6 ∧ y.bs.length ≤ 6 := by
  intro y hy
  have hm : triOf y ∈ triTo n bx bx.length := ht ▸ List.mem_map.2 ⟨y, hy, rfl⟩
  obtain ⟨i, hi, e⟩ := List.getElem_of_mem hm
  obtain ⟨v, hv, e2⟩ := tri_of (t := triOf y) (by rw [← e]; exact List.getElem?_eq_getElem hi)
  obtain ⟨a, b⟩ := h v (List.mem_of_getElem? hv)
  unfold triOf triF at e2
  injection e2 with _ e3
  injection e3 with e4 e5
  rw [e4, e5]
  refine ⟨by unfold natI; rw [List.length_map, ksN_len]; exact a, Nat.le_trans bsN_len b⟩
end
end Go.Proofs.Ytjjcnijdjhhdoaa
end
