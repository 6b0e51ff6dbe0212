/- The walk of few. (Texts laid one behind the other: KLateL, KMadeL, KFew.) -/
import Derived.Test.YtjjcnijdjhhdoaaCA10
/-! Plain law of KnowsLate. -/
section
namespace Go.Proofs.Ytjjcnijdjhhdoaa
open Go.RowKit Go.QT
def aN : Nat → Nat
  | 0 => 1
  | i+1 => 3 * i + 3
def bN : Nat → Nat
  | 0 => 2
  | i+1 => 3 * i + 4
theorem aN_ne_bN (i j : Nat) : aN i ≠ bN j := by
  cases i <;> cases j <;> simp only [aN, bN] <;> omega
theorem aN_lt (i : Nat) : aN i ≤ 3 * i + 1 ∧ 1 ≤ aN i := by cases i <;> simp only [aN] <;> omega
theorem bN_lt (i : Nat) : bN i ≤ 3 * i + 2 ∧ 1 ≤ bN i := by cases i <;> simp only [bN] <;> omega
theorem aN_inj {i j : Nat} (h : aN i = aN j) : i = j := by cases i <;> cases j <;> simp only [aN] at h <;> omega
theorem bN_inj {i j : Nat} (h : bN i = bN j) : i = j := by cases i <;> cases j <;> simp only [bN] at h <;> omega
theorem fN_ne (i j : Nat) : 3 * i + 5 ≠ aN j := by cases j <;> simp only [aN] <;> omega
def lateKeys (l : ByteArray) : Nat → List SFrom
  | 0 => [SFrom.fresh, SFrom.fresh]
  | i+1 => lateKeys l i ++ [deriveF (mkB 107 (aN i)) l, deriveF (mkB 107 (bN i)) l, SFrom.fresh]
theorem late_len (l : ByteArray) (i : Nat) : (lateKeys l i).length = 3 * i + 2 := by
  induction i with
  | zero => rfl
  | succ i ih => simp only [lateKeys, List.length_append, ih, List.length_cons, List.length_nil]; omega
theorem late_at (l : ByteArray) : ∀ (i n : Nat) (f : SFrom), (lateKeys l i)[n]? = some f → f = SFrom.fresh ∨ ∃ j, j < i ∧ ((n = 3 * j + 2 ∧ f = deriveF (mkB 107 (aN j)) l) ∨ (n = 3 * j + 3 ∧ f = deriveF (mkB 107 (bN j)) l))
  | 0, n, f, h => by
    left
    match n, h with
    | 0, h => injection h with h; exact h.symm
    | 1, h => injection h with h; exact h.symm
    | n+2, h => simp [lateKeys] at h
  | i+1, n, f, h => by
    unfold lateKeys at h
    by_cases hn : n < 3 * i + 2
    · rw [List.getElem?_append_left (by rw [late_len]; exact hn)] at h
      rcases late_at l i n f h with h | ⟨j, hj, h⟩
      · exact .inl h
      · exact .inr ⟨j, by omega, h⟩
    · rw [List.getElem?_append_right (by rw [late_len]; omega), late_len] at h
      match hk : n - (3 * i + 2), h with
      | 0, h => injection h with h; exact .inr ⟨i, by omega, .inl ⟨by omega, h.symm⟩⟩
      | 1, h => injection h with h; exact .inr ⟨i, by omega, .inr ⟨by omega, h.symm⟩⟩
      | 2, h => injection h with h; exact .inl h.symm
      | k+3, h => simp at h
theorem late_a (l : ByteArray) : ∀ (i j : Nat), j < i → (lateKeys l i)[3 * j + 2]? = some (deriveF (mkB 107 (aN j)) l)
  | 0, j, h => by omega
  | i+1, j, h => by
    unfold lateKeys
    by_cases hj : j < i
    · rw [List.getElem?_append_left (by rw [late_len]; omega)]
      exact late_a l i j hj
    · have : j = i := by omega
      subst this
      rw [List.getElem?_append_right (by rw [late_len]; omega), late_len, Nat.sub_self]; rfl
structure LInv (s : STab) (l : ByteArray) (i : Nat) : Prop where
  bx : s.boxes = []
  ks : s.keys = lateKeys l i
  kn : ∀ p ∈ s.known, ∃ j, j < i ∧ (p.1 = deriveF (mkB 107 (aN j)) l ∨ p.1 = deriveF (mkB 107 (bN j)) l)
theorem LInv.zero {s1 s2 : STab} {l : ByteArray} (h1 : s1 = STab.empty.add SFrom.fresh) (h2 : s2 = s1.add SFrom.fresh) : LInv s2 l 0 := by
  subst h1; subst h2
  exact ⟨rfl, rfl, by simp [STab.empty, STab.add]⟩
theorem at_none {s : STab} {f : SFrom} (h : ∀ p ∈ s.known, p.1 ≠ f) : s.at_ f = none := by
  unfold STab.at_
  rw [Option.map_eq_none_iff, List.find?_eq_none]
  intro p hp
  simpa using h p hp
section
variable {s s1 s2 s3 : STab} {l : ByteArray} {i n : Nat} {Lk Lb : List Bytes}
theorem mk_ne {m n : Nat} (hm : m < 1000000) (hn : n < 1000000) (h : m ≠ n) (l : ByteArray) : deriveF (mkB 107 m) l ≠ deriveF (mkB 107 n) l := fun e => by
  rw [derive_inj] at e
  exact h (mkB_inj (by omega) (by omega) e.1)
theorem made_new {f : SFrom} (h : s.at_ f = none) : s.num f = s.keys.length + 1 ∧ (s.made f).keys = s.keys ++ [f] ∧ (s.made f).known = s.known ++ [(f, s.keys.length + 1)] ∧ (s.made f).boxes = s.boxes := by
  unfold STab.num STab.made
  rw [h]
  exact ⟨rfl, rfl, rfl, rfl⟩
structure LNext (s s1 s2 s3 : STab) (l : ByteArray) (i : Nat) (ka kb : Bytes) : Prop where
  inv : LInv s3 l (i + 1)
  na : s.num (deriveF ka l) = aN (i + 1)
  nb : s1.num (deriveF kb l) = bN (i + 1)
  nf : s2.keys.length + 1 = 3 * i + 5
theorem LInv.step (h : LInv s l i) (hi : i < 100) {ka kb : Bytes} (ha : ka = mkB 107 (aN i)) (hb : kb = mkB 107 (bN i)) (h1 : s1 = s.made (deriveF ka l)) (h2 : s2 = s1.made (deriveF kb l)) (h3 : s3 = s2.add SFrom.fresh) : LNext s s1 s2 s3 l i ka kb := by
  subst ha; subst hb
  have la := aN_lt i
  have lb := bN_lt i
  have n1 : s.at_ (deriveF (mkB 107 (aN i)) l) = none := at_none fun p hp e => by
    obtain ⟨j, hj, h | h⟩ := h.kn p hp
    · rw [h] at e
      have := aN_lt j
      exact mk_ne (by omega) (by omega) (fun e => by have := aN_inj e; omega) l e
    · rw [h] at e
      have := bN_lt j
      exact mk_ne (by omega) (by omega) (fun e => aN_ne_bN i j e.symm) l e
  obtain ⟨a1, a2, a3, a4⟩ := made_new n1
  have n2 : s1.at_ (deriveF (mkB 107 (bN i)) l) = none := at_none fun p hp e => by
    rw [h1, a3, List.mem_append, List.mem_singleton] at hp
    rcases hp with hp | rfl
    · obtain ⟨j, hj, h | h⟩ := h.kn p hp
      · rw [h] at e
        have := aN_lt j
        exact mk_ne (by omega) (by omega) (aN_ne_bN j i) l e
      · rw [h] at e
        have := bN_lt j
        exact mk_ne (by omega) (by omega) (fun e => by have := bN_inj e; omega) l e
    · exact mk_ne (by omega) (by omega) (aN_ne_bN i i) l e
  obtain ⟨b1, b2, b3, b4⟩ := made_new n2
  have hl := late_len l i
  have k1 : s1.keys.length = 3 * i + 3 := by rw [h1, a2, List.length_append, h.ks, hl]; rfl
  have k2 : s2.keys.length = 3 * i + 4 := by rw [h2, b2, List.length_append, k1]; rfl
  refine ⟨⟨?_, ?_, ?_⟩, ?_, ?_, ?_⟩
  · rw [h3]; show s2.boxes = []
    rw [h2, b4, h1, a4, h.bx]
  · rw [h3]; show s2.keys ++ [SFrom.fresh] = _
    rw [h2, b2, h1, a2, h.ks]
    simp [lateKeys]
  · intro p hp
    rw [h3] at hp
    have hp : p ∈ s2.known := hp
    rw [h2, b3, h1, a3, List.mem_append, List.mem_append, List.mem_singleton, List.mem_singleton] at hp
    rcases hp with (hp | rfl) | rfl
    · obtain ⟨j, hj, h⟩ := h.kn p hp
      exact ⟨j, by omega, h⟩
    · exact ⟨i, by omega, .inl rfl⟩
    · exact ⟨i, by omega, .inr rfl⟩
  · rw [a1, h.ks, hl]; rfl
  · rw [b1, k1]; simp only [bN]
  · rw [k2]
theorem zK_ne (n : Nat) : mkB 107 n ≠ zKey := fun h => by
  have := congrArg List.head? h
  simp [mkB, zKey] at this
theorem LInv.known (h : LInv s l i) (hi : i < 100) (hk : Lk = [mkB 107 1]) (hb : Lb = []) : ∀ k, Kn s (fun k => k ∈ Lk) (fun k => k ∈ Lb) 0 k ↔ ∃ j, j ≤ i ∧ k = mkB 107 (aN j) := by
  subst hk; subst hb
  intro k
  constructor
  · intro hk
    have all : ∀ c k, Kn s (fun k => k ∈ [mkB 107 1]) (fun k => k ∈ ([] : List Bytes)) c k → c = 0 ∧ ∃ j, j ≤ i ∧ k = mkB 107 (aN j) := by
      intro c k hk
      induction hk with
      | key k hk => exact ⟨rfl, 0, by omega, by simpa [aN] using hk⟩
      | box k hk => simp at hk
      | opens k sl _ _ _ ih => cases ih.1
      | tkey k x sl _ _ _ _ ih => cases ih.1
      | tbox k x sl _ _ _ _ ih => cases ih.1
      | late n f h1 h2 _ ih =>
        refine ⟨rfl, ?_⟩
        rw [h.ks] at h1
        obtain ⟨_, j, hj, he⟩ := ih
        rcases late_at l i n f h1 with rfl | ⟨m, hm, ⟨rfl, rfl⟩ | ⟨rfl, rfl⟩⟩
        · exact absurd rfl h2
        · exact ⟨m + 1, by omega, rfl⟩
        · exfalso
          have e : mkB 107 (bN m) = mkB 107 (aN j) := he
          have a1 := aN_lt j; have b1 := bN_lt m
          exact aN_ne_bN j m (mkB_inj (by omega) (by omega) e.symm)
    exact (all 0 k hk).2
  · rintro ⟨j, hj, rfl⟩
    have key : ∀ j, j ≤ i → Kn s (fun k => k ∈ [mkB 107 1]) (fun k => k ∈ ([] : List Bytes)) 0 (mkB 107 (aN j)) := by
      intro j
      induction j with
      | zero => intro _; exact .key _ (by simp [aN])
      | succ j ih =>
        intro hj
        exact .late (3 * j + 2) _ (by rw [h.ks]; exact late_a l i j (by omega)) (zK_ne _) (ih (by omega))
    exact key j hj
theorem LInv.yes (h : LInv s l i) (hi : i < 100) (hk : Lk = [mkB 107 1]) (hb : Lb = []) {k : Bytes} (he : k = mkB 107 (aN i)) : Kn s (fun k => k ∈ Lk) (fun k => k ∈ Lb) 0 k ↔ true = true :=
  true_iff_ ((h.known hi hk hb k).2 ⟨i, Nat.le_refl _, he⟩)
theorem LInv.no (h : LInv s l i) (hi : i < 100) (hk : Lk = [mkB 107 1]) (hb : Lb = []) {k : Bytes} (he : k = mkB 107 n) (hn : n < 1000000) (hne : ∀ j, n ≠ aN j) : Kn s (fun k => k ∈ Lk) (fun k => k ∈ Lb) 0 k ↔ false = true :=
  false_iff_ fun hK => by
    obtain ⟨j, hj, e⟩ := (h.known hi hk hb k).1 hK
    have := aN_lt j
    rw [he] at e
    exact hne j (mkB_inj (by omega) (by omega) e)
theorem LInv.sm (h : LInv s l i) (hi : i < 100) : Sm s := sm0 h.bx (by rw [h.ks, late_len]; omega)
/-- The box at the end. -/
theorem LInv.fin (h : LInv s l i) (hi : i < 100) (hk : Lk = [mkB 107 1]) (hb : Lb = []) {ka kb : Bytes} (ha : ka = mkB 107 (aN i)) (hb' : kb = mkB 107 (bN i)) {s' : STab} (hs : s' = s.seal ka 1 kb) :
    Sm s' ∧ Kn s' (fun k => k ∈ Lk ++ marksIn 107 (mkB 98 (s.boxes.length + 1))) (fun k => k ∈ Lb ++ marksIn 98 (mkB 98 (s.boxes.length + 1))) 0 kb ∧ Kn s' (fun k => k ∈ Lk ++ marksIn 107 (mkB 98 (s.boxes.length + 1))) (fun k => k ∈ Lb ++ marksIn 98 (mkB 98 (s.boxes.length + 1))) 2 (mkB 98 (s.boxes.length + 1)) := by
  have hl : s.boxes.length = 0 := by rw [h.bx]; rfl
  obtain ⟨e1, _, e3, _⟩ := seal_all hs
  rw [h.bx] at e1
  have hbx : s'.box (mkB 98 (s.boxes.length + 1)) = some ⟨ka, 1, kb⟩ := by
    rw [hl]; exact box_at (by rw [e1]; rfl) (by decide)
  have hkn : Kn s' (fun k => k ∈ Lk ++ marksIn 107 (mkB 98 (s.boxes.length + 1))) (fun k => k ∈ Lb ++ marksIn 98 (mkB 98 (s.boxes.length + 1))) 0 ka :=
    ((h.known hi hk hb ka).2 ⟨i, Nat.le_refl _, ha⟩).mono (fun k sl hc => by
      exfalso
      obtain ⟨j, hj, _⟩ := box_at_ hc
      omega) (fun n f hf => by rw [e3]; exact hf) (fun k hk => .key k (List.mem_append_left _ hk)) (fun k hk => .box k (List.mem_append_left _ hk))
  have h2 : Kn s' (fun k => k ∈ Lk ++ marksIn 107 (mkB 98 (s.boxes.length + 1))) (fun k => k ∈ Lb ++ marksIn 98 (mkB 98 (s.boxes.length + 1))) 2 (mkB 98 (s.boxes.length + 1)) :=
    .opens _ ⟨ka, 1, kb⟩ (.box _ (List.mem_append_right _ (by rw [marksIn_same (.inr (.inl rfl)) (by omega)]; simp))) hbx hkn
  have lb := bN_lt i
  refine ⟨sm1 (by rw [e1]; rfl) (by rw [hb']; show 16 ≤ 1000000; decide) (by rw [e3, h.ks, late_len]; omega), ?_, h2⟩
  exact .tkey _ _ _ h2 hbx (by rw [hb', findB_mk (.inl rfl) (by omega)]; simp) (by rw [hb']; exact (isKd_mk (.inl rfl) (by omega)).2 rfl)
end
end Go.Proofs.Ytjjcnijdjhhdoaa
end
/-! What 'made' makes, as plain lists; rows of numbers among the things held. -/
section
namespace Go.Proofs.Ytjjcnijdjhhdoaa
open Go.RowKit Go.QT
def m31 (x : Int) : Nat := (bits .and .i64 x 31).toNat
theorem m31_eq (x : Int) : bits .and .i64 x 31 = (m31 x : Int) ∧ m31 x ≤ 31 := by
  obtain ⟨n, h1, h2⟩ := and_mask x 31 (by decide)
  have h1' : bits .and .i64 x 31 = (n : Int) := h1
  unfold m31
  rw [h1']
  exact ⟨by simp, by simpa using h2⟩
/-- Which one of n: from 0. -/
def kN (n : Nat) (x : Int) : Nat := m31 x % n
theorem kN_lt {n : Nat} (x : Int) (h : 0 < n) : kN n x < n := Nat.mod_lt _ h
def ofV (of : List Int) (j : Nat) : Int := if 1 ≤ of.getD j 0 ∧ of.getD j 0 ≤ (j : Int) then of.getD j 0 else 0
def ofTo (of : List Int) (i : Nat) : List Int := (List.range i).map (ofV of)
def labF (j : Nat) : ByteArray := ⟨(put8 j).toArray⟩
def keyF (of : List Int) (j : Nat) : SFrom := if ofV of j = 0 then SFrom.fresh else deriveF (mkB 107 (ofV of j).toNat) (labF j)
def keysTo' (of : List Int) (i : Nat) : List SFrom := (List.range i).map (keyF of)
def ksN (n : Nat) (l : List Int) : List Nat := l.map fun x => kN n x + 1
def bsN (j : Nat) (l : List Int) : List Int := l.filter fun x => decide (1 ≤ x ∧ x ≤ (j : Int))
def kBody (l : List Nat) : Bytes := l.flatMap (mkB 107)
def bBody (l : List Int) : Bytes := l.flatMap fun x => mkB 98 x.toNat
def boxF (n j : Nat) (z : KBox) : SSealed := ⟨mkB 107 (kN n z.by_ + 1), (j : Int), kBody (ksN n z.ks) ++ bBody (bsN j z.bs)⟩
def kbxTo (n : Nat) (bx : List KBox) (i : Nat) : List SSealed := (bx.take i).mapIdx (boxF n)
def natI (l : List Nat) : List Int := l.map fun (m : Nat) => (m : Int)
/-- What is held of a box. -/
def triF (n j : Nat) (z : KBox) : Int × List Int × List Int := (((kN n z.by_ + 1 : Nat) : Int), natI (ksN n z.ks), bsN j z.bs)
def triTo (n : Nat) (bx : List KBox) (i : Nat) : List (Int × List Int × List Int) := (bx.take i).mapIdx (triF n)
def triOf (z : KBox) : Int × List Int × List Int := (z.by_, z.ks, z.bs)
def mkTo (i : Nat) : List Bytes := (List.range i).map fun j => mkB 98 (j + 1)
section
variable {of : List Int} {i n j : Nat} {x : Int} {bx : List KBox} {z : KBox}
theorem ofTo_len : (ofTo of i).length = i := by simp [ofTo]
theorem mkTo_len : (mkTo i).length = i := by simp [mkTo]
theorem mkTo_at (h : j < i) : (mkTo i)[j]? = some (mkB 98 (j + 1)) := by simp [mkTo, h]
theorem mkTo_succ : mkTo (i + 1) = mkTo i ++ [mkB 98 (i + 1)] := by simp [mkTo, List.range_succ]
theorem ofTo_succ : ofTo of (i + 1) = ofTo of i ++ [ofV of i] := by simp [ofTo, List.range_succ]
theorem kksTo_succ : keysTo' of (i + 1) = keysTo' of i ++ [keyF of i] := by simp [keysTo', List.range_succ]
theorem kksTo_len : (keysTo' of i).length = i := by simp [keysTo']
theorem ofV_yes (h : of[i]? = some x) (h1 : 1 ≤ x) (h2 : x ≤ (i : Int)) : ofV of i = x := by
  unfold ofV
  rw [List.getD_eq_getElem?_getD, h]
  show (if 1 ≤ x ∧ x ≤ (i : Int) then x else 0) = x
  rw [if_pos ⟨h1, h2⟩]
theorem ofV_no (h : of[i]? = some x) (h1 : ¬ (1 ≤ x ∧ x ≤ (i : Int))) : ofV of i = 0 := by
  unfold ofV
  rw [List.getD_eq_getElem?_getD, h]
  show (if 1 ≤ x ∧ x ≤ (i : Int) then x else 0) = 0
  rw [if_neg h1]
theorem ofV_le (of : List Int) (j : Nat) : 0 ≤ ofV of j ∧ ofV of j ≤ (j : Int) := by
  unfold ofV; split <;> omega
theorem take_succ' (h : bx[i]? = some z) : bx.take (i + 1) = bx.take i ++ [z] := by
  rw [List.take_add_one, h]; rfl
theorem take_len (h : bx[i]? = some z) : (bx.take i).length = i := by
  have := (List.getElem?_eq_some_iff.1 h).1
  simp; omega
theorem kbxTo_succ (h : bx[i]? = some z) : kbxTo n bx (i + 1) = kbxTo n bx i ++ [boxF n i z] := by
  unfold kbxTo
  rw [take_succ' h, List.mapIdx_concat, take_len h]
theorem triTo_succ (h : bx[i]? = some z) : triTo n bx (i + 1) = triTo n bx i ++ [triF n i z] := by
  unfold triTo
  rw [take_succ' h, List.mapIdx_concat, take_len h]
theorem ksN_succ {l : List Int} {q : Nat} (h : l[q]? = some x) : ksN n (l.take (q + 1)) = ksN n (l.take q) ++ [kN n x + 1] := by
  unfold ksN
  rw [List.take_add_one, h, List.map_append]; rfl
theorem ksN_all {l : List Int} {q : Nat} (h : ¬ q < l.length) : l.take q = l := List.take_of_length_le (by omega)
theorem kBody_succ {l : List Nat} {m : Nat} : kBody (l ++ [m]) = kBody l ++ mkB 107 m := by simp [kBody]
theorem bBody_succ {l : List Int} : bBody (l ++ [x]) = bBody l ++ mkB 98 x.toNat := by simp [bBody]
theorem bsN_yes {l : List Int} {q : Nat} (h : l[q]? = some x) (h1 : 1 ≤ x) (h2 : x ≤ (j : Int)) : bsN j (l.take (q + 1)) = bsN j (l.take q) ++ [x] := by
  unfold bsN
  rw [List.take_add_one, h, List.filter_append]
  simp [h1, h2]
theorem bsN_no {l : List Int} {q : Nat} (h : l[q]? = some x) (h1 : ¬ (1 ≤ x ∧ x ≤ (j : Int))) : bsN j (l.take (q + 1)) = bsN j (l.take q) := by
  unfold bsN
  rw [List.take_add_one, h, List.filter_append]
  simp
  intro a
  exact Int.not_le.1 fun b => h1 ⟨a, b⟩
theorem kBody_len (l : List Nat) : (kBody l).length = 16 * l.length := by
  induction l with
  | nil => rfl
  | cons a l ih =>
    have : kBody (a :: l) = mkB 107 a ++ kBody l := rfl
    rw [this, List.length_append, ih, List.length_cons]
    show 16 + _ = _
    omega
theorem bBody_len (l : List Int) : (bBody l).length = 16 * l.length := by
  induction l with
  | nil => rfl
  | cons a l ih =>
    have : bBody (a :: l) = mkB 98 a.toNat ++ bBody l := rfl
    rw [this, List.length_append, ih, List.length_cons]
    show 16 + _ = _
    omega
theorem ksN_len {l : List Int} : (ksN n l).length = l.length := by simp [ksN]
theorem bsN_len {l : List Int} : (bsN j l).length ≤ l.length := List.length_filter_le _ _
/-- The keys' table. -/
structure MK (s : STab) (of : List Int) (i : Nat) : Prop where
  ks : s.keys = keysTo' of i
  bx : s.boxes = []
  kn : ∀ p ∈ s.known, ∃ j, j < i ∧ p.1.label = labF j
theorem MK.zero : MK STab.empty of 0 := ⟨rfl, rfl, by simp [STab.empty]⟩
theorem lab_inj {a b : Nat} (ha : a < 1000000) (hb : b < 1000000) (h : labF a = labF b) : a = b := by
  unfold labF at h
  injection h with h
  have h2 : put8 a = put8 b := by
    have := congrArg Array.toList h
    simpa using this
  rw [← getN_put8 a (by omega), ← getN_put8 b (by omega), h2]
theorem MK.fresh {s s' : STab} (h : MK s of i) (hx : of[i]? = some x) (hn : ¬ (1 ≤ x ∧ x ≤ (i : Int))) (hs : s' = s.add SFrom.fresh) : MK s' of (i + 1) := by
  subst hs
  refine ⟨?_, h.bx, fun p hp => ?_⟩
  · rw [kksTo_succ, ← h.ks]
    show s.keys ++ [SFrom.fresh] = _
    unfold keyF
    rw [ofV_no hx hn]; rfl
  · obtain ⟨j, hj, e⟩ := h.kn p hp
    exact ⟨j, by omega, e⟩
theorem MK.derive {s s' : STab} (h : MK s of i) (hi : i < 1000000) (hx : of[i]? = some x) (h1 : 1 ≤ x) (h2 : x ≤ (i : Int)) {k : Bytes} (hk : k = mkB 107 x.toNat) (hs : s' = s.made (deriveF k (labF i))) : MK s' of (i + 1) := by
  subst hk
  have hno : s.at_ (deriveF (mkB 107 x.toNat) (labF i)) = none := at_none fun p hp e => by
    obtain ⟨j, hj, e2⟩ := h.kn p hp
    rw [e] at e2
    have := lab_inj hi (by omega) e2
    omega
  obtain ⟨_, a2, a3, a4⟩ := made_new hno
  subst hs
  refine ⟨?_, a4.trans h.bx, fun p hp => ?_⟩
  · rw [a2, kksTo_succ, h.ks]
    unfold keyF
    rw [ofV_yes hx h1 h2, if_neg (by omega)]
  · rw [a3, List.mem_append, List.mem_singleton] at hp
    rcases hp with hp | rfl
    · obtain ⟨j, hj, e⟩ := h.kn p hp
      exact ⟨j, by omega, e⟩
    · exact ⟨i, by omega, rfl⟩
end
section
variable {F0 : Nat → Prop} {w0 w : World} {ro rs rest : List Res} {vs : List Value} {ls : List (List Int)} {ms : List Bytes} {v : Value} {l : List Int} {b : Bytes} {o : Oper} {a : Act} {A : Option Addr} {c : Nat} {F : Nat → Prop} {tb : Nat} {s : STab}
theorem OV.is {T : TypeId} {n : Nat} (h : (rOV T 1 (.slice A n c) (ivs l)).Φ w) : IS w (.slice A n c) l := by
  have h' := OV.rvn h
  rw [ivs_len] at h'
  exact ⟨A, c, by rw [h'.1], h'.2⟩
/-- One more row of numbers. -/
theorem iss_snoc {n : Nat} (hn : vs.length = ls.length) (h : Hp F0 w0 w ro (rOV 3 1 (.slice A n c) (ivs l) :: rISs vs ls :: rest)) : Hp F0 w0 w ro (rISs (vs ++ [.slice A n c]) (ls ++ [l]) :: rest) := by
  have h1 : (rOV 3 1 (.slice A n c) (ivs l)).Φ w := h.own 0 _ rfl
  have h2 : (rISs vs ls).Φ w := h.own 1 _ rfl
  have sn : ∀ (k : Nat) (u : Value) (y : List Int), (vs ++ [.slice A n c])[k]? = some u → (ls ++ [l])[k]? = some y → (vs[k]? = some u ∧ ls[k]? = some y) ∨ (u = .slice A n c ∧ y = l) := by
    intro k u y hu hy
    by_cases hk : k < vs.length
    · rw [List.getElem?_append_left hk] at hu
      rw [List.getElem?_append_left (by omega)] at hy
      exact .inl ⟨hu, hy⟩
    · rw [List.getElem?_append_right (by omega)] at hu
      rw [List.getElem?_append_right (by omega)] at hy
      have e0 : k - vs.length = 0 := by have := (List.getElem?_eq_some_iff.1 hu).1; simp at this; omega
      rw [e0] at hu
      rw [show k - ls.length = 0 by omega] at hy
      injection hu with hu; injection hy with hy
      exact .inr ⟨hu.symm, hy.symm⟩
  refine Hp.pack (ps := [rOV 3 1 (.slice A n c) (ivs l), rISs vs ls]) h (rISs _ _) (fun k u y hu hy => ?_) (fun q hq => ?_)
  · rcases sn k u y hu hy with ⟨hu, hy⟩ | ⟨rfl, rfl⟩
    · exact h2 k u y hu hy
    · exact OV.is h1
  · obtain ⟨k, u, y, hu, hy, hne, hq⟩ := hq
    rcases sn k u y hu hy with ⟨hu, hy⟩ | ⟨rfl, rfl⟩
    · exact ⟨1, _, rfl, k, u, y, hu, hy, hne, hq⟩
    · exact ⟨0, _, rfl, hq⟩
/-- One more row of bytes. -/
theorem sbs_snoc (hn : vs.length = ms.length) (h : Hp F0 w0 w ro (rSB v b :: rSBs vs ms :: rest)) : Hp F0 w0 w ro (rSBs (vs ++ [v]) (ms ++ [b]) :: rest) := by
  have h1 : SB w v b := h.own 0 _ rfl
  have h2 : (rSBs vs ms).Φ w := h.own 1 _ rfl
  have sn : ∀ (k : Nat) (u : Value) (y : Bytes), (vs ++ [v])[k]? = some u → (ms ++ [b])[k]? = some y → (vs[k]? = some u ∧ ms[k]? = some y) ∨ (u = v ∧ y = b) := by
    intro k u y hu hy
    by_cases hk : k < vs.length
    · rw [List.getElem?_append_left hk] at hu
      rw [List.getElem?_append_left (by omega)] at hy
      exact .inl ⟨hu, hy⟩
    · rw [List.getElem?_append_right (by omega)] at hu
      rw [List.getElem?_append_right (by omega)] at hy
      have e0 : k - vs.length = 0 := by have := (List.getElem?_eq_some_iff.1 hu).1; simp at this; omega
      rw [e0] at hu
      rw [show k - ms.length = 0 by omega] at hy
      injection hu with hu; injection hy with hy
      exact .inr ⟨hu.symm, hy.symm⟩
  refine Hp.pack (ps := [rSB v b, rSBs vs ms]) h (rSBs _ _) (fun k u y hu hy => ?_) (fun q hq => ?_)
  · rcases sn k u y hu hy with ⟨hu, hy⟩ | ⟨rfl, rfl⟩
    · exact h2 k u y hu hy
    · exact h1
  · obtain ⟨k, u, y, hu, hy, hne, hq⟩ := hq
    rcases sn k u y hu hy with ⟨hu, hy⟩ | ⟨rfl, rfl⟩
    · exact ⟨1, _, rfl, k, u, y, hu, hy, hne, hq⟩
    · exact ⟨0, _, rfl, hne, hq⟩
theorem Hp.nilISs (h : Hp F0 w0 w ro rs) : Hp F0 w0 w ro (rISs [] [] :: rs) :=
  h.newS (Below.refl _ _) _ (fun i v l h1 _ => by simp at h1) (fun q hq => by obtain ⟨i, v, l, h1, _⟩ := hq; simp at h1)
theorem Hp.nilSBsS (h : Hp F0 w0 w ro rs) : Hp F0 w0 w ro (rSBs [] [] :: rs) :=
  h.newS (Below.refl _ _) _ (fun i v l h1 _ => by simp at h1) (fun q hq => by obtain ⟨i, v, l, h1, _⟩ := hq; simp at h1)
/-- A row of numbers among those that are read. -/
theorem Hp.subISs (h : Hp F0 w0 w ro rs) (i : Nat) (hi : ro[i]? = some (rISs vs ls)) (k : Nat) (h1 : vs[k]? = some v) (h2 : ls[k]? = some l) : ∃ A c, v = .slice A l.length c ∧ Hp F0 w0 w (rRV 1 A c (ivs l) :: ro) rs := by
  obtain ⟨A, c, rfl, hr⟩ := h.red i _ hi k v l h1 h2
  refine ⟨A, c, rfl, h.sub i hi (rRV 1 A c (ivs l)) hr (fun q hq => ⟨k, _, l, h1, h2, fun e => hq.1 (by rw [e]; rfl), ?_⟩)⟩
  cases A with
  | none => exact absurd hq.2 (by simp [ownA])
  | some a => simpa [Value.ownBlock, ownA] using hq.2
theorem x_nthI (h : Hp F0 w0 w ro rs) (x : Int) (n : Nat) (hp : pureVal Try.prog (execOp a.eval o) = some (.enter 39 #[pt tb 0, .int .i64 x])) (hx : x = (n : Int)) (hn : n < 9223372036854775808) :
    OpTo Try.prog o a w (fun u w' => ∃ K, u = .agg (vb (kl K)).toArray ∧ kl K = mkB 107 n ∧ Hp F0 w0 w' ro rs) := by
  subst hx
  exact x_nth h n hp hn
/-- Seal, its mark among the things of one's own. -/
theorem x_sealB (h : Hp F0 w0 w ro rs) (i : Nat) (hi : rs[i]? = some (rTab F tb s)) (K : Fin 16 → UInt8) (u : Int) (l : Bytes) (bv : Value) (hp : pureVal Try.prog (execOp a.eval o) = some (.enter 31 #[pt tb 0, .agg (vb (kl K)).toArray, .int .i64 u, bv])) (hb : SB w bv l) (hl : l.length ≤ 1000000) (hn : s.boxes.length < 1000000) :
    OpTo Try.prog o a w (fun u' w' => ∃ A cc F' s', u' = .slice A 16 cc ∧ s' = s.seal (kl K) u l ∧ Hp F0 w0 w' ro (rSB (.slice A 16 cc) (mkB 98 (s.boxes.length + 1)) :: rs.set i (rTab F' tb s'))) :=
  OpTo.enter 31 [pt tb 0, .agg (vb (kl K)).toArray, .int .i64 u, bv] hp (seal_any F tb s (kl K) u l bv w (h.own i _ hi) (kl_len K) hb hl hn) fun e w' hq => by
    obtain ⟨v, F', he, hsb, hT, h1, h2, hf, hn⟩ := hq
    obtain ⟨A, cc, rfl, hc1, hc2, hcell⟩ := hsb
    have h3 := h.upd i hi hf (rTab F' tb (s.seal (kl K) u l)) hT h1
    have hil : i < rs.length := (List.getElem?_eq_some_iff.1 hi).1
    refine ⟨_, he, A, cc, F', _, by rw [mkB_len], rfl, h3.addS _ ⟨A, cc, by rw [mkB_len], by rw [mkB_len] at hc1; rw [mkB_len]; exact hc1, hc2, hcell⟩ (fun q hq => .inr (Nat.le_trans h.size (hn q hq.2).1)) (fun j t ht q hq1 hq2 => ?_) (fun j t ht q hq1 hq2 => ?_)⟩
    · by_cases e : j = i
      · subst e
        rw [List.getElem?_set_self hil] at ht
        injection ht with ht
        subst ht
        exact (hn q hq1.2).2 hq2
      · rw [List.getElem?_set_ne (Ne.symm e)] at ht
        exact absurd (t.lt (h.own j t ht) q hq2) (Nat.not_lt.2 (hn q hq1.2).1)
    · exact absurd (t.lt (h.red j t ht) q hq2) (Nat.not_lt.2 (hn q hq1.2).1)
theorem kI_succ {l : List Int} {q n : Nat} {x : Int} (h : l[q]? = some x) : ivs (natI (ksN n (l.take (q + 1)))) = ivs (natI (ksN n (l.take q))) ++ [[.int .i64 ((kN n x + 1 : Nat) : Int)]] := by
  rw [ksN_succ h]; simp [ivs, natI]
theorem kI_len {l : List Int} {q n : Nat} (h : q ≤ l.length) : (ivs (natI (ksN n (l.take q)))).length = q := by
  simp [ivs, natI, ksN]; omega
theorem kI_last {l : List Int} {q n : Nat} {x : Int} (h : l[q]? = some x) : (ivs (natI (ksN n (l.take (q + 1)))))[q]? = some [.int .i64 ((kN n x + 1 : Nat) : Int)] := by
  have hq := (List.getElem?_eq_some_iff.1 h).1
  rw [kI_succ h, List.getElem?_append_right (by rw [kI_len (by omega)]; exact Nat.le_refl _), kI_len (by omega), Nat.sub_self]; rfl
/-- A round's things are laid to those of the rounds before. -/
theorem made_join {i nb n1 c1 n2 c2 : Nat} {v : Value} {mv : List Value} {hb : List KBox} {A1 A2 : Option Addr} {k1 k2 : List Int} {by_ : Int} (hnb : nb = i) (hm : mv.length = i)
    (h : Hp F0 w0 w ro (rSB v (mkB 98 (nb + 1)) :: rSBs mv (mkTo i) :: rOV 3 1 (.slice A1 n1 c1) (ivs k1) :: rISs (hb.map (·.kv)) (hb.map (·.ks)) :: rOV 3 1 (.slice A2 n2 c2) (ivs k2) :: rISs (hb.map (·.bv)) (hb.map (·.bs)) :: rest)) :
    Hp F0 w0 w ro (rISs ((hb ++ [(⟨by_, .slice A1 n1 c1, k1, .slice A2 n2 c2, k2⟩ : KBox)]).map (·.bv)) ((hb ++ [(⟨by_, .slice A1 n1 c1, k1, .slice A2 n2 c2, k2⟩ : KBox)]).map (·.bs)) :: rISs ((hb ++ [(⟨by_, .slice A1 n1 c1, k1, .slice A2 n2 c2, k2⟩ : KBox)]).map (·.kv)) ((hb ++ [(⟨by_, .slice A1 n1 c1, k1, .slice A2 n2 c2, k2⟩ : KBox)]).map (·.ks)) :: rSBs (mv ++ [v]) (mkTo (i + 1)) :: rest) := by
  subst hnb
  have h1 := sbs_snoc (by rw [mkTo_len]; exact hm) h
  rw [← mkTo_succ] at h1
  have rot : ∀ {a b c d e : Res} {l : List Res}, Hp F0 w0 w ro (a :: b :: c :: d :: e :: l) → Hp F0 w0 w ro (b :: c :: d :: e :: a :: l) := by
    intro a b c d e l hh
    have pm : ∀ (i : Nat) (r : Res), (b :: c :: d :: e :: a :: l)[i]? = some r → ∃ j, (a :: b :: c :: d :: e :: l)[j]? = some r ∧ j = (if i < 4 then i + 1 else if i = 4 then 0 else i) := by
      intro i r hi
      match i, hi with
      | 0, hi => exact ⟨1, hi, rfl⟩
      | 1, hi => exact ⟨2, hi, rfl⟩
      | 2, hi => exact ⟨3, hi, rfl⟩
      | 3, hi => exact ⟨4, hi, rfl⟩
      | 4, hi => exact ⟨0, hi, rfl⟩
      | i+5, hi => exact ⟨i + 5, hi, by rw [if_neg (by omega), if_neg (by omega)]⟩
    refine ⟨hh.fr, fun i r hi => ?_, fun i r hi => ?_, fun i j r s hi hj hne => ?_, hh.red, fun i j r s hi hj => ?_⟩
    · obtain ⟨j, hj, _⟩ := pm i r hi; exact hh.own j r hj
    · obtain ⟨j, hj, _⟩ := pm i r hi; exact hh.mine j r hj
    · obtain ⟨i', hi', e1⟩ := pm i r hi
      obtain ⟨j', hj', e2⟩ := pm j s hj
      refine hh.dis i' j' r s hi' hj' ?_
      rw [e1, e2]
      repeat' split
      all_goals omega
    · obtain ⟨j', hj', _⟩ := pm j s hj; exact hh.rdis i j' r s hi hj'
  have h2 := rot h1
  have h3 := iss_snoc (by simp) h2
  have swap : ∀ {a b c d : Res} {l : List Res}, Hp F0 w0 w ro (a :: b :: c :: d :: l) → Hp F0 w0 w ro (b :: c :: a :: d :: l) := by
    intro a b c d l hh
    have pm : ∀ (i : Nat) (r : Res), (b :: c :: a :: d :: l)[i]? = some r → ∃ j, (a :: b :: c :: d :: l)[j]? = some r ∧ j = (if i < 2 then i + 1 else if i = 2 then 0 else i) := by
      intro i r hi
      match i, hi with
      | 0, hi => exact ⟨1, hi, rfl⟩
      | 1, hi => exact ⟨2, hi, rfl⟩
      | 2, hi => exact ⟨0, hi, rfl⟩
      | i+3, hi => exact ⟨i + 3, hi, by rw [if_neg (by omega), if_neg (by omega)]⟩
    refine ⟨hh.fr, fun i r hi => ?_, fun i r hi => ?_, fun i j r s hi hj hne => ?_, hh.red, fun i j r s hi hj => ?_⟩
    · obtain ⟨j, hj, _⟩ := pm i r hi; exact hh.own j r hj
    · obtain ⟨j, hj, _⟩ := pm i r hi; exact hh.mine j r hj
    · obtain ⟨i', hi', e1⟩ := pm i r hi
      obtain ⟨j', hj', e2⟩ := pm j s hj
      refine hh.dis i' j' r s hi' hj' ?_
      rw [e1, e2]
      repeat' split
      all_goals omega
    · obtain ⟨j', hj', _⟩ := pm j s hj; exact hh.rdis i j' r s hi hj'
  have h4 := swap h3
  have h5 := iss_snoc (by simp) h4
  simp only [List.map_append, List.map_cons, List.map_nil]
  exact h5
end
theorem post_4 {P : Program} {w : World} {a : Act} {fn : Func} {R : Ending → World → Prop} {r s t q : ResultVar} {v u x y : Value} (hf : fn.results = #[r, s, t, q]) (hd : a.defers = []) (h1 : (resOne a.tmps r).run P w = .ok v w) (h2 : (resOne a.tmps s).run P w = .ok u w) (h3 : (resOne a.tmps t).run P w = .ok x w) (h4 : (resOne a.tmps q).run P w = .ok y w)
    (hr : R (.returned (.tuple #[v, u, x, y])) w) : bodyPost P fn R .ret a w :=
  ⟨hd, _, by rw [results_eq, hf]; simp [h1, h2, h3, h4], hr⟩
end Go.Proofs.Ytjjcnijdjhhdoaa
end
/-! The walk of few. -/
section
namespace Go.Proofs.Ytjjcnijdjhhdoaa
open Go.RowKit Go.QT
def fewP (z : KIn) : Prop := 1 ≤ z.of.length ∧ z.of.length ≤ 12 ∧ z.bx.length ≤ 12 ∧ z.ls.length ≤ 12 ∧ z.ss.length ≤ 12 ∧ ∀ y ∈ z.bx, y.ks.length ≤ 6 ∧ y.bs.length ≤ 6
set_option maxRecDepth 100000 in
set_option maxHeartbeats 1000000 in
theorem few_any (A B C D : Option Addr) (a b c d : Nat) (z : KIn) (w : World) (hz : InAt w A B C D a b c d z) : Calls Try.prog 47 #[.agg #[.slice A z.of.length a, .slice B z.bx.length b, .slice C z.ls.length c, .slice D z.ss.length d]] w fun e w' => (∃ t, e = .returned (.bool t) ∧ (t = true → fewP z)) ∧ Below w.heap.size w w' := by
  have l1 := hz.of.le
  have l2 := hz.bx.le
  have l3 := hz.ls.le
  have l4 := hz.ss.le
  rw [ivs_len] at l1 l3 l4
  rw [List.length_map] at l2
  have m1 := hz.of.cap
  have m2 := hz.bx.cap
  have m3 := hz.ls.cap
  have m4 := hz.ss.cap
  unfold maxLen at m1 m2 m3 m4
  have h0 := addRB (addRB (addRB (addRB (addRB (addRB (Hp.nil (fun _ => False) w) (rRV 1 D d (ivs z.ss)) hz.ss) (rRV 1 C c (ivs z.ls)) hz.ls) (rISs (z.bx.map (·.bv)) (z.bx.map (·.bs))) hz.x) (rISs (z.bx.map (·.kv)) (z.bx.map (·.ks))) hz.k) (rRV 3 B b (z.bx.map kbCells)) hz.bx) (rRV 1 A a (ivs z.of)) hz.of
  refine enter 50 Try.func47 rfl rfl ?_
  refine wp_reset 51 [(0, (Value.agg ([(Value.slice A z.of.length a), (Value.slice B z.bx.length b), (Value.slice C z.ls.length c), (Value.slice D z.ss.length d)]).toArray))] (fun x0 => ?_)
  refine wp_seq_k ?_
  intro K1 hK1
  refine reg_lit ?_
  refine wq_to (some 1) (x_new h0 87 ([(Value.slice A z.of.length a), (Value.slice B z.bx.length b), (Value.slice C z.ls.length c), (Value.slice D z.ss.length d)]) (fun r => pt r 0) (by kernel_rfl)) ?_
  rintro _ w2 ⟨g2, rfl, h2⟩
  refine wq_p 1 [(2, (Value.bool false))] ?_
  refine wl_end rfl ?_
  refine seq_n hK1 ?_
  refine wp_seq_k ?_
  intro K3 hK3
  refine wp_seq_k ?_
  intro K4 hK4
  rcases (show (z.of.length < 1) ∨ (¬ z.of.length < 1 ∧ z.of.length > 12) ∨ (¬ z.of.length < 1 ∧ ¬ z.of.length > 12 ∧ z.bx.length > 12) ∨ (¬ z.of.length < 1 ∧ ¬ z.of.length > 12 ∧ ¬ z.bx.length > 12 ∧ z.ls.length > 12) ∨ (¬ z.of.length < 1 ∧ ¬ z.of.length > 12 ∧ ¬ z.bx.length > 12 ∧ ¬ z.ls.length > 12 ∧ z.ss.length > 12) ∨ (¬ z.of.length < 1 ∧ ¬ z.of.length > 12 ∧ ¬ z.bx.length > 12 ∧ ¬ z.ls.length > 12 ∧ ¬ z.ss.length > 12) by omega) with y | ⟨n0, y⟩ | ⟨n0, n1, y⟩ | ⟨n0, n1, n2, y⟩ | ⟨n0, n1, n2, n3, y⟩ | ⟨n0, n1, n2, n3, n4⟩
  ·
   refine reg_lit ?_
   refine wq_p 1 [(5, (pt g2 0))] ?_
   refine wq_v (some 6) (Value.slice A z.of.length a) (e_load (h2.at_ 0 rfl) 84 (.tmp 5) (by kernel_rfl) 0 (Value.slice A z.of.length a) (by kernel_rfl) (by kernel_rfl) (by kernel_rfl)) ?_
   refine wq_p 1 [(7, (Value.int .i64 ((z.of.length : Int))))] ?_
   refine wq_v (some 8) (.bool true) (eq_is (v := (Value.bool (decide ((z.of.length : Int) < 1)))) (by kernel_rfl) (by simp; omega)) ?_
   refine wq_p 4 [(12, undef), (11, undef), (10, undef), (9, (Value.bool true))] ?_
   refine wq_p 1 [(13, undef)] ?_
   refine wq_p 5 [(18, undef), (17, undef), (16, undef), (15, (Value.bool true)), (14, (Value.bool true))] ?_
   refine wq_p 1 [(19, undef)] ?_
   refine wq_p 5 [(24, undef), (23, undef), (22, undef), (21, (Value.bool true)), (20, (Value.bool true))] ?_
   refine wq_p 1 [(25, undef)] ?_
   refine wq_p 5 [(30, undef), (29, undef), (28, undef), (27, (Value.bool true)), (26, (Value.bool true))] ?_
   refine wq_p 1 [(31, undef)] ?_
   refine wq_p 1 [(32, (Value.bool true))] ?_
   refine wl_end rfl ?_
   refine seq_n hK4 ?_
   refine wp_cond_true (by kernel_rfl) ?_
   refine wp_seq_k ?_
   intro K6 hK6
   refine reg_lit ?_
   refine wq_p 1 [(2, (Value.bool false))] ?_
   refine wl_end rfl ?_
   refine seq_n hK6 ?_
   refine wp_ret ?_
   refine seq_r ?_
   refine post_1 rfl (by kernel_rfl) (rtmp (v := (Value.bool false)) (by kernel_rfl)) ?_
   exact ⟨⟨false, rfl, fun h => by cases h⟩, h2.below0⟩
  ·
   refine reg_lit ?_
   refine wq_p 1 [(5, (pt g2 0))] ?_
   refine wq_v (some 6) (Value.slice A z.of.length a) (e_load (h2.at_ 0 rfl) 84 (.tmp 5) (by kernel_rfl) 0 (Value.slice A z.of.length a) (by kernel_rfl) (by kernel_rfl) (by kernel_rfl)) ?_
   refine wq_p 1 [(7, (Value.int .i64 ((z.of.length : Int))))] ?_
   refine wq_v (some 8) (.bool false) (eq_is (v := (Value.bool (decide ((z.of.length : Int) < 1)))) (by kernel_rfl) (by simp; omega)) ?_
   refine wq_p 2 [(10, (pt g2 0)), (9, (Value.bool false))] ?_
   refine wq_v (some 11) (Value.slice A z.of.length a) (e_load (h2.at_ 0 rfl) 84 (.tmp 10) (by kernel_rfl) 0 (Value.slice A z.of.length a) (by kernel_rfl) (by kernel_rfl) (by kernel_rfl)) ?_
   refine wq_p 1 [(12, (Value.int .i64 ((z.of.length : Int))))] ?_
   refine wq_v (some 13) (.bool true) (eq_is (v := (Value.bool (decide ((z.of.length : Int) > 12)))) (by kernel_rfl) (by simp; omega)) ?_
   refine wq_p 5 [(18, undef), (17, undef), (16, undef), (15, (Value.bool true)), (14, (Value.bool true))] ?_
   refine wq_p 1 [(19, undef)] ?_
   refine wq_p 5 [(24, undef), (23, undef), (22, undef), (21, (Value.bool true)), (20, (Value.bool true))] ?_
   refine wq_p 1 [(25, undef)] ?_
   refine wq_p 5 [(30, undef), (29, undef), (28, undef), (27, (Value.bool true)), (26, (Value.bool true))] ?_
   refine wq_p 1 [(31, undef)] ?_
   refine wq_p 1 [(32, (Value.bool true))] ?_
   refine wl_end rfl ?_
   refine seq_n hK4 ?_
   refine wp_cond_true (by kernel_rfl) ?_
   refine wp_seq_k ?_
   intro K7 hK7
   refine reg_lit ?_
   refine wq_p 1 [(2, (Value.bool false))] ?_
   refine wl_end rfl ?_
   refine seq_n hK7 ?_
   refine wp_ret ?_
   refine seq_r ?_
   refine post_1 rfl (by kernel_rfl) (rtmp (v := (Value.bool false)) (by kernel_rfl)) ?_
   exact ⟨⟨false, rfl, fun h => by cases h⟩, h2.below0⟩
  ·
   refine reg_lit ?_
   refine wq_p 1 [(5, (pt g2 0))] ?_
   refine wq_v (some 6) (Value.slice A z.of.length a) (e_load (h2.at_ 0 rfl) 84 (.tmp 5) (by kernel_rfl) 0 (Value.slice A z.of.length a) (by kernel_rfl) (by kernel_rfl) (by kernel_rfl)) ?_
   refine wq_p 1 [(7, (Value.int .i64 ((z.of.length : Int))))] ?_
   refine wq_v (some 8) (.bool false) (eq_is (v := (Value.bool (decide ((z.of.length : Int) < 1)))) (by kernel_rfl) (by simp; omega)) ?_
   refine wq_p 2 [(10, (pt g2 0)), (9, (Value.bool false))] ?_
   refine wq_v (some 11) (Value.slice A z.of.length a) (e_load (h2.at_ 0 rfl) 84 (.tmp 10) (by kernel_rfl) 0 (Value.slice A z.of.length a) (by kernel_rfl) (by kernel_rfl) (by kernel_rfl)) ?_
   refine wq_p 1 [(12, (Value.int .i64 ((z.of.length : Int))))] ?_
   refine wq_v (some 13) (.bool false) (eq_is (v := (Value.bool (decide ((z.of.length : Int) > 12)))) (by kernel_rfl) (by simp; omega)) ?_
   refine wq_p 3 [(16, (pt g2 1)), (15, (Value.bool false)), (14, (Value.bool false))] ?_
   refine wq_v (some 17) (Value.slice B z.bx.length b) (e_load (h2.at_ 0 rfl) 85 (.tmp 16) (by kernel_rfl) 1 (Value.slice B z.bx.length b) (by kernel_rfl) (by kernel_rfl) (by kernel_rfl)) ?_
   refine wq_p 1 [(18, (Value.int .i64 ((z.bx.length : Int))))] ?_
   refine wq_v (some 19) (.bool true) (eq_is (v := (Value.bool (decide ((z.bx.length : Int) > 12)))) (by kernel_rfl) (by simp; omega)) ?_
   refine wq_p 5 [(24, undef), (23, undef), (22, undef), (21, (Value.bool true)), (20, (Value.bool true))] ?_
   refine wq_p 1 [(25, undef)] ?_
   refine wq_p 5 [(30, undef), (29, undef), (28, undef), (27, (Value.bool true)), (26, (Value.bool true))] ?_
   refine wq_p 1 [(31, undef)] ?_
   refine wq_p 1 [(32, (Value.bool true))] ?_
   refine wl_end rfl ?_
   refine seq_n hK4 ?_
   refine wp_cond_true (by kernel_rfl) ?_
   refine wp_seq_k ?_
   intro K8 hK8
   refine reg_lit ?_
   refine wq_p 1 [(2, (Value.bool false))] ?_
   refine wl_end rfl ?_
   refine seq_n hK8 ?_
   refine wp_ret ?_
   refine seq_r ?_
   refine post_1 rfl (by kernel_rfl) (rtmp (v := (Value.bool false)) (by kernel_rfl)) ?_
   exact ⟨⟨false, rfl, fun h => by cases h⟩, h2.below0⟩
  ·
   refine reg_lit ?_
   refine wq_p 1 [(5, (pt g2 0))] ?_
   refine wq_v (some 6) (Value.slice A z.of.length a) (e_load (h2.at_ 0 rfl) 84 (.tmp 5) (by kernel_rfl) 0 (Value.slice A z.of.length a) (by kernel_rfl) (by kernel_rfl) (by kernel_rfl)) ?_
   refine wq_p 1 [(7, (Value.int .i64 ((z.of.length : Int))))] ?_
   refine wq_v (some 8) (.bool false) (eq_is (v := (Value.bool (decide ((z.of.length : Int) < 1)))) (by kernel_rfl) (by simp; omega)) ?_
   refine wq_p 2 [(10, (pt g2 0)), (9, (Value.bool false))] ?_
   refine wq_v (some 11) (Value.slice A z.of.length a) (e_load (h2.at_ 0 rfl) 84 (.tmp 10) (by kernel_rfl) 0 (Value.slice A z.of.length a) (by kernel_rfl) (by kernel_rfl) (by kernel_rfl)) ?_
   refine wq_p 1 [(12, (Value.int .i64 ((z.of.length : Int))))] ?_
   refine wq_v (some 13) (.bool false) (eq_is (v := (Value.bool (decide ((z.of.length : Int) > 12)))) (by kernel_rfl) (by simp; omega)) ?_
   refine wq_p 3 [(16, (pt g2 1)), (15, (Value.bool false)), (14, (Value.bool false))] ?_
   refine wq_v (some 17) (Value.slice B z.bx.length b) (e_load (h2.at_ 0 rfl) 85 (.tmp 16) (by kernel_rfl) 1 (Value.slice B z.bx.length b) (by kernel_rfl) (by kernel_rfl) (by kernel_rfl)) ?_
   refine wq_p 1 [(18, (Value.int .i64 ((z.bx.length : Int))))] ?_
   refine wq_v (some 19) (.bool false) (eq_is (v := (Value.bool (decide ((z.bx.length : Int) > 12)))) (by kernel_rfl) (by simp; omega)) ?_
   refine wq_p 3 [(22, (pt g2 2)), (21, (Value.bool false)), (20, (Value.bool false))] ?_
   refine wq_v (some 23) (Value.slice C z.ls.length c) (e_load (h2.at_ 0 rfl) 84 (.tmp 22) (by kernel_rfl) 2 (Value.slice C z.ls.length c) (by kernel_rfl) (by kernel_rfl) (by kernel_rfl)) ?_
   refine wq_p 1 [(24, (Value.int .i64 ((z.ls.length : Int))))] ?_
   refine wq_v (some 25) (.bool true) (eq_is (v := (Value.bool (decide ((z.ls.length : Int) > 12)))) (by kernel_rfl) (by simp; omega)) ?_
   refine wq_p 5 [(30, undef), (29, undef), (28, undef), (27, (Value.bool true)), (26, (Value.bool true))] ?_
   refine wq_p 1 [(31, undef)] ?_
   refine wq_p 1 [(32, (Value.bool true))] ?_
   refine wl_end rfl ?_
   refine seq_n hK4 ?_
   refine wp_cond_true (by kernel_rfl) ?_
   refine wp_seq_k ?_
   intro K9 hK9
   refine reg_lit ?_
   refine wq_p 1 [(2, (Value.bool false))] ?_
   refine wl_end rfl ?_
   refine seq_n hK9 ?_
   refine wp_ret ?_
   refine seq_r ?_
   refine post_1 rfl (by kernel_rfl) (rtmp (v := (Value.bool false)) (by kernel_rfl)) ?_
   exact ⟨⟨false, rfl, fun h => by cases h⟩, h2.below0⟩
  ·
   refine reg_lit ?_
   refine wq_p 1 [(5, (pt g2 0))] ?_
   refine wq_v (some 6) (Value.slice A z.of.length a) (e_load (h2.at_ 0 rfl) 84 (.tmp 5) (by kernel_rfl) 0 (Value.slice A z.of.length a) (by kernel_rfl) (by kernel_rfl) (by kernel_rfl)) ?_
   refine wq_p 1 [(7, (Value.int .i64 ((z.of.length : Int))))] ?_
   refine wq_v (some 8) (.bool false) (eq_is (v := (Value.bool (decide ((z.of.length : Int) < 1)))) (by kernel_rfl) (by simp; omega)) ?_
   refine wq_p 2 [(10, (pt g2 0)), (9, (Value.bool false))] ?_
   refine wq_v (some 11) (Value.slice A z.of.length a) (e_load (h2.at_ 0 rfl) 84 (.tmp 10) (by kernel_rfl) 0 (Value.slice A z.of.length a) (by kernel_rfl) (by kernel_rfl) (by kernel_rfl)) ?_
   refine wq_p 1 [(12, (Value.int .i64 ((z.of.length : Int))))] ?_
   refine wq_v (some 13) (.bool false) (eq_is (v := (Value.bool (decide ((z.of.length : Int) > 12)))) (by kernel_rfl) (by simp; omega)) ?_
   refine wq_p 3 [(16, (pt g2 1)), (15, (Value.bool false)), (14, (Value.bool false))] ?_
   refine wq_v (some 17) (Value.slice B z.bx.length b) (e_load (h2.at_ 0 rfl) 85 (.tmp 16) (by kernel_rfl) 1 (Value.slice B z.bx.length b) (by kernel_rfl) (by kernel_rfl) (by kernel_rfl)) ?_
   refine wq_p 1 [(18, (Value.int .i64 ((z.bx.length : Int))))] ?_
   refine wq_v (some 19) (.bool false) (eq_is (v := (Value.bool (decide ((z.bx.length : Int) > 12)))) (by kernel_rfl) (by simp; omega)) ?_
   refine wq_p 3 [(22, (pt g2 2)), (21, (Value.bool false)), (20, (Value.bool false))] ?_
   refine wq_v (some 23) (Value.slice C z.ls.length c) (e_load (h2.at_ 0 rfl) 84 (.tmp 22) (by kernel_rfl) 2 (Value.slice C z.ls.length c) (by kernel_rfl) (by kernel_rfl) (by kernel_rfl)) ?_
   refine wq_p 1 [(24, (Value.int .i64 ((z.ls.length : Int))))] ?_
   refine wq_v (some 25) (.bool false) (eq_is (v := (Value.bool (decide ((z.ls.length : Int) > 12)))) (by kernel_rfl) (by simp; omega)) ?_
   refine wq_p 3 [(28, (pt g2 3)), (27, (Value.bool false)), (26, (Value.bool false))] ?_
   refine wq_v (some 29) (Value.slice D z.ss.length d) (e_load (h2.at_ 0 rfl) 84 (.tmp 28) (by kernel_rfl) 3 (Value.slice D z.ss.length d) (by kernel_rfl) (by kernel_rfl) (by kernel_rfl)) ?_
   refine wq_p 1 [(30, (Value.int .i64 ((z.ss.length : Int))))] ?_
   refine wq_v (some 31) (.bool true) (eq_is (v := (Value.bool (decide ((z.ss.length : Int) > 12)))) (by kernel_rfl) (by simp; omega)) ?_
   refine wq_p 1 [(32, (Value.bool true))] ?_
   refine wl_end rfl ?_
   refine seq_n hK4 ?_
   refine wp_cond_true (by kernel_rfl) ?_
   refine wp_seq_k ?_
   intro K10 hK10
   refine reg_lit ?_
   refine wq_p 1 [(2, (Value.bool false))] ?_
   refine wl_end rfl ?_
   refine seq_n hK10 ?_
   refine wp_ret ?_
   refine seq_r ?_
   refine post_1 rfl (by kernel_rfl) (rtmp (v := (Value.bool false)) (by kernel_rfl)) ?_
   exact ⟨⟨false, rfl, fun h => by cases h⟩, h2.below0⟩
  ·
   refine reg_lit ?_
   refine wq_p 1 [(5, (pt g2 0))] ?_
   refine wq_v (some 6) (Value.slice A z.of.length a) (e_load (h2.at_ 0 rfl) 84 (.tmp 5) (by kernel_rfl) 0 (Value.slice A z.of.length a) (by kernel_rfl) (by kernel_rfl) (by kernel_rfl)) ?_
   refine wq_p 1 [(7, (Value.int .i64 ((z.of.length : Int))))] ?_
   refine wq_v (some 8) (.bool false) (eq_is (v := (Value.bool (decide ((z.of.length : Int) < 1)))) (by kernel_rfl) (by simp; omega)) ?_
   refine wq_p 2 [(10, (pt g2 0)), (9, (Value.bool false))] ?_
   refine wq_v (some 11) (Value.slice A z.of.length a) (e_load (h2.at_ 0 rfl) 84 (.tmp 10) (by kernel_rfl) 0 (Value.slice A z.of.length a) (by kernel_rfl) (by kernel_rfl) (by kernel_rfl)) ?_
   refine wq_p 1 [(12, (Value.int .i64 ((z.of.length : Int))))] ?_
   refine wq_v (some 13) (.bool false) (eq_is (v := (Value.bool (decide ((z.of.length : Int) > 12)))) (by kernel_rfl) (by simp; omega)) ?_
   refine wq_p 3 [(16, (pt g2 1)), (15, (Value.bool false)), (14, (Value.bool false))] ?_
   refine wq_v (some 17) (Value.slice B z.bx.length b) (e_load (h2.at_ 0 rfl) 85 (.tmp 16) (by kernel_rfl) 1 (Value.slice B z.bx.length b) (by kernel_rfl) (by kernel_rfl) (by kernel_rfl)) ?_
   refine wq_p 1 [(18, (Value.int .i64 ((z.bx.length : Int))))] ?_
   refine wq_v (some 19) (.bool false) (eq_is (v := (Value.bool (decide ((z.bx.length : Int) > 12)))) (by kernel_rfl) (by simp; omega)) ?_
   refine wq_p 3 [(22, (pt g2 2)), (21, (Value.bool false)), (20, (Value.bool false))] ?_
   refine wq_v (some 23) (Value.slice C z.ls.length c) (e_load (h2.at_ 0 rfl) 84 (.tmp 22) (by kernel_rfl) 2 (Value.slice C z.ls.length c) (by kernel_rfl) (by kernel_rfl) (by kernel_rfl)) ?_
   refine wq_p 1 [(24, (Value.int .i64 ((z.ls.length : Int))))] ?_
   refine wq_v (some 25) (.bool false) (eq_is (v := (Value.bool (decide ((z.ls.length : Int) > 12)))) (by kernel_rfl) (by simp; omega)) ?_
   refine wq_p 3 [(28, (pt g2 3)), (27, (Value.bool false)), (26, (Value.bool false))] ?_
   refine wq_v (some 29) (Value.slice D z.ss.length d) (e_load (h2.at_ 0 rfl) 84 (.tmp 28) (by kernel_rfl) 3 (Value.slice D z.ss.length d) (by kernel_rfl) (by kernel_rfl) (by kernel_rfl)) ?_
   refine wq_p 1 [(30, (Value.int .i64 ((z.ss.length : Int))))] ?_
   refine wq_v (some 31) (.bool false) (eq_is (v := (Value.bool (decide ((z.ss.length : Int) > 12)))) (by kernel_rfl) (by simp; omega)) ?_
   refine wq_p 1 [(32, (Value.bool false))] ?_
   refine wl_end rfl ?_
   refine seq_n hK4 ?_
   refine wp_cond_false (by kernel_rfl) ?_
   refine wp_skip ?_
   refine seq_n hK3 ?_
   refine wp_seq_k ?_
   intro K11 hK11
   refine wp_seq_k ?_
   intro K12 hK12
   refine reg_lit ?_
   refine wq_p 1 [(33, (pt g2 1))] ?_
   refine wq_v (some 34) (Value.slice B z.bx.length b) (e_load (h2.at_ 0 rfl) 85 (.tmp 33) (by kernel_rfl) 1 (Value.slice B z.bx.length b) (by kernel_rfl) (by kernel_rfl) (by kernel_rfl)) ?_
   refine wq_p 2 [(36, (Value.int .i64 0)), (35, (Value.int .i64 ((z.bx.length : Int))))] ?_
   refine wl_end rfl ?_
   refine seq_n hK12 ?_
   refine wp_block ?_
   refine wp_loopm (fun mM xX aA wL => ∃ (i : Nat), (i ≤ z.bx.length) ∧ (∀ j, j < i → ∀ y, z.bx[j]? = some y → y.ks.length ≤ 6 ∧ y.bs.length ≤ 6) ∧ mM = z.bx.length - (i) ∧ aA = patch xX 51 [(0, (Value.agg ([(Value.slice A z.of.length a), (Value.slice B z.bx.length b), (Value.slice C z.ls.length c), (Value.slice D z.ss.length d)]).toArray)), (1, (pt g2 0)), (32, (Value.bool false)), (34, (Value.slice B z.bx.length b)), (35, (Value.int .i64 ((z.bx.length : Int)))), (36, (Value.int .i64 ((i : Int))))] ∧ Hp (fun _ => False) w wL [rRV 1 A a (ivs z.of), rRV 3 B b (z.bx.map kbCells), rISs (z.bx.map (·.kv)) (z.bx.map (·.ks)), rISs (z.bx.map (·.bv)) (z.bx.map (·.bs)), rRV 1 C c (ivs z.ls), rRV 1 D d (ivs z.ss)] [rBlk g2 87 ([(Value.slice A z.of.length a), (Value.slice B z.bx.length b), (Value.slice C z.ls.length c), (Value.slice D z.ss.length d)])]) ⟨_, 0, (by omega), (fun j hj => absurd hj (by omega)), rfl, (patch_eq _ 51 _ (by kernel_rfl) (by kernel_rfl) (by kernel_rfl)), h2.sel [0] [0, 1, 2, 3, 4, 5] (by kernel_rfl) rfl rfl⟩ ?_
   rintro _ x13 _ w13 ⟨i, hi, hF, rfl, rfl, h13⟩
   refine wp_seq_k ?_
   intro K14 hK14
   refine reg_lit ?_
   refine wq_p 1 [(37, (Value.bool (decide ((i : Int) < (z.bx.length : Int)))))] ?_
   refine wl_end rfl ?_
   refine seq_n hK14 ?_
   refine wp_seq_k ?_
   intro K15 hK15
   refine wp_if ((i : Int) < (z.bx.length : Int)) (by kernel_rfl) (fun b16 => ?_) (fun b16 => ?_)
   ·
    refine wp_skip ?_
    refine seq_n hK15 ?_
    refine wp_seq_k ?_
    intro K17 hK17
    refine wp_block ?_
    refine wp_seq_k ?_
    intro K18 hK18
    obtain ⟨zb, kv, zk, xv, zx, hzz⟩ : ∃ zb kv zk xv zx, z.bx[i]? = some ⟨zb, kv, zk, xv, zx⟩ := ⟨_, _, _, _, _, List.getElem?_eq_getElem (by omega)⟩
    obtain ⟨KA, kc, rfl, hk19⟩ := h13.subISs 2 rfl i (v := kv) (l := zk) (by rw [List.getElem?_map, hzz]; rfl) (by rw [List.getElem?_map, hzz]; rfl)
    obtain ⟨XA, xc, rfl, hx19⟩ := hk19.subISs 4 rfl i (v := xv) (l := zx) (by rw [List.getElem?_map, hzz]; rfl) (by rw [List.getElem?_map, hzz]; rfl)
    have lk := (hk19.rd 0 rfl : RV _ 1 KA kc (ivs zk)).le
    have lx := (hx19.rd 0 rfl : RV _ 1 XA xc (ivs zx)).le
    rw [ivs_len] at lk lx
    have mk := (hk19.rd 0 rfl : RV _ 1 KA kc (ivs zk)).cap
    have mx := (hx19.rd 0 rfl : RV _ 1 XA xc (ivs zx)).cap
    unfold maxLen at mk mx
    
    refine reg_lit ?_
    refine wq_v (some 38) (eAt B (i * 3 + 0)) (e_idxN (RV.lenIs (n := z.bx.length) (hx19.rd 3 rfl) (by simp)).2 i z.bx.length (RV.lenIs (n := z.bx.length) (hx19.rd 3 rfl) (by simp)).1 (by omega) 85 (.tmp 34) (.tmp 36) (by kernel_rfl) .i64 (by kernel_rfl) (by kernel_rfl) 131 (by kernel_rfl) (by kernel_rfl) _) ?_
    refine wq_v (some 39) (Value.agg ([(Value.int .i64 zb), (Value.slice KA zk.length kc), (Value.slice XA zx.length xc)]).toArray) (e_elemsN (RV.lenIs (n := z.bx.length) (hx19.rd 3 rfl) (by simp)).2 i 0 ([(Value.int .i64 zb), (Value.slice KA zk.length kc), (Value.slice XA zx.length xc)]) (by rw [List.getElem?_map, hzz]; rfl) 131 (.tmp 38) (by kernel_rfl) ([(Value.int .i64 zb), (Value.slice KA zk.length kc), (Value.slice XA zx.length xc)]) (by kernel_rfl) (by kernel_rfl) (by kernel_rfl)) ?_
    refine wq_to (some 4) (x_new hx19 131 ([(Value.int .i64 0), (Value.slice none 0 0), (Value.slice none 0 0)]) (fun r => pt r 0) (by kernel_rfl)) ?_
    rintro _ w20 ⟨g20, rfl, h20⟩
    refine wq_to none (x_stores h20 0 rfl 131 (.tmp 4) (.tmp 39) (by kernel_rfl) 0 ([(Value.int .i64 zb), (Value.slice KA zk.length kc), (Value.slice XA zx.length xc)]) ([(Value.int .i64 zb), (Value.slice KA zk.length kc), (Value.slice XA zx.length xc)]) (by kernel_rfl) (by kernel_rfl) (by kernel_rfl) (by kernel_rfl) (by kernel_rfl) (by kernel_rfl)) ?_
    rintro _ w21 h21
    refine wl_end rfl ?_
    refine seq_n hK18 ?_
    refine wp_seq_k ?_
    intro K22 hK22
    rcases (show zk.length > 6 ∨ (¬ zk.length > 6 ∧ zx.length > 6) ∨ (¬ zk.length > 6 ∧ ¬ zx.length > 6) by omega) with y | ⟨n0, y⟩ | ⟨n0, n1⟩
    ·
     refine reg_lit ?_
     refine wq_p 1 [(40, (pt g20 1))] ?_
     refine wq_v (some 41) (Value.slice KA zk.length kc) (e_load (h21.at_ 0 rfl) 84 (.tmp 40) (by kernel_rfl) 1 (Value.slice KA zk.length kc) (by kernel_rfl) (by kernel_rfl) (by kernel_rfl)) ?_
     refine wq_p 1 [(42, (Value.int .i64 ((zk.length : Int))))] ?_
     refine wq_v (some 43) (.bool true) (eq_is (v := (Value.bool (decide ((zk.length : Int) > 6)))) (by kernel_rfl) (by simp; omega)) ?_
     refine wq_p 4 [(47, undef), (46, undef), (45, undef), (44, (Value.bool true))] ?_
     refine wq_p 1 [(48, undef)] ?_
     refine wq_p 1 [(49, (Value.bool true))] ?_
     refine wl_end rfl ?_
     refine seq_n hK22 ?_
     refine wp_cond_true (by kernel_rfl) ?_
     refine wp_seq_k ?_
     intro K24 hK24
     refine reg_lit ?_
     refine wq_p 1 [(2, (Value.bool false))] ?_
     refine wl_end rfl ?_
     refine seq_n hK24 ?_
     refine wp_ret ?_
     refine blk_r ?_
     refine seq_r ?_
     refine seq_r ?_
     refine blk_r ?_
     refine seq_r ?_
     refine post_1 rfl (by kernel_rfl) (rtmp (v := (Value.bool false)) (by kernel_rfl)) ?_
     exact ⟨⟨false, rfl, fun h => by cases h⟩, h21.below0⟩
    ·
     refine reg_lit ?_
     refine wq_p 1 [(40, (pt g20 1))] ?_
     refine wq_v (some 41) (Value.slice KA zk.length kc) (e_load (h21.at_ 0 rfl) 84 (.tmp 40) (by kernel_rfl) 1 (Value.slice KA zk.length kc) (by kernel_rfl) (by kernel_rfl) (by kernel_rfl)) ?_
     refine wq_p 1 [(42, (Value.int .i64 ((zk.length : Int))))] ?_
     refine wq_v (some 43) (.bool false) (eq_is (v := (Value.bool (decide ((zk.length : Int) > 6)))) (by kernel_rfl) (by simp; omega)) ?_
     refine wq_p 2 [(45, (pt g20 2)), (44, (Value.bool false))] ?_
     refine wq_v (some 46) (Value.slice XA zx.length xc) (e_load (h21.at_ 0 rfl) 84 (.tmp 45) (by kernel_rfl) 2 (Value.slice XA zx.length xc) (by kernel_rfl) (by kernel_rfl) (by kernel_rfl)) ?_
     refine wq_p 1 [(47, (Value.int .i64 ((zx.length : Int))))] ?_
     refine wq_v (some 48) (.bool true) (eq_is (v := (Value.bool (decide ((zx.length : Int) > 6)))) (by kernel_rfl) (by simp; omega)) ?_
     refine wq_p 1 [(49, (Value.bool true))] ?_
     refine wl_end rfl ?_
     refine seq_n hK22 ?_
     refine wp_cond_true (by kernel_rfl) ?_
     refine wp_seq_k ?_
     intro K25 hK25
     refine reg_lit ?_
     refine wq_p 1 [(2, (Value.bool false))] ?_
     refine wl_end rfl ?_
     refine seq_n hK25 ?_
     refine wp_ret ?_
     refine blk_r ?_
     refine seq_r ?_
     refine seq_r ?_
     refine blk_r ?_
     refine seq_r ?_
     refine post_1 rfl (by kernel_rfl) (rtmp (v := (Value.bool false)) (by kernel_rfl)) ?_
     exact ⟨⟨false, rfl, fun h => by cases h⟩, h21.below0⟩
    ·
     refine reg_lit ?_
     refine wq_p 1 [(40, (pt g20 1))] ?_
     refine wq_v (some 41) (Value.slice KA zk.length kc) (e_load (h21.at_ 0 rfl) 84 (.tmp 40) (by kernel_rfl) 1 (Value.slice KA zk.length kc) (by kernel_rfl) (by kernel_rfl) (by kernel_rfl)) ?_
     refine wq_p 1 [(42, (Value.int .i64 ((zk.length : Int))))] ?_
     refine wq_v (some 43) (.bool false) (eq_is (v := (Value.bool (decide ((zk.length : Int) > 6)))) (by kernel_rfl) (by simp; omega)) ?_
     refine wq_p 2 [(45, (pt g20 2)), (44, (Value.bool false))] ?_
     refine wq_v (some 46) (Value.slice XA zx.length xc) (e_load (h21.at_ 0 rfl) 84 (.tmp 45) (by kernel_rfl) 2 (Value.slice XA zx.length xc) (by kernel_rfl) (by kernel_rfl) (by kernel_rfl)) ?_
     refine wq_p 1 [(47, (Value.int .i64 ((zx.length : Int))))] ?_
     refine wq_v (some 48) (.bool false) (eq_is (v := (Value.bool (decide ((zx.length : Int) > 6)))) (by kernel_rfl) (by simp; omega)) ?_
     refine wq_p 1 [(49, (Value.bool false))] ?_
     refine wl_end rfl ?_
     refine seq_n hK22 ?_
     refine wp_cond_false (by kernel_rfl) ?_
     refine wp_skip ?_
     refine blk_n ?_
     refine seq_n hK17 ?_
     have hle6 : zk.length ≤ 6 ∧ zx.length ≤ 6 := ⟨by omega, by omega⟩
     refine reg_lit ?_
     refine wq_v (some 50) (Value.int .i64 ((i : Int) + 1)) (exec_add _ _ _ _ rfl ((i : Int)) 1 (by kernel_rfl) (by kernel_rfl) ((i : Int) + 1) rfl (by omega) (by omega) _) ?_
     refine wq_p 1 [(36, (Value.int .i64 ((i : Int) + 1)))] ?_
     refine wl_end rfl ?_
     refine ⟨z.bx.length - (i + 1), (by omega), (i + 1), (by omega), (lt_snoc hF (fun y hy => by rw [hzz] at hy; injection hy with hy; subst hy; exact hle6)), rfl, (patch_eq _ 51 _ (by kernel_rfl) (by kernel_rfl) (by kernel_rfl)), h21.sel [1] [2, 3, 4, 5, 6, 7] (by kernel_rfl) rfl rfl⟩
   ·
    refine wp_exit ?_
    refine seq_e ?_
    refine seq_e ?_
    refine blk_e ?_
    refine seq_n hK11 ?_
    refine wp_seq_k ?_
    intro K26 hK26
    refine reg_lit ?_
    refine wq_p 1 [(2, (Value.bool true))] ?_
    refine wl_end rfl ?_
    refine seq_n hK26 ?_
    refine wp_ret ?_
    refine post_1 rfl (by kernel_rfl) (rtmp (v := (Value.bool true)) (by kernel_rfl)) ?_
    exact ⟨⟨true, rfl, fun _ => ⟨by omega, by omega, by omega, by omega, by omega, fun y hy => by obtain ⟨j, hj, rfl⟩ := List.getElem_of_mem hy; exact hF j (by omega) _ (List.getElem?_eq_getElem hj)⟩⟩, h13.below0⟩
end Go.Proofs.Ytjjcnijdjhhdoaa
end
