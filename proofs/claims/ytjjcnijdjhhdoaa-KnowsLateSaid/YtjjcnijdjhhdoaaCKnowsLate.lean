/- The row of KnowsLate: for every input the law returns true and what came in reads as it did. (Texts laid one behind the other: KLateL, KLate, KnowsLate.) -/
import Derived.ChangeMaps5
import Derived.Test.YtjjcnijdjhhdoaaCA10
/-! Plain law of KnowsLate. -/
section
namespace Go.Proofs.Ytjjcnijdjhhdoaa
open Go.RowKit Go.QT
def aN : Nat → Nat
  | 0 => 1
  | i+1 => 3 * i + 3
def bN : Nat → Nat
  | 0 => 2
  | i+1 => 3 * i + 4
theorem aN_ne_bN (i j : Nat) : aN i ≠ bN j := by
  cases i <;> cases j <;> simp only [aN, bN] <;> omega
theorem aN_lt (i : Nat) : aN i ≤ 3 * i + 1 ∧ 1 ≤ aN i := by cases i <;> simp only [aN] <;> omega
theorem bN_lt (i : Nat) : bN i ≤ 3 * i + 2 ∧ 1 ≤ bN i := by cases i <;> simp only [bN] <;> omega
theorem aN_inj {i j : Nat} (h : aN i = aN j) : i = j := by cases i <;> cases j <;> simp only [aN] at h <;> omega
theorem bN_inj {i j : Nat} (h : bN i = bN j) : i = j := by cases i <;> cases j <;> simp only [bN] at h <;> omega
theorem fN_ne (i j : Nat) : 3 * i + 5 ≠ aN j := by cases j <;> simp only [aN] <;> omega
def lateKeys (l : ByteArray) : Nat → List SFrom
  | 0 => [SFrom.fresh, SFrom.fresh]
  | i+1 => lateKeys l i ++ [deriveF (mkB 107 (aN i)) l, deriveF (mkB 107 (bN i)) l, SFrom.fresh]
theorem late_len (l : ByteArray) (i : Nat) : (lateKeys l i).length = 3 * i + 2 := by
  induction i with
  | zero => rfl
  | succ i ih => simp only [lateKeys, List.length_append, ih, List.length_cons, List.length_nil]; omega
theorem late_at (l : ByteArray) : ∀ (i n : Nat) (f : SFrom), (lateKeys l i)[n]? = some f → f = SFrom.fresh ∨ ∃ j, j < i ∧ ((n = 3 * j + 2 ∧ f = deriveF (mkB 107 (aN j)) l) ∨ (n = 3 * j + 3 ∧ f = deriveF (mkB 107 (bN j)) l))
  | 0, n, f, h => by
    left
    match n, h with
    | 0, h => injection h with h; exact h.symm
    | 1, h => injection h with h; exact h.symm
    | n+2, h => simp [lateKeys] at h
  | i+1, n, f, h => by
    unfold lateKeys at h
    by_cases hn : n < 3 * i + 2
    · rw [List.getElem?_append_left (by rw [late_len]; exact hn)] at h
      rcases late_at l i n f h with h | ⟨j, hj, h⟩
      · exact .inl h
      · exact .inr ⟨j, by omega, h⟩
    · rw [List.getElem?_append_right (by rw [late_len]; omega), late_len] at h
      match hk : n - (3 * i + 2), h with
      | 0, h => injection h with h; exact .inr ⟨i, by omega, .inl ⟨by omega, h.symm⟩⟩
      | 1, h => injection h with h; exact .inr ⟨i, by omega, .inr ⟨by omega, h.symm⟩⟩
      | 2, h => injection h with h; exact .inl h.symm
      | k+3, h => simp at h
theorem late_a (l : ByteArray) : ∀ (i j : Nat), j < i → (lateKeys l i)[3 * j + 2]? = some (deriveF (mkB 107 (aN j)) l)
  | 0, j, h => by omega
  | i+1, j, h => by
    unfold lateKeys
    by_cases hj : j < i
    · rw [List.getElem?_append_left (by rw [late_len]; omega)]
      exact late_a l i j hj
    · have : j = i := by omega
      subst this
      rw [List.getElem?_append_right (by rw [late_len]; omega), late_len, Nat.sub_self]; rfl
structure LInv (s : STab) (l : ByteArray) (i : Nat) : Prop where
  bx : s.boxes = []
  ks : s.keys = lateKeys l i
  kn : ∀ p ∈ s.known, ∃ j, j < i ∧ (p.1 = deriveF (mkB 107 (aN j)) l ∨ p.1 = deriveF (mkB 107 (bN j)) l)
theorem LInv.zero {s1 s2 : STab} {l : ByteArray} (h1 : s1 = STab.empty.add SFrom.fresh) (h2 : s2 = s1.add SFrom.fresh) : LInv s2 l 0 := by
  subst h1; subst h2
  exact ⟨rfl, rfl, by simp [STab.empty, STab.add]⟩
theorem at_none {s : STab} {f : SFrom} (h : ∀ p ∈ s.known, p.1 ≠ f) : s.at_ f = none := by
  unfold STab.at_
  rw [Option.map_eq_none_iff, List.find?_eq_none]
  intro p hp
  simpa using h p hp
section
variable {s s1 s2 s3 : STab} {l : ByteArray} {i n : Nat} {Lk Lb : List Bytes}
theorem mk_ne {m n : Nat} (hm : m < 1000000) (hn : n < 1000000) (h : m ≠ n) (l : ByteArray) : deriveF (mkB 107 m) l ≠ deriveF (mkB 107 n) l := fun e => by
  rw [derive_inj] at e
  exact h (mkB_inj (by omega) (by omega) e.1)
theorem made_new {f : SFrom} (h : s.at_ f = none) : s.num f = s.keys.length + 1 ∧ (s.made f).keys = s.keys ++ [f] ∧ (s.made f).known = s.known ++ [(f, s.keys.length + 1)] ∧ (s.made f).boxes = s.boxes := by
  unfold STab.num STab.made
  rw [h]
  exact ⟨rfl, rfl, rfl, rfl⟩
structure LNext (s s1 s2 s3 : STab) (l : ByteArray) (i : Nat) (ka kb : Bytes) : Prop where
  inv : LInv s3 l (i + 1)
  na : s.num (deriveF ka l) = aN (i + 1)
  nb : s1.num (deriveF kb l) = bN (i + 1)
  nf : s2.keys.length + 1 = 3 * i + 5
theorem LInv.step (h : LInv s l i) (hi : i < 100) {ka kb : Bytes} (ha : ka = mkB 107 (aN i)) (hb : kb = mkB 107 (bN i)) (h1 : s1 = s.made (deriveF ka l)) (h2 : s2 = s1.made (deriveF kb l)) (h3 : s3 = s2.add SFrom.fresh) : LNext s s1 s2 s3 l i ka kb := by
  subst ha; subst hb
  have la := aN_lt i
  have lb := bN_lt i
  have n1 : s.at_ (deriveF (mkB 107 (aN i)) l) = none := at_none fun p hp e => by
    obtain ⟨j, hj, h | h⟩ := h.kn p hp
    · rw [h] at e
      have := aN_lt j
      exact mk_ne (by omega) (by omega) (fun e => by have := aN_inj e; omega) l e
    · rw [h] at e
      have := bN_lt j
      exact mk_ne (by omega) (by omega) (fun e => aN_ne_bN i j e.symm) l e
  obtain ⟨a1, a2, a3, a4⟩ := made_new n1
  have n2 : s1.at_ (deriveF (mkB 107 (bN i)) l) = none := at_none fun p hp e => by
    rw [h1, a3, List.mem_append, List.mem_singleton] at hp
    rcases hp with hp | rfl
    · obtain ⟨j, hj, h | h⟩ := h.kn p hp
      · rw [h] at e
        have := aN_lt j
        exact mk_ne (by omega) (by omega) (aN_ne_bN j i) l e
      · rw [h] at e
        have := bN_lt j
        exact mk_ne (by omega) (by omega) (fun e => by have := bN_inj e; omega) l e
    · exact mk_ne (by omega) (by omega) (aN_ne_bN i i) l e
  obtain ⟨b1, b2, b3, b4⟩ := made_new n2
  have hl := late_len l i
  have k1 : s1.keys.length = 3 * i + 3 := by rw [h1, a2, List.length_append, h.ks, hl]; rfl
  have k2 : s2.keys.length = 3 * i + 4 := by rw [h2, b2, List.length_append, k1]; rfl
  refine ⟨⟨?_, ?_, ?_⟩, ?_, ?_, ?_⟩
  · rw [h3]; show s2.boxes = []
    rw [h2, b4, h1, a4, h.bx]
  · rw [h3]; show s2.keys ++ [SFrom.fresh] = _
    rw [h2, b2, h1, a2, h.ks]
    simp [lateKeys]
  · intro p hp
    rw [h3] at hp
    have hp : p ∈ s2.known := hp
    rw [h2, b3, h1, a3, List.mem_append, List.mem_append, List.mem_singleton, List.mem_singleton] at hp
    rcases hp with (hp | rfl) | rfl
    · obtain ⟨j, hj, h⟩ := h.kn p hp
      exact ⟨j, by omega, h⟩
    · exact ⟨i, by omega, .inl rfl⟩
    · exact ⟨i, by omega, .inr rfl⟩
  · rw [a1, h.ks, hl]; rfl
  · rw [b1, k1]; simp only [bN]
  · rw [k2]
theorem zK_ne (n : Nat) : mkB 107 n ≠ zKey := fun h => by
  have := congrArg List.head? h
  simp [mkB, zKey] at this
theorem LInv.known (h : LInv s l i) (hi : i < 100) (hk : Lk = [mkB 107 1]) (hb : Lb = []) : ∀ k, Kn s (fun k => k ∈ Lk) (fun k => k ∈ Lb) 0 k ↔ ∃ j, j ≤ i ∧ k = mkB 107 (aN j) := by
  subst hk; subst hb
  intro k
  constructor
  · intro hk
    have all : ∀ c k, Kn s (fun k => k ∈ [mkB 107 1]) (fun k => k ∈ ([] : List Bytes)) c k → c = 0 ∧ ∃ j, j ≤ i ∧ k = mkB 107 (aN j) := by
      intro c k hk
      induction hk with
      | key k hk => exact ⟨rfl, 0, by omega, by simpa [aN] using hk⟩
      | box k hk => simp at hk
      | opens k sl _ _ _ ih => cases ih.1
      | tkey k x sl _ _ _ _ ih => cases ih.1
      | tbox k x sl _ _ _ _ ih => cases ih.1
      | late n f h1 h2 _ ih =>
        refine ⟨rfl, ?_⟩
        rw [h.ks] at h1
        obtain ⟨_, j, hj, he⟩ := ih
        rcases late_at l i n f h1 with rfl | ⟨m, hm, ⟨rfl, rfl⟩ | ⟨rfl, rfl⟩⟩
        · exact absurd rfl h2
        · exact ⟨m + 1, by omega, rfl⟩
        · exfalso
          have e : mkB 107 (bN m) = mkB 107 (aN j) := he
          have a1 := aN_lt j; have b1 := bN_lt m
          exact aN_ne_bN j m (mkB_inj (by omega) (by omega) e.symm)
    exact (all 0 k hk).2
  · rintro ⟨j, hj, rfl⟩
    have key : ∀ j, j ≤ i → Kn s (fun k => k ∈ [mkB 107 1]) (fun k => k ∈ ([] : List Bytes)) 0 (mkB 107 (aN j)) := by
      intro j
      induction j with
      | zero => intro _; exact .key _ (by simp [aN])
      | succ j ih =>
        intro hj
        exact .late (3 * j + 2) _ (by rw [h.ks]; exact late_a l i j (by omega)) (zK_ne _) (ih (by omega))
    exact key j hj
theorem LInv.yes (h : LInv s l i) (hi : i < 100) (hk : Lk = [mkB 107 1]) (hb : Lb = []) {k : Bytes} (he : k = mkB 107 (aN i)) : Kn s (fun k => k ∈ Lk) (fun k => k ∈ Lb) 0 k ↔ true = true :=
  true_iff_ ((h.known hi hk hb k).2 ⟨i, Nat.le_refl _, he⟩)
theorem LInv.no (h : LInv s l i) (hi : i < 100) (hk : Lk = [mkB 107 1]) (hb : Lb = []) {k : Bytes} (he : k = mkB 107 n) (hn : n < 1000000) (hne : ∀ j, n ≠ aN j) : Kn s (fun k => k ∈ Lk) (fun k => k ∈ Lb) 0 k ↔ false = true :=
  false_iff_ fun hK => by
    obtain ⟨j, hj, e⟩ := (h.known hi hk hb k).1 hK
    have := aN_lt j
    rw [he] at e
    exact hne j (mkB_inj (by omega) (by omega) e)
theorem LInv.sm (h : LInv s l i) (hi : i < 100) : Sm s := sm0 h.bx (by rw [h.ks, late_len]; omega)
/-- The box at the end. -/
theorem LInv.fin (h : LInv s l i) (hi : i < 100) (hk : Lk = [mkB 107 1]) (hb : Lb = []) {ka kb : Bytes} (ha : ka = mkB 107 (aN i)) (hb' : kb = mkB 107 (bN i)) {s' : STab} (hs : s' = s.seal ka 1 kb) :
    Sm s' ∧ Kn s' (fun k => k ∈ Lk ++ marksIn 107 (mkB 98 (s.boxes.length + 1))) (fun k => k ∈ Lb ++ marksIn 98 (mkB 98 (s.boxes.length + 1))) 0 kb ∧ Kn s' (fun k => k ∈ Lk ++ marksIn 107 (mkB 98 (s.boxes.length + 1))) (fun k => k ∈ Lb ++ marksIn 98 (mkB 98 (s.boxes.length + 1))) 2 (mkB 98 (s.boxes.length + 1)) := by
  have hl : s.boxes.length = 0 := by rw [h.bx]; rfl
  obtain ⟨e1, _, e3, _⟩ := seal_all hs
  rw [h.bx] at e1
  have hbx : s'.box (mkB 98 (s.boxes.length + 1)) = some ⟨ka, 1, kb⟩ := by
    rw [hl]; exact box_at (by rw [e1]; rfl) (by decide)
  have hkn : Kn s' (fun k => k ∈ Lk ++ marksIn 107 (mkB 98 (s.boxes.length + 1))) (fun k => k ∈ Lb ++ marksIn 98 (mkB 98 (s.boxes.length + 1))) 0 ka :=
    ((h.known hi hk hb ka).2 ⟨i, Nat.le_refl _, ha⟩).mono (fun k sl hc => by
      exfalso
      obtain ⟨j, hj, _⟩ := box_at_ hc
      omega) (fun n f hf => by rw [e3]; exact hf) (fun k hk => .key k (List.mem_append_left _ hk)) (fun k hk => .box k (List.mem_append_left _ hk))
  have h2 : Kn s' (fun k => k ∈ Lk ++ marksIn 107 (mkB 98 (s.boxes.length + 1))) (fun k => k ∈ Lb ++ marksIn 98 (mkB 98 (s.boxes.length + 1))) 2 (mkB 98 (s.boxes.length + 1)) :=
    .opens _ ⟨ka, 1, kb⟩ (.box _ (List.mem_append_right _ (by rw [marksIn_same (.inr (.inl rfl)) (by omega)]; simp))) hbx hkn
  have lb := bN_lt i
  refine ⟨sm1 (by rw [e1]; rfl) (by rw [hb']; show 16 ≤ 1000000; decide) (by rw [e3, h.ks, late_len]; omega), ?_, h2⟩
  exact .tkey _ _ _ h2 hbx (by rw [hb', findB_mk (.inl rfl) (by omega)]; simp) (by rw [hb']; exact (isKd_mk (.inl rfl) (by omega)).2 rfl)
end
end Go.Proofs.Ytjjcnijdjhhdoaa
end
/-! The walk of KnowsLate: true. -/
section
namespace Go.Proofs.Ytjjcnijdjhhdoaa
open Go.RowKit Go.QT
set_option maxRecDepth 100000 in
set_option maxHeartbeats 1000000 in
theorem knowsLate_any (l : ByteArray) (t : Int) (w : World) : Calls Try.prog 13 #[Value.string l, Value.int .i64 t] w fun e w' => e = .returned (.bool true) ∧ Below w.heap.size w w' := by
  have h0 := Hp.nil (fun _ => False) w
  refine enter 83 Try.func13 rfl rfl ?_
  refine wp_reset 85 [(0, (Value.string l)), (1, (Value.int .i64 t))] (fun x0 => ?_)
  refine wp_seq_k ?_
  intro K1 hK1
  refine reg_lit ?_
  refine wq_p 1 [(4, (Value.bool false))] ?_
  refine wl_end rfl ?_
  refine seq_n hK1 ?_
  refine wp_seq_k ?_
  intro K2 hK2
  refine wp_seq_k ?_
  intro K3 hK3
  refine reg_lit ?_
  refine wq_to (some 13) (OpTo.enter 46 [] (by kernel_rfl) (kalive_any _) (R := fun u w' => u = Value.bool true ∧ Below w.heap.size w w') (fun e w' hq => ⟨_, hq.1, rfl, hq.2⟩)) ?_
  rintro _ w4 ⟨rfl, hb4⟩
  have h4 := h0.below hb4
  refine wq_p 1 [(14, (Value.bool false))] ?_
  refine wl_end rfl ?_
  refine seq_n hK3 ?_
  refine wp_cond_false (by kernel_rfl) ?_
  refine wp_skip ?_
  refine seq_n hK2 ?_
  refine wp_seq_k ?_
  intro K5 hK5
  refine wp_seq_k ?_
  intro K6 hK6
  refine reg_lit ?_
  refine wq_p 2 [(16, (Value.int .i64 (((l).size : Int)))), (15, (Value.string l))] ?_
  by_cases b7 : (l.size : Int) > 40
  ·
   refine wq_v (some 17) (.bool true) (eq_is (v := (Value.bool (decide (((l).size : Int) > 40)))) (by kernel_rfl) (by simp [b7])) ?_
   refine wl_end rfl ?_
   refine seq_n hK6 ?_
   refine wp_cond_true (by kernel_rfl) ?_
   refine wp_seq_k ?_
   intro K8 hK8
   refine reg_lit ?_
   refine wq_p 1 [(4, (Value.bool true))] ?_
   refine wl_end rfl ?_
   refine seq_n hK8 ?_
   refine wp_ret ?_
   refine seq_r ?_
   refine post_1 rfl (by kernel_rfl) (rtmp (v := (Value.bool true)) (by kernel_rfl)) ?_
   exact ⟨rfl, h4.below0⟩
  ·
   refine wq_v (some 17) (.bool false) (eq_is (v := (Value.bool (decide (((l).size : Int) > 40)))) (by kernel_rfl) (by simp [b7])) ?_
   refine wl_end rfl ?_
   refine seq_n hK6 ?_
   refine wp_cond_false (by kernel_rfl) ?_
   refine wp_skip ?_
   refine seq_n hK5 ?_
   refine wp_seq_k ?_
   intro K9 hK9
   refine reg_lit ?_
   refine wq_to (some 18) (x_snew h4 (by kernel_rfl)) ?_
   rintro _ w10 ⟨tb10, F10, rfl, h10⟩
   refine wq_p 1 [(5, (pt tb10 0))] ?_
   refine wl_end rfl ?_
   refine seq_n hK9 ?_
   refine wp_seq_k ?_
   intro K11 hK11
   refine reg_lit ?_
   refine wq_p 1 [(19, (pt tb10 0))] ?_
   refine wq_to (some 20) (x_fresh h10 0 rfl  (by kernel_rfl) (by decide)) ?_
   rintro _ w12 ⟨K12, F12, s12, rfl, hK12, hs12, h12⟩
   have hf1 : kl K12 = mkB 107 1 := hK12
   refine wq_p 1 [(21, (pt tb10 0))] ?_
   refine wq_to (some 22) (x_fresh h12 0 rfl  (by kernel_rfl) (by rw [hs12]; decide)) ?_
   rintro _ w13 ⟨K13, F13, s13, rfl, hK13, hs13, h13⟩
   have hI0 := LInv.zero (l := l) hs12 hs13
   have hf2 : kl K13 = mkB 107 2 := by rw [hK13, hs12]; rfl
   refine wq_to (some 6) (x_new h13 42 (vb (List.replicate 16 0)) (fun r => pt r 0) (by kernel_rfl)) ?_
   rintro _ w14 ⟨g14, rfl, h14⟩
   refine wq_to (some 7) (x_new h14 42 (vb (List.replicate 16 0)) (fun r => pt r 0) (by kernel_rfl)) ?_
   rintro _ w15 ⟨g15, rfl, h15⟩
   refine wq_to none (x_stores h15 1 rfl 42 (.tmp 6) (.tmp 20) (by kernel_rfl) 0 (vb (kl K12)) (vb (kl K12)) (by kernel_rfl) (by kernel_rfl) (by kernel_rfl) (by kernel_rfl) (by kernel_rfl) (by kernel_rfl)) ?_
   rintro _ w16 h16
   refine wq_to none (x_stores h16 0 rfl 42 (.tmp 7) (.tmp 22) (by kernel_rfl) 0 (vb (kl K13)) (vb (kl K13)) (by kernel_rfl) (by kernel_rfl) (by kernel_rfl) (by kernel_rfl) (by kernel_rfl) (by kernel_rfl)) ?_
   rintro _ w17 h17
   refine wl_end rfl ?_
   refine seq_n hK11 ?_
   refine wp_seq_k ?_
   intro K18 hK18
   refine wp_reset 85 [(0, (Value.string l)), (1, (Value.int .i64 t)), (4, (Value.bool false)), (5, (pt tb10 0)), (6, (pt g14 0)), (7, (pt g15 0)), (14, (Value.bool false)), (17, (Value.bool false))] (fun x19 => ?_)
   refine reg_lit ?_
   refine wq_p 1 [(23, (pt tb10 0))] ?_
   refine wq_to (some 24) (x_knew (tb := tb10) h17 (by kernel_rfl)) ?_
   rintro _ w20 ⟨m20, p20, F20, rfl, hp20, h20⟩
   refine wq_p 1 [(8, (pt m20 0))] ?_
   refine wl_end rfl ?_
   refine seq_n hK18 ?_
   refine wp_seq_k ?_
   intro K21 hK21
   refine reg_lit ?_
   refine wq_p 1 [(25, (pt m20 0))] ?_
   refine wq_v (some 26) (Value.agg (vb (kl K12)).toArray) (e_loads (h20.at_ 2 rfl) 42 (.tmp 6) (by kernel_rfl) 0 (vb (kl K12)) (by kernel_rfl) (by kernel_rfl) (by kernel_rfl)) ?_
   refine wq_to (some 27) (x_learn h20 0 3 rfl rfl (by kernel_rfl) hp20 K12 (by kernel_rfl) WS.emptyl (by decide) (hI0.sm (by decide))) ?_
   rintro _ w22 ⟨F22, S22, rfl, hM22, h22⟩
   refine wl_end rfl ?_
   refine seq_n hK21 ?_
   refine wp_seq_k ?_
   intro K23 hK23
   refine pR_go h22 5 (fun W => (rBlk g14 42 (vb (kl K12))).Φ W ∧ (rBlk g15 42 (vb (kl K13))).Φ W ∧ True) [(29, [6], 0), (30, [7], 0), (10, [], 0), (11, [], 0), (0, [9, 28], 13), (0, [10, 29], 31)] rfl (fun _ d _ _ _ h => by cases d <;> exact h) ?_
   intro hs24 w24 h24
   refine pR_v 0 (some 28) (Value.agg (vb (kl K12)).toArray) 1 rfl hs24 ⟨h24.at_ 2 rfl, h24.at_ 1 rfl, trivial⟩ (fun W hW => e_loads hW.1 42 (.tmp 6) (by kernel_rfl) 0 (vb (kl K12)) (by kernel_rfl) (by kernel_rfl) (by kernel_rfl)) ?_
   refine pR_v 1 (some 29) (Value.agg (vb (kl K13)).toArray) 3 rfl hs24 ⟨h24.at_ 2 rfl, h24.at_ 1 rfl, trivial⟩ (fun W hW => e_loads hW.2.1 42 (.tmp 7) (by kernel_rfl) 0 (vb (kl K13)) (by kernel_rfl) (by kernel_rfl) (by kernel_rfl)) ?_
   refine pR_or 2 3 hs24 ?_ ?_
   ·
    refine pR_op 2 (some 9) 7 rfl (x_new h24 42 (vb (List.replicate 16 0)) (fun r => pt r 0) (by kernel_rfl)) ?_
    rintro _ w25 ⟨g25, rfl, h25⟩
    refine ⟨fun _ => ⟨h25.at_ 3 rfl, h25.at_ 2 rfl, trivial⟩, ?_⟩
    refine pR_to 3 (some 10) 15 rfl hs24 (x_new h25 42 (vb (List.replicate 16 0)) (fun r => pt r 0) (by kernel_rfl)) ?_
    rintro _ w26 ⟨g26, rfl, h26⟩
    refine ⟨fun _ => ⟨h26.at_ 4 rfl, h26.at_ 3 rfl, trivial⟩, ?_⟩
    refine pR_to 4 none 31 rfl hs24 (x_stores h26 1 rfl 42 (.tmp 9) (.tmp 28) (by kernel_rfl) 0 (vb (kl K12)) (vb (kl K12)) (by kernel_rfl) (by kernel_rfl) (by kernel_rfl) (by kernel_rfl) (by kernel_rfl) (by kernel_rfl)) ?_
    rintro _ w27 h27
    refine ⟨fun _ => ⟨h27.at_ 4 rfl, h27.at_ 3 rfl, trivial⟩, ?_⟩
    refine pR_to 5 none 63 rfl hs24 (x_stores h27 0 rfl 42 (.tmp 10) (.tmp 29) (by kernel_rfl) 0 (vb (kl K13)) (vb (kl K13)) (by kernel_rfl) (by kernel_rfl) (by kernel_rfl) (by kernel_rfl) (by kernel_rfl) (by kernel_rfl)) ?_
    rintro _ w28 h28
    refine ⟨fun h => absurd h (by decide), ?_⟩
    refine pR_done hs24 ?_ _
    refine seq_n hK23 ?_
    refine wp_seq_k ?_
    intro K29 hK29
    refine wp_seq_k ?_
    intro K30 hK30
    refine reg_lit ?_
    refine wq_p 1 [(30, (Value.int .i64 t))] ?_
    obtain ⟨M31, hM31, hb31⟩ := and_mask t 15 (by decide)
    refine wq_v (some 31) (Value.int .i64 ((M31 : Int))) (eq_is (v := Value.int .i64 (bits .and .i64 t 15)) (by kernel_rfl) (congrArg (Value.int .i64) hM31)) ?_
    refine wq_p 1 [(32, (Value.int .i64 0))] ?_
    refine wl_end rfl ?_
    refine seq_n hK30 ?_
    refine wp_block ?_
    have hLk : ([] ++ [kl K12] : List Bytes) = [mkB 107 1] := by rw [hf1]; rfl
    refine wp_loopm (fun mM xX aA wL => ∃ (i : Nat) (Ka : Fin 16 → UInt8) (Kb : Fin 16 → UInt8) (S1 : KM) (F1 : Nat → Prop) (s : STab) (F2 : Nat → Prop), (LInv s l (i)) ∧ (kl Ka = mkB 107 (aN (i))) ∧ (kl Kb = mkB 107 (bN (i))) ∧ (WSl s ([] ++ [kl K12]) [] 0 S1) ∧ (i ≤ M31) ∧ mM = M31 - (i) ∧ aA = patch xX 85 [(0, (Value.string l)), (1, (Value.int .i64 t)), (5, (pt tb10 0)), (6, (pt g14 0)), (7, (pt g15 0)), (8, (pt m20 0)), (9, (pt g25 0)), (10, (pt g26 0)), (14, (Value.bool false)), (17, (Value.bool false)), (31, (Value.int .i64 ((M31 : Int)))), (32, (Value.int .i64 ((i : Int))))] ∧ Hp (fun _ => False) w wL [] [rMind F1 none m20 p20 S1, rBlk g25 42 (vb (kl Ka)), rBlk g26 42 (vb (kl Kb)), rTab F2 tb10 s]) ⟨_, 0, K12, K13, S22, F22, s13, F13, hI0, hf1, hf2, hM22.toWS, (by omega), rfl, (patch_eq _ 85 _ (by kernel_rfl) (by kernel_rfl) (by kernel_rfl)), h28.sel [2, 1, 0, 5] [] (by kernel_rfl) rfl rfl⟩ ?_
    rintro _ x32 _ w32 ⟨i, Ka, Kb, S1, F1, s, F2, hI, hka, hkb, hW, hiM, rfl, rfl, h32⟩
    have hkl : s.keys.length = 3 * i + 2 := by rw [hI.ks, late_len]
    have hbl : s.boxes.length = 0 := by rw [hI.bx]; rfl
    refine wp_seq_k ?_
    intro K33 hK33
    refine reg_lit ?_
    refine wq_p 1 [(33, (Value.bool (decide ((i : Int) < (M31 : Int)))))] ?_
    refine wl_end rfl ?_
    refine seq_n hK33 ?_
    refine wp_seq_k ?_
    intro K34 hK34
    refine wp_if ((i : Int) < (M31 : Int)) (by kernel_rfl) (fun b35 => ?_) (fun b35 => ?_)
    ·
     refine wp_skip ?_
     refine seq_n hK34 ?_
     refine wp_seq_k ?_
     intro K36 hK36
     refine wp_block ?_
     refine wp_seq_k ?_
     intro K37 hK37
     refine pR_go h32 10 (fun W => True) [(35, [5], 0), (36, [9], 0), (37, [0], 0), (38, [34, 35, 36], 7), (39, [5], 0), (40, [10], 0), (41, [0], 0), (42, [38, 39, 40], 120), (0, [9, 37], 175), (0, [10, 41], 511)] rfl (fun _ d _ _ _ h => by cases d <;> exact h) ?_
     intro hs38 w38 h38
     refine pR_p 6 [0, 2, 4, 6] [(40, (Value.string l)), (38, (pt tb10 0)), (36, (Value.string l)), (34, (pt tb10 0))] 85 hs38 trivial ?_
     refine pR_or 1 5 hs38 ?_ ?_
     ·
      refine pR_op 1 (some 35) 87 rfl (OpTo.run (Value.agg (vb (kl Ka)).toArray) (e_loads (h38.at_ 1 rfl) 42 (.tmp 9) (by kernel_rfl) 0 (vb (kl Ka)) (by kernel_rfl) (by kernel_rfl) (by kernel_rfl)) (R := fun v w => v = (Value.agg (vb (kl Ka)).toArray) ∧ w38 = w) ⟨rfl, rfl⟩) ?_
      rintro _ _ ⟨rfl, rfl⟩
      refine ⟨fun _ => trivial, ?_⟩
      refine pR_or 3 5 hs38 ?_ ?_
      ·
       refine pR_op 3 (some 37) 95 rfl (x_derive h38 3 rfl Ka l (by kernel_rfl) (by omega)) ?_
       rintro _ w39 ⟨K39, F39, s39, rfl, hK39, hs39, h39⟩
       refine ⟨fun _ => trivial, ?_⟩
       have hW39_m20 := WS.gmade (K0 := fun k => k ∈ ([] ++ [kl K12] : List Bytes)) (B0 := fun k => k ∈ ([] : List Bytes)) (hW) hs39
       have hkl39 := keys_made hs39
       refine pR_to 5 (some 39) 127 rfl hs38 (OpTo.run (Value.agg (vb (kl Kb)).toArray) (e_loads (h39.at_ 2 rfl) 42 (.tmp 10) (by kernel_rfl) 0 (vb (kl Kb)) (by kernel_rfl) (by kernel_rfl) (by kernel_rfl)) (R := fun v w => v = (Value.agg (vb (kl Kb)).toArray) ∧ w39 = w) ⟨rfl, rfl⟩) ?_
       rintro _ _ ⟨rfl, rfl⟩
       refine ⟨fun _ => trivial, ?_⟩
       refine pR_to 7 (some 41) 255 rfl hs38 (x_derive h39 3 rfl Kb l (by kernel_rfl) (by omega)) ?_
       rintro _ w40 ⟨K40, F40, s40, rfl, hK40, hs40, h40⟩
       refine ⟨fun _ => trivial, ?_⟩
       have hW40_m20 := WS.gmade (K0 := fun k => k ∈ ([] ++ [kl K12] : List Bytes)) (B0 := fun k => k ∈ ([] : List Bytes)) (hW39_m20) hs40
       have hkl40 := keys_made hs40
       refine pR_to 8 none 511 rfl hs38 (x_stores h40 1 rfl 42 (.tmp 9) (.tmp 37) (by kernel_rfl) 0 (vb (kl K39)) (vb (kl K39)) (by kernel_rfl) (by kernel_rfl) (by kernel_rfl) (by kernel_rfl) (by kernel_rfl) (by kernel_rfl)) ?_
       rintro _ w41 h41
       refine ⟨fun _ => trivial, ?_⟩
       refine pR_to 9 none 1023 rfl hs38 (x_stores h41 2 rfl 42 (.tmp 10) (.tmp 41) (by kernel_rfl) 0 (vb (kl K40)) (vb (kl K40)) (by kernel_rfl) (by kernel_rfl) (by kernel_rfl) (by kernel_rfl) (by kernel_rfl) (by kernel_rfl)) ?_
       rintro _ w42 h42
       refine ⟨fun _ => trivial, ?_⟩
       refine pR_done hs38 ?_ _
       refine seq_n hK37 ?_
       refine wp_seq_k ?_
       intro K43 hK43
       refine reg_lit ?_
       refine wq_p 1 [(42, (pt tb10 0))] ?_
       refine wq_to (some 43) (x_fresh h42 3 rfl  (by kernel_rfl) (by omega)) ?_
       rintro _ w44 ⟨K44, F44, s44, rfl, hK44, hs44, h44⟩
       have hW44_m20 := WS.gadd (K0 := fun k => k ∈ ([] ++ [kl K12] : List Bytes)) (B0 := fun k => k ∈ ([] : List Bytes)) (hW40_m20) hs44
       have hX := hI.step (by omega) hka hkb hs39 hs40 hs44
       have hA1 : kl K39 = mkB 107 (aN (i + 1)) := by rw [hK39, hX.na]
       have hB1 : kl K40 = mkB 107 (bN (i + 1)) := by rw [hK40, hX.nb]
       have hF1 : kl K44 = mkB 107 (3 * i + 5) := by rw [hK44, hX.nf]
       have la1 := aN_lt (i + 1)
       have lb1 := bN_lt (i + 1)
       have hsm := hX.inv.sm (by omega)
       refine wq_to (some 11) (x_new h44 42 (vb (List.replicate 16 0)) (fun r => pt r 0) (by kernel_rfl)) ?_
       rintro _ w45 ⟨g45, rfl, h45⟩
       refine wq_to none (x_stores h45 0 rfl 42 (.tmp 11) (.tmp 43) (by kernel_rfl) 0 (vb (kl K44)) (vb (kl K44)) (by kernel_rfl) (by kernel_rfl) (by kernel_rfl) (by kernel_rfl) (by kernel_rfl) (by kernel_rfl)) ?_
       rintro _ w46 h46
       refine wl_end rfl ?_
       refine seq_n hK43 ?_
       refine wp_seq_k ?_
       intro K47 hK47
       refine reg_lit ?_
       refine wq_p 1 [(44, (pt m20 0))] ?_
       refine wq_v (some 45) (Value.agg (vb (kl K39)).toArray) (e_loads (h46.at_ 2 rfl) 42 (.tmp 9) (by kernel_rfl) 0 (vb (kl K39)) (by kernel_rfl) (by kernel_rfl) (by kernel_rfl)) ?_
       refine wq_to (some 46) (mdec true (decK true (hX.inv.yes (by omega) hLk rfl hA1)) (x_kkey h46 1 4 rfl rfl (by kernel_rfl) hp20 K39 (by kernel_rfl) hW44_m20 (by decide) hsm)) ?_
       rintro _ w48 ⟨F48, S48, rfl, hM48, h48⟩
       refine wq_p 3 [(49, (pt m20 0)), (48, (Value.bool false)), (47, (Value.bool false))] ?_
       refine wq_v (some 50) (Value.agg (vb (kl K40)).toArray) (e_loads (h48.at_ 3 rfl) 42 (.tmp 10) (by kernel_rfl) 0 (vb (kl K40)) (by kernel_rfl) (by kernel_rfl) (by kernel_rfl)) ?_
       refine wq_to (some 51) (mdec false (decK false (hX.inv.no (by omega) hLk rfl hB1 (by omega) (fun j => (aN_ne_bN j (i + 1)).symm))) (x_kkey h48 1 4 rfl rfl (by kernel_rfl) hp20 K40 (by kernel_rfl) hM48.toWS (by decide) hsm)) ?_
       rintro _ w49 ⟨F49, S49, rfl, hM49, h49⟩
       refine wq_p 3 [(54, (pt m20 0)), (53, (Value.bool false)), (52, (Value.bool false))] ?_
       refine wq_v (some 55) (Value.agg (vb (kl K44)).toArray) (e_loads (h49.at_ 0 rfl) 42 (.tmp 11) (by kernel_rfl) 0 (vb (kl K44)) (by kernel_rfl) (by kernel_rfl) (by kernel_rfl)) ?_
       refine wq_to (some 56) (mdec false (decK false (hX.inv.no (by omega) hLk rfl hF1 (by omega) (fun j => fN_ne i j))) (x_kkey h49 1 4 rfl rfl (by kernel_rfl) hp20 K44 (by kernel_rfl) hM49.toWS (by decide) hsm)) ?_
       rintro _ w50 ⟨F50, S50, rfl, hM50, h50⟩
       refine wq_p 4 [(60, (Value.slice (some ⟨g25, 0, none⟩) 16 16)), (59, (pt m20 0)), (58, (Value.bool false)), (57, (Value.bool false))] ?_
       refine wq_to (some 61) (mdec true (decFk true (n := aN (i + 1)) (by omega) hA1 (hX.inv.yes (by omega) hLk rfl hA1)) (x_fits h50 1 4 rfl rfl (by kernel_rfl) hp20 (by kernel_rfl) (h50.apartB 1 4 2 rfl rfl rfl (by kernel_rfl) (by kernel_rfl)) hM50.toWS (by decide) hsm (by rw [kl_len]; decide))) ?_
       rintro _ w51 ⟨F51, S51, rfl, hM51, h51⟩
       refine wq_p 5 [(66, (Value.slice (some ⟨g26, 0, none⟩) 16 16)), (65, (pt m20 0)), (64, (Value.bool false)), (63, (Value.bool false)), (62, (Value.bool false))] ?_
       refine wq_to (some 67) (mdec false (decFk false (n := bN (i + 1)) (by omega) hB1 (hX.inv.no (by omega) hLk rfl hB1 (by omega) (fun j => (aN_ne_bN j (i + 1)).symm))) (x_fits h51 1 4 rfl rfl (by kernel_rfl) hp20 (by kernel_rfl) (h51.apartB 1 4 3 rfl rfl rfl (by kernel_rfl) (by kernel_rfl)) hM51.toWS (by decide) hsm (by rw [kl_len]; decide))) ?_
       rintro _ w52 ⟨F52, S52, rfl, hM52, h52⟩
       refine wq_p 1 [(68, (Value.bool false))] ?_
       refine wl_end rfl ?_
       refine seq_n hK47 ?_
       refine wp_cond_false (by kernel_rfl) ?_
       refine wp_skip ?_
       refine blk_n ?_
       refine seq_n hK36 ?_
       refine reg_lit ?_
       refine wq_v (some 69) (Value.int .i64 ((i : Int) + 1)) (exec_add _ _ _ _ rfl ((i : Int)) 1 (by kernel_rfl) (by kernel_rfl) ((i : Int) + 1) rfl (by omega) (by omega) _) ?_
       refine wq_p 1 [(32, (Value.int .i64 ((i : Int) + 1)))] ?_
       refine wl_end rfl ?_
       refine ⟨M31 - (i + 1), (by omega), (i + 1), K39, K40, S52, F52, s44, F44, hX.inv, hA1, hB1, hM52.toWS, (by omega), rfl, (patch_eq _ 85 _ (by kernel_rfl) (by kernel_rfl) (by kernel_rfl)), h52.sel [1, 2, 3, 4] [] (by kernel_rfl) rfl rfl⟩
      ·
       refine pR_op 5 (some 39) 119 rfl (OpTo.run (Value.agg (vb (kl Kb)).toArray) (e_loads (h38.at_ 2 rfl) 42 (.tmp 10) (by kernel_rfl) 0 (vb (kl Kb)) (by kernel_rfl) (by kernel_rfl) (by kernel_rfl)) (R := fun v w => v = (Value.agg (vb (kl Kb)).toArray) ∧ w38 = w) ⟨rfl, rfl⟩) ?_
       rintro _ _ ⟨rfl, rfl⟩
       refine ⟨fun _ => trivial, ?_⟩
       refine pR_to 3 (some 37) 127 rfl hs38 (x_derive h38 3 rfl Ka l (by kernel_rfl) (by omega)) ?_
       rintro _ w53 ⟨K53, F53, s53, rfl, hK53, hs53, h53⟩
       refine ⟨fun _ => trivial, ?_⟩
       have hW53_m20 := WS.gmade (K0 := fun k => k ∈ ([] ++ [kl K12] : List Bytes)) (B0 := fun k => k ∈ ([] : List Bytes)) (hW) hs53
       have hkl53 := keys_made hs53
       refine pR_to 7 (some 41) 255 rfl hs38 (x_derive h53 3 rfl Kb l (by kernel_rfl) (by omega)) ?_
       rintro _ w54 ⟨K54, F54, s54, rfl, hK54, hs54, h54⟩
       refine ⟨fun _ => trivial, ?_⟩
       have hW54_m20 := WS.gmade (K0 := fun k => k ∈ ([] ++ [kl K12] : List Bytes)) (B0 := fun k => k ∈ ([] : List Bytes)) (hW53_m20) hs54
       have hkl54 := keys_made hs54
       refine pR_to 8 none 511 rfl hs38 (x_stores h54 1 rfl 42 (.tmp 9) (.tmp 37) (by kernel_rfl) 0 (vb (kl K53)) (vb (kl K53)) (by kernel_rfl) (by kernel_rfl) (by kernel_rfl) (by kernel_rfl) (by kernel_rfl) (by kernel_rfl)) ?_
       rintro _ w55 h55
       refine ⟨fun _ => trivial, ?_⟩
       refine pR_to 9 none 1023 rfl hs38 (x_stores h55 2 rfl 42 (.tmp 10) (.tmp 41) (by kernel_rfl) 0 (vb (kl K54)) (vb (kl K54)) (by kernel_rfl) (by kernel_rfl) (by kernel_rfl) (by kernel_rfl) (by kernel_rfl) (by kernel_rfl)) ?_
       rintro _ w56 h56
       refine ⟨fun _ => trivial, ?_⟩
       refine pR_done hs38 ?_ _
       refine seq_n hK37 ?_
       refine wp_seq_k ?_
       intro K57 hK57
       refine reg_lit ?_
       refine wq_p 1 [(42, (pt tb10 0))] ?_
       refine wq_to (some 43) (x_fresh h56 3 rfl  (by kernel_rfl) (by omega)) ?_
       rintro _ w58 ⟨K58, F58, s58, rfl, hK58, hs58, h58⟩
       have hW58_m20 := WS.gadd (K0 := fun k => k ∈ ([] ++ [kl K12] : List Bytes)) (B0 := fun k => k ∈ ([] : List Bytes)) (hW54_m20) hs58
       have hX := hI.step (by omega) hka hkb hs53 hs54 hs58
       have hA1 : kl K53 = mkB 107 (aN (i + 1)) := by rw [hK53, hX.na]
       have hB1 : kl K54 = mkB 107 (bN (i + 1)) := by rw [hK54, hX.nb]
       have hF1 : kl K58 = mkB 107 (3 * i + 5) := by rw [hK58, hX.nf]
       have la1 := aN_lt (i + 1)
       have lb1 := bN_lt (i + 1)
       have hsm := hX.inv.sm (by omega)
       refine wq_to (some 11) (x_new h58 42 (vb (List.replicate 16 0)) (fun r => pt r 0) (by kernel_rfl)) ?_
       rintro _ w59 ⟨g59, rfl, h59⟩
       refine wq_to none (x_stores h59 0 rfl 42 (.tmp 11) (.tmp 43) (by kernel_rfl) 0 (vb (kl K58)) (vb (kl K58)) (by kernel_rfl) (by kernel_rfl) (by kernel_rfl) (by kernel_rfl) (by kernel_rfl) (by kernel_rfl)) ?_
       rintro _ w60 h60
       refine wl_end rfl ?_
       refine seq_n hK57 ?_
       refine wp_seq_k ?_
       intro K61 hK61
       refine reg_lit ?_
       refine wq_p 1 [(44, (pt m20 0))] ?_
       refine wq_v (some 45) (Value.agg (vb (kl K53)).toArray) (e_loads (h60.at_ 2 rfl) 42 (.tmp 9) (by kernel_rfl) 0 (vb (kl K53)) (by kernel_rfl) (by kernel_rfl) (by kernel_rfl)) ?_
       refine wq_to (some 46) (mdec true (decK true (hX.inv.yes (by omega) hLk rfl hA1)) (x_kkey h60 1 4 rfl rfl (by kernel_rfl) hp20 K53 (by kernel_rfl) hW58_m20 (by decide) hsm)) ?_
       rintro _ w62 ⟨F62, S62, rfl, hM62, h62⟩
       refine wq_p 3 [(49, (pt m20 0)), (48, (Value.bool false)), (47, (Value.bool false))] ?_
       refine wq_v (some 50) (Value.agg (vb (kl K54)).toArray) (e_loads (h62.at_ 3 rfl) 42 (.tmp 10) (by kernel_rfl) 0 (vb (kl K54)) (by kernel_rfl) (by kernel_rfl) (by kernel_rfl)) ?_
       refine wq_to (some 51) (mdec false (decK false (hX.inv.no (by omega) hLk rfl hB1 (by omega) (fun j => (aN_ne_bN j (i + 1)).symm))) (x_kkey h62 1 4 rfl rfl (by kernel_rfl) hp20 K54 (by kernel_rfl) hM62.toWS (by decide) hsm)) ?_
       rintro _ w63 ⟨F63, S63, rfl, hM63, h63⟩
       refine wq_p 3 [(54, (pt m20 0)), (53, (Value.bool false)), (52, (Value.bool false))] ?_
       refine wq_v (some 55) (Value.agg (vb (kl K58)).toArray) (e_loads (h63.at_ 0 rfl) 42 (.tmp 11) (by kernel_rfl) 0 (vb (kl K58)) (by kernel_rfl) (by kernel_rfl) (by kernel_rfl)) ?_
       refine wq_to (some 56) (mdec false (decK false (hX.inv.no (by omega) hLk rfl hF1 (by omega) (fun j => fN_ne i j))) (x_kkey h63 1 4 rfl rfl (by kernel_rfl) hp20 K58 (by kernel_rfl) hM63.toWS (by decide) hsm)) ?_
       rintro _ w64 ⟨F64, S64, rfl, hM64, h64⟩
       refine wq_p 4 [(60, (Value.slice (some ⟨g25, 0, none⟩) 16 16)), (59, (pt m20 0)), (58, (Value.bool false)), (57, (Value.bool false))] ?_
       refine wq_to (some 61) (mdec true (decFk true (n := aN (i + 1)) (by omega) hA1 (hX.inv.yes (by omega) hLk rfl hA1)) (x_fits h64 1 4 rfl rfl (by kernel_rfl) hp20 (by kernel_rfl) (h64.apartB 1 4 2 rfl rfl rfl (by kernel_rfl) (by kernel_rfl)) hM64.toWS (by decide) hsm (by rw [kl_len]; decide))) ?_
       rintro _ w65 ⟨F65, S65, rfl, hM65, h65⟩
       refine wq_p 5 [(66, (Value.slice (some ⟨g26, 0, none⟩) 16 16)), (65, (pt m20 0)), (64, (Value.bool false)), (63, (Value.bool false)), (62, (Value.bool false))] ?_
       refine wq_to (some 67) (mdec false (decFk false (n := bN (i + 1)) (by omega) hB1 (hX.inv.no (by omega) hLk rfl hB1 (by omega) (fun j => (aN_ne_bN j (i + 1)).symm))) (x_fits h65 1 4 rfl rfl (by kernel_rfl) hp20 (by kernel_rfl) (h65.apartB 1 4 3 rfl rfl rfl (by kernel_rfl) (by kernel_rfl)) hM65.toWS (by decide) hsm (by rw [kl_len]; decide))) ?_
       rintro _ w66 ⟨F66, S66, rfl, hM66, h66⟩
       refine wq_p 1 [(68, (Value.bool false))] ?_
       refine wl_end rfl ?_
       refine seq_n hK61 ?_
       refine wp_cond_false (by kernel_rfl) ?_
       refine wp_skip ?_
       refine blk_n ?_
       refine seq_n hK36 ?_
       refine reg_lit ?_
       refine wq_v (some 69) (Value.int .i64 ((i : Int) + 1)) (exec_add _ _ _ _ rfl ((i : Int)) 1 (by kernel_rfl) (by kernel_rfl) ((i : Int) + 1) rfl (by omega) (by omega) _) ?_
       refine wq_p 1 [(32, (Value.int .i64 ((i : Int) + 1)))] ?_
       refine wl_end rfl ?_
       refine ⟨M31 - (i + 1), (by omega), (i + 1), K53, K54, S66, F66, s58, F58, hX.inv, hA1, hB1, hM66.toWS, (by omega), rfl, (patch_eq _ 85 _ (by kernel_rfl) (by kernel_rfl) (by kernel_rfl)), h66.sel [1, 2, 3, 4] [] (by kernel_rfl) rfl rfl⟩
     ·
      refine pR_op 5 (some 39) 117 rfl (OpTo.run (Value.agg (vb (kl Kb)).toArray) (e_loads (h38.at_ 2 rfl) 42 (.tmp 10) (by kernel_rfl) 0 (vb (kl Kb)) (by kernel_rfl) (by kernel_rfl) (by kernel_rfl)) (R := fun v w => v = (Value.agg (vb (kl Kb)).toArray) ∧ w38 = w) ⟨rfl, rfl⟩) ?_
      rintro _ _ ⟨rfl, rfl⟩
      refine ⟨fun _ => trivial, ?_⟩
      refine pR_to 1 (some 35) 119 rfl hs38 (OpTo.run (Value.agg (vb (kl Ka)).toArray) (e_loads (h38.at_ 1 rfl) 42 (.tmp 9) (by kernel_rfl) 0 (vb (kl Ka)) (by kernel_rfl) (by kernel_rfl) (by kernel_rfl)) (R := fun v w => v = (Value.agg (vb (kl Ka)).toArray) ∧ w38 = w) ⟨rfl, rfl⟩) ?_
      rintro _ _ ⟨rfl, rfl⟩
      refine ⟨fun _ => trivial, ?_⟩
      refine pR_to 3 (some 37) 127 rfl hs38 (x_derive h38 3 rfl Ka l (by kernel_rfl) (by omega)) ?_
      rintro _ w67 ⟨K67, F67, s67, rfl, hK67, hs67, h67⟩
      refine ⟨fun _ => trivial, ?_⟩
      have hW67_m20 := WS.gmade (K0 := fun k => k ∈ ([] ++ [kl K12] : List Bytes)) (B0 := fun k => k ∈ ([] : List Bytes)) (hW) hs67
      have hkl67 := keys_made hs67
      refine pR_to 7 (some 41) 255 rfl hs38 (x_derive h67 3 rfl Kb l (by kernel_rfl) (by omega)) ?_
      rintro _ w68 ⟨K68, F68, s68, rfl, hK68, hs68, h68⟩
      refine ⟨fun _ => trivial, ?_⟩
      have hW68_m20 := WS.gmade (K0 := fun k => k ∈ ([] ++ [kl K12] : List Bytes)) (B0 := fun k => k ∈ ([] : List Bytes)) (hW67_m20) hs68
      have hkl68 := keys_made hs68
      refine pR_to 8 none 511 rfl hs38 (x_stores h68 1 rfl 42 (.tmp 9) (.tmp 37) (by kernel_rfl) 0 (vb (kl K67)) (vb (kl K67)) (by kernel_rfl) (by kernel_rfl) (by kernel_rfl) (by kernel_rfl) (by kernel_rfl) (by kernel_rfl)) ?_
      rintro _ w69 h69
      refine ⟨fun _ => trivial, ?_⟩
      refine pR_to 9 none 1023 rfl hs38 (x_stores h69 2 rfl 42 (.tmp 10) (.tmp 41) (by kernel_rfl) 0 (vb (kl K68)) (vb (kl K68)) (by kernel_rfl) (by kernel_rfl) (by kernel_rfl) (by kernel_rfl) (by kernel_rfl) (by kernel_rfl)) ?_
      rintro _ w70 h70
      refine ⟨fun _ => trivial, ?_⟩
      refine pR_done hs38 ?_ _
      refine seq_n hK37 ?_
      refine wp_seq_k ?_
      intro K71 hK71
      refine reg_lit ?_
      refine wq_p 1 [(42, (pt tb10 0))] ?_
      refine wq_to (some 43) (x_fresh h70 3 rfl  (by kernel_rfl) (by omega)) ?_
      rintro _ w72 ⟨K72, F72, s72, rfl, hK72, hs72, h72⟩
      have hW72_m20 := WS.gadd (K0 := fun k => k ∈ ([] ++ [kl K12] : List Bytes)) (B0 := fun k => k ∈ ([] : List Bytes)) (hW68_m20) hs72
      have hX := hI.step (by omega) hka hkb hs67 hs68 hs72
      have hA1 : kl K67 = mkB 107 (aN (i + 1)) := by rw [hK67, hX.na]
      have hB1 : kl K68 = mkB 107 (bN (i + 1)) := by rw [hK68, hX.nb]
      have hF1 : kl K72 = mkB 107 (3 * i + 5) := by rw [hK72, hX.nf]
      have la1 := aN_lt (i + 1)
      have lb1 := bN_lt (i + 1)
      have hsm := hX.inv.sm (by omega)
      refine wq_to (some 11) (x_new h72 42 (vb (List.replicate 16 0)) (fun r => pt r 0) (by kernel_rfl)) ?_
      rintro _ w73 ⟨g73, rfl, h73⟩
      refine wq_to none (x_stores h73 0 rfl 42 (.tmp 11) (.tmp 43) (by kernel_rfl) 0 (vb (kl K72)) (vb (kl K72)) (by kernel_rfl) (by kernel_rfl) (by kernel_rfl) (by kernel_rfl) (by kernel_rfl) (by kernel_rfl)) ?_
      rintro _ w74 h74
      refine wl_end rfl ?_
      refine seq_n hK71 ?_
      refine wp_seq_k ?_
      intro K75 hK75
      refine reg_lit ?_
      refine wq_p 1 [(44, (pt m20 0))] ?_
      refine wq_v (some 45) (Value.agg (vb (kl K67)).toArray) (e_loads (h74.at_ 2 rfl) 42 (.tmp 9) (by kernel_rfl) 0 (vb (kl K67)) (by kernel_rfl) (by kernel_rfl) (by kernel_rfl)) ?_
      refine wq_to (some 46) (mdec true (decK true (hX.inv.yes (by omega) hLk rfl hA1)) (x_kkey h74 1 4 rfl rfl (by kernel_rfl) hp20 K67 (by kernel_rfl) hW72_m20 (by decide) hsm)) ?_
      rintro _ w76 ⟨F76, S76, rfl, hM76, h76⟩
      refine wq_p 3 [(49, (pt m20 0)), (48, (Value.bool false)), (47, (Value.bool false))] ?_
      refine wq_v (some 50) (Value.agg (vb (kl K68)).toArray) (e_loads (h76.at_ 3 rfl) 42 (.tmp 10) (by kernel_rfl) 0 (vb (kl K68)) (by kernel_rfl) (by kernel_rfl) (by kernel_rfl)) ?_
      refine wq_to (some 51) (mdec false (decK false (hX.inv.no (by omega) hLk rfl hB1 (by omega) (fun j => (aN_ne_bN j (i + 1)).symm))) (x_kkey h76 1 4 rfl rfl (by kernel_rfl) hp20 K68 (by kernel_rfl) hM76.toWS (by decide) hsm)) ?_
      rintro _ w77 ⟨F77, S77, rfl, hM77, h77⟩
      refine wq_p 3 [(54, (pt m20 0)), (53, (Value.bool false)), (52, (Value.bool false))] ?_
      refine wq_v (some 55) (Value.agg (vb (kl K72)).toArray) (e_loads (h77.at_ 0 rfl) 42 (.tmp 11) (by kernel_rfl) 0 (vb (kl K72)) (by kernel_rfl) (by kernel_rfl) (by kernel_rfl)) ?_
      refine wq_to (some 56) (mdec false (decK false (hX.inv.no (by omega) hLk rfl hF1 (by omega) (fun j => fN_ne i j))) (x_kkey h77 1 4 rfl rfl (by kernel_rfl) hp20 K72 (by kernel_rfl) hM77.toWS (by decide) hsm)) ?_
      rintro _ w78 ⟨F78, S78, rfl, hM78, h78⟩
      refine wq_p 4 [(60, (Value.slice (some ⟨g25, 0, none⟩) 16 16)), (59, (pt m20 0)), (58, (Value.bool false)), (57, (Value.bool false))] ?_
      refine wq_to (some 61) (mdec true (decFk true (n := aN (i + 1)) (by omega) hA1 (hX.inv.yes (by omega) hLk rfl hA1)) (x_fits h78 1 4 rfl rfl (by kernel_rfl) hp20 (by kernel_rfl) (h78.apartB 1 4 2 rfl rfl rfl (by kernel_rfl) (by kernel_rfl)) hM78.toWS (by decide) hsm (by rw [kl_len]; decide))) ?_
      rintro _ w79 ⟨F79, S79, rfl, hM79, h79⟩
      refine wq_p 5 [(66, (Value.slice (some ⟨g26, 0, none⟩) 16 16)), (65, (pt m20 0)), (64, (Value.bool false)), (63, (Value.bool false)), (62, (Value.bool false))] ?_
      refine wq_to (some 67) (mdec false (decFk false (n := bN (i + 1)) (by omega) hB1 (hX.inv.no (by omega) hLk rfl hB1 (by omega) (fun j => (aN_ne_bN j (i + 1)).symm))) (x_fits h79 1 4 rfl rfl (by kernel_rfl) hp20 (by kernel_rfl) (h79.apartB 1 4 3 rfl rfl rfl (by kernel_rfl) (by kernel_rfl)) hM79.toWS (by decide) hsm (by rw [kl_len]; decide))) ?_
      rintro _ w80 ⟨F80, S80, rfl, hM80, h80⟩
      refine wq_p 1 [(68, (Value.bool false))] ?_
      refine wl_end rfl ?_
      refine seq_n hK75 ?_
      refine wp_cond_false (by kernel_rfl) ?_
      refine wp_skip ?_
      refine blk_n ?_
      refine seq_n hK36 ?_
      refine reg_lit ?_
      refine wq_v (some 69) (Value.int .i64 ((i : Int) + 1)) (exec_add _ _ _ _ rfl ((i : Int)) 1 (by kernel_rfl) (by kernel_rfl) ((i : Int) + 1) rfl (by omega) (by omega) _) ?_
      refine wq_p 1 [(32, (Value.int .i64 ((i : Int) + 1)))] ?_
      refine wl_end rfl ?_
      refine ⟨M31 - (i + 1), (by omega), (i + 1), K67, K68, S80, F80, s72, F72, hX.inv, hA1, hB1, hM80.toWS, (by omega), rfl, (patch_eq _ 85 _ (by kernel_rfl) (by kernel_rfl) (by kernel_rfl)), h80.sel [1, 2, 3, 4] [] (by kernel_rfl) rfl rfl⟩
    ·
     refine wp_exit ?_
     refine seq_e ?_
     refine seq_e ?_
     refine blk_e ?_
     refine seq_n hK29 ?_
     refine wp_seq_k ?_
     intro K81 hK81
     refine pR_go h32 3 (fun W => (rBlk g25 42 (vb (kl Ka))).Φ W ∧ True) [(71, [5], 0), (72, [9], 0), (73, [10], 0), (74, [70, 71, 72], 7), (13, [73], 15)] rfl (fun _ d _ _ _ h => by cases d <;> exact h) ?_
     intro hs82 w82 h82
     refine pR_p 3 [0, 2] [(72, (Value.slice (some ⟨g26, 0, none⟩) 16 16)), (70, (pt tb10 0))] 5 hs82 ⟨h82.at_ 1 rfl, trivial⟩ ?_
     refine pR_v 1 (some 71) (Value.agg (vb (kl Ka)).toArray) 7 rfl hs82 ⟨h82.at_ 1 rfl, trivial⟩ (fun W hW => e_loads hW.1 42 (.tmp 9) (by kernel_rfl) 0 (vb (kl Ka)) (by kernel_rfl) (by kernel_rfl) (by kernel_rfl)) ?_
     refine pR_to 3 (some 73) 15 rfl hs82 (x_seal h82 3 rfl Ka 1 (kl Kb) (Value.slice (some ⟨g26, 0, none⟩) 16 16) (by kernel_rfl) (SB.blk16 (K := Kb) (h82.at_ 2 rfl)) (by rw [kl_len]; decide) (by omega)) ?_
     rintro _ w83 ⟨A83, c83, F83, s83, rfl, hs83, h83⟩
     refine ⟨fun h => absurd h (by decide), ?_⟩
     have hW83_m20 := WS.gseal (K0 := fun k => k ∈ ([] ++ [kl K12] : List Bytes)) (B0 := fun k => k ∈ ([] : List Bytes)) (hW) hs83
     obtain ⟨hsm9, hkb9, hbo9⟩ := hI.fin (by omega) hLk rfl hka hkb hs83
     refine pR_to 4 (some 12) 31 rfl hs82 (OpTo.run (Value.slice A83 16 c83) (pureOp_run (by kernel_rfl) _) (R := fun v w => v = (Value.slice A83 16 c83) ∧ w83 = w) ⟨rfl, rfl⟩) ?_
     rintro _ _ ⟨rfl, rfl⟩
     refine ⟨fun h => absurd h (by decide), ?_⟩
     refine pR_done hs82 ?_ _
     refine seq_n hK81 ?_
     refine wp_seq_k ?_
     intro K84 hK84
     refine reg_lit ?_
     refine wq_p 2 [(75, (Value.slice A83 16 c83)), (74, (pt m20 0))] ?_
     refine wq_to (some 76) (x_see h83 0 3 rfl rfl (by kernel_rfl) hp20 (by kernel_rfl) (h83.apartR 0 3 0 rfl rfl rfl) hW83_m20 (by decide) hsm9 (show 16 ≤ 1000000 by decide)) ?_
     rintro _ w85 ⟨F85, S85, rfl, hM85, h85⟩
     refine wl_end rfl ?_
     refine seq_n hK84 ?_
     refine wp_seq_k ?_
     intro K86 hK86
     refine reg_lit ?_
     refine wq_p 1 [(77, (pt m20 0))] ?_
     refine wq_v (some 78) (Value.agg (vb (kl Kb)).toArray) (e_loads (h85.at_ 2 rfl) 42 (.tmp 10) (by kernel_rfl) 0 (vb (kl Kb)) (by kernel_rfl) (by kernel_rfl) (by kernel_rfl)) ?_
     refine wq_to (some 79) (mdec true (decK true (true_iff_ hkb9)) (x_kkey h85 0 3 rfl rfl (by kernel_rfl) hp20 Kb (by kernel_rfl) hM85.toWS (by decide) hsm9)) ?_
     rintro _ w87 ⟨F87, S87, rfl, hM87, h87⟩
     refine wq_p 3 [(82, (Value.slice A83 16 c83)), (81, (pt m20 0)), (80, (Value.bool true))] ?_
     refine wq_to (some 83) (mdec true (decO true (true_iff_ hbo9)) (x_kopens h87 0 3 rfl rfl (by kernel_rfl) hp20 (by kernel_rfl) (h87.apartR 0 3 0 rfl rfl rfl) hM87.toWS (by decide) hsm9 rfl)) ?_
     rintro _ w88 ⟨F88, S88, rfl, hM88, h88⟩
     refine wq_p 2 [(4, (Value.bool true)), (84, (Value.bool true))] ?_
     refine wl_end rfl ?_
     refine seq_n hK86 ?_
     refine wp_ret ?_
     refine post_1 rfl (by kernel_rfl) (rtmp (v := (Value.bool true)) (by kernel_rfl)) ?_
     exact ⟨rfl, h88.below0⟩
   ·
    refine pR_op 3 (some 10) 11 rfl (x_new h24 42 (vb (List.replicate 16 0)) (fun r => pt r 0) (by kernel_rfl)) ?_
    rintro _ w89 ⟨g89, rfl, h89⟩
    refine ⟨fun _ => ⟨h89.at_ 3 rfl, h89.at_ 2 rfl, trivial⟩, ?_⟩
    refine pR_to 2 (some 9) 15 rfl hs24 (x_new h89 42 (vb (List.replicate 16 0)) (fun r => pt r 0) (by kernel_rfl)) ?_
    rintro _ w90 ⟨g90, rfl, h90⟩
    refine ⟨fun _ => ⟨h90.at_ 4 rfl, h90.at_ 3 rfl, trivial⟩, ?_⟩
    refine pR_to 4 none 31 rfl hs24 (x_stores h90 0 rfl 42 (.tmp 9) (.tmp 28) (by kernel_rfl) 0 (vb (kl K12)) (vb (kl K12)) (by kernel_rfl) (by kernel_rfl) (by kernel_rfl) (by kernel_rfl) (by kernel_rfl) (by kernel_rfl)) ?_
    rintro _ w91 h91
    refine ⟨fun _ => ⟨h91.at_ 4 rfl, h91.at_ 3 rfl, trivial⟩, ?_⟩
    refine pR_to 5 none 63 rfl hs24 (x_stores h91 1 rfl 42 (.tmp 10) (.tmp 29) (by kernel_rfl) 0 (vb (kl K13)) (vb (kl K13)) (by kernel_rfl) (by kernel_rfl) (by kernel_rfl) (by kernel_rfl) (by kernel_rfl) (by kernel_rfl)) ?_
    rintro _ w92 h92
    refine ⟨fun h => absurd h (by decide), ?_⟩
    refine pR_done hs24 ?_ _
    refine seq_n hK23 ?_
    refine wp_seq_k ?_
    intro K93 hK93
    refine wp_seq_k ?_
    intro K94 hK94
    refine reg_lit ?_
    refine wq_p 1 [(30, (Value.int .i64 t))] ?_
    obtain ⟨M95, hM95, hb95⟩ := and_mask t 15 (by decide)
    refine wq_v (some 31) (Value.int .i64 ((M95 : Int))) (eq_is (v := Value.int .i64 (bits .and .i64 t 15)) (by kernel_rfl) (congrArg (Value.int .i64) hM95)) ?_
    refine wq_p 1 [(32, (Value.int .i64 0))] ?_
    refine wl_end rfl ?_
    refine seq_n hK94 ?_
    refine wp_block ?_
    have hLk : ([] ++ [kl K12] : List Bytes) = [mkB 107 1] := by rw [hf1]; rfl
    refine wp_loopm (fun mM xX aA wL => ∃ (i : Nat) (Ka : Fin 16 → UInt8) (Kb : Fin 16 → UInt8) (S1 : KM) (F1 : Nat → Prop) (s : STab) (F2 : Nat → Prop), (LInv s l (i)) ∧ (kl Ka = mkB 107 (aN (i))) ∧ (kl Kb = mkB 107 (bN (i))) ∧ (WSl s ([] ++ [kl K12]) [] 0 S1) ∧ (i ≤ M95) ∧ mM = M95 - (i) ∧ aA = patch xX 85 [(0, (Value.string l)), (1, (Value.int .i64 t)), (5, (pt tb10 0)), (6, (pt g14 0)), (7, (pt g15 0)), (8, (pt m20 0)), (9, (pt g90 0)), (10, (pt g89 0)), (14, (Value.bool false)), (17, (Value.bool false)), (31, (Value.int .i64 ((M95 : Int)))), (32, (Value.int .i64 ((i : Int))))] ∧ Hp (fun _ => False) w wL [] [rMind F1 none m20 p20 S1, rBlk g90 42 (vb (kl Ka)), rBlk g89 42 (vb (kl Kb)), rTab F2 tb10 s]) ⟨_, 0, K12, K13, S22, F22, s13, F13, hI0, hf1, hf2, hM22.toWS, (by omega), rfl, (patch_eq _ 85 _ (by kernel_rfl) (by kernel_rfl) (by kernel_rfl)), h92.sel [2, 0, 1, 5] [] (by kernel_rfl) rfl rfl⟩ ?_
    rintro _ x96 _ w96 ⟨i, Ka, Kb, S1, F1, s, F2, hI, hka, hkb, hW, hiM, rfl, rfl, h96⟩
    have hkl : s.keys.length = 3 * i + 2 := by rw [hI.ks, late_len]
    have hbl : s.boxes.length = 0 := by rw [hI.bx]; rfl
    refine wp_seq_k ?_
    intro K97 hK97
    refine reg_lit ?_
    refine wq_p 1 [(33, (Value.bool (decide ((i : Int) < (M95 : Int)))))] ?_
    refine wl_end rfl ?_
    refine seq_n hK97 ?_
    refine wp_seq_k ?_
    intro K98 hK98
    refine wp_if ((i : Int) < (M95 : Int)) (by kernel_rfl) (fun b99 => ?_) (fun b99 => ?_)
    ·
     refine wp_skip ?_
     refine seq_n hK98 ?_
     refine wp_seq_k ?_
     intro K100 hK100
     refine wp_block ?_
     refine wp_seq_k ?_
     intro K101 hK101
     refine pR_go h96 10 (fun W => True) [(35, [5], 0), (36, [9], 0), (37, [0], 0), (38, [34, 35, 36], 7), (39, [5], 0), (40, [10], 0), (41, [0], 0), (42, [38, 39, 40], 120), (0, [9, 37], 175), (0, [10, 41], 511)] rfl (fun _ d _ _ _ h => by cases d <;> exact h) ?_
     intro hs102 w102 h102
     refine pR_p 6 [0, 2, 4, 6] [(40, (Value.string l)), (38, (pt tb10 0)), (36, (Value.string l)), (34, (pt tb10 0))] 85 hs102 trivial ?_
     refine pR_or 1 5 hs102 ?_ ?_
     ·
      refine pR_op 1 (some 35) 87 rfl (OpTo.run (Value.agg (vb (kl Ka)).toArray) (e_loads (h102.at_ 1 rfl) 42 (.tmp 9) (by kernel_rfl) 0 (vb (kl Ka)) (by kernel_rfl) (by kernel_rfl) (by kernel_rfl)) (R := fun v w => v = (Value.agg (vb (kl Ka)).toArray) ∧ w102 = w) ⟨rfl, rfl⟩) ?_
      rintro _ _ ⟨rfl, rfl⟩
      refine ⟨fun _ => trivial, ?_⟩
      refine pR_or 3 5 hs102 ?_ ?_
      ·
       refine pR_op 3 (some 37) 95 rfl (x_derive h102 3 rfl Ka l (by kernel_rfl) (by omega)) ?_
       rintro _ w103 ⟨K103, F103, s103, rfl, hK103, hs103, h103⟩
       refine ⟨fun _ => trivial, ?_⟩
       have hW103_m20 := WS.gmade (K0 := fun k => k ∈ ([] ++ [kl K12] : List Bytes)) (B0 := fun k => k ∈ ([] : List Bytes)) (hW) hs103
       have hkl103 := keys_made hs103
       refine pR_to 5 (some 39) 127 rfl hs102 (OpTo.run (Value.agg (vb (kl Kb)).toArray) (e_loads (h103.at_ 2 rfl) 42 (.tmp 10) (by kernel_rfl) 0 (vb (kl Kb)) (by kernel_rfl) (by kernel_rfl) (by kernel_rfl)) (R := fun v w => v = (Value.agg (vb (kl Kb)).toArray) ∧ w103 = w) ⟨rfl, rfl⟩) ?_
       rintro _ _ ⟨rfl, rfl⟩
       refine ⟨fun _ => trivial, ?_⟩
       refine pR_to 7 (some 41) 255 rfl hs102 (x_derive h103 3 rfl Kb l (by kernel_rfl) (by omega)) ?_
       rintro _ w104 ⟨K104, F104, s104, rfl, hK104, hs104, h104⟩
       refine ⟨fun _ => trivial, ?_⟩
       have hW104_m20 := WS.gmade (K0 := fun k => k ∈ ([] ++ [kl K12] : List Bytes)) (B0 := fun k => k ∈ ([] : List Bytes)) (hW103_m20) hs104
       have hkl104 := keys_made hs104
       refine pR_to 8 none 511 rfl hs102 (x_stores h104 1 rfl 42 (.tmp 9) (.tmp 37) (by kernel_rfl) 0 (vb (kl K103)) (vb (kl K103)) (by kernel_rfl) (by kernel_rfl) (by kernel_rfl) (by kernel_rfl) (by kernel_rfl) (by kernel_rfl)) ?_
       rintro _ w105 h105
       refine ⟨fun _ => trivial, ?_⟩
       refine pR_to 9 none 1023 rfl hs102 (x_stores h105 2 rfl 42 (.tmp 10) (.tmp 41) (by kernel_rfl) 0 (vb (kl K104)) (vb (kl K104)) (by kernel_rfl) (by kernel_rfl) (by kernel_rfl) (by kernel_rfl) (by kernel_rfl) (by kernel_rfl)) ?_
       rintro _ w106 h106
       refine ⟨fun _ => trivial, ?_⟩
       refine pR_done hs102 ?_ _
       refine seq_n hK101 ?_
       refine wp_seq_k ?_
       intro K107 hK107
       refine reg_lit ?_
       refine wq_p 1 [(42, (pt tb10 0))] ?_
       refine wq_to (some 43) (x_fresh h106 3 rfl  (by kernel_rfl) (by omega)) ?_
       rintro _ w108 ⟨K108, F108, s108, rfl, hK108, hs108, h108⟩
       have hW108_m20 := WS.gadd (K0 := fun k => k ∈ ([] ++ [kl K12] : List Bytes)) (B0 := fun k => k ∈ ([] : List Bytes)) (hW104_m20) hs108
       have hX := hI.step (by omega) hka hkb hs103 hs104 hs108
       have hA1 : kl K103 = mkB 107 (aN (i + 1)) := by rw [hK103, hX.na]
       have hB1 : kl K104 = mkB 107 (bN (i + 1)) := by rw [hK104, hX.nb]
       have hF1 : kl K108 = mkB 107 (3 * i + 5) := by rw [hK108, hX.nf]
       have la1 := aN_lt (i + 1)
       have lb1 := bN_lt (i + 1)
       have hsm := hX.inv.sm (by omega)
       refine wq_to (some 11) (x_new h108 42 (vb (List.replicate 16 0)) (fun r => pt r 0) (by kernel_rfl)) ?_
       rintro _ w109 ⟨g109, rfl, h109⟩
       refine wq_to none (x_stores h109 0 rfl 42 (.tmp 11) (.tmp 43) (by kernel_rfl) 0 (vb (kl K108)) (vb (kl K108)) (by kernel_rfl) (by kernel_rfl) (by kernel_rfl) (by kernel_rfl) (by kernel_rfl) (by kernel_rfl)) ?_
       rintro _ w110 h110
       refine wl_end rfl ?_
       refine seq_n hK107 ?_
       refine wp_seq_k ?_
       intro K111 hK111
       refine reg_lit ?_
       refine wq_p 1 [(44, (pt m20 0))] ?_
       refine wq_v (some 45) (Value.agg (vb (kl K103)).toArray) (e_loads (h110.at_ 2 rfl) 42 (.tmp 9) (by kernel_rfl) 0 (vb (kl K103)) (by kernel_rfl) (by kernel_rfl) (by kernel_rfl)) ?_
       refine wq_to (some 46) (mdec true (decK true (hX.inv.yes (by omega) hLk rfl hA1)) (x_kkey h110 1 4 rfl rfl (by kernel_rfl) hp20 K103 (by kernel_rfl) hW108_m20 (by decide) hsm)) ?_
       rintro _ w112 ⟨F112, S112, rfl, hM112, h112⟩
       refine wq_p 3 [(49, (pt m20 0)), (48, (Value.bool false)), (47, (Value.bool false))] ?_
       refine wq_v (some 50) (Value.agg (vb (kl K104)).toArray) (e_loads (h112.at_ 3 rfl) 42 (.tmp 10) (by kernel_rfl) 0 (vb (kl K104)) (by kernel_rfl) (by kernel_rfl) (by kernel_rfl)) ?_
       refine wq_to (some 51) (mdec false (decK false (hX.inv.no (by omega) hLk rfl hB1 (by omega) (fun j => (aN_ne_bN j (i + 1)).symm))) (x_kkey h112 1 4 rfl rfl (by kernel_rfl) hp20 K104 (by kernel_rfl) hM112.toWS (by decide) hsm)) ?_
       rintro _ w113 ⟨F113, S113, rfl, hM113, h113⟩
       refine wq_p 3 [(54, (pt m20 0)), (53, (Value.bool false)), (52, (Value.bool false))] ?_
       refine wq_v (some 55) (Value.agg (vb (kl K108)).toArray) (e_loads (h113.at_ 0 rfl) 42 (.tmp 11) (by kernel_rfl) 0 (vb (kl K108)) (by kernel_rfl) (by kernel_rfl) (by kernel_rfl)) ?_
       refine wq_to (some 56) (mdec false (decK false (hX.inv.no (by omega) hLk rfl hF1 (by omega) (fun j => fN_ne i j))) (x_kkey h113 1 4 rfl rfl (by kernel_rfl) hp20 K108 (by kernel_rfl) hM113.toWS (by decide) hsm)) ?_
       rintro _ w114 ⟨F114, S114, rfl, hM114, h114⟩
       refine wq_p 4 [(60, (Value.slice (some ⟨g90, 0, none⟩) 16 16)), (59, (pt m20 0)), (58, (Value.bool false)), (57, (Value.bool false))] ?_
       refine wq_to (some 61) (mdec true (decFk true (n := aN (i + 1)) (by omega) hA1 (hX.inv.yes (by omega) hLk rfl hA1)) (x_fits h114 1 4 rfl rfl (by kernel_rfl) hp20 (by kernel_rfl) (h114.apartB 1 4 2 rfl rfl rfl (by kernel_rfl) (by kernel_rfl)) hM114.toWS (by decide) hsm (by rw [kl_len]; decide))) ?_
       rintro _ w115 ⟨F115, S115, rfl, hM115, h115⟩
       refine wq_p 5 [(66, (Value.slice (some ⟨g89, 0, none⟩) 16 16)), (65, (pt m20 0)), (64, (Value.bool false)), (63, (Value.bool false)), (62, (Value.bool false))] ?_
       refine wq_to (some 67) (mdec false (decFk false (n := bN (i + 1)) (by omega) hB1 (hX.inv.no (by omega) hLk rfl hB1 (by omega) (fun j => (aN_ne_bN j (i + 1)).symm))) (x_fits h115 1 4 rfl rfl (by kernel_rfl) hp20 (by kernel_rfl) (h115.apartB 1 4 3 rfl rfl rfl (by kernel_rfl) (by kernel_rfl)) hM115.toWS (by decide) hsm (by rw [kl_len]; decide))) ?_
       rintro _ w116 ⟨F116, S116, rfl, hM116, h116⟩
       refine wq_p 1 [(68, (Value.bool false))] ?_
       refine wl_end rfl ?_
       refine seq_n hK111 ?_
       refine wp_cond_false (by kernel_rfl) ?_
       refine wp_skip ?_
       refine blk_n ?_
       refine seq_n hK100 ?_
       refine reg_lit ?_
       refine wq_v (some 69) (Value.int .i64 ((i : Int) + 1)) (exec_add _ _ _ _ rfl ((i : Int)) 1 (by kernel_rfl) (by kernel_rfl) ((i : Int) + 1) rfl (by omega) (by omega) _) ?_
       refine wq_p 1 [(32, (Value.int .i64 ((i : Int) + 1)))] ?_
       refine wl_end rfl ?_
       refine ⟨M95 - (i + 1), (by omega), (i + 1), K103, K104, S116, F116, s108, F108, hX.inv, hA1, hB1, hM116.toWS, (by omega), rfl, (patch_eq _ 85 _ (by kernel_rfl) (by kernel_rfl) (by kernel_rfl)), h116.sel [1, 2, 3, 4] [] (by kernel_rfl) rfl rfl⟩
      ·
       refine pR_op 5 (some 39) 119 rfl (OpTo.run (Value.agg (vb (kl Kb)).toArray) (e_loads (h102.at_ 2 rfl) 42 (.tmp 10) (by kernel_rfl) 0 (vb (kl Kb)) (by kernel_rfl) (by kernel_rfl) (by kernel_rfl)) (R := fun v w => v = (Value.agg (vb (kl Kb)).toArray) ∧ w102 = w) ⟨rfl, rfl⟩) ?_
       rintro _ _ ⟨rfl, rfl⟩
       refine ⟨fun _ => trivial, ?_⟩
       refine pR_to 3 (some 37) 127 rfl hs102 (x_derive h102 3 rfl Ka l (by kernel_rfl) (by omega)) ?_
       rintro _ w117 ⟨K117, F117, s117, rfl, hK117, hs117, h117⟩
       refine ⟨fun _ => trivial, ?_⟩
       have hW117_m20 := WS.gmade (K0 := fun k => k ∈ ([] ++ [kl K12] : List Bytes)) (B0 := fun k => k ∈ ([] : List Bytes)) (hW) hs117
       have hkl117 := keys_made hs117
       refine pR_to 7 (some 41) 255 rfl hs102 (x_derive h117 3 rfl Kb l (by kernel_rfl) (by omega)) ?_
       rintro _ w118 ⟨K118, F118, s118, rfl, hK118, hs118, h118⟩
       refine ⟨fun _ => trivial, ?_⟩
       have hW118_m20 := WS.gmade (K0 := fun k => k ∈ ([] ++ [kl K12] : List Bytes)) (B0 := fun k => k ∈ ([] : List Bytes)) (hW117_m20) hs118
       have hkl118 := keys_made hs118
       refine pR_to 8 none 511 rfl hs102 (x_stores h118 1 rfl 42 (.tmp 9) (.tmp 37) (by kernel_rfl) 0 (vb (kl K117)) (vb (kl K117)) (by kernel_rfl) (by kernel_rfl) (by kernel_rfl) (by kernel_rfl) (by kernel_rfl) (by kernel_rfl)) ?_
       rintro _ w119 h119
       refine ⟨fun _ => trivial, ?_⟩
       refine pR_to 9 none 1023 rfl hs102 (x_stores h119 2 rfl 42 (.tmp 10) (.tmp 41) (by kernel_rfl) 0 (vb (kl K118)) (vb (kl K118)) (by kernel_rfl) (by kernel_rfl) (by kernel_rfl) (by kernel_rfl) (by kernel_rfl) (by kernel_rfl)) ?_
       rintro _ w120 h120
       refine ⟨fun _ => trivial, ?_⟩
       refine pR_done hs102 ?_ _
       refine seq_n hK101 ?_
       refine wp_seq_k ?_
       intro K121 hK121
       refine reg_lit ?_
       refine wq_p 1 [(42, (pt tb10 0))] ?_
       refine wq_to (some 43) (x_fresh h120 3 rfl  (by kernel_rfl) (by omega)) ?_
       rintro _ w122 ⟨K122, F122, s122, rfl, hK122, hs122, h122⟩
       have hW122_m20 := WS.gadd (K0 := fun k => k ∈ ([] ++ [kl K12] : List Bytes)) (B0 := fun k => k ∈ ([] : List Bytes)) (hW118_m20) hs122
       have hX := hI.step (by omega) hka hkb hs117 hs118 hs122
       have hA1 : kl K117 = mkB 107 (aN (i + 1)) := by rw [hK117, hX.na]
       have hB1 : kl K118 = mkB 107 (bN (i + 1)) := by rw [hK118, hX.nb]
       have hF1 : kl K122 = mkB 107 (3 * i + 5) := by rw [hK122, hX.nf]
       have la1 := aN_lt (i + 1)
       have lb1 := bN_lt (i + 1)
       have hsm := hX.inv.sm (by omega)
       refine wq_to (some 11) (x_new h122 42 (vb (List.replicate 16 0)) (fun r => pt r 0) (by kernel_rfl)) ?_
       rintro _ w123 ⟨g123, rfl, h123⟩
       refine wq_to none (x_stores h123 0 rfl 42 (.tmp 11) (.tmp 43) (by kernel_rfl) 0 (vb (kl K122)) (vb (kl K122)) (by kernel_rfl) (by kernel_rfl) (by kernel_rfl) (by kernel_rfl) (by kernel_rfl) (by kernel_rfl)) ?_
       rintro _ w124 h124
       refine wl_end rfl ?_
       refine seq_n hK121 ?_
       refine wp_seq_k ?_
       intro K125 hK125
       refine reg_lit ?_
       refine wq_p 1 [(44, (pt m20 0))] ?_
       refine wq_v (some 45) (Value.agg (vb (kl K117)).toArray) (e_loads (h124.at_ 2 rfl) 42 (.tmp 9) (by kernel_rfl) 0 (vb (kl K117)) (by kernel_rfl) (by kernel_rfl) (by kernel_rfl)) ?_
       refine wq_to (some 46) (mdec true (decK true (hX.inv.yes (by omega) hLk rfl hA1)) (x_kkey h124 1 4 rfl rfl (by kernel_rfl) hp20 K117 (by kernel_rfl) hW122_m20 (by decide) hsm)) ?_
       rintro _ w126 ⟨F126, S126, rfl, hM126, h126⟩
       refine wq_p 3 [(49, (pt m20 0)), (48, (Value.bool false)), (47, (Value.bool false))] ?_
       refine wq_v (some 50) (Value.agg (vb (kl K118)).toArray) (e_loads (h126.at_ 3 rfl) 42 (.tmp 10) (by kernel_rfl) 0 (vb (kl K118)) (by kernel_rfl) (by kernel_rfl) (by kernel_rfl)) ?_
       refine wq_to (some 51) (mdec false (decK false (hX.inv.no (by omega) hLk rfl hB1 (by omega) (fun j => (aN_ne_bN j (i + 1)).symm))) (x_kkey h126 1 4 rfl rfl (by kernel_rfl) hp20 K118 (by kernel_rfl) hM126.toWS (by decide) hsm)) ?_
       rintro _ w127 ⟨F127, S127, rfl, hM127, h127⟩
       refine wq_p 3 [(54, (pt m20 0)), (53, (Value.bool false)), (52, (Value.bool false))] ?_
       refine wq_v (some 55) (Value.agg (vb (kl K122)).toArray) (e_loads (h127.at_ 0 rfl) 42 (.tmp 11) (by kernel_rfl) 0 (vb (kl K122)) (by kernel_rfl) (by kernel_rfl) (by kernel_rfl)) ?_
       refine wq_to (some 56) (mdec false (decK false (hX.inv.no (by omega) hLk rfl hF1 (by omega) (fun j => fN_ne i j))) (x_kkey h127 1 4 rfl rfl (by kernel_rfl) hp20 K122 (by kernel_rfl) hM127.toWS (by decide) hsm)) ?_
       rintro _ w128 ⟨F128, S128, rfl, hM128, h128⟩
       refine wq_p 4 [(60, (Value.slice (some ⟨g90, 0, none⟩) 16 16)), (59, (pt m20 0)), (58, (Value.bool false)), (57, (Value.bool false))] ?_
       refine wq_to (some 61) (mdec true (decFk true (n := aN (i + 1)) (by omega) hA1 (hX.inv.yes (by omega) hLk rfl hA1)) (x_fits h128 1 4 rfl rfl (by kernel_rfl) hp20 (by kernel_rfl) (h128.apartB 1 4 2 rfl rfl rfl (by kernel_rfl) (by kernel_rfl)) hM128.toWS (by decide) hsm (by rw [kl_len]; decide))) ?_
       rintro _ w129 ⟨F129, S129, rfl, hM129, h129⟩
       refine wq_p 5 [(66, (Value.slice (some ⟨g89, 0, none⟩) 16 16)), (65, (pt m20 0)), (64, (Value.bool false)), (63, (Value.bool false)), (62, (Value.bool false))] ?_
       refine wq_to (some 67) (mdec false (decFk false (n := bN (i + 1)) (by omega) hB1 (hX.inv.no (by omega) hLk rfl hB1 (by omega) (fun j => (aN_ne_bN j (i + 1)).symm))) (x_fits h129 1 4 rfl rfl (by kernel_rfl) hp20 (by kernel_rfl) (h129.apartB 1 4 3 rfl rfl rfl (by kernel_rfl) (by kernel_rfl)) hM129.toWS (by decide) hsm (by rw [kl_len]; decide))) ?_
       rintro _ w130 ⟨F130, S130, rfl, hM130, h130⟩
       refine wq_p 1 [(68, (Value.bool false))] ?_
       refine wl_end rfl ?_
       refine seq_n hK125 ?_
       refine wp_cond_false (by kernel_rfl) ?_
       refine wp_skip ?_
       refine blk_n ?_
       refine seq_n hK100 ?_
       refine reg_lit ?_
       refine wq_v (some 69) (Value.int .i64 ((i : Int) + 1)) (exec_add _ _ _ _ rfl ((i : Int)) 1 (by kernel_rfl) (by kernel_rfl) ((i : Int) + 1) rfl (by omega) (by omega) _) ?_
       refine wq_p 1 [(32, (Value.int .i64 ((i : Int) + 1)))] ?_
       refine wl_end rfl ?_
       refine ⟨M95 - (i + 1), (by omega), (i + 1), K117, K118, S130, F130, s122, F122, hX.inv, hA1, hB1, hM130.toWS, (by omega), rfl, (patch_eq _ 85 _ (by kernel_rfl) (by kernel_rfl) (by kernel_rfl)), h130.sel [1, 2, 3, 4] [] (by kernel_rfl) rfl rfl⟩
     ·
      refine pR_op 5 (some 39) 117 rfl (OpTo.run (Value.agg (vb (kl Kb)).toArray) (e_loads (h102.at_ 2 rfl) 42 (.tmp 10) (by kernel_rfl) 0 (vb (kl Kb)) (by kernel_rfl) (by kernel_rfl) (by kernel_rfl)) (R := fun v w => v = (Value.agg (vb (kl Kb)).toArray) ∧ w102 = w) ⟨rfl, rfl⟩) ?_
      rintro _ _ ⟨rfl, rfl⟩
      refine ⟨fun _ => trivial, ?_⟩
      refine pR_to 1 (some 35) 119 rfl hs102 (OpTo.run (Value.agg (vb (kl Ka)).toArray) (e_loads (h102.at_ 1 rfl) 42 (.tmp 9) (by kernel_rfl) 0 (vb (kl Ka)) (by kernel_rfl) (by kernel_rfl) (by kernel_rfl)) (R := fun v w => v = (Value.agg (vb (kl Ka)).toArray) ∧ w102 = w) ⟨rfl, rfl⟩) ?_
      rintro _ _ ⟨rfl, rfl⟩
      refine ⟨fun _ => trivial, ?_⟩
      refine pR_to 3 (some 37) 127 rfl hs102 (x_derive h102 3 rfl Ka l (by kernel_rfl) (by omega)) ?_
      rintro _ w131 ⟨K131, F131, s131, rfl, hK131, hs131, h131⟩
      refine ⟨fun _ => trivial, ?_⟩
      have hW131_m20 := WS.gmade (K0 := fun k => k ∈ ([] ++ [kl K12] : List Bytes)) (B0 := fun k => k ∈ ([] : List Bytes)) (hW) hs131
      have hkl131 := keys_made hs131
      refine pR_to 7 (some 41) 255 rfl hs102 (x_derive h131 3 rfl Kb l (by kernel_rfl) (by omega)) ?_
      rintro _ w132 ⟨K132, F132, s132, rfl, hK132, hs132, h132⟩
      refine ⟨fun _ => trivial, ?_⟩
      have hW132_m20 := WS.gmade (K0 := fun k => k ∈ ([] ++ [kl K12] : List Bytes)) (B0 := fun k => k ∈ ([] : List Bytes)) (hW131_m20) hs132
      have hkl132 := keys_made hs132
      refine pR_to 8 none 511 rfl hs102 (x_stores h132 1 rfl 42 (.tmp 9) (.tmp 37) (by kernel_rfl) 0 (vb (kl K131)) (vb (kl K131)) (by kernel_rfl) (by kernel_rfl) (by kernel_rfl) (by kernel_rfl) (by kernel_rfl) (by kernel_rfl)) ?_
      rintro _ w133 h133
      refine ⟨fun _ => trivial, ?_⟩
      refine pR_to 9 none 1023 rfl hs102 (x_stores h133 2 rfl 42 (.tmp 10) (.tmp 41) (by kernel_rfl) 0 (vb (kl K132)) (vb (kl K132)) (by kernel_rfl) (by kernel_rfl) (by kernel_rfl) (by kernel_rfl) (by kernel_rfl) (by kernel_rfl)) ?_
      rintro _ w134 h134
      refine ⟨fun _ => trivial, ?_⟩
      refine pR_done hs102 ?_ _
      refine seq_n hK101 ?_
      refine wp_seq_k ?_
      intro K135 hK135
      refine reg_lit ?_
      refine wq_p 1 [(42, (pt tb10 0))] ?_
      refine wq_to (some 43) (x_fresh h134 3 rfl  (by kernel_rfl) (by omega)) ?_
      rintro _ w136 ⟨K136, F136, s136, rfl, hK136, hs136, h136⟩
      have hW136_m20 := WS.gadd (K0 := fun k => k ∈ ([] ++ [kl K12] : List Bytes)) (B0 := fun k => k ∈ ([] : List Bytes)) (hW132_m20) hs136
      have hX := hI.step (by omega) hka hkb hs131 hs132 hs136
      have hA1 : kl K131 = mkB 107 (aN (i + 1)) := by rw [hK131, hX.na]
      have hB1 : kl K132 = mkB 107 (bN (i + 1)) := by rw [hK132, hX.nb]
      have hF1 : kl K136 = mkB 107 (3 * i + 5) := by rw [hK136, hX.nf]
      have la1 := aN_lt (i + 1)
      have lb1 := bN_lt (i + 1)
      have hsm := hX.inv.sm (by omega)
      refine wq_to (some 11) (x_new h136 42 (vb (List.replicate 16 0)) (fun r => pt r 0) (by kernel_rfl)) ?_
      rintro _ w137 ⟨g137, rfl, h137⟩
      refine wq_to none (x_stores h137 0 rfl 42 (.tmp 11) (.tmp 43) (by kernel_rfl) 0 (vb (kl K136)) (vb (kl K136)) (by kernel_rfl) (by kernel_rfl) (by kernel_rfl) (by kernel_rfl) (by kernel_rfl) (by kernel_rfl)) ?_
      rintro _ w138 h138
      refine wl_end rfl ?_
      refine seq_n hK135 ?_
      refine wp_seq_k ?_
      intro K139 hK139
      refine reg_lit ?_
      refine wq_p 1 [(44, (pt m20 0))] ?_
      refine wq_v (some 45) (Value.agg (vb (kl K131)).toArray) (e_loads (h138.at_ 2 rfl) 42 (.tmp 9) (by kernel_rfl) 0 (vb (kl K131)) (by kernel_rfl) (by kernel_rfl) (by kernel_rfl)) ?_
      refine wq_to (some 46) (mdec true (decK true (hX.inv.yes (by omega) hLk rfl hA1)) (x_kkey h138 1 4 rfl rfl (by kernel_rfl) hp20 K131 (by kernel_rfl) hW136_m20 (by decide) hsm)) ?_
      rintro _ w140 ⟨F140, S140, rfl, hM140, h140⟩
      refine wq_p 3 [(49, (pt m20 0)), (48, (Value.bool false)), (47, (Value.bool false))] ?_
      refine wq_v (some 50) (Value.agg (vb (kl K132)).toArray) (e_loads (h140.at_ 3 rfl) 42 (.tmp 10) (by kernel_rfl) 0 (vb (kl K132)) (by kernel_rfl) (by kernel_rfl) (by kernel_rfl)) ?_
      refine wq_to (some 51) (mdec false (decK false (hX.inv.no (by omega) hLk rfl hB1 (by omega) (fun j => (aN_ne_bN j (i + 1)).symm))) (x_kkey h140 1 4 rfl rfl (by kernel_rfl) hp20 K132 (by kernel_rfl) hM140.toWS (by decide) hsm)) ?_
      rintro _ w141 ⟨F141, S141, rfl, hM141, h141⟩
      refine wq_p 3 [(54, (pt m20 0)), (53, (Value.bool false)), (52, (Value.bool false))] ?_
      refine wq_v (some 55) (Value.agg (vb (kl K136)).toArray) (e_loads (h141.at_ 0 rfl) 42 (.tmp 11) (by kernel_rfl) 0 (vb (kl K136)) (by kernel_rfl) (by kernel_rfl) (by kernel_rfl)) ?_
      refine wq_to (some 56) (mdec false (decK false (hX.inv.no (by omega) hLk rfl hF1 (by omega) (fun j => fN_ne i j))) (x_kkey h141 1 4 rfl rfl (by kernel_rfl) hp20 K136 (by kernel_rfl) hM141.toWS (by decide) hsm)) ?_
      rintro _ w142 ⟨F142, S142, rfl, hM142, h142⟩
      refine wq_p 4 [(60, (Value.slice (some ⟨g90, 0, none⟩) 16 16)), (59, (pt m20 0)), (58, (Value.bool false)), (57, (Value.bool false))] ?_
      refine wq_to (some 61) (mdec true (decFk true (n := aN (i + 1)) (by omega) hA1 (hX.inv.yes (by omega) hLk rfl hA1)) (x_fits h142 1 4 rfl rfl (by kernel_rfl) hp20 (by kernel_rfl) (h142.apartB 1 4 2 rfl rfl rfl (by kernel_rfl) (by kernel_rfl)) hM142.toWS (by decide) hsm (by rw [kl_len]; decide))) ?_
      rintro _ w143 ⟨F143, S143, rfl, hM143, h143⟩
      refine wq_p 5 [(66, (Value.slice (some ⟨g89, 0, none⟩) 16 16)), (65, (pt m20 0)), (64, (Value.bool false)), (63, (Value.bool false)), (62, (Value.bool false))] ?_
      refine wq_to (some 67) (mdec false (decFk false (n := bN (i + 1)) (by omega) hB1 (hX.inv.no (by omega) hLk rfl hB1 (by omega) (fun j => (aN_ne_bN j (i + 1)).symm))) (x_fits h143 1 4 rfl rfl (by kernel_rfl) hp20 (by kernel_rfl) (h143.apartB 1 4 3 rfl rfl rfl (by kernel_rfl) (by kernel_rfl)) hM143.toWS (by decide) hsm (by rw [kl_len]; decide))) ?_
      rintro _ w144 ⟨F144, S144, rfl, hM144, h144⟩
      refine wq_p 1 [(68, (Value.bool false))] ?_
      refine wl_end rfl ?_
      refine seq_n hK139 ?_
      refine wp_cond_false (by kernel_rfl) ?_
      refine wp_skip ?_
      refine blk_n ?_
      refine seq_n hK100 ?_
      refine reg_lit ?_
      refine wq_v (some 69) (Value.int .i64 ((i : Int) + 1)) (exec_add _ _ _ _ rfl ((i : Int)) 1 (by kernel_rfl) (by kernel_rfl) ((i : Int) + 1) rfl (by omega) (by omega) _) ?_
      refine wq_p 1 [(32, (Value.int .i64 ((i : Int) + 1)))] ?_
      refine wl_end rfl ?_
      refine ⟨M95 - (i + 1), (by omega), (i + 1), K131, K132, S144, F144, s136, F136, hX.inv, hA1, hB1, hM144.toWS, (by omega), rfl, (patch_eq _ 85 _ (by kernel_rfl) (by kernel_rfl) (by kernel_rfl)), h144.sel [1, 2, 3, 4] [] (by kernel_rfl) rfl rfl⟩
    ·
     refine wp_exit ?_
     refine seq_e ?_
     refine seq_e ?_
     refine blk_e ?_
     refine seq_n hK93 ?_
     refine wp_seq_k ?_
     intro K145 hK145
     refine pR_go h96 3 (fun W => (rBlk g90 42 (vb (kl Ka))).Φ W ∧ True) [(71, [5], 0), (72, [9], 0), (73, [10], 0), (74, [70, 71, 72], 7), (13, [73], 15)] rfl (fun _ d _ _ _ h => by cases d <;> exact h) ?_
     intro hs146 w146 h146
     refine pR_p 3 [0, 2] [(72, (Value.slice (some ⟨g89, 0, none⟩) 16 16)), (70, (pt tb10 0))] 5 hs146 ⟨h146.at_ 1 rfl, trivial⟩ ?_
     refine pR_v 1 (some 71) (Value.agg (vb (kl Ka)).toArray) 7 rfl hs146 ⟨h146.at_ 1 rfl, trivial⟩ (fun W hW => e_loads hW.1 42 (.tmp 9) (by kernel_rfl) 0 (vb (kl Ka)) (by kernel_rfl) (by kernel_rfl) (by kernel_rfl)) ?_
     refine pR_to 3 (some 73) 15 rfl hs146 (x_seal h146 3 rfl Ka 1 (kl Kb) (Value.slice (some ⟨g89, 0, none⟩) 16 16) (by kernel_rfl) (SB.blk16 (K := Kb) (h146.at_ 2 rfl)) (by rw [kl_len]; decide) (by omega)) ?_
     rintro _ w147 ⟨A147, c147, F147, s147, rfl, hs147, h147⟩
     refine ⟨fun h => absurd h (by decide), ?_⟩
     have hW147_m20 := WS.gseal (K0 := fun k => k ∈ ([] ++ [kl K12] : List Bytes)) (B0 := fun k => k ∈ ([] : List Bytes)) (hW) hs147
     obtain ⟨hsm9, hkb9, hbo9⟩ := hI.fin (by omega) hLk rfl hka hkb hs147
     refine pR_to 4 (some 12) 31 rfl hs146 (OpTo.run (Value.slice A147 16 c147) (pureOp_run (by kernel_rfl) _) (R := fun v w => v = (Value.slice A147 16 c147) ∧ w147 = w) ⟨rfl, rfl⟩) ?_
     rintro _ _ ⟨rfl, rfl⟩
     refine ⟨fun h => absurd h (by decide), ?_⟩
     refine pR_done hs146 ?_ _
     refine seq_n hK145 ?_
     refine wp_seq_k ?_
     intro K148 hK148
     refine reg_lit ?_
     refine wq_p 2 [(75, (Value.slice A147 16 c147)), (74, (pt m20 0))] ?_
     refine wq_to (some 76) (x_see h147 0 3 rfl rfl (by kernel_rfl) hp20 (by kernel_rfl) (h147.apartR 0 3 0 rfl rfl rfl) hW147_m20 (by decide) hsm9 (show 16 ≤ 1000000 by decide)) ?_
     rintro _ w149 ⟨F149, S149, rfl, hM149, h149⟩
     refine wl_end rfl ?_
     refine seq_n hK148 ?_
     refine wp_seq_k ?_
     intro K150 hK150
     refine reg_lit ?_
     refine wq_p 1 [(77, (pt m20 0))] ?_
     refine wq_v (some 78) (Value.agg (vb (kl Kb)).toArray) (e_loads (h149.at_ 2 rfl) 42 (.tmp 10) (by kernel_rfl) 0 (vb (kl Kb)) (by kernel_rfl) (by kernel_rfl) (by kernel_rfl)) ?_
     refine wq_to (some 79) (mdec true (decK true (true_iff_ hkb9)) (x_kkey h149 0 3 rfl rfl (by kernel_rfl) hp20 Kb (by kernel_rfl) hM149.toWS (by decide) hsm9)) ?_
     rintro _ w151 ⟨F151, S151, rfl, hM151, h151⟩
     refine wq_p 3 [(82, (Value.slice A147 16 c147)), (81, (pt m20 0)), (80, (Value.bool true))] ?_
     refine wq_to (some 83) (mdec true (decO true (true_iff_ hbo9)) (x_kopens h151 0 3 rfl rfl (by kernel_rfl) hp20 (by kernel_rfl) (h151.apartR 0 3 0 rfl rfl rfl) hM151.toWS (by decide) hsm9 rfl)) ?_
     rintro _ w152 ⟨F152, S152, rfl, hM152, h152⟩
     refine wq_p 2 [(4, (Value.bool true)), (84, (Value.bool true))] ?_
     refine wl_end rfl ?_
     refine seq_n hK150 ?_
     refine wp_ret ?_
     refine post_1 rfl (by kernel_rfl) (rtmp (v := (Value.bool true)) (by kernel_rfl)) ?_
     exact ⟨rfl, h152.below0⟩
end Go.Proofs.Ytjjcnijdjhhdoaa
end
/-! The row of KnowsLate: for every input the law returns true and what came in reads as it did. -/
section
namespace Go.Proofs.Ytjjcnijdjhhdoaa
open Go.ChangeShapes Go.WideShapes Go.ChangeAt Go.RowKit
set_option maxRecDepth 100000 in
theorem knowsLate_lifted (os : Os) (started : os.Started) (H : Type) (enc : TypeId × Value → H) :
    ReturnsInHanded {} Try.checked os 13 .any (Rows.knowsLateSpec.pre6 enc Try.prog Try.f13 Rows.knowsLateRow.domain false) (Rows.knowsLateSpec.post enc Try.prog Try.f13 false true false false) := by
  refine returnsInHanded_of_change (C := Try.checked) Try.own started (by kernel_rfl) Try.func13
    (ChangeSpec.witness6 (enc := enc) (C := Try.checked) false ⟨#[], #[.string ⟨#[]⟩, .int .i64 0], []⟩ 8 (by kernel_rfl) (by kernel_rfl) (by kernel_rfl) (by kernel_rfl)) ?_
  intro W base args ds gs before hval0 hW hcnd _
  have hval : ∀ (j : Nat) t v, Try.f13.params[j]? = some t → args[j]? = some v → Value.okWide Try.prog W .any base t v := hval0
  have hpost : ∀ W', Below W.heap.size W W' → Rows.knowsLateSpec.post enc Try.prog Try.f13 false true false false W args (.bool true) W' := fun W' hb =>
    law_post Try.laidOut (by kernel_rfl) Try.underlying4 rfl rfl (fun ds hds => by
      have hn : ds.length = 2 := hds
      match ds, hn with
      | [_, _], _ => rfl) hW hb
  obtain ⟨p, q, hA0, hV, rfl, hfz, hnd⟩ := hW
  have hA : DataW.TrodAll enc Try.prog W 0 (fun _ => true) true Try.f13.params.toList args.toList ds p := hA0
  rw [Try.params13] at hA hval
  clear hA0 hval0
  obtain ⟨v0, v1, d0, d1, p0, p1, rfl, rfl, rfl, h0, h1⟩ := trodAll_two hA
  obtain ⟨l0, rfl, rfl, rfl, hz0⟩ := Go.ChangeMaps.open_string (t := 9) (by kernel_rfl) (hval 0 9 v0 rfl rfl) h0
  obtain ⟨n1, rfl, rfl, rfl, hn1⟩ := open_int (t := 3) (k := .i64) (by kernel_rfl) (hval 1 3 v1 rfl rfl) h1
  refine (knowsLate_any l0 n1 W).mono fun e W' ⟨he, hw⟩ => ?_
  subst he
  exact ⟨_, rfl, hpost W' hw⟩
theorem knowsLate_holds : Rows.KnowsLateSaid :=
  OpenClaim.holds_of_wide 13 Try.f13 rfl rfl rfl rfl rfl rfl rfl ⟨rfl, rfl, rfl, rfl, rfl⟩ rfl rfl rfl rfl rfl (by kernel_rfl) Try.func13 (by kernel_rfl)
    (of_decide_eq_true (by kernel_rfl)) (by unfold Func.isWrapper; first | (rw [if_pos (by decide +kernel)]; kernel_rfl) | (rw [if_neg (by decide +kernel)]; exact ⟨rfl, rfl⟩))
    (fun os started H enc _ => knowsLate_lifted os started H enc)
end Go.Proofs.Ytjjcnijdjhhdoaa
end
