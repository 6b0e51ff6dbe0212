/- The row of RatchetBack: for every input the law returns true and what came in reads as it did. (Texts laid one behind the other: RbL, RAlive, RbX, RBack, RatchetBack.) -/
import Derived.ChangeMaps5
import Derived.Test.YtpkelokaammmjaaCA8
/-! Plain law of RatchetBack. -/
section
namespace Go.Proofs.Ytpkelokaammmjaa
open Go.RowKit Go.QT
theorem at_none' {s : STab} {f : SFrom} (h : ∀ p ∈ s.known, p.1 ≠ f) : s.at_ f = none := by
  unfold STab.at_
  rw [Option.map_eq_none_iff, List.find?_eq_none]
  intro p hp
  simpa using h p hp
theorem made_new' {s : STab} {f : SFrom} (h : s.at_ f = none) : s.num f = s.keys.length + 1 ∧ (s.made f).keys = s.keys ++ [f] ∧ (s.made f).known = s.known ++ [(f, s.keys.length + 1)] ∧ (s.made f).boxes = s.boxes := by
  unfold STab.num STab.made
  rw [h]
  exact ⟨rfl, rfl, rfl, rfl⟩
theorem zK_ne' (n : Nat) : mkB 107 n ≠ zKey := fun h => by
  have := congrArg List.head? h
  simp [mkB, zKey] at this
abbrev Knl0 (s : STab) (Lk Lb : List Bytes) (i : Nat) (k : Bytes) : Prop := Kn s (fun k => k ∈ Lk) (fun k => k ∈ Lb) i k
/-- How the n-th key (from 0) comes: a fresh one, the first kept one, then by turns one that is used and one that is kept. -/
def rbK (n : Nat) : SFrom :=
  if n = 0 then SFrom.fresh else if n = 1 then deriveF (mkB 107 1) ⟨#[120]⟩
  else if n % 2 = 0 then deriveF (mkB 107 n) ⟨#[117, 115, 101]⟩ else deriveF (mkB 107 (n - 1)) ⟨#[110, 101, 120, 116]⟩
def rbKeys (n : Nat) : List SFrom := (List.range n).map rbK
theorem rbKeys_succ (n : Nat) : rbKeys (n + 1) = rbKeys n ++ [rbK n] := by simp [rbKeys, List.range_succ]
theorem rbKeys_len (n : Nat) : (rbKeys n).length = n := by simp [rbKeys]
theorem rbKeys_at {n i : Nat} (h : i < n) : (rbKeys n)[i]? = some (rbK i) := by simp [rbKeys, h]
structure RbI (s : STab) (n : Nat) : Prop where
  ks : s.keys = rbKeys n
  kn : ∀ p ∈ s.known, ∃ i, 1 ≤ i ∧ i < n ∧ p.1 = rbK i
section
variable {s s' : STab} {n i j T : Nat} {k : Bytes}
theorem rbK_inj (hi : 1 ≤ i) (hj : 1 ≤ j) (hi2 : i < 1000) (hj2 : j < 1000) (h : rbK i = rbK j) : i = j := by
  have lab : ∀ a b : ByteArray, a ≠ b → ∀ p q : Bytes, deriveF p a ≠ deriveF q b := fun a b hab p q e => hab (derive_inj.1 e).2
  have l1 : (⟨#[120]⟩ : ByteArray) ≠ ⟨#[117, 115, 101]⟩ := by decide
  have l2 : (⟨#[120]⟩ : ByteArray) ≠ ⟨#[110, 101, 120, 116]⟩ := by decide
  have l3 : (⟨#[117, 115, 101]⟩ : ByteArray) ≠ ⟨#[110, 101, 120, 116]⟩ := by decide
  unfold rbK at h
  rw [if_neg (show ¬ i = 0 by omega), if_neg (show ¬ j = 0 by omega)] at h
  by_cases a1 : i = 1
  · by_cases b1 : j = 1
    · omega
    · rw [if_pos a1, if_neg b1] at h
      split at h
      · exact absurd h (lab _ _ l1 _ _)
      · exact absurd h (lab _ _ l2 _ _)
  · by_cases b1 : j = 1
    · rw [if_neg a1, if_pos b1] at h
      split at h
      · exact absurd h.symm (lab _ _ l1 _ _)
      · exact absurd h.symm (lab _ _ l2 _ _)
    · rw [if_neg a1, if_neg b1] at h
      split at h
      · split at h
        · have := mkB_inj (by omega) (by omega) (derive_inj.1 h).1
          omega
        · exact absurd h (lab _ _ l3 _ _)
      · split at h
        · exact absurd h.symm (lab _ _ l3 _ _)
        · have := mkB_inj (by omega) (by omega) (derive_inj.1 h).1
          omega
theorem RbI.zero (h : s = STab.empty.add SFrom.fresh) : RbI s 1 := by
  subst h
  exact ⟨rfl, by simp [STab.empty, STab.add]⟩
/-- The next key. -/
theorem RbI.step (h : RbI s n) (hn : 1 ≤ n) (hn2 : n < 900) {f : SFrom} (hf : f = rbK n) (hs : s' = s.made f) : RbI s' (n + 1) ∧ s.num f = n + 1 ∧ s'.boxes = s.boxes := by
  subst hf
  have hno : s.at_ (rbK n) = none := at_none' fun p hp e => by
    obtain ⟨i, h1, h2, h3⟩ := h.kn p hp
    rw [h3] at e
    have := rbK_inj h1 hn (by omega) (by omega) e
    omega
  obtain ⟨a1, a2, a3, a4⟩ := made_new' hno
  subst hs
  refine ⟨⟨by rw [a2, h.ks, rbKeys_succ], fun p hp => ?_⟩, by rw [a1, h.ks, rbKeys_len], a4⟩
  rw [a3, List.mem_append, List.mem_singleton] at hp
  rcases hp with hp | rfl
  · obtain ⟨i, h1, h2, h3⟩ := h.kn p hp
    exact ⟨i, h1, by omega, h3⟩
  · exact ⟨n, hn, by omega, rfl⟩
theorem RbI.seal {u : Int} {b : Bytes} (h : RbI s n) (hs : s' = s.seal k u b) : RbI s' n := by
  subst hs; exact ⟨h.ks, h.kn⟩
theorem rbK_x : deriveF (mkB 107 1) ⟨#[120]⟩ = rbK 1 := by unfold rbK; rw [if_neg (by decide), if_pos rfl]
theorem rbK_use (hi : n = 2 * i + 2) : deriveF (mkB 107 n) ⟨#[117, 115, 101]⟩ = rbK n := by
  unfold rbK
  rw [if_neg (by omega), if_neg (by omega), if_pos (by omega)]
theorem rbK_next (hi : n = 2 * i + 2) : deriveF (mkB 107 n) ⟨#[110, 101, 120, 116]⟩ = rbK (n + 1) := by
  unfold rbK
  rw [if_neg (by omega), if_neg (by omega), if_neg (by omega), Nat.add_sub_cancel]
/-- The boxes that were made. -/
def said : Bytes := [115, 97, 105, 100]
def rbBoxes (T : Nat) : List SSealed := (List.range T).map fun i => ⟨mkB 107 (2 * i + 3), 1, said⟩
theorem rbBoxes_succ (T : Nat) : rbBoxes (T + 1) = rbBoxes T ++ [⟨mkB 107 (2 * T + 3), 1, said⟩] := by simp [rbBoxes, List.range_succ]
theorem rbBoxes_len (T : Nat) : (rbBoxes T).length = T := by simp [rbBoxes]
def rbMarks (i : Nat) : List Bytes := (List.range i).map fun j => mkB 98 (j + 1)
theorem rbMarks_succ (i : Nat) : rbMarks (i + 1) = rbMarks i ++ [mkB 98 (i + 1)] := by simp [rbMarks, List.range_succ]
theorem rbMarks_len (i : Nat) : (rbMarks i).length = i := by simp [rbMarks]
theorem rbMarks_at (h : j < i) : (rbMarks i)[j]? = some (mkB 98 (j + 1)) := by simp [rbMarks, h]
theorem Rb.sm (hk : s.keys = rbKeys n) (hn : n < 1000) (hb : s.boxes = rbBoxes T) (hT : T < 1000) : Sm s := by
  refine ⟨fun b hx => ?_, by rw [hb, rbBoxes_len]; omega, by rw [hk, rbKeys_len]; omega⟩
  rw [hb] at hx
  unfold rbBoxes at hx
  obtain ⟨i, _, rfl⟩ := List.mem_map.1 hx
  show said.length ≤ 1000000
  decide
/-- Who learns the T-th kept key knows it, and what comes of it: no more. -/
theorem Rb.known (hk : s.keys = rbKeys n) (hn : n < 900) (hb : s.boxes = rbBoxes T) (hT : T < 100) (h2 : 2 * T + 2 ≤ n) {Lk Lb : List Bytes} (hl : Lk = [mkB 107 (2 * T + 2)]) :
    (∀ k, Knl0 s Lk Lb 0 k ↔ ∃ i, 2 * T + 2 ≤ i ∧ i ≤ n ∧ k = mkB 107 i) ∧ ∀ k, ¬ Knl0 s Lk Lb 2 k := by
  subst hl
  have all : ∀ c k, Knl0 s [mkB 107 (2 * T + 2)] Lb c k → (c = 0 → ∃ i, 2 * T + 2 ≤ i ∧ i ≤ n ∧ k = mkB 107 i) ∧ c ≠ 2 := by
    intro c k h
    induction h with
    | key k hk => exact ⟨fun _ => ⟨2 * T + 2, Nat.le_refl _, h2, by simpa using hk⟩, by decide⟩
    | box k hk => exact ⟨by simp, by decide⟩
    | opens k sl _ hbx _ _ ih =>
      exfalso
      obtain ⟨i, hi, hin, e⟩ := ih.1 rfl
      obtain ⟨j, hj, hsl, _⟩ := box_at_ hbx
      rw [hb] at hj hsl
      rw [rbBoxes_len] at hj
      unfold rbBoxes at hsl
      rw [List.getElem?_map, List.getElem?_range hj] at hsl
      injection hsl with hsl
      subst hsl
      have := mkB_inj (by omega) (by omega) e
      omega
    | tkey k x sl _ _ _ _ ih => exact absurd rfl ih.2
    | tbox k x sl _ _ _ _ ih => exact absurd rfl ih.2
    | late m f hf hz _ ih =>
      refine ⟨fun _ => ?_, by decide⟩
      obtain ⟨i, hi, hin, e⟩ := ih.1 rfl
      have hm : m < n := by
        have := (List.getElem?_eq_some_iff.1 hf).1
        rw [hk, rbKeys_len] at this; exact this
      rw [hk, rbKeys_at hm] at hf
      injection hf with hf
      subst hf
      refine ⟨m + 1, ?_, by omega, rfl⟩
      unfold rbK at e hz
      split at e
      · rename_i h0
        rw [if_pos h0] at hz
        exact absurd rfl hz
      · split at e
        · have := mkB_inj (by omega) (by omega) e
          omega
        · split at e
          · have := mkB_inj (by omega) (by omega) e
            omega
          · have := mkB_inj (by omega) (by omega) e
            omega
  refine ⟨fun k => ⟨fun h => (all 0 k h).1 rfl, ?_⟩, fun k h => (all 2 k h).2 rfl⟩
  rintro ⟨i, h1, h3, rfl⟩
  have key : ∀ d, 2 * T + 2 + 2 * d ≤ n → Knl0 s [mkB 107 (2 * T + 2)] Lb 0 (mkB 107 (2 * T + 2 + 2 * d)) := by
    intro d
    induction d with
    | zero => intro _; exact .key _ (by simp)
    | succ d ih =>
      intro hd
      have h := ih (by omega)
      have := Kn.late (s := s) (K0 := fun k => k ∈ [mkB 107 (2 * T + 2)]) (B0 := fun k => k ∈ Lb) (2 * T + 2 + 2 * d + 1) (rbK (2 * T + 2 + 2 * d + 1)) (by rw [hk]; exact rbKeys_at (by omega))
        (by rw [← rbK_next (i := T + d) (by omega)]; exact zK_ne' _) (by rw [← rbK_next (i := T + d) (by omega)]; exact h)
      rw [show 2 * T + 2 + 2 * (d + 1) = 2 * T + 2 + 2 * d + 1 + 1 by omega]
      exact this
  by_cases hp : (i - (2 * T + 2)) % 2 = 0
  · have := key ((i - (2 * T + 2)) / 2) (by omega)
    rw [show 2 * T + 2 + 2 * ((i - (2 * T + 2)) / 2) = i by omega] at this
    exact this
  · have h := key ((i - (2 * T + 2)) / 2) (by omega)
    have e : 2 * T + 2 + 2 * ((i - (2 * T + 2)) / 2) = i - 1 := by omega
    rw [e] at h
    have := Kn.late (s := s) (K0 := fun k => k ∈ [mkB 107 (2 * T + 2)]) (B0 := fun k => k ∈ Lb) (i - 1) (rbK (i - 1)) (by rw [hk]; exact rbKeys_at (by omega))
      (by rw [← rbK_use (i := (i - 3) / 2) (by omega)]; exact zK_ne' _) (by rw [← rbK_use (i := (i - 3) / 2) (by omega)]; exact h)
    rw [show i - 1 + 1 = i by omega] at this
    exact this
theorem said_no : ∀ n, n < 32 → standsB (mkB 98 (n + 1)) said = false := by
  have h : (List.range 32).all (fun n => !standsB (mkB 98 (n + 1)) said) = true := by kernel_rfl
  intro n hn
  have := List.all_eq_true.1 h n (List.mem_range.2 hn)
  simpa using this
end
end Go.Proofs.Ytpkelokaammmjaa
end
/-! The walk of compeerlaw19.alive: true. -/
section
namespace Go.Proofs.Ytpkelokaammmjaa
open Go.RowKit Go.QT
set_option maxRecDepth 100000 in
set_option maxHeartbeats 1000000 in
theorem ralive_any (w : World) : Calls Try.prog 4 #[] w fun e w' => e = .returned (.bool true) ∧ Below w.heap.size w w' := by
  have h0 := Hp.nil (fun _ => False) w
  refine enter 83 Try.func4 rfl rfl ?_
  refine wp_reset 83 [] (fun x0 => ?_)
  refine wp_seq_k ?_
  intro K1 hK1
  refine reg_lit ?_
  refine wq_p 1 [(0, (Value.bool false))] ?_
  refine wl_end rfl ?_
  refine seq_n hK1 ?_
  refine wp_seq_k ?_
  intro K2 hK2
  refine reg_lit ?_
  refine wq_to (some 11) (x_snew h0 (by kernel_rfl)) ?_
  rintro _ w3 ⟨tb3, F3, rfl, h3⟩
  refine wq_p 1 [(1, (pt tb3 0))] ?_
  refine wl_end rfl ?_
  refine seq_n hK2 ?_
  refine wp_seq_k ?_
  intro K4 hK4
  refine reg_lit ?_
  refine wq_p 1 [(12, (pt tb3 0))] ?_
  refine wq_to (some 13) (x_fresh h3 0 rfl  (by kernel_rfl) (by decide)) ?_
  rintro _ w5 ⟨K5, F5, s5, rfl, hK5, hs5, h5⟩
  have e5 : s5 = (⟨[SFrom.fresh], [], [], []⟩ : STab) := (by rw [hs5]; kernel_rfl)
  have f5 : kl K5 = mkB 107 1 := (by rw [hK5]; kernel_rfl)
  refine wq_to (some 2) (x_new h5 28 (vb (List.replicate 16 0)) (fun r => pt r 0) (by kernel_rfl)) ?_
  rintro _ w6 ⟨g6, rfl, h6⟩
  refine wq_to none (x_stores h6 0 rfl 28 (.tmp 2) (.tmp 13) (by kernel_rfl) 0 (vb (kl K5)) (vb (kl K5)) (by kernel_rfl) (by kernel_rfl) (by kernel_rfl) (by kernel_rfl) (by kernel_rfl) (by kernel_rfl)) ?_
  rintro _ w7 h7
  refine wl_end rfl ?_
  refine seq_n hK4 ?_
  refine wp_seq_k ?_
  intro K8 hK8
  refine reg_lit ?_
  refine wq_p 2 [(15, (Value.iface 23 (pt tb3 0))), (14, (pt tb3 0))] ?_
  refine wq_v (some 16) (Value.agg (vb (kl K5)).toArray) (e_loads (h7.at_ 0 rfl) 28 (.tmp 2) (by kernel_rfl) 0 (vb (kl K5)) (by kernel_rfl) (by kernel_rfl) (by kernel_rfl)) ?_
  refine wq_to (some 17) (x_rnew h7 1 rfl K5 (⟨#[97]⟩) (by kernel_rfl) (by rw [e5]; decide)) ?_
  rintro _ w9 ⟨cb9, K9, F9, s9, rfl, hK9, hs9, h9⟩
  have e9 : s9 = (⟨[SFrom.fresh, deriveF (mkB 107 1) ⟨#[97]⟩], [], [], [(deriveF (mkB 107 1) ⟨#[97]⟩, 2)]⟩ : STab) := (by rw [hs9, e5, f5]; kernel_rfl)
  have f9 : kl K9 = mkB 107 2 := (by rw [hK9, e5, f5]; kernel_rfl)
  refine wq_p 1 [(3, (pt cb9 0))] ?_
  refine wl_end rfl ?_
  refine seq_n hK8 ?_
  refine wp_seq_k ?_
  intro K10 hK10
  refine wp_seq_k ?_
  intro K11 hK11
  refine reg_lit ?_
  refine wq_p 2 [(19, (Value.bool false)), (18, (pt cb9 0))] ?_
  refine wl_end rfl ?_
  refine seq_n hK11 ?_
  refine wp_cond_false (by kernel_rfl) ?_
  refine wp_skip ?_
  refine seq_n hK10 ?_
  refine wp_seq_k ?_
  intro K12 hK12
  refine reg_lit ?_
  refine wq_p 1 [(21, (pt cb9 0))] ?_
  refine wq_to (some 22) (x_rkey h9 1 0 rfl rfl (by kernel_rfl) (by kernel_rfl) (by rw [e9]; decide)) ?_
  rintro _ w13 ⟨K13, F13, s13, rfl, hK13, hs13, h13⟩
  have e13 : s13 = (⟨[SFrom.fresh, deriveF (mkB 107 1) ⟨#[97]⟩, deriveF (mkB 107 2) ⟨#[117, 115, 101]⟩], [], [], [(deriveF (mkB 107 1) ⟨#[97]⟩, 2), (deriveF (mkB 107 2) ⟨#[117, 115, 101]⟩, 3)]⟩ : STab) := (by rw [hs13, e9, f9]; kernel_rfl)
  have f13 : kl K13 = mkB 107 3 := (by rw [hK13, e9, f9]; kernel_rfl)
  refine wq_p 3 [(24, (Value.int .i64 0)), (23, (Value.agg (vb (kl K13)).toArray)), (20, (Value.tuple #[(Value.agg (vb (kl K13)).toArray), (Value.int .i64 0)]))] ?_
  refine wq_to (some 4) (x_new h13 28 (vb (List.replicate 16 0)) (fun r => pt r 0) (by kernel_rfl)) ?_
  rintro _ w14 ⟨g14, rfl, h14⟩
  refine wq_to none (x_stores h14 0 rfl 28 (.tmp 4) (.tmp 23) (by kernel_rfl) 0 (vb (kl K13)) (vb (kl K13)) (by kernel_rfl) (by kernel_rfl) (by kernel_rfl) (by kernel_rfl) (by kernel_rfl) (by kernel_rfl)) ?_
  rintro _ w15 h15
  refine wq_p 1 [(5, (Value.int .i64 0))] ?_
  refine wl_end rfl ?_
  refine seq_n hK12 ?_
  refine wp_seq_k ?_
  intro K16 hK16
  refine wp_reset 83 [(0, (Value.bool false)), (1, (pt tb3 0)), (2, (pt g6 0)), (3, (pt cb9 0)), (4, (pt g14 0)), (5, (Value.int .i64 0)), (19, (Value.bool false))] (fun x17 => ?_)
  refine reg_lit ?_
  refine wq_p 1 [(25, (pt cb9 0))] ?_
  refine wq_to (some 26) (x_rnext h15 2 1 rfl rfl (by kernel_rfl) (by kernel_rfl) (by rw [e13]; decide) (by decide) (by decide)) ?_
  rintro _ w18 ⟨K18, F18, s18, rfl, hK18, hs18, h18⟩
  have e18 : s18 = (⟨[SFrom.fresh, deriveF (mkB 107 1) ⟨#[97]⟩, deriveF (mkB 107 2) ⟨#[117, 115, 101]⟩, deriveF (mkB 107 2) ⟨#[110, 101, 120, 116]⟩], [], [], [(deriveF (mkB 107 1) ⟨#[97]⟩, 2), (deriveF (mkB 107 2) ⟨#[117, 115, 101]⟩, 3), (deriveF (mkB 107 2) ⟨#[110, 101, 120, 116]⟩, 4)]⟩ : STab) := (by rw [hs18, e13, f9]; kernel_rfl)
  have f18 : kl K18 = mkB 107 4 := (by rw [hK18, e13, f9]; kernel_rfl)
  refine wq_p 1 [(6, (Value.int .i64 0))] ?_
  refine wl_end rfl ?_
  refine seq_n hK16 ?_
  refine wp_seq_k ?_
  intro K19 hK19
  refine reg_lit ?_
  refine wq_p 1 [(28, (pt cb9 0))] ?_
  refine wq_to (some 29) (x_rkey h18 2 1 rfl rfl (by kernel_rfl) (by kernel_rfl) (by rw [e18]; decide)) ?_
  rintro _ w20 ⟨K20, F20, s20, rfl, hK20, hs20, h20⟩
  have e20 : s20 = (⟨[SFrom.fresh, deriveF (mkB 107 1) ⟨#[97]⟩, deriveF (mkB 107 2) ⟨#[117, 115, 101]⟩, deriveF (mkB 107 2) ⟨#[110, 101, 120, 116]⟩, deriveF (mkB 107 4) ⟨#[117, 115, 101]⟩], [], [], [(deriveF (mkB 107 1) ⟨#[97]⟩, 2), (deriveF (mkB 107 2) ⟨#[117, 115, 101]⟩, 3), (deriveF (mkB 107 2) ⟨#[110, 101, 120, 116]⟩, 4), (deriveF (mkB 107 4) ⟨#[117, 115, 101]⟩, 5)]⟩ : STab) := (by rw [hs20, e18, f18]; kernel_rfl)
  have f20 : kl K20 = mkB 107 5 := (by rw [hK20, e18, f18]; kernel_rfl)
  refine wq_p 3 [(31, (Value.int .i64 0)), (30, (Value.agg (vb (kl K20)).toArray)), (27, (Value.tuple #[(Value.agg (vb (kl K20)).toArray), (Value.int .i64 0)]))] ?_
  refine wq_to (some 7) (x_new h20 28 (vb (List.replicate 16 0)) (fun r => pt r 0) (by kernel_rfl)) ?_
  rintro _ w21 ⟨g21, rfl, h21⟩
  refine wq_to none (x_stores h21 0 rfl 28 (.tmp 7) (.tmp 30) (by kernel_rfl) 0 (vb (kl K20)) (vb (kl K20)) (by kernel_rfl) (by kernel_rfl) (by kernel_rfl) (by kernel_rfl) (by kernel_rfl) (by kernel_rfl)) ?_
  rintro _ w22 h22
  refine wq_p 1 [(8, (Value.int .i64 0))] ?_
  refine wl_end rfl ?_
  refine seq_n hK19 ?_
  refine wp_seq_k ?_
  intro K23 hK23
  refine reg_lit ?_
  refine wq_p 1 [(32, (pt cb9 0))] ?_
  refine wq_to (some 33) (x_rwipe h22 2 rfl (by kernel_rfl)) ?_
  rintro _ w24 ⟨rfl, h24⟩
  refine wl_end rfl ?_
  refine seq_n hK23 ?_
  refine wp_seq_k ?_
  intro K25 hK25
  refine reg_lit ?_
  refine wq_p 1 [(35, (pt cb9 0))] ?_
  refine wq_to (some 36) (x_rkeyc h24 2 zKey (by kernel_rfl) rfl (by kernel_rfl)) ?_
  rintro _ w26 ⟨rfl, h26⟩
  refine wq_p 3 [(38, (Value.int .i64 21)), (37, (Value.agg (vb zKey).toArray)), (34, (Value.tuple #[(Value.agg (vb zKey).toArray), (Value.int .i64 21)]))] ?_
  refine wq_to (some 9) (x_new h26 28 (vb (List.replicate 16 0)) (fun r => pt r 0) (by kernel_rfl)) ?_
  rintro _ w27 ⟨g27, rfl, h27⟩
  refine wq_to none (x_stores h27 0 rfl 28 (.tmp 9) (.tmp 37) (by kernel_rfl) 0 (vb zKey) (vb zKey) (by kernel_rfl) (by kernel_rfl) (by kernel_rfl) (by kernel_rfl) (by kernel_rfl) (by kernel_rfl)) ?_
  rintro _ w28 h28
  refine wq_p 1 [(10, (Value.int .i64 21))] ?_
  refine wl_end rfl ?_
  refine seq_n hK25 ?_
  refine wp_seq_k ?_
  intro K29 hK29
  refine pR_go h28 44 (fun W => (rBlk g14 28 (vb (kl K13))).Φ W ∧ (rBlk g21 28 (vb (kl K20))).Φ W ∧ (rBlk g6 28 (vb (kl K5))).Φ W ∧ True) [(40, [5], 0), (41, [39], 1), (42, [40], 2), (43, [6, 41], 4), (44, [42, 41], 12), (45, [41, 43], 20), (46, [44], 36), (47, [8, 45], 64), (48, [46, 45], 192), (49, [45, 47], 320), (50, [48], 576), (51, [10, 49], 1024), (52, [50, 49], 3072), (53, [49, 51], 5120), (54, [52], 9216), (55, [4, 53], 16384), (56, [7, 53], 16384), (57, [54, 55, 53], 114688), (58, [53, 56], 147456), (59, [57], 278528), (60, [4, 58], 524288), (61, [1, 58], 524288), (62, [1, 58], 524288), (63, [2, 58], 524288), (64, [61, 62, 58], 13107200), (65, [60, 63, 58], 19398656), (66, [59, 64, 58], 35127296), (67, [58, 65], 67633152), (68, [66], 167772160), (69, [3, 67], 268435456), (70, [68, 67], 805306368), (71, [69, 67], 1342177280), (72, [67, 70], 2415919104), (73, [71], 5368709120), (74, [3, 72], 8589934592), (75, [73, 72], 25769803776), (76, [72], 8589934592), (77, [74, 75, 72], 111669149696), (78, [72, 76], 146028888064), (79, [77], 309237645312), (80, [3, 78], 549755813888), (81, [79, 78], 1649267441664), (82, [80, 78], 2748779069440), (83, [78, 81], 4947802324992), (1, [82], 17592186044415)] rfl (fun _ d _ _ _ h => by cases d <;> exact h) ?_
  intro hs30 w30 h30
  refine pR_p 30 [0, 1, 2, 3, 4, 5, 6, 7, 8, 9, 10, 11, 12, 13, 14] [(53, (Value.bool true)), (52, (Value.bool true)), (51, (Value.bool true)), (50, (Value.int .i64 21)), (49, (Value.bool true)), (48, (Value.bool true)), (47, (Value.bool true)), (46, (Value.int .i64 0)), (45, (Value.bool true)), (44, (Value.bool true)), (43, (Value.bool true)), (42, (Value.int .i64 0)), (41, (Value.bool true)), (40, (Value.bool true)), (39, (Value.int .i64 0))] 32767 hs30 ⟨h30.at_ 2 rfl, h30.at_ 1 rfl, h30.at_ 5 rfl, trivial⟩ ?_
  refine pR_v 15 (some 54) (Value.agg (vb (kl K13)).toArray) 65535 rfl hs30 ⟨h30.at_ 2 rfl, h30.at_ 1 rfl, h30.at_ 5 rfl, trivial⟩ (fun W hW => e_loads hW.1 28 (.tmp 4) (by kernel_rfl) 0 (vb (kl K13)) (by kernel_rfl) (by kernel_rfl) (by kernel_rfl)) ?_
  refine pR_v 16 (some 55) (Value.agg (vb (kl K20)).toArray) 131071 rfl hs30 ⟨h30.at_ 2 rfl, h30.at_ 1 rfl, h30.at_ 5 rfl, trivial⟩ (fun W hW => e_loads hW.2.1 28 (.tmp 7) (by kernel_rfl) 0 (vb (kl K20)) (by kernel_rfl) (by kernel_rfl) (by kernel_rfl)) ?_
  refine pR_v 17 (some 56) (Value.bool true) 262143 rfl hs30 ⟨h30.at_ 2 rfl, h30.at_ 1 rfl, h30.at_ 5 rfl, trivial⟩ (fun W hW => e_kne K13 K20 28 28 (.tmp 54) (.tmp 55) (by kernel_rfl) (by kernel_rfl) (by kernel_rfl) (by kernel_rfl) (by kernel_rfl) true (by rw [f13, f20]; kernel_rfl) _) ?_
  refine pR_p 23 [18, 19, 21, 22] [(61, (pt tb3 0)), (60, (pt tb3 0)), (58, (Value.bool true)), (57, (Value.bool true))] 7340031 hs30 ⟨h30.at_ 2 rfl, h30.at_ 1 rfl, h30.at_ 5 rfl, trivial⟩ ?_
  refine pR_v 20 (some 59) (Value.agg (vb (kl K13)).toArray) 8388607 rfl hs30 ⟨h30.at_ 2 rfl, h30.at_ 1 rfl, h30.at_ 5 rfl, trivial⟩ (fun W hW => e_loads hW.1 28 (.tmp 4) (by kernel_rfl) 0 (vb (kl K13)) (by kernel_rfl) (by kernel_rfl) (by kernel_rfl)) ?_
  refine pR_v 23 (some 62) (Value.agg (vb (kl K5)).toArray) 16777215 rfl hs30 ⟨h30.at_ 2 rfl, h30.at_ 1 rfl, h30.at_ 5 rfl, trivial⟩ (fun W hW => e_loads hW.2.2.1 28 (.tmp 2) (by kernel_rfl) 0 (vb (kl K5)) (by kernel_rfl) (by kernel_rfl) (by kernel_rfl)) ?_
  refine pR_to 24 (some 63) 33554431 rfl hs30 (x_derive h30 4 rfl K5 (⟨#[97]⟩) (by kernel_rfl) (by rw [e20]; decide)) ?_
  rintro _ w31 ⟨K31, F31, s31, rfl, hK31, hs31, h31⟩
  refine ⟨fun _ => ⟨h31.at_ 2 rfl, h31.at_ 1 rfl, h31.at_ 5 rfl, trivial⟩, ?_⟩
  have e31 : s31 = (⟨[SFrom.fresh, deriveF (mkB 107 1) ⟨#[97]⟩, deriveF (mkB 107 2) ⟨#[117, 115, 101]⟩, deriveF (mkB 107 2) ⟨#[110, 101, 120, 116]⟩, deriveF (mkB 107 4) ⟨#[117, 115, 101]⟩], [], [], [(deriveF (mkB 107 1) ⟨#[97]⟩, 2), (deriveF (mkB 107 2) ⟨#[117, 115, 101]⟩, 3), (deriveF (mkB 107 2) ⟨#[110, 101, 120, 116]⟩, 4), (deriveF (mkB 107 4) ⟨#[117, 115, 101]⟩, 5)]⟩ : STab) := (by rw [hs31, e20, f5]; kernel_rfl)
  have f31 : kl K31 = mkB 107 2 := (by rw [hK31, e20, f5]; kernel_rfl)
  refine pR_to 25 (some 64) 67108863 rfl hs30 (x_derive h31 4 rfl K31 (⟨#[117, 115, 101]⟩) (by kernel_rfl) (by rw [e31]; decide)) ?_
  rintro _ w32 ⟨K32, F32, s32, rfl, hK32, hs32, h32⟩
  refine ⟨fun _ => ⟨h32.at_ 2 rfl, h32.at_ 1 rfl, h32.at_ 5 rfl, trivial⟩, ?_⟩
  have e32 : s32 = (⟨[SFrom.fresh, deriveF (mkB 107 1) ⟨#[97]⟩, deriveF (mkB 107 2) ⟨#[117, 115, 101]⟩, deriveF (mkB 107 2) ⟨#[110, 101, 120, 116]⟩, deriveF (mkB 107 4) ⟨#[117, 115, 101]⟩], [], [], [(deriveF (mkB 107 1) ⟨#[97]⟩, 2), (deriveF (mkB 107 2) ⟨#[117, 115, 101]⟩, 3), (deriveF (mkB 107 2) ⟨#[110, 101, 120, 116]⟩, 4), (deriveF (mkB 107 4) ⟨#[117, 115, 101]⟩, 5)]⟩ : STab) := (by rw [hs32, e31, f31]; kernel_rfl)
  have f32 : kl K32 = mkB 107 3 := (by rw [hK32, e31, f31]; kernel_rfl)
  refine pR_v 26 (some 65) (Value.bool true) 134217727 rfl hs30 ⟨h32.at_ 2 rfl, h32.at_ 1 rfl, h32.at_ 5 rfl, trivial⟩ (fun W hW => e_keq K13 K32 28 28 (.tmp 59) (.tmp 64) (by kernel_rfl) (by kernel_rfl) (by kernel_rfl) (by kernel_rfl) (by kernel_rfl) true (by rw [f13, f32]; kernel_rfl) _) ?_
  refine pR_p 15 [27, 28, 29] [(68, (pt cb9 0)), (67, (Value.bool true)), (66, (Value.bool true))] 1073741823 hs30 ⟨h32.at_ 2 rfl, h32.at_ 1 rfl, h32.at_ 5 rfl, trivial⟩ ?_
  refine pR_to 30 (some 69) 2147483647 rfl hs30 (x_repochB h32 3 zKey (by kernel_rfl) rfl (by kernel_rfl)) ?_
  rintro _ w33 ⟨rfl, h33⟩
  refine ⟨fun _ => ⟨h33.at_ 2 rfl, h33.at_ 1 rfl, h33.at_ 5 rfl, trivial⟩, ?_⟩
  refine pR_p 9 [31, 32, 33, 34, 36] [(75, (Value.agg (vb (List.replicate 16 0)).toArray)), (73, (pt cb9 0)), (72, (Value.bool true)), (71, (Value.bool true)), (70, (Value.bool true))] 103079215103 hs30 ⟨h33.at_ 2 rfl, h33.at_ 1 rfl, h33.at_ 5 rfl, trivial⟩ ?_
  refine pR_to 35 (some 74) 137438953471 rfl hs30 (x_rslotB h33 3 zKey (by kernel_rfl) rfl (by kernel_rfl)) ?_
  rintro _ w34 ⟨rfl, h34⟩
  refine ⟨fun _ => ⟨h34.at_ 2 rfl, h34.at_ 1 rfl, h34.at_ 5 rfl, trivial⟩, ?_⟩
  refine pR_v 37 (some 76) (Value.bool true) 274877906943 rfl hs30 ⟨h34.at_ 2 rfl, h34.at_ 1 rfl, h34.at_ 5 rfl, trivial⟩ (fun W hW => e_keqB zKey (List.replicate 16 0) (by kernel_rfl) (by kernel_rfl) 28 28 (.tmp 74) (.tmp 75) (by kernel_rfl) (by kernel_rfl) (by kernel_rfl) (by kernel_rfl) (by kernel_rfl) true (by kernel_rfl) _) ?_
  refine pR_p 4 [38, 39, 40] [(79, (pt cb9 0)), (78, (Value.bool true)), (77, (Value.bool true))] 2199023255551 hs30 ⟨h34.at_ 2 rfl, h34.at_ 1 rfl, h34.at_ 5 rfl, trivial⟩ ?_
  refine pR_to 41 (some 80) 4398046511103 rfl hs30 (x_rnextc h34 3 zKey (by kernel_rfl) rfl (by kernel_rfl)) ?_
  rintro _ w35 ⟨rfl, h35⟩
  refine ⟨fun _ => ⟨h35.at_ 2 rfl, h35.at_ 1 rfl, h35.at_ 5 rfl, trivial⟩, ?_⟩
  refine pR_p 1 [42, 43] [(82, (Value.bool true)), (81, (Value.bool true))] 17592186044415 hs30 ⟨h35.at_ 2 rfl, h35.at_ 1 rfl, h35.at_ 5 rfl, trivial⟩ ?_
  refine pR_to 44 (some 0) 35184372088831 rfl hs30 (OpTo.run (Value.bool true) (pureOp_run (by kernel_rfl) _) (R := fun v w => v = (Value.bool true) ∧ w = w35) ⟨rfl, rfl⟩) ?_
  rintro _ _ ⟨rfl, rfl⟩
  refine ⟨fun h => absurd h (by decide), ?_⟩
  refine pR_done hs30 ?_ _
  refine seq_n hK29 ?_
  refine wp_ret ?_
  refine post_1 rfl (by kernel_rfl) (rtmp (v := (Value.bool true)) (by kernel_rfl)) ?_
  exact ⟨rfl, h35.below0⟩
end Go.Proofs.Ytpkelokaammmjaa
end
/-! Steps of the walk of RatchetBack. -/
section
namespace Go.Proofs.Ytpkelokaammmjaa
open Go.RowKit Go.QT
section
variable {F0 F : Nat → Prop} {w0 w : World} {ro rs rest : List Res} {vs : List Value} {ms : List Bytes} {v : Value} {b : Bytes} {o : Oper} {a : Act} {tb : Nat} {s : STab} {xs ys : List (List Value)}
/-- One more row of bytes. -/
theorem sbs_snoc (hn : vs.length = ms.length) (h : Hp F0 w0 w ro (rSB v b :: rSBs vs ms :: rest)) : Hp F0 w0 w ro (rSBs (vs ++ [v]) (ms ++ [b]) :: rest) := by
  have h1 : SB w v b := h.own 0 _ rfl
  have h2 : (rSBs vs ms).Φ w := h.own 1 _ rfl
  have sn : ∀ (k : Nat) (u : Value) (y : Bytes), (vs ++ [v])[k]? = some u → (ms ++ [b])[k]? = some y → (vs[k]? = some u ∧ ms[k]? = some y) ∨ (u = v ∧ y = b) := by
    intro k u y hu hy
    by_cases hk : k < vs.length
    · rw [List.getElem?_append_left hk] at hu
      rw [List.getElem?_append_left (by omega)] at hy
      exact .inl ⟨hu, hy⟩
    · rw [List.getElem?_append_right (by omega)] at hu
      rw [List.getElem?_append_right (by omega)] at hy
      have e0 : k - vs.length = 0 := by have := (List.getElem?_eq_some_iff.1 hu).1; simp at this; omega
      rw [e0] at hu
      rw [show k - ms.length = 0 by omega] at hy
      injection hu with hu; injection hy with hy
      exact .inr ⟨hu.symm, hy.symm⟩
  refine Hp.pack (ps := [rSB v b, rSBs vs ms]) h (rSBs _ _) (fun k u y hu hy => ?_) (fun q hq => ?_)
  · rcases sn k u y hu hy with ⟨hu, hy⟩ | ⟨rfl, rfl⟩
    · exact h2 k u y hu hy
    · exact h1
  · obtain ⟨k, u, y, hu, hy, hne, hq⟩ := hq
    rcases sn k u y hu hy with ⟨hu, hy⟩ | ⟨rfl, rfl⟩
    · exact ⟨1, _, rfl, k, u, y, hu, hy, hne, hq⟩
    · exact ⟨0, _, rfl, hne, hq⟩
theorem mark_join {i nb : Nat} (hnb : nb = i) (hn : vs.length = i) (h : Hp F0 w0 w ro (rSB v (mkB 98 (nb + 1)) :: rSBs vs (rbMarks i) :: rest)) : Hp F0 w0 w ro (rSBs (vs ++ [v]) (rbMarks (i + 1)) :: rest) := by
  subst hnb
  rw [rbMarks_succ]
  exact sbs_snoc (by rw [rbMarks_len]; exact hn) h
theorem Hp.nilSBsS (h : Hp F0 w0 w ro rs) : Hp F0 w0 w ro (rSBs [] [] :: rs) :=
  h.newS (Below.refl _ _) _ (fun i v l h1 _ => by simp at h1) (fun q hq => by obtain ⟨i, v, l, h1, _⟩ := hq; simp at h1)
/-- Seal, its mark among the things of one's own. -/
theorem x_sealB (h : Hp F0 w0 w ro rs) (i : Nat) (hi : rs[i]? = some (rTab F tb s)) (K : Fin 16 → UInt8) (u : Int) (l : Bytes) (bv : Value) (hp : pureVal Try.prog (execOp a.eval o) = some (.enter 10 #[pt tb 0, .agg (vb (kl K)).toArray, .int .i64 u, bv])) (hb : SB w bv l) (hl : l.length ≤ 1000000) (hn : s.boxes.length < 1000000) :
    OpTo Try.prog o a w (fun u' w' => ∃ A cc F' s', u' = .slice A 16 cc ∧ s' = s.seal (kl K) u l ∧ Hp F0 w0 w' ro (rSB (.slice A 16 cc) (mkB 98 (s.boxes.length + 1)) :: rs.set i (rTab F' tb s'))) :=
  OpTo.enter 10 [pt tb 0, .agg (vb (kl K)).toArray, .int .i64 u, bv] hp (seal_any F tb s (kl K) u l bv w (h.own i _ hi) (kl_len K) hb hl hn) fun e w' hq => by
    obtain ⟨v, F', he, hsb, hT, h1, h2, hf, hn⟩ := hq
    obtain ⟨A, cc, rfl, hc1, hc2, hcell⟩ := hsb
    have h3 := h.upd i hi hf (rTab F' tb (s.seal (kl K) u l)) hT h1
    have hil : i < rs.length := (List.getElem?_eq_some_iff.1 hi).1
    refine ⟨_, he, A, cc, F', _, by rw [mkB_len], rfl, h3.addS _ ⟨A, cc, by rw [mkB_len], by rw [mkB_len] at hc1; rw [mkB_len]; exact hc1, hc2, hcell⟩ (fun q hq => .inr (Nat.le_trans h.size (hn q hq.2).1)) (fun j t ht q hq1 hq2 => ?_) (fun j t ht q hq1 hq2 => ?_)⟩
    · by_cases e : j = i
      · subst e
        rw [List.getElem?_set_self hil] at ht
        injection ht with ht
        subst ht
        exact (hn q hq1.2).2 hq2
      · rw [List.getElem?_set_ne (Ne.symm e)] at ht
        exact absurd (t.lt (h.own j t ht) q hq2) (Nat.not_lt.2 (hn q hq1.2).1)
    · exact absurd (t.lt (h.red j t ht) q hq2) (Nat.not_lt.2 (hn q hq1.2).1)
theorem Hp.apartL (h : Hp F0 w0 w ro rs) (i j k : Nat) {r t : Res} {vs : List Value} {ls : List Bytes} {v : Value} {b : Bytes} (hi : rs[i]? = some r) (hj : rs[j]? = some t) (hk : rs[k]? = some (rSBs vs ls)) (h1 : decide (k ≠ i) = true) (h2 : decide (k ≠ j) = true) {x : Nat} (hv : vs[x]? = some v) (hl : ls[x]? = some b) : Apart w v b r t :=
  h.apartS i j k hi hj hk h1 h2 ((h.own k _ hk) x v b hv hl) (fun _ hq => ⟨x, v, b, hv, hl, hq.1, hq.2⟩)
/-- append of some elements, which lie in a block of their own. -/
theorem x_pushN (h : Hp F0 w0 w ro rs) (i j : Nat) {E : TypeId} {sz : Nat} {v : Value} {g : Nat} {T : TypeId} {news : List Value} (hi : rs[i]? = some (rOV E sz v xs)) (hj : rs[j]? = some (rBlk g T news))
    (s x : Operand) (t : TypeId) (ho : o.op = .call { callee := .builtin .append, args := #[s, x], argTypes := #[t, t] }) (bytes : Nat) (z : Value) (ht : Try.prog.underlying t = some (.slice E)) (hinf : (Try.prog.info? E).map (fun i => (i.zero, i.size, i.bytes)) = some (some z, sz, bytes))
    (hzs : z.cells.size = sz) (hsz : decide (0 < sz) = true) (hs : a.eval s = v) (m c : Nat) (hx : a.eval x = .slice (some ⟨g, 0, none⟩) m c) (hm : ys.length = m) (hy : news = ys.flatten) (hyl : ∀ y ∈ ys, y.length = sz) (h1 : news.all (·.oneCell') = true)
    (hlen : (xs.length + m) * bytes ≤ 140737488355328) (hlen2 : xs.length + m ≤ maxLen) (zs : List (List Value)) (n : Nat) (hzs' : zs = xs ++ ys) (hn : zs.length = n) :
    OpTo Try.prog o a w (fun u w' => ∃ A cc, u = .slice A n cc ∧ Hp F0 w0 w' ro (rs.set i (rOV E sz (.slice A n cc) zs))) := by
  subst hzs'; subst hn; subst hm; subst hy
  have hv : OV w 0 E sz v xs := h.own i _ hi
  have hb : Blk w g T ys.flatten := h.own j _ hj
  obtain ⟨i0, hi0, hz0, hz1, hz2⟩ := info_parts hinf
  have hfl : ys.flatten.length = ys.length * sz := by
    clear hb hj h1 hx hlen hlen2
    induction ys with
    | nil => simp
    | cons y ys ih =>
      rw [List.flatten_cons, List.length_append, hyl y (by simp), ih (fun z hz => hyl z (by simp [hz])), List.length_cons, Nat.add_mul]
      omega
  have hr : Reads w w.heap.size sz (some ⟨g, 0, none⟩) ys.length ys.flatten := ⟨hfl, fun _ => ⟨_, rfl, hb.lt, fun j u hu => by rw [Addr.add_mid, Nat.zero_add, hb.cell, hu]⟩⟩
  obtain ⟨v', w', hrun, h2, h3, h4⟩ := run_append_any (P := Try.prog) w 0 t o.type E i0 z sz bytes ht hi0 hz0 hz1 hz2 hzs (of_decide_eq_true hsz) v xs.length xs.flatten hv.own w.heap.size (some ⟨g, 0, none⟩) ys.length c ys.flatten hr (fun u hu => List.all_eq_true.1 h1 u hu) hlen2 hlen (Nat.zero_le _)
  have h2' : OV w' 0 E sz v' (xs ++ ys) := by
    refine ⟨by simpa using h2, ?_, ?_⟩
    · intro y hy
      rcases List.mem_append.1 hy with hy | hy
      · exact hv.len y hy
      · exact hyl y hy
    · intro y hy u hu
      rcases List.mem_append.1 hy with hy | hy
      · exact hv.one y hy u hu
      · have := List.all_eq_true.1 h1 u (List.mem_flatten.2 ⟨y, hy, hu⟩)
        exact this
  obtain ⟨A', c', e, _, _⟩ := h2'.form
  have hrun' : (execOp a.eval o).run Try.prog w = .ok (.value v') w' := by
    unfold execOp
    simp only [ho, resolve, invoke, builtin, Sem.run_bind, Sem.run_pure, Result.andThen_ok, List.map_toArray, List.map_cons, List.map_nil, hs, hx, hrun]
  rw [e] at h2' hrun'
  refine OpTo.run _ hrun' ⟨A', c', rfl, h.upd i hi (Fr.of_grown h3 (fun q hq => .inl hq)) _ h2' (fun q hq => ?_)⟩
  rcases h4 with h4 | h4
  · left; show v.ownBlock = some q; rw [← h4, e]; exact hq
  · right
    have : Value.ownBlock (.slice A' (xs ++ ys).length c') = some q := hq
    rw [← e, h4] at this
    injection this with this
    omega
end
section
variable {s : STab} {n T i j : Nat} {S : KM} {N Lk Lb : List Bytes} {k : Bytes}
theorem WS.sawMark (h : WSl s (Lk ++ marksIn 107 k) (Lb ++ marksIn 98 k) N S) (hk : k = mkB 98 n) (hn : n ≤ 1099511627776) : WSl s Lk (Lb ++ [k]) N S := by
  subst hk
  rw [marksIn_other (.inr (.inl rfl)) hn (by decide), marksIn_same (.inr (.inl rfl)) hn, List.append_nil] at h
  exact h
theorem WS.lists {Lk' Lb' N' : List Bytes} (h : WSl s Lk Lb N S) (h1 : Lk = Lk') (h2 : Lb = Lb') (h3 : N = N') : WSl s Lk' Lb' N' S := by subst h1; subst h2; subst h3; exact h
/-- What was kept, and what was used. -/
def rbOld (i : Nat) : List Bytes := (List.range i).flatMap fun j => [mkB 107 (2 * j + 2), mkB 107 (2 * j + 3)]
theorem rbOld_succ : rbOld (i + 1) = rbOld i ++ [mkB 107 (2 * i + 2), mkB 107 (2 * i + 3)] := by
  unfold rbOld
  rw [List.range_succ, List.flatMap_append]
  simp
theorem rbOld_len : (rbOld i).length = 2 * i := by
  induction i with
  | zero => rfl
  | succ i ih => rw [rbOld_succ, List.length_append, ih]; simp; omega
theorem rbOld_at {q : Nat} (h : q < 2 * i) : ∃ K m, (rbOld i)[q]? = some (kl K) ∧ kl K = mkB 107 m ∧ 2 ≤ m ∧ m < 2 * i + 2 := by
  have hq : q < (rbOld i).length := by rw [rbOld_len]; exact h
  have hm : (rbOld i)[q] ∈ rbOld i := List.getElem_mem hq
  unfold rbOld at hm
  obtain ⟨j, hj, hx⟩ := List.mem_flatMap.1 hm
  have hj := List.mem_range.1 hj
  have hk : ∃ m, (rbOld i)[q] = mkB 107 m ∧ 2 ≤ m ∧ m < 2 * i + 2 := by
    rcases List.mem_cons.1 hx with hx | hx
    · exact ⟨2 * j + 2, hx, by omega, by omega⟩
    · exact ⟨2 * j + 3, List.mem_singleton.1 hx, by omega, by omega⟩
  obtain ⟨m, e, h1, h2⟩ := hk
  obtain ⟨K, hK⟩ := kl_of (mkB 107 m) (mkB_len _ _)
  exact ⟨K, m, by rw [List.getElem?_eq_getElem hq, e, hK], hK.symm, h1, h2⟩
theorem Rb.yes (hr : RbI s n) (hn : n < 900) (hb : s.boxes = rbBoxes T) (hT : T < 100) (h2 : 2 * T + 2 ≤ n) (hl : Lk = [mkB 107 (2 * T + 2)]) (hk : k = mkB 107 i) (h3 : 2 * T + 2 ≤ i) (h4 : i ≤ n) : Knl0 s Lk Lb 0 k :=
  ((Rb.known hr.ks hn hb hT h2 hl).1 k).2 ⟨i, h3, h4, hk⟩
theorem Rb.no (hr : RbI s n) (hn : n < 900) (hb : s.boxes = rbBoxes T) (hT : T < 100) (h2 : 2 * T + 2 ≤ n) (hl : Lk = [mkB 107 (2 * T + 2)]) (hk : k = mkB 107 i) (h3 : i < 2 * T + 2) : ¬ Knl0 s Lk Lb 0 k := fun h => by
  obtain ⟨j, h5, h6, e⟩ := ((Rb.known hr.ks hn hb hT h2 hl).1 k).1 h
  rw [hk] at e
  have := mkB_inj (by omega) (by omega) e
  omega
theorem Rb.says (hr : RbI s n) (hn : n < 900) (hb : s.boxes = rbBoxes T) (hT : T < 32) (h2 : 2 * T + 2 ≤ n) (hl : Lk = [mkB 107 (2 * T + 2)]) (hN : N = rbMarks T) : ∀ S', MSl s Lk Lb N S' → (S'.al.any fun x => standsB x [115, 97, 105, 100]) = false := fun S' hM => by
  rw [List.any_eq_false]
  intro x hx
  rcases hM.al2 x hx with hx | ⟨k, hk, _⟩
  · subst hN
    unfold rbMarks at hx
    obtain ⟨j, hj, rfl⟩ := List.mem_map.1 hx
    have := said_no j (by have := List.mem_range.1 hj; omega)
    show ¬ standsB (mkB 98 (j + 1)) said = true
    rw [this]
    simp
  · exact absurd ((hM.iff.2.2 k).1 hk) ((Rb.known hr.ks hn hb (by omega) h2 hl).2 k)
theorem Rb.opens (hr : RbI s n) (hn : n < 900) (hb : s.boxes = rbBoxes T) (hT : T < 100) (h2 : 2 * T + 2 ≤ n) (hl : Lk = [mkB 107 (2 * T + 2)]) : ¬ Knl0 s Lk Lb 2 k := (Rb.known hr.ks hn hb hT h2 hl).2 k
end
end Go.Proofs.Ytpkelokaammmjaa
end
/-! The walk of RatchetBack: true. -/
section
namespace Go.Proofs.Ytpkelokaammmjaa
open Go.RowKit Go.QT
set_option maxRecDepth 100000 in
set_option maxHeartbeats 4000000 in
theorem ratchetBack_any (t u : Int) (w : World) : Calls Try.prog 3 #[Value.int .i64 t, Value.int .i64 u] w fun e w' => e = .returned (.bool true) ∧ Below w.heap.size w w' := by
  have h0 := Hp.nil (fun _ => False) w
  refine enter 126 Try.func3 rfl rfl ?_
  refine wp_reset 128 [(0, (Value.int .i64 t)), (1, (Value.int .i64 u))] (fun x0 => ?_)
  refine wp_seq_k ?_
  intro K1 hK1
  refine reg_lit ?_
  refine wq_p 1 [(4, (Value.bool false))] ?_
  refine wl_end rfl ?_
  refine seq_n hK1 ?_
  refine wp_seq_k ?_
  intro K2 hK2
  refine wp_seq_k ?_
  intro K3 hK3
  refine reg_lit ?_
  refine wq_to (some 20) (OpTo.enter 4 [] (by kernel_rfl) (ralive_any _) (R := fun u w' => u = Value.bool true ∧ Below w.heap.size w w') (fun e w' hq => ⟨_, hq.1, rfl, hq.2⟩)) ?_
  rintro _ w4 ⟨rfl, hb4⟩
  have h4 := h0.below hb4
  refine wq_p 1 [(21, (Value.bool false))] ?_
  refine wl_end rfl ?_
  refine seq_n hK3 ?_
  refine wp_cond_false (by kernel_rfl) ?_
  refine wp_skip ?_
  refine seq_n hK2 ?_
  refine wp_seq_k ?_
  intro K5 hK5
  refine reg_lit ?_
  refine wq_to (some 22) (x_snew h4 (by kernel_rfl)) ?_
  rintro _ w6 ⟨tb6, F6, rfl, h6⟩
  refine wq_p 1 [(5, (pt tb6 0))] ?_
  refine wl_end rfl ?_
  refine seq_n hK5 ?_
  refine wp_seq_k ?_
  intro K7 hK7
  refine reg_lit ?_
  refine wq_p 3 [(25, (pt tb6 0)), (24, (Value.iface 23 (pt tb6 0))), (23, (pt tb6 0))] ?_
  refine wq_to (some 26) (x_fresh h6 0 rfl  (by kernel_rfl) (by decide)) ?_
  rintro _ w8 ⟨K8, F8, s8, rfl, hK8, hs8, h8⟩
  have hR8 := RbI.zero hs8
  have hf1 : kl K8 = mkB 107 1 := hK8
  have hB8 : s8.boxes = rbBoxes 0 := by rw [hs8]; rfl
  refine wq_to (some 27) (x_rnew h8 0 rfl K8 (⟨#[120]⟩) (by kernel_rfl) (by rw [hR8.ks, rbKeys_len]; omega)) ?_
  rintro _ w9 ⟨cb9, K9, F9, s9, rfl, hK9, hs9, h9⟩
  obtain ⟨hR9, hn9, hb9⟩ := hR8.step (by omega) (by omega) (by rw [hf1]; exact rbK_x) hs9
  have hB9 := hb9.trans hB8
  have hk9 : kl K9 = mkB 107 (2) := by rw [hK9, hn9]
  refine wq_p 1 [(6, (pt cb9 0))] ?_
  refine wl_end rfl ?_
  refine seq_n hK7 ?_
  refine wp_seq_k ?_
  intro K10 hK10
  refine reg_lit ?_
  refine wq_to (some 28) (x_bs0 h9 28 16 (by kernel_rfl)) ?_
  rintro _ w11 ⟨A11, rfl, h11⟩
  refine wq_p 1 [(7, (Value.slice A11 0 0))] ?_
  refine wl_end rfl ?_
  refine seq_n hK10 ?_
  refine wp_seq_k ?_
  intro K12 hK12
  refine reg_lit ?_
  refine wq_to (some 29) (x_bs0 h11 35 1 (by kernel_rfl)) ?_
  rintro _ w13 ⟨A13, rfl, h13⟩
  refine wq_p 1 [(8, (Value.slice A13 0 0))] ?_
  refine wl_end rfl ?_
  refine seq_n hK12 ?_
  refine wp_seq_k ?_
  intro K14 hK14
  refine wp_seq_k ?_
  intro K15 hK15
  refine wp_reset 128 [(0, (Value.int .i64 t)), (1, (Value.int .i64 u)), (4, (Value.bool false)), (5, (pt tb6 0)), (6, (pt cb9 0)), (7, (Value.slice A11 0 0)), (8, (Value.slice A13 0 0)), (21, (Value.bool false))] (fun x16 => ?_)
  have h17 := h13.nilSBsS
  
  refine reg_lit ?_
  refine wq_p 1 [(30, (Value.int .i64 t))] ?_
  obtain ⟨M18, hM18, hb18⟩ := and_mask t 31 (by decide)
  refine wq_v (some 31) (Value.int .i64 ((M18 : Int))) (eq_is (v := Value.int .i64 (bits .and .i64 t 31)) (by kernel_rfl) (congrArg (Value.int .i64) hM18)) ?_
  refine wq_p 1 [(32, (Value.int .i64 0))] ?_
  refine wl_end rfl ?_
  refine seq_n hK15 ?_
  refine wp_block ?_
  refine wp_loopm (fun mM xX aA wL => ∃ (i : Nat) (K : Fin 16 → UInt8) (s1 : STab) (F1 : Nat → Prop) (A1 : Option Addr) (c1 : Nat) (A2 : Option Addr) (c2 : Nat) (mv : List Value), (i ≤ M18) ∧ (RbI s1 (2 * (i) + 2)) ∧ (s1.boxes = rbBoxes (i)) ∧ (kl K = mkB 107 (2 * (i) + 2)) ∧ ((mv : List Value).length = i) ∧ mM = M18 - (i) ∧ aA = patch xX 128 [(0, (Value.int .i64 t)), (1, (Value.int .i64 u)), (5, (pt tb6 0)), (6, (pt cb9 0)), (7, (Value.slice A1 ((2 * i)) c1)), (8, (Value.slice A2 i c2)), (21, (Value.bool false)), (31, (Value.int .i64 ((M18 : Int)))), (32, (Value.int .i64 ((i : Int))))] ∧ Hp (fun _ => False) w wL [] [rBlk cb9 55 ([(Value.iface 23 (pt tb6 0))] ++ vb (kl K) ++ [(Value.int .i64 ((i : Int))), (Value.bool false)]), rOV 28 16 ((Value.slice A1 ((2 * i)) c1)) ((rbOld (i)).map vb), rOV 35 1 ((Value.slice A2 i c2)) (mv.map fun v => [v]), rSBs mv (rbMarks (i)), rTab F1 tb6 s1]) ⟨_, 0, K9, s9, F9, A11, 0, A13, 0, (([] : List Value)), (by omega), hR9, hB9, hk9, rfl, rfl, (patch_eq _ 128 _ (by kernel_rfl) (by kernel_rfl) (by kernel_rfl)), h17.sel [3, 2, 1, 0, 4] [] (by kernel_rfl) rfl rfl⟩ ?_
  rintro _ x19 _ w19 ⟨i, K, s1, F1, A1, c1, A2, c2, mv, hi, hR, hB, hK1, hmv, rfl, rfl, h19⟩
  have hKc := hK1
  have hbl : s1.boxes.length = i := by rw [hB, rbBoxes_len]
  refine wp_seq_k ?_
  intro K20 hK20
  refine reg_lit ?_
  refine wq_p 1 [(33, (Value.bool (decide ((i : Int) < (M18 : Int)))))] ?_
  refine wl_end rfl ?_
  refine seq_n hK20 ?_
  refine wp_seq_k ?_
  intro K21 hK21
  refine wp_if ((i : Int) < (M18 : Int)) (by kernel_rfl) (fun b22 => ?_) (fun b22 => ?_)
  ·
   refine wp_skip ?_
   refine seq_n hK21 ?_
   refine wp_seq_k ?_
   intro K23 hK23
   refine wp_block ?_
   refine wp_seq_k ?_
   intro K24 hK24
   refine reg_lit ?_
   refine wq_p 1 [(35, (pt cb9 0))] ?_
   refine wq_to (some 36) (x_rkey h19 4 0 rfl rfl (by kernel_rfl) (by kernel_rfl) (by rw [hR.ks, rbKeys_len]; omega)) ?_
   rintro _ w25 ⟨K25, F25, s25, rfl, hK25, hs25, h25⟩
   obtain ⟨hR25, hn25, hb25⟩ := hR.step (by omega) (by omega) (by rw [hKc]; exact rbK_use (i := i) (by omega)) hs25
   have hB25 := hb25.trans hB
   have hk25 : kl K25 = mkB 107 (2 * i + 2 + 1) := by rw [hK25, hn25]
   refine wq_p 3 [(38, (Value.int .i64 0)), (37, (Value.agg (vb (kl K25)).toArray)), (34, (Value.tuple #[(Value.agg (vb (kl K25)).toArray), (Value.int .i64 0)]))] ?_
   refine wq_to (some 9) (x_new h25 28 (vb (List.replicate 16 0)) (fun r => pt r 0) (by kernel_rfl)) ?_
   rintro _ w26 ⟨g26, rfl, h26⟩
   refine wq_to none (x_stores h26 0 rfl 28 (.tmp 9) (.tmp 37) (by kernel_rfl) 0 (vb (kl K25)) (vb (kl K25)) (by kernel_rfl) (by kernel_rfl) (by kernel_rfl) (by kernel_rfl) (by kernel_rfl) (by kernel_rfl)) ?_
   rintro _ w27 h27
   refine wq_p 1 [(10, (Value.int .i64 0))] ?_
   refine wl_end rfl ?_
   refine seq_n hK24 ?_
   refine wp_seq_k ?_
   intro K28 hK28
   refine pR_go h27 6 (fun W => (rBlk g26 28 (vb (kl K25))).Φ W ∧ True) [(40, [7], 0), (41, [6], 0), (42, [40], 2), (43, [9], 0), (44, [41, 42], 12), (45, [39, 43], 21), (8, [44], 63)] rfl (fun _ d _ _ _ h => by cases d <;> exact h) ?_
   intro hs29 w29 h29
   refine pR_p 5 [0, 1] [(40, (pt cb9 0)), (39, (Value.slice A1 ((2 * i)) c1))] 3 hs29 ⟨h29.at_ 0 rfl, trivial⟩ ?_
   refine pR_v 3 (some 42) (Value.agg (vb (kl K25)).toArray) 11 rfl hs29 ⟨h29.at_ 0 rfl, trivial⟩ (fun W hW => e_loads hW.1 28 (.tmp 9) (by kernel_rfl) 0 (vb (kl K25)) (by kernel_rfl) (by kernel_rfl) (by kernel_rfl)) ?_
   refine pR_to 2 (some 41) 15 rfl hs29 (x_rslot h29 1 rfl (by kernel_rfl)) ?_
   rintro _ w30 ⟨rfl, h30⟩
   refine ⟨fun _ => ⟨h30.at_ 0 rfl, trivial⟩, ?_⟩
   refine pR_to 4 (some 43) 31 rfl hs29 (x_bs h30 28 (vb (kl K) ++ vb (kl K25)) 2 (by kernel_rfl)) ?_
   rintro _ w31 ⟨g31, rfl, h31⟩
   refine ⟨fun _ => ⟨h31.at_ 1 rfl, trivial⟩, ?_⟩
   refine pR_to 5 (some 44) 63 rfl hs29 (x_pushN (ys := [vb (kl K), vb (kl K25)]) h31 3 0 rfl rfl (.tmp 39) (.tmp 43) 30 (by kernel_rfl) 16 (Value.agg (vb (List.replicate 16 0)).toArray) (by kernel_rfl) (by kernel_rfl) (by kernel_rfl) (by kernel_rfl) (by kernel_rfl) 2 2 (by kernel_rfl) rfl (by simp) (by simp [kl_len]) (by kernel_rfl) (by rw [List.length_map, rbOld_len]; omega) (by rw [List.length_map, rbOld_len]; unfold maxLen; omega) ((rbOld (i + 1)).map vb) (2 * (i + 1)) (by rw [rbOld_succ, List.map_append, hK1, hk25]; rfl) (by rw [List.length_map, rbOld_len])) ?_
   rintro _ w32 ⟨A32, c32, rfl, h32⟩
   refine ⟨fun _ => ⟨h32.at_ 1 rfl, trivial⟩, ?_⟩
   refine pR_to 6 (some 7) 127 rfl hs29 (OpTo.run (Value.slice A32 ((2 * (i + 1))) c32) (pureOp_run (by kernel_rfl) _) (R := fun v w => v = (Value.slice A32 ((2 * (i + 1))) c32) ∧ w32 = w) ⟨rfl, rfl⟩) ?_
   rintro _ _ ⟨rfl, rfl⟩
   refine ⟨fun h => absurd h (by decide), ?_⟩
   refine pR_done hs29 ?_ _
   refine seq_n hK28 ?_
   refine wp_seq_k ?_
   intro K33 hK33
   refine reg_lit ?_
   refine wq_p 2 [(46, (pt tb6 0)), (45, (Value.slice A2 i c2))] ?_
   refine wq_v (some 47) (Value.agg (vb (kl K25)).toArray) (e_loads (h32.at_ 1 rfl) 28 (.tmp 9) (by kernel_rfl) 0 (vb (kl K25)) (by kernel_rfl) (by kernel_rfl) (by kernel_rfl)) ?_
   refine wq_to (some 48) (x_bsl h32 [115, 97, 105, 100] (by kernel_rfl)) ?_
   rintro _ w34 ⟨g34, rfl, hw34, hg34, hq34, h34⟩
   refine wq_to (some 49) (x_bcv hq34 [115, 97, 105, 100] hw34 g34 hg34 (.tmp 48) (by kernel_rfl) (by kernel_rfl) (by decide)) ?_
   rintro _ w35 ⟨rfl, h35⟩
   have hbl36 : s25.boxes.length = i := by rw [hB25, rbBoxes_len]
   refine wq_to (some 50) (x_sealB h35 6 rfl K25 1 ([115, 97, 105, 100]) (Value.slice (some ⟨g34, 0, none⟩) 4 4) (by kernel_rfl) (h35.rd 0 rfl) (by decide) (by omega)) ?_
   rintro _ w36 ⟨A36, c36, F36, s36, rfl, hs36, h36⟩
   have hR36 := hR25.seal hs36
   have hB36 : s36.boxes = rbBoxes (i + 1) := by rw [(seal_all hs36).1, hB25, rbBoxes_succ, hk25]; rfl
   refine wq_to (some 51) (x_bs h36 35 ([(Value.slice A36 16 c36)]) 1 (by kernel_rfl)) ?_
   rintro _ w37 ⟨g37, rfl, h37⟩
   refine wq_to (some 52) (x_pushG h37 6 0 rfl rfl (by kernel_rfl) (.tmp 45) (.tmp 51) 31 (by kernel_rfl) 24 (Value.slice none 0 0) (by kernel_rfl) (by kernel_rfl) (by kernel_rfl) (by kernel_rfl) (by kernel_rfl) 1 (by kernel_rfl) (by kernel_rfl) (by kernel_rfl) (by simp; omega) (by unfold maxLen; simp; omega) ((mv ++ [(Value.slice A36 16 c36)]).map fun v => [v]) ((i + 1)) (by simp) (by simp [hmv])) ?_
   rintro _ w38 ⟨A38, c38, rfl, h38⟩
   refine wq_p 1 [(8, (Value.slice A38 ((i + 1)) c38))] ?_
   refine wl_end rfl ?_
   refine seq_n hK33 ?_
   refine wp_seq_k ?_
   intro K39 hK39
   refine wp_reset 128 [(0, (Value.int .i64 t)), (1, (Value.int .i64 u)), (5, (pt tb6 0)), (6, (pt cb9 0)), (7, (Value.slice A32 ((2 * (i + 1))) c32)), (8, (Value.slice A38 ((i + 1)) c38)), (9, (pt g26 0)), (21, (Value.bool false)), (31, (Value.int .i64 ((M18 : Int)))), (32, (Value.int .i64 ((i : Int)))), (33, (Value.bool (decide ((i : Int) < (M18 : Int)))))] (fun x40 => ?_)
   refine reg_lit ?_
   refine wq_p 1 [(53, (pt cb9 0))] ?_
   refine wq_to (some 54) (x_rnext h38 8 4 rfl rfl (by kernel_rfl) (by kernel_rfl) (by rw [hR36.ks, rbKeys_len]; omega) (by omega) (by omega)) ?_
   rintro _ w41 ⟨K41, F41, s41, rfl, hK41, hs41, h41⟩
   obtain ⟨hR41, hn41, hb41⟩ := hR36.step (by omega) (by omega) (by rw [hKc]; exact rbK_next (i := i) (by omega)) hs41
   have hB41 := hb41.trans hB36
   have hk41 : kl K41 = mkB 107 (2 * i + 2 + 1 + 1) := by rw [hK41, hn41]
   refine wq_p 1 [(55, (Value.bool false))] ?_
   refine wl_end rfl ?_
   refine seq_n hK39 ?_
   refine wp_cond_false (by kernel_rfl) ?_
   refine wp_skip ?_
   refine blk_n ?_
   refine seq_n hK23 ?_
   have h42 := mark_join hbl36 hmv (h41.selS [1, 7, 4, 5, 6, 8] [rSB ((Value.slice A36 16 c36)) (mkB 98 (s25.boxes.length + 1)), rSBs mv (rbMarks (i)), rBlk cb9 55 ([(Value.iface 23 (pt tb6 0))] ++ vb (kl K41) ++ [(Value.int .i64 ((i : Int) + 1)), (Value.bool false)]), rOV 28 16 ((Value.slice A32 ((2 * (i + 1))) c32)) ((rbOld (i + 1)).map vb), rOV 35 1 ((Value.slice A38 ((i + 1)) c38)) ((mv ++ [(Value.slice A36 16 c36)]).map fun v => [v]), rTab F41 tb6 s41] (by kernel_rfl) rfl)
   
   refine reg_lit ?_
   refine wq_v (some 56) (Value.int .i64 ((i : Int) + 1)) (exec_add _ _ _ _ rfl ((i : Int)) 1 (by kernel_rfl) (by kernel_rfl) ((i : Int) + 1) rfl (by omega) (by omega) _) ?_
   refine wq_p 1 [(32, (Value.int .i64 ((i : Int) + 1)))] ?_
   refine wl_end rfl ?_
   refine ⟨M18 - (i + 1), (by omega), (i + 1), K41, s41, F41, A32, c32, A38, c38, ((mv ++ [(Value.slice A36 16 c36)])), (by omega), (by rw [show 2 * (i + 1) + 2 = 2 * i + 2 + 1 + 1 by omega]; exact hR41), hB41, (by rw [show 2 * (i + 1) + 2 = 2 * i + 2 + 1 + 1 by omega]; exact hk41), (by simp [hmv]), rfl, (patch_eq _ 128 _ (by kernel_rfl) (by kernel_rfl) (by kernel_rfl)), h42.sel [1, 2, 3, 0, 4] [] (by kernel_rfl) rfl rfl⟩
  ·
   refine wp_exit ?_
   refine seq_e ?_
   refine seq_e ?_
   refine blk_e ?_
   refine seq_n hK14 ?_
   refine wp_seq_k ?_
   intro K43 hK43
   refine reg_lit ?_
   refine wq_p 1 [(57, (pt tb6 0))] ?_
   refine wq_to (some 58) (x_knew (tb := tb6) h19 (by kernel_rfl)) ?_
   rintro _ w44 ⟨m44, p44, F44, rfl, hp44, h44⟩
   refine wq_p 1 [(11, (pt m44 0))] ?_
   refine wl_end rfl ?_
   refine seq_n hK43 ?_
   refine wp_seq_k ?_
   intro K45 hK45
   refine wp_seq_k ?_
   intro K46 hK46
   refine reg_lit ?_
   refine wq_p 3 [(61, (Value.int .i64 0)), (60, (Value.int .i64 ((i : Int)))), (59, (Value.slice A2 i c2))] ?_
   refine wl_end rfl ?_
   refine seq_n hK46 ?_
   refine wp_block ?_
   have hiT : i ≤ 31 := by omega
   refine wp_loopm (fun mM xX aA wL => ∃ (q : Nat) (F2 : Nat → Prop) (S2 : KM), (q ≤ i) ∧ (WSl s1 [] (rbMarks (q)) (rbMarks (q)) S2) ∧ mM = i - (q) ∧ aA = patch xX 128 [(0, (Value.int .i64 t)), (1, (Value.int .i64 u)), (5, (pt tb6 0)), (6, (pt cb9 0)), (7, (Value.slice A1 ((2 * i)) c1)), (8, (Value.slice A2 i c2)), (11, (pt m44 0)), (21, (Value.bool false)), (31, (Value.int .i64 ((M18 : Int)))), (32, (Value.int .i64 ((i : Int)))), (33, (Value.bool (decide ((i : Int) < (M18 : Int))))), (59, (Value.slice A2 i c2)), (60, (Value.int .i64 ((i : Int)))), (61, (Value.int .i64 ((q : Int))))] ∧ Hp (fun _ => False) w wL [] [rMind F2 none m44 p44 S2, rBlk cb9 55 ([(Value.iface 23 (pt tb6 0))] ++ vb (kl K) ++ [(Value.int .i64 ((i : Int))), (Value.bool false)]), rOV 28 16 ((Value.slice A1 ((2 * i)) c1)) ((rbOld (i)).map vb), rOV 35 1 ((Value.slice A2 i c2)) (mv.map fun v => [v]), rSBs mv (rbMarks (i)), rTab F1 tb6 s1]) ⟨_, 0, F44, (⟨[], [], [], []⟩), (by omega), (WS.emptyl (s := s1)), rfl, (patch_eq _ 128 _ (by kernel_rfl) (by kernel_rfl) (by kernel_rfl)), h44.sel [0, 1, 2, 3, 4, 5] [] (by kernel_rfl) rfl rfl⟩ ?_
   rintro _ x47 _ w47 ⟨q, F2, S2, hq, hW, rfl, rfl, h47⟩
   refine wp_seq_k ?_
   intro K48 hK48
   refine reg_lit ?_
   refine wq_p 1 [(62, (Value.bool (decide ((q : Int) < (i : Int)))))] ?_
   refine wl_end rfl ?_
   refine seq_n hK48 ?_
   refine wp_seq_k ?_
   intro K49 hK49
   refine wp_if ((q : Int) < (i : Int)) (by kernel_rfl) (fun b50 => ?_) (fun b50 => ?_)
   ·
    refine wp_skip ?_
    refine seq_n hK49 ?_
    refine wp_seq_k ?_
    intro K51 hK51
    refine wp_block ?_
    refine wp_seq_k ?_
    intro K52 hK52
    obtain ⟨ME, mcE, myE, hvE, hlE⟩ := sbsget (h47.at_ 4 rfl) (by rw [rbMarks_len]; exact hmv) (q) (by rw [rbMarks_len]; omega)
    have hmE : myE = mkB 98 (q + 1) := by
      rw [rbMarks_at (by omega)] at hlE
      injection hlE with hlE
      exact hlE.symm
    
    refine reg_lit ?_
    refine wq_v (some 63) (eAt A2 (q * 1 + 0)) (e_idxN (OV.rvn (h47.at_ 3 rfl)).2 q i (OV.rvn (h47.at_ 3 rfl)).1 (by omega) 31 (.tmp 59) (.tmp 61) (by kernel_rfl) .i64 (by kernel_rfl) (by kernel_rfl) 35 (by kernel_rfl) (by kernel_rfl) _) ?_
    refine wq_v (some 64) (Value.slice ME myE.length mcE) (e_elemN (OV.rvn (h47.at_ 3 rfl)).2 q 0 ([(Value.slice ME myE.length mcE)]) (by rw [List.getElem?_map, hvE]; rfl) 35 (.tmp 63) (by kernel_rfl) (Value.slice ME myE.length mcE) (by kernel_rfl) (by kernel_rfl) (by kernel_rfl)) ?_
    refine wq_p 1 [(13, (Value.slice ME myE.length mcE))] ?_
    refine wl_end rfl ?_
    refine seq_n hK52 ?_
    refine reg_lit ?_
    refine wq_p 2 [(66, (Value.slice ME myE.length mcE)), (65, (pt m44 0))] ?_
    refine wq_to (some 67) (x_see h47 0 5 rfl rfl (by kernel_rfl) hp44 (by kernel_rfl) (h47.apartL 0 5 4 rfl rfl rfl (by kernel_rfl) (by kernel_rfl) hvE hlE) hW (by rw [rbMarks_len]; omega) (Rb.sm hR.ks (by omega) hB (by omega)) (by rw [hmE]; show 16 ≤ 1000000; decide)) ?_
    rintro _ w53 ⟨F53, S53, rfl, hM53, h53⟩
    refine wl_end rfl ?_
    refine blk_n ?_
    refine seq_n hK51 ?_
    refine reg_lit ?_
    refine wq_v (some 68) (Value.int .i64 ((q : Int) + 1)) (exec_add _ _ _ _ rfl ((q : Int)) 1 (by kernel_rfl) (by kernel_rfl) ((q : Int) + 1) rfl (by omega) (by omega) _) ?_
    refine wq_p 1 [(61, (Value.int .i64 ((q : Int) + 1)))] ?_
    refine wl_end rfl ?_
    refine ⟨i - (q + 1), (by omega), (q + 1), F53, S53, (by omega), (WS.lists (WS.sawMark hM53.toWS hmE (by omega)) rfl (by rw [rbMarks_succ, hmE]) (by rw [rbMarks_succ, hmE])), rfl, (patch_eq _ 128 _ (by kernel_rfl) (by kernel_rfl) (by kernel_rfl)), h53.sel [0, 1, 2, 3, 4, 5] [] (by kernel_rfl) rfl rfl⟩
   ·
    refine wp_exit ?_
    refine seq_e ?_
    refine seq_e ?_
    refine blk_e ?_
    refine seq_n hK45 ?_
    refine wp_seq_k ?_
    intro K54 hK54
    refine reg_lit ?_
    refine wq_p 2 [(70, (pt cb9 0)), (69, (pt m44 0))] ?_
    refine wq_to (some 71) (x_rslot h47 1 rfl (by kernel_rfl)) ?_
    rintro _ w55 ⟨rfl, h55⟩
    refine wq_to (some 72) (x_learn h55 0 5 rfl rfl (by kernel_rfl) hp44 K (by kernel_rfl) hW (by rw [rbMarks_len]; omega) (Rb.sm hR.ks (by omega) hB (by omega))) ?_
    rintro _ w56 ⟨F56, S56, rfl, hM56, h56⟩
    refine wl_end rfl ?_
    refine seq_n hK54 ?_
    refine wp_seq_k ?_
    intro K57 hK57
    refine wp_seq_k ?_
    intro K58 hK58
    refine reg_lit ?_
    refine wq_p 1 [(73, (Value.int .i64 u))] ?_
    obtain ⟨M59, hM59, hb59⟩ := and_mask u 15 (by decide)
    refine wq_v (some 74) (Value.int .i64 ((M59 : Int))) (eq_is (v := Value.int .i64 (bits .and .i64 u 15)) (by kernel_rfl) (congrArg (Value.int .i64) hM59)) ?_
    refine wq_p 1 [(75, (Value.int .i64 0))] ?_
    refine wl_end rfl ?_
    refine seq_n hK58 ?_
    refine wp_block ?_
    have hqi : q = i := by omega
    have hW3 := WS.lists (Lk' := [mkB 107 (2 * i + 2)]) (Lb' := rbMarks i) (N' := rbMarks i) hM56.toWS (by rw [hK1]; rfl) (by rw [hqi]) (by rw [hqi])
    refine wp_loopm (fun mM xX aA wL => ∃ (j : Nat) (F3 : Nat → Prop) (S3 : KM) (K3 : Fin 16 → UInt8) (s3 : STab) (F4 : Nat → Prop) (e : Int), (j ≤ M59) ∧ (RbI s3 (2 * (i + (j)) + 2)) ∧ (s3.boxes = rbBoxes i) ∧ (kl K3 = mkB 107 (2 * (i + (j)) + 2)) ∧ ((e : Int) = ((i + (j) : Nat) : Int)) ∧ (WSl s3 [mkB 107 (2 * i + 2)] (rbMarks i) (rbMarks i) S3) ∧ mM = M59 - (j) ∧ aA = patch xX 128 [(0, (Value.int .i64 t)), (1, (Value.int .i64 u)), (5, (pt tb6 0)), (6, (pt cb9 0)), (7, (Value.slice A1 ((2 * i)) c1)), (8, (Value.slice A2 i c2)), (11, (pt m44 0)), (21, (Value.bool false)), (31, (Value.int .i64 ((M18 : Int)))), (32, (Value.int .i64 ((i : Int)))), (33, (Value.bool (decide ((i : Int) < (M18 : Int))))), (59, (Value.slice A2 i c2)), (60, (Value.int .i64 ((i : Int)))), (61, (Value.int .i64 ((q : Int)))), (62, (Value.bool (decide ((q : Int) < (i : Int))))), (74, (Value.int .i64 ((M59 : Int)))), (75, (Value.int .i64 ((j : Int))))] ∧ Hp (fun _ => False) w wL [] [rMind F3 none m44 p44 S3, rBlk cb9 55 ([(Value.iface 23 (pt tb6 0))] ++ vb (kl K3) ++ [(Value.int .i64 e), (Value.bool false)]), rTab F4 tb6 s3, rOV 28 16 ((Value.slice A1 ((2 * i)) c1)) ((rbOld (i)).map vb), rOV 35 1 ((Value.slice A2 i c2)) (mv.map fun v => [v]), rSBs mv (rbMarks (i))]) ⟨_, 0, F56, S56, K, s1, F1, ((i : Int)), (by omega), hR, hB, hK1, rfl, hW3, rfl, (patch_eq _ 128 _ (by kernel_rfl) (by kernel_rfl) (by kernel_rfl)), h56.sel [0, 1, 5, 2, 3, 4] [] (by kernel_rfl) rfl rfl⟩ ?_
    rintro _ x60 _ w60 ⟨j, F3, S3, K3, s3, F4, e, hj, hR3, hB3, hK3, he, hW4, rfl, rfl, h60⟩
    have hKc := hK3
    refine wp_seq_k ?_
    intro K61 hK61
    refine reg_lit ?_
    refine wq_p 1 [(76, (Value.bool (decide ((j : Int) < (M59 : Int)))))] ?_
    refine wl_end rfl ?_
    refine seq_n hK61 ?_
    refine wp_seq_k ?_
    intro K62 hK62
    refine wp_if ((j : Int) < (M59 : Int)) (by kernel_rfl) (fun b63 => ?_) (fun b63 => ?_)
    ·
     refine wp_skip ?_
     refine seq_n hK62 ?_
     refine wp_seq_k ?_
     intro K64 hK64
     refine wp_block ?_
     refine wp_seq_k ?_
     intro K65 hK65
     refine reg_lit ?_
     refine wq_p 1 [(78, (pt cb9 0))] ?_
     refine wq_to (some 79) (x_rkey h60 2 1 rfl rfl (by kernel_rfl) (by kernel_rfl) (by rw [hR3.ks, rbKeys_len]; omega)) ?_
     rintro _ w66 ⟨K66, F66, s66, rfl, hK66, hs66, h66⟩
     have hW66_m44 := WS.gmade (K0 := fun k => k ∈ ([mkB 107 (2 * i + 2)] : List Bytes)) (B0 := fun k => k ∈ (rbMarks i : List Bytes)) (hW4) hs66
     obtain ⟨hR66, hn66, hb66⟩ := hR3.step (by omega) (by omega) (by rw [hKc]; exact rbK_use (i := i + j) (by omega)) hs66
     have hB66 := hb66.trans hB3
     have hk66 : kl K66 = mkB 107 (2 * (i + j) + 2 + 1) := by rw [hK66, hn66]
     refine wq_p 3 [(81, (Value.int .i64 0)), (80, (Value.agg (vb (kl K66)).toArray)), (77, (Value.tuple #[(Value.agg (vb (kl K66)).toArray), (Value.int .i64 0)]))] ?_
     refine wq_to (some 14) (x_new h66 28 (vb (List.replicate 16 0)) (fun r => pt r 0) (by kernel_rfl)) ?_
     rintro _ w67 ⟨g67, rfl, h67⟩
     refine wq_to none (x_stores h67 0 rfl 28 (.tmp 14) (.tmp 80) (by kernel_rfl) 0 (vb (kl K66)) (vb (kl K66)) (by kernel_rfl) (by kernel_rfl) (by kernel_rfl) (by kernel_rfl) (by kernel_rfl) (by kernel_rfl)) ?_
     rintro _ w68 h68
     refine wq_p 1 [(15, (Value.int .i64 0))] ?_
     refine wl_end rfl ?_
     refine seq_n hK65 ?_
     refine wp_seq_k ?_
     intro K69 hK69
     
     refine reg_lit ?_
     refine wq_p 4 [(85, (pt m44 0)), (84, (Value.bool false)), (83, (Value.bool false)), (82, (Value.int .i64 0))] ?_
     refine wq_v (some 86) (Value.agg (vb (kl K66)).toArray) (e_loads (h68.at_ 0 rfl) 28 (.tmp 14) (by kernel_rfl) 0 (vb (kl K66)) (by kernel_rfl) (by kernel_rfl) (by kernel_rfl)) ?_
     refine wq_to (some 87) (mdec true (decK true (true_iff_ (Rb.yes hR66 (by omega) hB66 (by omega) (by omega) rfl hk66 (by omega) (by omega)))) (x_kkey h68 1 3 rfl rfl (by kernel_rfl) hp44 K66 (by kernel_rfl) hW66_m44 (by rw [rbMarks_len]; omega) (Rb.sm hR66.ks (by omega) hB66 (by omega)))) ?_
     rintro _ w70 ⟨F70, S70, rfl, hM70, h70⟩
     refine wq_p 5 [(92, (pt cb9 0)), (91, (pt m44 0)), (90, (Value.bool false)), (89, (Value.bool false)), (88, (Value.bool false))] ?_
     refine wq_to (some 93) (x_rslot h70 2 rfl (by kernel_rfl)) ?_
     rintro _ w71 ⟨rfl, h71⟩
     refine wq_to (some 94) (mdec true (decK true (true_iff_ (Rb.yes hR66 (by omega) hB66 (by omega) (by omega) rfl hK3 (by omega) (by omega)))) (x_kkey h71 1 3 rfl rfl (by kernel_rfl) hp44 K3 (by kernel_rfl) hM70.toWS (by rw [rbMarks_len]; omega) (Rb.sm hR66.ks (by omega) hB66 (by omega)))) ?_
     rintro _ w72 ⟨F72, S72, rfl, hM72, h72⟩
     refine wq_p 4 [(98, (pt cb9 0)), (97, (Value.bool false)), (96, (Value.bool false)), (95, (Value.bool false))] ?_
     refine wq_to (some 99) (x_rnext h72 3 2 rfl rfl (by kernel_rfl) (by kernel_rfl) (by rw [hR66.ks, rbKeys_len]; omega) (by omega) (by omega)) ?_
     rintro _ w73 ⟨K73, F73, s73, rfl, hK73, hs73, h73⟩
     have hW73_m44 := WS.gmade (K0 := fun k => k ∈ ([mkB 107 (2 * i + 2)] : List Bytes)) (B0 := fun k => k ∈ (rbMarks i : List Bytes)) (hM72.toWS) hs73
     obtain ⟨hR73, hn73, hb73⟩ := hR66.step (by omega) (by omega) (by rw [hKc]; exact rbK_next (i := i + j) (by omega)) hs73
     have hB73 := hb73.trans hB66
     have hk73 : kl K73 = mkB 107 (2 * (i + j) + 2 + 1 + 1) := by rw [hK73, hn73]
     refine wq_p 2 [(101, (Value.bool false)), (100, (Value.bool false))] ?_
     refine wl_end rfl ?_
     refine seq_n hK69 ?_
     refine wp_cond_false (by kernel_rfl) ?_
     refine wp_skip ?_
     refine blk_n ?_
     refine seq_n hK64 ?_
     refine wp_reset 128 [(0, (Value.int .i64 t)), (1, (Value.int .i64 u)), (5, (pt tb6 0)), (6, (pt cb9 0)), (7, (Value.slice A1 ((2 * i)) c1)), (8, (Value.slice A2 i c2)), (11, (pt m44 0)), (14, (pt g67 0)), (15, (Value.int .i64 0)), (21, (Value.bool false)), (31, (Value.int .i64 ((M18 : Int)))), (32, (Value.int .i64 ((i : Int)))), (33, (Value.bool (decide ((i : Int) < (M18 : Int))))), (59, (Value.slice A2 i c2)), (60, (Value.int .i64 ((i : Int)))), (61, (Value.int .i64 ((q : Int)))), (62, (Value.bool (decide ((q : Int) < (i : Int))))), (74, (Value.int .i64 ((M59 : Int)))), (75, (Value.int .i64 ((j : Int)))), (76, (Value.bool (decide ((j : Int) < (M59 : Int))))), (101, (Value.bool false))] (fun x74 => ?_)
     refine reg_lit ?_
     refine wq_v (some 102) (Value.int .i64 ((j : Int) + 1)) (exec_add _ _ _ _ rfl ((j : Int)) 1 (by kernel_rfl) (by kernel_rfl) ((j : Int) + 1) rfl (by omega) (by omega) _) ?_
     refine wq_p 1 [(75, (Value.int .i64 ((j : Int) + 1)))] ?_
     refine wl_end rfl ?_
     refine ⟨M59 - (j + 1), (by omega), (j + 1), F72, S72, K73, s73, F73, (e + 1), (by omega), (by rw [show 2 * (i + (j + 1)) + 2 = 2 * (i + j) + 2 + 1 + 1 by omega]; exact hR73), hB73, (by rw [show 2 * (i + (j + 1)) + 2 = 2 * (i + j) + 2 + 1 + 1 by omega]; exact hk73), (by omega), hW73_m44, rfl, (patch_eq _ 128 _ (by kernel_rfl) (by kernel_rfl) (by kernel_rfl)), h73.sel [1, 2, 3, 4, 5, 6] [] (by kernel_rfl) rfl rfl⟩
    ·
     refine wp_exit ?_
     refine seq_e ?_
     refine seq_e ?_
     refine blk_e ?_
     refine seq_n hK57 ?_
     refine wp_seq_k ?_
     intro K75 hK75
     refine wp_seq_k ?_
     intro K76 hK76
     refine reg_lit ?_
     refine wq_p 3 [(105, (Value.int .i64 0)), (104, (Value.int .i64 (((2 * i) : Int)))), (103, (Value.slice A1 ((2 * i)) c1))] ?_
     refine wl_end rfl ?_
     refine seq_n hK76 ?_
     refine wp_block ?_
     refine wp_loopm (fun mM xX aA wL => ∃ (y : Nat) (F5 : Nat → Prop) (S5 : KM), (y ≤ 2 * i) ∧ (WSl s3 [mkB 107 (2 * i + 2)] (rbMarks i) (rbMarks i) S5) ∧ mM = 2 * i - (y) ∧ aA = patch xX 128 [(0, (Value.int .i64 t)), (1, (Value.int .i64 u)), (5, (pt tb6 0)), (6, (pt cb9 0)), (7, (Value.slice A1 ((2 * i)) c1)), (8, (Value.slice A2 i c2)), (11, (pt m44 0)), (21, (Value.bool false)), (31, (Value.int .i64 ((M18 : Int)))), (32, (Value.int .i64 ((i : Int)))), (33, (Value.bool (decide ((i : Int) < (M18 : Int))))), (59, (Value.slice A2 i c2)), (60, (Value.int .i64 ((i : Int)))), (61, (Value.int .i64 ((q : Int)))), (62, (Value.bool (decide ((q : Int) < (i : Int))))), (74, (Value.int .i64 ((M59 : Int)))), (75, (Value.int .i64 ((j : Int)))), (76, (Value.bool (decide ((j : Int) < (M59 : Int))))), (103, (Value.slice A1 ((2 * i)) c1)), (104, (Value.int .i64 (((2 * i) : Int)))), (105, (Value.int .i64 ((y : Int))))] ∧ Hp (fun _ => False) w wL [] [rMind F5 none m44 p44 S5, rBlk cb9 55 ([(Value.iface 23 (pt tb6 0))] ++ vb (kl K3) ++ [(Value.int .i64 e), (Value.bool false)]), rTab F4 tb6 s3, rOV 28 16 ((Value.slice A1 ((2 * i)) c1)) ((rbOld (i)).map vb), rOV 35 1 ((Value.slice A2 i c2)) (mv.map fun v => [v]), rSBs mv (rbMarks (i))]) ⟨_, 0, F3, S3, (by omega), hW4, rfl, (patch_eq _ 128 _ (by kernel_rfl) (by kernel_rfl) (by kernel_rfl)), h60.sel [0, 1, 2, 3, 4, 5] [] (by kernel_rfl) rfl rfl⟩ ?_
     rintro _ x77 _ w77 ⟨y, F5, S5, hy, hW5, rfl, rfl, h77⟩
     refine wp_seq_k ?_
     intro K78 hK78
     refine reg_lit ?_
     refine wq_p 1 [(106, (Value.bool (decide ((y : Int) < ((2 * i) : Int)))))] ?_
     refine wl_end rfl ?_
     refine seq_n hK78 ?_
     refine wp_seq_k ?_
     intro K79 hK79
     refine wp_if ((y : Int) < ((2 * i) : Int)) (by kernel_rfl) (fun b80 => ?_) (fun b80 => ?_)
     ·
      refine wp_skip ?_
      refine seq_n hK79 ?_
      refine wp_seq_k ?_
      intro K81 hK81
      refine wp_block ?_
      refine wp_seq_k ?_
      intro K82 hK82
      obtain ⟨Ko, no, hKo, hKn, hno1, hno2⟩ := rbOld_at (i := i) (q := y) (by omega)
      refine reg_lit ?_
      refine wq_v (some 107) (eAt A1 (y * 16 + 0)) (e_idxN (OV.rvn (h77.at_ 3 rfl)).2 y ((2 * i)) (OV.rvn (h77.at_ 3 rfl)).1 (by omega) 30 (.tmp 103) (.tmp 105) (by kernel_rfl) .i64 (by kernel_rfl) (by kernel_rfl) 28 (by kernel_rfl) (by kernel_rfl) _) ?_
      refine wq_v (some 108) (Value.agg (vb (kl Ko)).toArray) (e_elemsN (OV.rvn (h77.at_ 3 rfl)).2 y 0 (vb (kl Ko)) (map_vb_get hKo) 28 (.tmp 107) (by kernel_rfl) (vb (kl Ko)) (by kernel_rfl) (by kernel_rfl) (by kernel_rfl)) ?_
      refine wq_to (some 17) (x_new h77 28 (vb (List.replicate 16 0)) (fun r => pt r 0) (by kernel_rfl)) ?_
      rintro _ w83 ⟨g83, rfl, h83⟩
      refine wq_to none (x_stores h83 0 rfl 28 (.tmp 17) (.tmp 108) (by kernel_rfl) 0 (vb (kl Ko)) (vb (kl Ko)) (by kernel_rfl) (by kernel_rfl) (by kernel_rfl) (by kernel_rfl) (by kernel_rfl) (by kernel_rfl)) ?_
      rintro _ w84 h84
      refine wl_end rfl ?_
      refine seq_n hK82 ?_
      refine wp_seq_k ?_
      intro K85 hK85
      refine reg_lit ?_
      refine wq_p 1 [(109, (pt m44 0))] ?_
      refine wq_v (some 110) (Value.agg (vb (kl Ko)).toArray) (e_loads (h84.at_ 0 rfl) 28 (.tmp 17) (by kernel_rfl) 0 (vb (kl Ko)) (by kernel_rfl) (by kernel_rfl) (by kernel_rfl)) ?_
      refine wq_to (some 111) (mdec false (decK false (false_iff_ (Rb.no hR3 (by omega) hB3 (by omega) (by omega) rfl hKn (by omega)))) (x_kkey h84 1 3 rfl rfl (by kernel_rfl) hp44 Ko (by kernel_rfl) hW5 (by rw [rbMarks_len]; omega) (Rb.sm hR3.ks (by omega) hB3 (by omega)))) ?_
      rintro _ w86 ⟨F86, S86, rfl, hM86, h86⟩
      refine wl_end rfl ?_
      refine seq_n hK85 ?_
      refine wp_cond_false (by kernel_rfl) ?_
      refine wp_skip ?_
      refine blk_n ?_
      refine seq_n hK81 ?_
      refine reg_lit ?_
      refine wq_v (some 112) (Value.int .i64 ((y : Int) + 1)) (exec_add _ _ _ _ rfl ((y : Int)) 1 (by kernel_rfl) (by kernel_rfl) ((y : Int) + 1) rfl (by omega) (by omega) _) ?_
      refine wq_p 1 [(105, (Value.int .i64 ((y : Int) + 1)))] ?_
      refine wl_end rfl ?_
      refine ⟨2 * i - (y + 1), (by omega), (y + 1), F86, S86, (by omega), hM86.toWS, rfl, (patch_eq _ 128 _ (by kernel_rfl) (by kernel_rfl) (by kernel_rfl)), h86.sel [1, 2, 3, 4, 5, 6] [] (by kernel_rfl) rfl rfl⟩
     ·
      refine wp_exit ?_
      refine seq_e ?_
      refine seq_e ?_
      refine blk_e ?_
      refine seq_n hK75 ?_
      refine wp_seq_k ?_
      intro K87 hK87
      refine wp_seq_k ?_
      intro K88 hK88
      refine reg_lit ?_
      refine wq_p 3 [(115, (Value.int .i64 0)), (114, (Value.int .i64 ((i : Int)))), (113, (Value.slice A2 i c2))] ?_
      refine wl_end rfl ?_
      refine seq_n hK88 ?_
      refine wp_block ?_
      refine wp_loopm (fun mM xX aA wL => ∃ (z : Nat) (F6 : Nat → Prop) (S6 : KM), (z ≤ i) ∧ (WSl s3 [mkB 107 (2 * i + 2)] (rbMarks i) (rbMarks i) S6) ∧ mM = i - (z) ∧ aA = patch xX 128 [(0, (Value.int .i64 t)), (1, (Value.int .i64 u)), (5, (pt tb6 0)), (6, (pt cb9 0)), (7, (Value.slice A1 ((2 * i)) c1)), (8, (Value.slice A2 i c2)), (11, (pt m44 0)), (21, (Value.bool false)), (31, (Value.int .i64 ((M18 : Int)))), (32, (Value.int .i64 ((i : Int)))), (33, (Value.bool (decide ((i : Int) < (M18 : Int))))), (59, (Value.slice A2 i c2)), (60, (Value.int .i64 ((i : Int)))), (61, (Value.int .i64 ((q : Int)))), (62, (Value.bool (decide ((q : Int) < (i : Int))))), (74, (Value.int .i64 ((M59 : Int)))), (75, (Value.int .i64 ((j : Int)))), (76, (Value.bool (decide ((j : Int) < (M59 : Int))))), (103, (Value.slice A1 ((2 * i)) c1)), (104, (Value.int .i64 (((2 * i) : Int)))), (105, (Value.int .i64 ((y : Int)))), (106, (Value.bool (decide ((y : Int) < ((2 * i) : Int))))), (113, (Value.slice A2 i c2)), (114, (Value.int .i64 ((i : Int)))), (115, (Value.int .i64 ((z : Int))))] ∧ Hp (fun _ => False) w wL [] [rMind F6 none m44 p44 S6, rBlk cb9 55 ([(Value.iface 23 (pt tb6 0))] ++ vb (kl K3) ++ [(Value.int .i64 e), (Value.bool false)]), rTab F4 tb6 s3, rOV 28 16 ((Value.slice A1 ((2 * i)) c1)) ((rbOld (i)).map vb), rOV 35 1 ((Value.slice A2 i c2)) (mv.map fun v => [v]), rSBs mv (rbMarks (i))]) ⟨_, 0, F5, S5, (by omega), hW5, rfl, (patch_eq _ 128 _ (by kernel_rfl) (by kernel_rfl) (by kernel_rfl)), h77.sel [0, 1, 2, 3, 4, 5] [] (by kernel_rfl) rfl rfl⟩ ?_
      rintro _ x89 _ w89 ⟨z, F6, S6, hz, hW6, rfl, rfl, h89⟩
      refine wp_seq_k ?_
      intro K90 hK90
      refine reg_lit ?_
      refine wq_p 1 [(116, (Value.bool (decide ((z : Int) < (i : Int)))))] ?_
      refine wl_end rfl ?_
      refine seq_n hK90 ?_
      refine wp_seq_k ?_
      intro K91 hK91
      refine wp_if ((z : Int) < (i : Int)) (by kernel_rfl) (fun b92 => ?_) (fun b92 => ?_)
      ·
       refine wp_skip ?_
       refine seq_n hK91 ?_
       refine wp_seq_k ?_
       intro K93 hK93
       refine wp_block ?_
       refine wp_seq_k ?_
       intro K94 hK94
       obtain ⟨ME, mcE, myE, hvE, hlE⟩ := sbsget (h89.at_ 5 rfl) (by rw [rbMarks_len]; exact hmv) (z) (by rw [rbMarks_len]; omega)
       have hmE : myE = mkB 98 (z + 1) := by
         rw [rbMarks_at (by omega)] at hlE
         injection hlE with hlE
         exact hlE.symm
       
       refine reg_lit ?_
       refine wq_v (some 117) (eAt A2 (z * 1 + 0)) (e_idxN (OV.rvn (h89.at_ 4 rfl)).2 z i (OV.rvn (h89.at_ 4 rfl)).1 (by omega) 31 (.tmp 113) (.tmp 115) (by kernel_rfl) .i64 (by kernel_rfl) (by kernel_rfl) 35 (by kernel_rfl) (by kernel_rfl) _) ?_
       refine wq_v (some 118) (Value.slice ME myE.length mcE) (e_elemN (OV.rvn (h89.at_ 4 rfl)).2 z 0 ([(Value.slice ME myE.length mcE)]) (by rw [List.getElem?_map, hvE]; rfl) 35 (.tmp 117) (by kernel_rfl) (Value.slice ME myE.length mcE) (by kernel_rfl) (by kernel_rfl) (by kernel_rfl)) ?_
       refine wq_p 1 [(19, (Value.slice ME myE.length mcE))] ?_
       refine wl_end rfl ?_
       refine seq_n hK94 ?_
       refine wp_seq_k ?_
       intro K95 hK95
       refine reg_lit ?_
       refine wq_p 2 [(120, (Value.slice ME myE.length mcE)), (119, (pt m44 0))] ?_
       refine wq_to (some 121) (mdec false (decO false (false_iff_ (Rb.opens hR3 (by omega) hB3 (by omega) (by omega) rfl))) (x_kopens h89 0 2 rfl rfl (by kernel_rfl) hp44 (by kernel_rfl) (h89.apartL 0 2 5 rfl rfl rfl (by kernel_rfl) (by kernel_rfl) hvE hlE) hW6 (by rw [rbMarks_len]; omega) (Rb.sm hR3.ks (by omega) hB3 (by omega)) (by rw [hmE]; rfl))) ?_
       rintro _ w96 ⟨F96, S96, rfl, hM96, h96⟩
       refine wl_end rfl ?_
       refine seq_n hK95 ?_
       refine wp_cond_false (by kernel_rfl) ?_
       refine wp_skip ?_
       refine blk_n ?_
       refine seq_n hK93 ?_
       refine reg_lit ?_
       refine wq_v (some 122) (Value.int .i64 ((z : Int) + 1)) (exec_add _ _ _ _ rfl ((z : Int)) 1 (by kernel_rfl) (by kernel_rfl) ((z : Int) + 1) rfl (by omega) (by omega) _) ?_
       refine wq_p 1 [(115, (Value.int .i64 ((z : Int) + 1)))] ?_
       refine wl_end rfl ?_
       refine ⟨i - (z + 1), (by omega), (z + 1), F96, S96, (by omega), hM96.toWS, rfl, (patch_eq _ 128 _ (by kernel_rfl) (by kernel_rfl) (by kernel_rfl)), h96.sel [0, 1, 2, 3, 4, 5] [] (by kernel_rfl) rfl rfl⟩
      ·
       refine wp_exit ?_
       refine seq_e ?_
       refine seq_e ?_
       refine blk_e ?_
       refine seq_n hK87 ?_
       refine wp_seq_k ?_
       intro K97 hK97
       refine reg_lit ?_
       refine wq_p 1 [(123, (pt m44 0))] ?_
       refine wq_to (some 124) (x_bsl h89 [115, 97, 105, 100] (by kernel_rfl)) ?_
       rintro _ w98 ⟨g98, rfl, hw98, hg98, hq98, h98⟩
       refine wq_to (some 125) (x_bcv hq98 [115, 97, 105, 100] hw98 g98 hg98 (.tmp 124) (by kernel_rfl) (by kernel_rfl) (by decide)) ?_
       rintro _ w99 ⟨rfl, h99⟩
       refine wq_to (some 126) (mdec false (Rb.says hR3 (by omega) hB3 (by omega) (by omega) rfl rfl) (x_says h99 0 2 rfl rfl (by kernel_rfl) hp44 (by kernel_rfl) (h99.apartR 0 2 0 rfl rfl rfl) hW6 (by rw [rbMarks_len]; omega) (Rb.sm hR3.ks (by omega) hB3 (by omega)) (by decide))) ?_
       rintro _ w100 ⟨F100, S100, rfl, hM100, h100⟩
       refine wq_p 2 [(4, (Value.bool true)), (127, (Value.bool true))] ?_
       refine wl_end rfl ?_
       refine seq_n hK97 ?_
       refine wp_ret ?_
       refine post_1 rfl (by kernel_rfl) (rtmp (v := (Value.bool true)) (by kernel_rfl)) ?_
       exact ⟨rfl, h100.below0⟩
end Go.Proofs.Ytpkelokaammmjaa
end
/-! The row of RatchetBack: for every input the law returns true and what came in reads as it did. -/
section
namespace Go.Proofs.Ytpkelokaammmjaa
open Go.ChangeShapes Go.WideShapes Go.ChangeAt Go.RowKit
set_option maxRecDepth 100000 in
theorem ratchetBack_lifted (os : Os) (started : os.Started) (H : Type) (enc : TypeId × Value → H) :
    ReturnsInHanded {} Try.checked os 3 .any (Rows.ratchetBackSpec.pre6 enc Try.prog Try.f3 Rows.ratchetBackRow.domain false) (Rows.ratchetBackSpec.post enc Try.prog Try.f3 false true false false) := by
  refine returnsInHanded_of_change (C := Try.checked) Try.own started (by kernel_rfl) Try.func3
    (ChangeSpec.witness6 (enc := enc) (C := Try.checked) false ⟨#[], #[.int .i64 0, .int .i64 0], []⟩ 8 (by kernel_rfl) (by kernel_rfl) (by kernel_rfl) (by kernel_rfl)) ?_
  intro W base args ds gs before hval0 hW hcnd _
  have hval : ∀ (j : Nat) t v, Try.f3.params[j]? = some t → args[j]? = some v → Value.okWide Try.prog W .any base t v := hval0
  have hpost : ∀ W', Below W.heap.size W W' → Rows.ratchetBackSpec.post enc Try.prog Try.f3 false true false false W args (.bool true) W' := fun W' hb =>
    law_post Try.laidOut (by kernel_rfl) Try.underlying4 rfl rfl (fun ds hds => by
      have hn : ds.length = 2 := hds
      match ds, hn with
      | [_, _], _ => rfl) hW hb
  obtain ⟨p, q, hA0, hV, rfl, hfz, hnd⟩ := hW
  have hA : DataW.TrodAll enc Try.prog W 0 (fun _ => true) true Try.f3.params.toList args.toList ds p := hA0
  rw [Try.params3] at hA hval
  clear hA0 hval0
  obtain ⟨v0, v1, d0, d1, p0, p1, rfl, rfl, rfl, h0, h1⟩ := trodAll_two hA
  obtain ⟨n0, rfl, rfl, rfl, hn0⟩ := open_int (t := 3) (k := .i64) (by kernel_rfl) (hval 0 3 v0 rfl rfl) h0
  obtain ⟨n1, rfl, rfl, rfl, hn1⟩ := open_int (t := 3) (k := .i64) (by kernel_rfl) (hval 1 3 v1 rfl rfl) h1
  refine (ratchetBack_any n0 n1 W).mono fun e W' ⟨he, hw⟩ => ?_
  subst he
  exact ⟨_, rfl, hpost W' hw⟩
theorem ratchetBack_holds : Rows.RatchetBackSaid :=
  OpenClaim.holds_of_wide 3 Try.f3 rfl rfl rfl rfl rfl rfl rfl ⟨rfl, rfl, rfl, rfl, rfl⟩ rfl rfl rfl rfl rfl (by kernel_rfl) Try.func3 (by kernel_rfl)
    (of_decide_eq_true (by kernel_rfl)) (by unfold Func.isWrapper; first | (rw [if_pos (by decide +kernel)]; kernel_rfl) | (rw [if_neg (by decide +kernel)]; exact ⟨rfl, rfl⟩))
    (fun os started H enc _ => ratchetBack_lifted os started H enc)
end Go.Proofs.Ytpkelokaammmjaa
end
