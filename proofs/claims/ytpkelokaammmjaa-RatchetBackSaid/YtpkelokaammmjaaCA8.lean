/- Five parameters. (Texts laid one behind the other: SPl, SayL, Says, KnX, KPl, KAl, Ratchet, XRat, OpenB, RowL, Five.) -/
import Derived.ProofKit
import Derived.Carry
import Derived.ChangeShapes
import Derived.Test.YtpkelokaammmjaaCA7
/-! Plain laws of what SymPlays keeps beside a table; rows of rows of bytes that are read. -/
section
namespace Go.Proofs.Ytpkelokaammmjaa
open Go.RowKit Go.QT
/-! ### Rows of bytes -/
def rSBs (vs : List Value) (ls : List Bytes) : Res where
  F := fun q => ∃ (i : Nat) (v : Value) (l : Bytes), vs[i]? = some v ∧ ls[i]? = some l ∧ l ≠ [] ∧ v.ownBlock = some q
  Φ := fun w => ∀ (i : Nat) (v : Value) (l : Bytes), vs[i]? = some v → ls[i]? = some l → SB w v l
  lt := fun h q hq => by
    obtain ⟨i, v, l, h1, h2, h3, h4⟩ := hq
    exact (rSB v l).lt (h i v l h1 h2) q ⟨h3, h4⟩
  keep := fun h hs hk i v l h1 h2 => (rSB v l).keep (h i v l h1 h2) hs fun q hq => hk q ⟨i, v, l, h1, h2, hq.1, hq.2⟩
section
variable {F0 : Nat → Prop} {w0 w : World} {ro rs : List Res} {vs : List Value} {ls : List Bytes} {v : Value} {l : Bytes} {i : Nat}
theorem SBs.at_ (h : (rSBs vs ls).Φ w) (h1 : vs[i]? = some v) (h2 : ls[i]? = some l) : SB w v l := h i v l h1 h2
theorem Hp.nilSBs (h : Hp F0 w0 w ro rs) : Hp F0 w0 w (rSBs [] [] :: ro) rs :=
  h.addR _ (fun i v l h1 _ => by simp at h1) (fun j s _ q h1 _ => by obtain ⟨i, v, l, h2, _⟩ := h1; simp at h2)
/-- One more row. -/
theorem Hp.snocSBs (h : Hp F0 w0 w ro rs) (i j : Nat) (hi : ro[i]? = some (rSBs vs ls)) (hj : ro[j]? = some (rSB v l)) (hn : vs.length = ls.length) : Hp F0 w0 w (rSBs (vs ++ [v]) (ls ++ [l]) :: ro) rs := by
  have hA := h.red i _ hi
  have hB : SB w v l := h.red j _ hj
  have cases_ : ∀ (k : Nat) (u : Value) (m : Bytes), (vs ++ [v])[k]? = some u → (ls ++ [l])[k]? = some m → (vs[k]? = some u ∧ ls[k]? = some m) ∨ (u = v ∧ m = l) := by
    intro k u m h1 h2
    by_cases hk : k < vs.length
    · left
      rw [List.getElem?_append_left hk] at h1
      rw [List.getElem?_append_left (by omega)] at h2
      exact ⟨h1, h2⟩
    · right
      rw [List.getElem?_append_right (by omega)] at h1
      rw [List.getElem?_append_right (by omega)] at h2
      rw [← hn] at h2
      cases hz : k - vs.length with
      | zero => rw [hz] at h1 h2; simp at h1 h2; exact ⟨h1.symm, h2.symm⟩
      | succ z => rw [hz] at h1; simp at h1
  refine h.addR _ (fun k u m h1 h2 => ?_) (fun k s hs q h1 h2 => ?_)
  · rcases cases_ k u m h1 h2 with ⟨a, b⟩ | ⟨rfl, rfl⟩
    · exact hA k u m a b
    · exact hB
  · obtain ⟨z, u, m, a, b, c, d⟩ := h1
    rcases cases_ z u m a b with ⟨a, b⟩ | ⟨rfl, rfl⟩
    · exact h.rdis i k _ s hi hs q ⟨z, u, m, a, b, c, d⟩ h2
    · exact h.rdis j k _ s hj hs q ⟨c, d⟩ h2
theorem Hp.subSBs (h : Hp F0 w0 w ro rs) (i : Nat) (hi : ro[i]? = some (rSBs vs ls)) (k : Nat) (h1 : vs[k]? = some v) (h2 : ls[k]? = some l) : Hp F0 w0 w (rSB v l :: ro) rs :=
  h.sub i hi (rSB v l) (h.red i _ hi k v l h1 h2) (fun _ hq => ⟨k, v, l, h1, h2, hq.1, hq.2⟩)
/-- A row of the call's own is not turned any more. -/
theorem Hp.shareOB (h : Hp F0 w0 w ro rs) (i : Nat) (hi : rs[i]? = some (rOB v l)) : Hp F0 w0 w (rSB v l :: ro) (rs.eraseIdx i) :=
  (h.drop i).addR (rSB v l) (OB.sb (h.own i _ hi)) fun j s hj q h1 h2 => by
    obtain ⟨k, hk, hne, _⟩ := get_erase hj
    exact h.dis i k _ s hi hk (Ne.symm hne) q h1.2 h2
end
/-! ### How keys came -/
structure LF where
  kind : Int
  of : Bytes
  a : ByteArray
  b : ByteArray
deriving DecidableEq
def lfCells (f : LF) : List Value := [Value.int .i64 f.kind] ++ vb f.of ++ [Value.string f.a, Value.string f.b]
def LF.fresh : LF := ⟨0, zKey, ByteArray.empty, ByteArray.empty⟩
def LF.text (a b : ByteArray) : LF := ⟨1, zKey, a, b⟩
def LF.derive (k : Bytes) (a : ByteArray) : LF := ⟨2, k, a, ByteArray.empty⟩
/-- One that may come: no fresh one. -/
def LF.Ok (f : LF) : Prop := (∃ a b : ByteArray, a.size ≤ 40 ∧ b.size ≤ 40 ∧ f = LF.text a b) ∨ (∃ (k : Bytes) (a : ByteArray), k.length = 16 ∧ f = LF.derive k a)
def LF.toS (f : LF) : SFrom := if f.kind = 0 then SFrom.fresh else if f.kind = 1 then textF f.a f.b else deriveF f.of f.a
theorem toS_text (a b : ByteArray) : (LF.text a b).toS = textF a b := rfl
theorem toS_derive (k : Bytes) (a : ByteArray) : (LF.derive k a).toS = deriveF k a := rfl
theorem text_inj {a b c d : ByteArray} (ha : a.size ≤ 40) (hc : c.size ≤ 40) (h : textF a b = textF c d) : a = c ∧ b = d := by
  have h1 : put8 a.size ++ a.data.toList ++ b.data.toList = put8 c.size ++ c.data.toList ++ d.data.toList := by
    have := congrArg (fun f => f.label.data.toList) h
    simpa [textF] using this
  rw [List.append_assoc, List.append_assoc] at h1
  obtain ⟨h2, h3⟩ := List.append_inj h1 rfl
  have h4 : a.size = c.size := by rw [← getN_put8 a.size (by omega), ← getN_put8 c.size (by omega), h2]
  have e : ∀ x : ByteArray, x.data.toList.length = x.size := fun x => by cases x; rfl
  obtain ⟨h5, h6⟩ := List.append_inj h3 (by rw [e, e, h4])
  have f : ∀ x y : ByteArray, x.data.toList = y.data.toList → x = y := fun x y hxy => by
    cases x; cases y; simp only [ByteArray.mk.injEq]; exact Array.toList_inj.1 hxy
  exact ⟨f _ _ h5, f _ _ h6⟩
theorem toS_inj {f g : LF} (hf : f.Ok) (hg : g.Ok) (h : f.toS = g.toS) : f = g := by
  rcases hf with ⟨a, b, ha, _, rfl⟩ | ⟨k, a, _, rfl⟩ <;> rcases hg with ⟨c, d, hc, _, rfl⟩ | ⟨l, c, _, rfl⟩
  · obtain ⟨rfl, rfl⟩ := text_inj ha hc h; rfl
  · rw [toS_text, toS_derive] at h; simp [textF, deriveF] at h
  · rw [toS_text, toS_derive] at h; simp [textF, deriveF] at h
  · rw [toS_derive, toS_derive, derive_inj] at h; obtain ⟨rfl, rfl⟩ := h; rfl
structure Inv (ks : List LF) (s : STab) : Prop where
  keys : s.keys = ks.map LF.toS
  ok : ∀ f ∈ ks, f = LF.fresh ∨ f.Ok
  known : ∀ (f : LF) (n : Nat), f.Ok → (s.at_ f.toS = some n ↔ 1 ≤ n ∧ ks[n - 1]? = some f)
theorem Inv.empty : Inv [] STab.empty := ⟨rfl, by simp, by intro f n _; simp [STab.at_, STab.empty]⟩
theorem fresh_notOk : ¬ LF.fresh.Ok := by
  rintro (⟨a, b, _, _, h⟩ | ⟨k, a, _, h⟩) <;> (have := congrArg LF.kind h; simp [LF.fresh, LF.text, LF.derive] at this)
theorem get_snoc_iff {α : Type} {xs : List α} {i : Nat} {x y : α} : (xs ++ [y])[i]? = some x ↔ xs[i]? = some x ∨ (i = xs.length ∧ x = y) := by
  by_cases h : i < xs.length
  · rw [List.getElem?_append_left h]
    constructor
    · exact .inl
    · rintro (h1 | ⟨h1, _⟩)
      · exact h1
      · omega
  · rw [List.getElem?_append_right (by omega)]
    constructor
    · intro h1
      right
      cases hz : i - xs.length with
      | zero => rw [hz] at h1; simp at h1; exact ⟨by omega, h1.symm⟩
      | succ z => rw [hz] at h1; simp at h1
    · rintro (h1 | ⟨h1, rfl⟩)
      · rw [List.getElem?_eq_none (by omega)] at h1; cases h1
      · subst h1; simp
theorem Inv.add {ks : List LF} {s : STab} (h : Inv ks s) : Inv (ks ++ [LF.fresh]) (s.add SFrom.fresh) where
  keys := by simp [STab.add, h.keys]; rfl
  ok := fun f hf => by
    rcases List.mem_append.1 hf with hf | hf
    · exact h.ok f hf
    · left; simpa using hf
  known := fun f n hf => by
    have e : (s.add SFrom.fresh).at_ f.toS = s.at_ f.toS := rfl
    rw [e, h.known f n hf, get_snoc_iff]
    constructor
    · rintro ⟨a, b⟩; exact ⟨a, .inl b⟩
    · rintro ⟨a, b | ⟨_, b⟩⟩
      · exact ⟨a, b⟩
      · subst b; exact absurd hf fresh_notOk
theorem Inv.old {ks : List LF} {s : STab} (h : Inv ks s) {f : LF} (hf : f.Ok) {z : Nat} (hz : 1 ≤ z) (hk : ks[z - 1]? = some f) : s.num f.toS = z ∧ s.made f.toS = s := by
  have := (h.known f z hf).2 ⟨hz, hk⟩
  exact ⟨STab.num_of _ _ _ this, by unfold STab.made; rw [this]⟩
theorem Inv.new {ks : List LF} {s : STab} (h : Inv ks s) {f : LF} (hf : f.Ok) (hk : ∀ j : Nat, ks[j]? ≠ some f) : s.num f.toS = ks.length + 1 ∧ Inv (ks ++ [f]) (s.made f.toS) := by
  have hat : s.at_ f.toS = none := by
    cases hc : s.at_ f.toS with
    | none => rfl
    | some n => exact absurd ((h.known f n hf).1 hc).2 (hk _)
  have hl : s.keys.length = ks.length := by rw [h.keys, List.length_map]
  have hm : s.made f.toS = { s with keys := s.keys ++ [f.toS], known := s.known ++ [(f.toS, s.keys.length + 1)] } := by unfold STab.made; rw [hat]
  refine ⟨by unfold STab.num; rw [hat]; simp [hl], ?_, ?_, ?_⟩
  · rw [hm]; simp [h.keys]
  · intro g hg
    rcases List.mem_append.1 hg with hg | hg
    · exact h.ok g hg
    · right; have : g = f := by simpa using hg
      rw [this]; exact hf
  · intro g n hg
    rw [get_snoc_iff]
    by_cases hgf : g = f
    · subst hgf
      rw [STab.at_made]
      have e : s.num g.toS = ks.length + 1 := by unfold STab.num; rw [hat]; simp [hl]
      rw [e]
      constructor
      · intro h1; injection h1 with h1; subst h1; exact ⟨by omega, .inr ⟨by omega, rfl⟩⟩
      · rintro ⟨h1, h2 | ⟨h2, _⟩⟩
        · exact absurd h2 (hk _)
        · congr 1; omega
    · have hne : g.toS ≠ f.toS := fun e => hgf (toS_inj hg hf e)
      have e : (s.made f.toS).at_ g.toS = s.at_ g.toS := by
        rw [hm]; unfold STab.at_
        simp only [List.find?_append]
        cases hq : s.known.find? (fun p => decide (p.1 = g.toS)) with
        | none => simp [Ne.symm hne]
        | some p => simp
      rw [e, h.known g n hg]
      constructor
      · rintro ⟨a, b⟩; exact ⟨a, .inl b⟩
      · rintro ⟨a, b | ⟨_, b⟩⟩
        · exact ⟨a, b⟩
        · exact absurd b hgf
theorem Inv.of16 {ks : List LF} {s : STab} (h : Inv ks s) {f : LF} (hf : f ∈ ks) : f.of.length = 16 := by
  rcases h.ok f hf with rfl | ⟨a, b, _, _, rfl⟩ | ⟨k, a, hk, rfl⟩
  · rfl
  · rfl
  · exact hk
theorem lf_get {ks : List LF} {s : STab} (h : Inv ks s) (i : Nat) (hi : i < ks.length) : ∃ fk fK fa fb, ks[i]? = some ⟨fk, kl fK, fa, fb⟩ := by
  have hm := List.getElem_mem hi
  obtain ⟨K, hK⟩ := kl_of _ (h.of16 hm)
  refine ⟨ks[i].kind, K, ks[i].a, ks[i].b, ?_⟩
  rw [List.getElem?_eq_getElem hi, ← hK]
theorem map_get {α β : Type} {l : List α} (f : α → β) {j : Nat} {x : α} (h : l[j]? = some x) : (l.map f)[j]? = some (f x) := by
  rw [List.getElem?_map, h]; rfl
theorem zip_get {α β γ : Type} {l : List α} {m : List β} (f : α → β → γ) {j : Nat} {x : α} {y : β} (h : l[j]? = some x) (k : m[j]? = some y) : (List.zipWith f l m)[j]? = some (f x y) := by
  rw [List.getElem?_zipWith, h, k]
end Go.Proofs.Ytpkelokaammmjaa
end
/-! Bytes that stand in others. -/
section
namespace Go.Proofs.Ytpkelokaammmjaa
open Go.RowKit Go.QT
def standsB (x b : Bytes) : Bool := (List.range (x.length + 1 - b.length)).any fun j => decide ((x.take (j + b.length)).drop j = b)
/-- A call that leaves nothing but its answer. -/
def AnsPost (w : World) (v : Value) (e : Ending) (w' : World) : Prop := e = .returned v ∧ Below w.heap.size w w'
theorem stands_yes {x b : Bytes} {i : Nat} (hi : i + b.length ≤ x.length) (h : (x.take (i + b.length)).drop i = b) : standsB x b = true := by
  unfold standsB
  rw [List.any_eq_true]
  exact ⟨i, List.mem_range.2 (by omega), by simpa using h⟩
theorem stands_no {x b : Bytes} {i : Nat} (hi : ¬ i + b.length ≤ x.length) (h : ∀ j, j < i → (x.take (j + b.length)).drop j ≠ b) : standsB x b = false := by
  unfold standsB
  rw [List.any_eq_false]
  intro j hj
  have := List.mem_range.1 hj
  simpa using h j (by omega)
theorem lt_snoc {p : Nat → Prop} {i : Nat} (h : ∀ j, j < i → p j) (hi : p i) : ∀ j, j < i + 1 → p j := fun j hj => by
  by_cases e : j = i
  · rw [e]; exact hi
  · exact h j (by omega)
theorem eq_of_gb {l m : Bytes} (h : l.length = m.length) (hg : ∀ j, j < l.length → gb l j = gb m j) : l = m := by
  apply List.ext_getElem h
  intro i h1 h2
  have := hg i h1
  simpa [gb, h1, h2] using this
section
variable {F0 : Nat → Prop} {w0 w : World} {ro rs : List Res} {o : Oper} {a : Act} {P : Program}
theorem x_anspost (h : Hp F0 w0 w ro rs) {v : Value} (fn : FuncId) (al : List Value) (hp : pureVal P (execOp a.eval o) = some (.enter fn al.toArray)) (hc : Calls P fn al.toArray w (AnsPost w v)) :
    OpTo P o a w (fun u w' => u = v ∧ Hp F0 w0 w' ro rs) :=
  OpTo.enter fn al hp hc fun _e _w' hq => ⟨_, hq.1, rfl, h.below hq.2⟩
theorem sbsget {vs : List Value} {ls : List Bytes} (h : (rSBs vs ls).Φ w) (hn : vs.length = ls.length) (i : Nat) (hi : i < ls.length) : ∃ A c y, vs[i]? = some (Value.slice A y.length c) ∧ ls[i]? = some y := by
  have h1 : vs[i]? = some vs[i] := List.getElem?_eq_getElem (by omega)
  have h2 : ls[i]? = some ls[i] := List.getElem?_eq_getElem hi
  obtain ⟨A, c, e, _⟩ := h i _ _ h1 h2
  exact ⟨A, c, ls[i], by rw [h1, e], h2⟩
theorem addRB (h : Hp F0 w0 w ro []) (r : Res) (hr : r.Φ w) : Hp F0 w0 w (r :: ro) [] := h.addR r hr (by simp)
end
end Go.Proofs.Ytpkelokaammmjaa
end
/-! The walks of slices.Equal, stands, Says. -/
section
namespace Go.Proofs.Ytpkelokaammmjaa
open Go.RowKit Go.QT
set_option maxRecDepth 100000 in
set_option maxHeartbeats 1000000 in
theorem sequal_any (u v : Value) (l m : Bytes) (w : World) (hu : SB w u l) (hv : SB w v m) : Calls Try.prog 38 #[u, v] w (AnsPost w (.bool (decide (l = m)))) := by
  obtain ⟨A, c, rfl, hc1, hc2⟩ := sb_form hu
  obtain ⟨B, d, rfl, hd1, hd2⟩ := sb_form hv
  have h0 := addRB (addRB (Hp.nil (fun _ => False) w) (rSB _ m) hv) (rSB _ l) hu
  refine enter 24 Try.func38 rfl rfl ?_
  refine wp_reset 26 [(0, (Value.slice A l.length c)), (1, (Value.slice B m.length d))] (fun x0 => ?_)
  refine wp_seq_k ?_
  intro K1 hK1
  refine reg_lit ?_
  refine wq_p 1 [(4, (Value.bool false))] ?_
  refine wl_end rfl ?_
  refine seq_n hK1 ?_
  refine wp_seq_k ?_
  intro K2 hK2
  refine wp_seq_k ?_
  intro K3 hK3
  refine reg_lit ?_
  refine wq_p 5 [(10, (Value.bool (((l.length : Int)) != ((m.length : Int))))), (9, (Value.int .i64 ((m.length : Int)))), (8, (Value.slice B m.length d)), (7, (Value.int .i64 ((l.length : Int)))), (6, (Value.slice A l.length c))] ?_
  refine wl_end rfl ?_
  refine seq_n hK3 ?_
  refine wp_ifne ((l.length : Int)) ((m.length : Int)) (by kernel_rfl) (fun b4 => ?_) (fun b4 => ?_)
  ·
   have hne : ¬ l.length = m.length := by have := b4; omega
   refine wp_seq_k ?_
   intro K5 hK5
   refine reg_lit ?_
   refine wq_p 1 [(4, (Value.bool false))] ?_
   refine wl_end rfl ?_
   refine seq_n hK5 ?_
   refine wp_ret ?_
   refine seq_r ?_
   refine post_1 rfl (by kernel_rfl) (rtmp (v := (Value.bool false)) (by kernel_rfl)) ?_
   exact ⟨by rw [decide_eq_false (fun e => hne (by rw [e]))], h0.below0⟩
  ·
   have hlm : l.length = m.length := by have := b4; omega
   refine wp_skip ?_
   refine seq_n hK2 ?_
   refine wp_seq_k ?_
   intro K6 hK6
   refine wp_seq_k ?_
   intro K7 hK7
   refine reg_lit ?_
   refine wq_p 3 [(13, (Value.int .i64 0)), (12, (Value.int .i64 ((l.length : Int)))), (11, (Value.slice A l.length c))] ?_
   refine wl_end rfl ?_
   refine seq_n hK7 ?_
   refine wp_block ?_
   refine wp_loopm (fun mM xX aA wL => ∃ (i : Nat), (i ≤ l.length) ∧ (∀ j, j < i → gb l j = gb m j) ∧ mM = l.length - (i) ∧ aA = patch xX 26 [(0, (Value.slice A l.length c)), (1, (Value.slice B m.length d)), (10, (Value.bool (((l.length : Int)) != ((m.length : Int))))), (12, (Value.int .i64 ((l.length : Int)))), (13, (Value.int .i64 ((i : Int))))] ∧ Hp (fun _ => False) w wL [rSB ((Value.slice A l.length c)) l, rSB ((Value.slice B m.length d)) m] []) ⟨_, 0, (by omega), (fun j hj => absurd hj (by omega)), rfl, (patch_eq _ 26 _ (by kernel_rfl) (by kernel_rfl) (by kernel_rfl)), h0.sel [] [0, 1] (by kernel_rfl) rfl rfl⟩ ?_
   rintro _ x8 _ w8 ⟨i, hi, hF, rfl, rfl, h8⟩
   refine wp_seq_k ?_
   intro K9 hK9
   refine reg_lit ?_
   refine wq_p 1 [(14, (Value.bool (decide ((i : Int) < (l.length : Int)))))] ?_
   refine wl_end rfl ?_
   refine seq_n hK9 ?_
   refine wp_seq_k ?_
   intro K10 hK10
   refine wp_if ((i : Int) < (l.length : Int)) (by kernel_rfl) (fun b11 => ?_) (fun b11 => ?_)
   ·
    refine wp_skip ?_
    refine seq_n hK10 ?_
    refine wp_seq_k ?_
    intro K12 hK12
    refine wp_block ?_
    refine wp_seq_k ?_
    intro K13 hK13
    refine reg_lit ?_
    refine wq_p 2 [(5, (Value.int .i64 ((i : Int)))), (15, (Value.int .i64 ((i : Int))))] ?_
    refine wl_end rfl ?_
    refine seq_n hK13 ?_
    refine wp_seq_k ?_
    intro K14 hK14
    refine pR_go h8 9 (fun W => (rSB ((Value.slice A l.length c)) l).Φ W ∧ (rSB ((Value.slice B m.length d)) m).Φ W ∧ True) [(17, [0], 0), (18, [5], 0), (19, [16, 17], 3), (20, [18], 4), (21, [1], 0), (22, [5], 0), (23, [20, 21], 48), (24, [22], 64), (25, [19, 23], 136)] rfl (fun _ d _ _ _ h => by cases d <;> exact h) ?_
    intro hs15 w15 h15
    refine pR_p 5 [0, 1, 4, 5] [(21, (Value.int .i64 ((i : Int)))), (20, (Value.slice B m.length d)), (17, (Value.int .i64 ((i : Int)))), (16, (Value.slice A l.length c))] 51 hs15 ⟨h15.rd 0 rfl, h15.rd 1 rfl, trivial⟩ ?_
    refine pR_v 2 (some 18) (eAt A (i * 1 + 0)) 55 rfl hs15 ⟨h15.rd 0 rfl, h15.rd 1 rfl, trivial⟩ (fun W hW => e_idxN (SB.rvn (h15.rd 0 rfl)).2 i l.length (SB.rvn (h15.rd 0 rfl)).1 (by omega) 35 (.tmp 16) (.tmp 17) (by kernel_rfl) .i64 (by kernel_rfl) (by kernel_rfl) 5 (by kernel_rfl) (by kernel_rfl) _) ?_
    refine pR_v 6 (some 22) (eAt B (i * 1 + 0)) 119 rfl hs15 ⟨h15.rd 0 rfl, h15.rd 1 rfl, trivial⟩ (fun W hW => e_idxN (SB.rvn (h15.rd 1 rfl)).2 i m.length (SB.rvn (h15.rd 1 rfl)).1 (by omega) 35 (.tmp 20) (.tmp 21) (by kernel_rfl) .i64 (by kernel_rfl) (by kernel_rfl) 5 (by kernel_rfl) (by kernel_rfl) _) ?_
    refine pR_v 3 (some 19) (Value.int .u8 (ub (gb (l) (i)))) 127 rfl hs15 ⟨h15.rd 0 rfl, h15.rd 1 rfl, trivial⟩ (fun W hW => e_elemN (SB.rvn hW.1).2 i 0 ([(Value.int .u8 (ub (gb (l) (i))))]) (bx_get _ _ (by omega)) 5 (.tmp 18) (by kernel_rfl) (Value.int .u8 (ub (gb (l) (i)))) (by kernel_rfl) (by kernel_rfl) (by kernel_rfl)) ?_
    refine pR_v 7 (some 23) (Value.int .u8 (ub (gb (m) (i)))) 255 rfl hs15 ⟨h15.rd 0 rfl, h15.rd 1 rfl, trivial⟩ (fun W hW => e_elemN (SB.rvn hW.2.1).2 i 0 ([(Value.int .u8 (ub (gb (m) (i))))]) (bx_get _ _ (by omega)) 5 (.tmp 22) (by kernel_rfl) (Value.int .u8 (ub (gb (m) (i)))) (by kernel_rfl) (by kernel_rfl) (by kernel_rfl)) ?_
    refine pR_p 0 [8] [(24, (Value.bool ((ub (gb (l) (i))) != (ub (gb (m) (i))))))] 511 hs15 ⟨h15.rd 0 rfl, h15.rd 1 rfl, trivial⟩ ?_
    refine pR_done hs15 ?_ _
    refine seq_n hK14 ?_
    refine wp_ifne (ub (gb (l) (i))) (ub (gb (m) (i))) (by kernel_rfl) (fun b16 => ?_) (fun b16 => ?_)
    ·
     have hne : ¬ ub (gb l i) = ub (gb m i) := b16
     refine wp_seq_k ?_
     intro K17 hK17
     refine reg_lit ?_
     refine wq_p 1 [(4, (Value.bool false))] ?_
     refine wl_end rfl ?_
     refine seq_n hK17 ?_
     refine wp_ret ?_
     refine blk_r ?_
     refine seq_r ?_
     refine seq_r ?_
     refine blk_r ?_
     refine seq_r ?_
     refine post_1 rfl (by kernel_rfl) (rtmp (v := (Value.bool false)) (by kernel_rfl)) ?_
     exact ⟨by rw [decide_eq_false (fun e => hne (by rw [e]))], h15.below0⟩
    ·
     have heq : ub (gb l i) = ub (gb m i) := b16
     refine wp_skip ?_
     refine blk_n ?_
     refine seq_n hK12 ?_
     refine reg_lit ?_
     refine wq_v (some 25) (Value.int .i64 ((i : Int) + 1)) (exec_add _ _ _ _ rfl ((i : Int)) 1 (by kernel_rfl) (by kernel_rfl) ((i : Int) + 1) rfl (by omega) (by omega) _) ?_
     refine wq_p 1 [(13, (Value.int .i64 ((i : Int) + 1)))] ?_
     refine wl_end rfl ?_
     refine ⟨l.length - (i + 1), (by omega), (i + 1), (by omega), (lt_snoc hF (ub_inj.1 heq)), rfl, (patch_eq _ 26 _ (by kernel_rfl) (by kernel_rfl) (by kernel_rfl)), h15.sel [] [0, 1] (by kernel_rfl) rfl rfl⟩
   ·
    refine wp_exit ?_
    refine seq_e ?_
    refine seq_e ?_
    refine blk_e ?_
    refine seq_n hK6 ?_
    refine wp_seq_k ?_
    intro K18 hK18
    refine reg_lit ?_
    refine wq_p 1 [(4, (Value.bool true))] ?_
    refine wl_end rfl ?_
    refine seq_n hK18 ?_
    refine wp_ret ?_
    refine post_1 rfl (by kernel_rfl) (rtmp (v := (Value.bool true)) (by kernel_rfl)) ?_
    exact ⟨by rw [decide_eq_true (eq_of_gb hlm fun j hj => hF j (by omega))], h8.below0⟩
set_option maxRecDepth 100000 in
set_option maxHeartbeats 1000000 in
theorem stands_any (u v : Value) (x b : Bytes) (w : World) (hu : SB w u x) (hv : SB w v b) (hx7 : x.length ≤ 1000000) (hb7 : b.length ≤ 1000000) : Calls Try.prog 28 #[u, v] w (AnsPost w (.bool (standsB x b))) := by
  obtain ⟨A, c, rfl, hc1, hc2⟩ := sb_form hu
  obtain ⟨B, d, rfl, hd1, hd2⟩ := sb_form hv
  have h0 := addRB (addRB (Hp.nil (fun _ => False) w) (rSB _ b) hv) (rSB _ x) hu
  refine enter 22 Try.func28 rfl rfl ?_
  refine wp_reset 24 [(0, (Value.slice A x.length c)), (1, (Value.slice B b.length d))] (fun x0 => ?_)
  refine wp_seq_k ?_
  intro K1 hK1
  refine reg_lit ?_
  refine wq_p 1 [(4, (Value.bool false))] ?_
  refine wl_end rfl ?_
  refine seq_n hK1 ?_
  refine wp_seq_k ?_
  intro K2 hK2
  refine wp_seq_k ?_
  intro K3 hK3
  refine reg_lit ?_
  refine wq_p 1 [(5, (Value.int .i64 0))] ?_
  refine wl_end rfl ?_
  refine seq_n hK3 ?_
  refine wp_block ?_
  refine wp_loopm (fun mM xX aA wL => ∃ (i : Nat), (i ≤ x.length + 1) ∧ (∀ j, j < i → (x.take (j + b.length)).drop j ≠ b) ∧ mM = x.length + 1 - (i) ∧ aA = patch xX 24 [(0, (Value.slice A x.length c)), (1, (Value.slice B b.length d)), (5, (Value.int .i64 ((i : Int))))] ∧ Hp (fun _ => False) w wL [rSB ((Value.slice A x.length c)) x, rSB ((Value.slice B b.length d)) b] []) ⟨_, 0, (by omega), (fun j hj => absurd hj (by omega)), rfl, (patch_eq _ 24 _ (by kernel_rfl) (by kernel_rfl) (by kernel_rfl)), h0.sel [] [0, 1] (by kernel_rfl) rfl rfl⟩ ?_
  rintro _ x4 _ w4 ⟨i, hi, hF, rfl, rfl, h4⟩
  refine wp_seq_k ?_
  intro K5 hK5
  refine wp_seq_k ?_
  intro K6 hK6
  refine reg_lit ?_
  refine wq_p 3 [(8, (Value.int .i64 ((b.length : Int)))), (7, (Value.slice B b.length d)), (6, (Value.int .i64 ((i : Int))))] ?_
  refine wq_v (some 9) (Value.int .i64 ((i : Int) + (b.length : Int))) (exec_add _ _ _ _ rfl ((i : Int)) ((b.length : Int)) (by kernel_rfl) (by kernel_rfl) ((i : Int) + (b.length : Int)) rfl (by omega) (by omega) _) ?_
  refine wq_p 3 [(12, (Value.bool (decide ((i : Int) + (b.length : Int) ≤ (x.length : Int))))), (11, (Value.int .i64 ((x.length : Int)))), (10, (Value.slice A x.length c))] ?_
  refine wl_end rfl ?_
  refine seq_n hK6 ?_
  refine wp_if ((i : Int) + (b.length : Int) ≤ (x.length : Int)) (by kernel_rfl) (fun b7 => ?_) (fun b7 => ?_)
  ·
   refine wp_skip ?_
   refine seq_n hK5 ?_
   refine wp_seq_k ?_
   intro K8 hK8
   refine wp_block ?_
   refine wp_seq_k ?_
   intro K9 hK9
   refine reg_lit ?_
   refine wq_p 5 [(19, (Value.int .i64 ((b.length : Int)))), (18, (Value.slice B b.length d)), (17, (Value.int .i64 ((i : Int)))), (16, (Value.int .i64 ((i : Int)))), (15, (Value.slice A x.length c))] ?_
   refine wq_v (some 20) (Value.int .i64 ((i : Int) + (b.length : Int))) (exec_add _ _ _ _ rfl ((i : Int)) ((b.length : Int)) (by kernel_rfl) (by kernel_rfl) ((i : Int) + (b.length : Int)) rfl (by omega) (by omega) _) ?_
   refine wq_v (some 21) (cutS (Value.slice A x.length c) i ((i) + (b.length))) (e_cut_lh (h4.rd 0 rfl) (.tmp 15) (.tmp 16) (.tmp 20) (by kernel_rfl) (by kernel_rfl) .i64 .i64 i ((i) + (b.length)) (by kernel_rfl) (by kernel_rfl) (by omega) (by omega) _) ?_
   refine wq_p 1 [(22, (Value.slice B b.length d))] ?_
   refine wq_to (some 23) (x_anspost h4 38 [(cutS (Value.slice A x.length c) i ((i) + (b.length))), (Value.slice B b.length d)] (by kernel_rfl) (sequal_any _ _ (((x).take ((i) + (b.length))).drop i) b _ (SB.cut (h4.rd 0 rfl) i ((i) + (b.length)) (by omega)) (h4.rd 1 rfl))) ?_
   rintro _ w10 ⟨rfl, h10⟩
   refine wl_end rfl ?_
   refine seq_n hK9 ?_
   refine wp_cond_split (t := decide (((x).take ((i) + (b.length))).drop i = b)) (by kernel_rfl) (fun b11 => ?_) (fun b11 => ?_)
   ·
    refine wp_seq_k ?_
    intro K12 hK12
    refine reg_lit ?_
    refine wq_p 1 [(4, (Value.bool true))] ?_
    refine wl_end rfl ?_
    refine seq_n hK12 ?_
    refine wp_ret ?_
    refine blk_r ?_
    refine seq_r ?_
    refine seq_r ?_
    refine blk_r ?_
    refine seq_r ?_
    refine post_1 rfl (by kernel_rfl) (rtmp (v := (Value.bool true)) (by kernel_rfl)) ?_
    exact ⟨by rw [stands_yes (by omega) (of_decide_eq_true b11)], h10.below0⟩
   ·
    refine wp_skip ?_
    refine blk_n ?_
    refine seq_n hK8 ?_
    refine reg_lit ?_
    refine wq_p 1 [(13, (Value.int .i64 ((i : Int))))] ?_
    refine wq_v (some 14) (Value.int .i64 ((i : Int) + 1)) (exec_add _ _ _ _ rfl ((i : Int)) 1 (by kernel_rfl) (by kernel_rfl) ((i : Int) + 1) rfl (by omega) (by omega) _) ?_
    refine wq_p 1 [(5, (Value.int .i64 ((i : Int) + 1)))] ?_
    refine wl_end rfl ?_
    refine ⟨x.length + 1 - (i + 1), (by omega), (i + 1), (by omega), (lt_snoc hF (of_decide_eq_false b11)), rfl, (patch_eq _ 24 _ (by kernel_rfl) (by kernel_rfl) (by kernel_rfl)), h10.sel [] [0, 1] (by kernel_rfl) rfl rfl⟩
  ·
   refine wp_exit ?_
   refine seq_e ?_
   refine seq_e ?_
   refine blk_e ?_
   refine seq_n hK2 ?_
   refine wp_seq_k ?_
   intro K13 hK13
   refine reg_lit ?_
   refine wq_p 1 [(4, (Value.bool false))] ?_
   refine wl_end rfl ?_
   refine seq_n hK13 ?_
   refine wp_ret ?_
   refine post_1 rfl (by kernel_rfl) (rtmp (v := (Value.bool false)) (by kernel_rfl)) ?_
   exact ⟨by rw [stands_no (by omega) hF], h4.below0⟩
set_option maxRecDepth 100000 in
set_option maxHeartbeats 1000000 in
theorem says1_any (u bv : Value) (x b : Bytes) (cb : Nat) (w : World) (hu : SB w u x) (hc : Blk w cb 35 [bv]) (hv : SB w bv b) (hx7 : x.length ≤ 1000000) (hb7 : b.length ≤ 1000000) : Calls Try.prog 27 #[u, pt cb 0] w (AnsPost w (.bool (standsB x b))) := by
  obtain ⟨A, c, rfl, hc1, hc2⟩ := sb_form hu
  obtain ⟨B, d, rfl, hd1, hd2⟩ := sb_form hv
  have h0 := addRB (addRB (addRB (Hp.nil (fun _ => False) w) (rBlk cb 35 [_]) hc) (rSB _ b) hv) (rSB _ x) hu
  refine enter 5 Try.func27 rfl rfl ?_
  refine wp_reset 7 [(0, (Value.slice A x.length c)), (1, (pt cb 0))] (fun x0 => ?_)
  refine wp_seq_k ?_
  intro K1 hK1
  refine reg_lit ?_
  refine wq_p 1 [(3, (Value.bool false))] ?_
  refine wl_end rfl ?_
  refine seq_n hK1 ?_
  refine wp_seq_k ?_
  intro K2 hK2
  refine reg_lit ?_
  refine wq_p 1 [(4, (Value.slice A x.length c))] ?_
  refine wq_v (some 5) (Value.slice B b.length d) (e_load (h0.rd 2 rfl) 35 (.tmp 1) (by kernel_rfl) 0 (Value.slice B b.length d) (by kernel_rfl) (by kernel_rfl) (by kernel_rfl)) ?_
  refine wq_to (some 6) (x_anspost h0 28 [(Value.slice A x.length c), (Value.slice B b.length d)] (by kernel_rfl) (stands_any _ _ x b _ (h0.rd 0 rfl) (h0.rd 1 rfl) hx7 hb7)) ?_
  rintro _ w3 ⟨rfl, h3⟩
  refine wq_p 1 [(3, (Value.bool (standsB x b)))] ?_
  refine wl_end rfl ?_
  refine seq_n hK2 ?_
  refine wp_ret ?_
  refine post_1 rfl (by kernel_rfl) (rtmp (v := (Value.bool (standsB x b))) (by kernel_rfl)) ?_
  exact ⟨rfl, h3.below0⟩
set_option maxRecDepth 100000 in
set_option maxHeartbeats 1000000 in
theorem indexf_any (A : Option Addr) (c : Nat) (vs : List Value) (ls : List Bytes) (cb : Nat) (bv : Value) (b : Bytes) (w : World) (hr : RV w 1 A c (vs.map fun v => [v])) (hs : (rSBs vs ls).Φ w) (hn : vs.length = ls.length) (hc : Blk w cb 35 [bv]) (hv : SB w bv b) (hl : ls.length ≤ 100000000) (hls : ∀ y ∈ ls, y.length ≤ 1000000) (hb7 : b.length ≤ 1000000) :
    Calls Try.prog 37 #[.slice A ls.length c, .func (.func 27) #[] #[pt cb 0]] w fun e w' => ∃ r : Int, e = .returned (.int .i64 r) ∧ (0 ≤ r ↔ (ls.any fun x => standsB x b) = true) ∧ Below w.heap.size w w' := by
  obtain ⟨B, d, rfl, hd1, hd2⟩ := sb_form hv
  have h0 := addRB (addRB (addRB (addRB (Hp.nil (fun _ => False) w) (rSB _ b) hv) (rBlk cb 35 [_]) hc) (rSBs vs ls) hs) (rRV 1 A c (vs.map fun v => [v])) hr
  refine enter 17 Try.func37 rfl rfl ?_
  refine wp_reset 19 [(0, (Value.slice A ls.length c)), (1, (Value.func (.func 27) #[] #[(pt cb 0)]))] (fun x0 => ?_)
  refine wp_seq_k ?_
  intro K1 hK1
  refine reg_lit ?_
  refine wq_p 1 [(4, (Value.int .i64 0))] ?_
  refine wl_end rfl ?_
  refine seq_n hK1 ?_
  refine wp_seq_k ?_
  intro K2 hK2
  refine wp_seq_k ?_
  intro K3 hK3
  refine reg_lit ?_
  refine wq_p 3 [(8, (Value.int .i64 0)), (7, (Value.int .i64 ((ls.length : Int)))), (6, (Value.slice A ls.length c))] ?_
  refine wl_end rfl ?_
  refine seq_n hK3 ?_
  refine wp_block ?_
  refine wp_loopm (fun mM xX aA wL => ∃ (i : Nat), (i ≤ ls.length) ∧ (∀ j, j < i → ∀ y, ls[j]? = some y → standsB y b = false) ∧ mM = ls.length - (i) ∧ aA = patch xX 19 [(0, (Value.slice A ls.length c)), (1, (Value.func (.func 27) #[] #[(pt cb 0)])), (7, (Value.int .i64 ((ls.length : Int)))), (8, (Value.int .i64 ((i : Int))))] ∧ Hp (fun _ => False) w wL [rRV 1 A c (vs.map fun v => [v]), rSBs vs ls, rBlk cb 35 ([(Value.slice B b.length d)]), rSB ((Value.slice B b.length d)) b] []) ⟨_, 0, (by omega), (fun j hj => absurd hj (by omega)), rfl, (patch_eq _ 19 _ (by kernel_rfl) (by kernel_rfl) (by kernel_rfl)), h0.sel [] [0, 1, 2, 3] (by kernel_rfl) rfl rfl⟩ ?_
  rintro _ x4 _ w4 ⟨i, hi, hF, rfl, rfl, h4⟩
  refine wp_seq_k ?_
  intro K5 hK5
  refine reg_lit ?_
  refine wq_p 1 [(9, (Value.bool (decide ((i : Int) < (ls.length : Int)))))] ?_
  refine wl_end rfl ?_
  refine seq_n hK5 ?_
  refine wp_seq_k ?_
  intro K6 hK6
  refine wp_if ((i : Int) < (ls.length : Int)) (by kernel_rfl) (fun b7 => ?_) (fun b7 => ?_)
  ·
   refine wp_skip ?_
   refine seq_n hK6 ?_
   refine wp_seq_k ?_
   intro K8 hK8
   refine wp_block ?_
   refine wp_seq_k ?_
   intro K9 hK9
   refine reg_lit ?_
   refine wq_p 2 [(5, (Value.int .i64 ((i : Int)))), (10, (Value.int .i64 ((i : Int))))] ?_
   refine wl_end rfl ?_
   refine seq_n hK9 ?_
   refine wp_seq_k ?_
   intro K10 hK10
   obtain ⟨Aj, cj, y, hvj, hy⟩ := sbsget (h4.rd 1 rfl) hn i (by omega)
   have h11 := h4.subSBs (v := Value.slice Aj y.length cj) (l := y) 1 rfl i hvj hy
   
   refine reg_lit ?_
   refine wq_p 3 [(13, (Value.int .i64 ((i : Int)))), (12, (Value.slice A ls.length c)), (11, (Value.func (.func 27) #[] #[(pt cb 0)]))] ?_
   refine wq_v (some 14) (eAt A (i * 1 + 0)) (e_idxN (RV.lenIs (n := ls.length) (h11.rd 1 rfl) (by simp [hn])).2 i ls.length (RV.lenIs (n := ls.length) (h11.rd 1 rfl) (by simp [hn])).1 (by omega) 31 (.tmp 12) (.tmp 13) (by kernel_rfl) .i64 (by kernel_rfl) (by kernel_rfl) 35 (by kernel_rfl) (by kernel_rfl) _) ?_
   refine wq_v (some 15) (Value.slice Aj y.length cj) (e_elemN (RV.lenIs (n := ls.length) (h11.rd 1 rfl) (by simp [hn])).2 i 0 ([(Value.slice Aj y.length cj)]) (by rw [List.getElem?_map, hvj]; rfl) 35 (.tmp 14) (by kernel_rfl) (Value.slice Aj y.length cj) (by kernel_rfl) (by kernel_rfl) (by kernel_rfl)) ?_
   refine wq_to (some 16) (x_anspost h11 27 [(Value.slice Aj y.length cj), pt cb 0] (by kernel_rfl) (says1_any _ _ y b cb _ (h11.rd 0 rfl) (h11.rd 3 rfl) (h11.rd 4 rfl) (hls y (List.mem_of_getElem? hy)) hb7)) ?_
   rintro _ w12 ⟨rfl, h12⟩
   refine wl_end rfl ?_
   refine seq_n hK10 ?_
   refine wp_cond_split (t := standsB y b) (by kernel_rfl) (fun b13 => ?_) (fun b13 => ?_)
   ·
    refine wp_seq_k ?_
    intro K14 hK14
    refine reg_lit ?_
    refine wq_p 2 [(4, (Value.int .i64 ((i : Int)))), (17, (Value.int .i64 ((i : Int))))] ?_
    refine wl_end rfl ?_
    refine seq_n hK14 ?_
    refine wp_ret ?_
    refine blk_r ?_
    refine seq_r ?_
    refine seq_r ?_
    refine blk_r ?_
    refine seq_r ?_
    refine post_1 rfl (by kernel_rfl) (rtmp (v := (Value.int .i64 ((i : Int)))) (by kernel_rfl)) ?_
    exact ⟨_, rfl, ⟨fun _ => List.any_eq_true.2 ⟨y, List.mem_of_getElem? hy, b13⟩, fun _ => by omega⟩, h12.below0⟩
   ·
    refine wp_skip ?_
    refine blk_n ?_
    refine seq_n hK8 ?_
    refine reg_lit ?_
    refine wq_v (some 18) (Value.int .i64 ((i : Int) + 1)) (exec_add _ _ _ _ rfl ((i : Int)) 1 (by kernel_rfl) (by kernel_rfl) ((i : Int) + 1) rfl (by omega) (by omega) _) ?_
    refine wq_p 1 [(8, (Value.int .i64 ((i : Int) + 1)))] ?_
    refine wl_end rfl ?_
    refine ⟨ls.length - (i + 1), (by omega), (i + 1), (by omega), (lt_snoc hF (fun z hz => by rw [hy] at hz; injection hz with hz; subst hz; exact b13)), rfl, (patch_eq _ 19 _ (by kernel_rfl) (by kernel_rfl) (by kernel_rfl)), h12.sel [] [1, 2, 3, 4] (by kernel_rfl) rfl rfl⟩
  ·
   refine wp_exit ?_
   refine seq_e ?_
   refine seq_e ?_
   refine blk_e ?_
   refine seq_n hK2 ?_
   refine wp_seq_k ?_
   intro K15 hK15
   refine reg_lit ?_
   refine wq_p 1 [(4, (Value.int .i64 (-1)))] ?_
   refine wl_end rfl ?_
   refine seq_n hK15 ?_
   refine wp_ret ?_
   refine post_1 rfl (by kernel_rfl) (rtmp (v := (Value.int .i64 (-1))) (by kernel_rfl)) ?_
   exact ⟨_, rfl, ⟨fun h => absurd h (by decide), fun h => by obtain ⟨y, hy, hst⟩ := List.any_eq_true.1 h; obtain ⟨j, hj, rfl⟩ := List.getElem_of_mem hy; rw [hF j (by omega) _ (List.getElem?_eq_getElem hj)] at hst; cases hst⟩, h4.below0⟩
theorem x_indexf {F0 : Nat → Prop} {w0 w : World} {ro rs : List Res} {o : Oper} {a : Act} (h : Hp F0 w0 w ro rs) (A : Option Addr) (c : Nat) (vs : List Value) (ls : List Bytes) (cb : Nat) (bv : Value) (b : Bytes) (hp : pureVal Try.prog (execOp a.eval o) = some (.enter 37 #[.slice A ls.length c, .func (.func 27) #[] #[pt cb 0]])) (hr : RV w 1 A c (vs.map fun v => [v])) (hs : (rSBs vs ls).Φ w) (hn : vs.length = ls.length) (hc : Blk w cb 35 [bv]) (hv : SB w bv b) (hl : ls.length ≤ 100000000) (hls : ∀ y ∈ ls, y.length ≤ 1000000) (hb7 : b.length ≤ 1000000) :
    OpTo Try.prog o a w (fun u w' => ∃ r : Int, u = .int .i64 r ∧ (0 ≤ r ↔ (ls.any fun x => standsB x b) = true) ∧ Hp F0 w0 w' ro rs) :=
  OpTo.enter 37 [.slice A ls.length c, .func (.func 27) #[] #[pt cb 0]] hp (indexf_any A c vs ls cb bv b w hr hs hn hc hv hl hls hb7) fun _e _w' hq => by
    obtain ⟨r, he, h1, hb⟩ := hq
    exact ⟨_, he, r, rfl, h1, h.below hb⟩
set_option maxRecDepth 100000 in
set_option maxHeartbeats 1000000 in
theorem containsf_any (A : Option Addr) (c : Nat) (vs : List Value) (ls : List Bytes) (cb : Nat) (bv : Value) (b : Bytes) (w : World) (hr : RV w 1 A c (vs.map fun v => [v])) (hs : (rSBs vs ls).Φ w) (hn : vs.length = ls.length) (hc : Blk w cb 35 [bv]) (hv : SB w bv b) (hl : ls.length ≤ 100000000) (hls : ∀ y ∈ ls, y.length ≤ 1000000) (hb7 : b.length ≤ 1000000) :
    Calls Try.prog 26 #[.slice A ls.length c, .func (.func 27) #[] #[pt cb 0]] w (AnsPost w (.bool (ls.any fun x => standsB x b))) := by
  obtain ⟨B, d, rfl, hd1, hd2⟩ := sb_form hv
  have h0 := addRB (addRB (addRB (addRB (Hp.nil (fun _ => False) w) (rSB _ b) hv) (rBlk cb 35 [_]) hc) (rSBs vs ls) hs) (rRV 1 A c (vs.map fun v => [v])) hr
  refine enter 7 Try.func26 rfl rfl ?_
  refine wp_reset 9 [(0, (Value.slice A ls.length c)), (1, (Value.func (.func 27) #[] #[(pt cb 0)]))] (fun x0 => ?_)
  refine wp_seq_k ?_
  intro K1 hK1
  refine reg_lit ?_
  refine wq_p 1 [(4, (Value.bool false))] ?_
  refine wl_end rfl ?_
  refine seq_n hK1 ?_
  refine wp_seq_k ?_
  intro K2 hK2
  refine reg_lit ?_
  refine wq_p 2 [(6, (Value.func (.func 27) #[] #[(pt cb 0)])), (5, (Value.slice A ls.length c))] ?_
  refine wq_to (some 7) (x_indexf h0 A c vs ls cb _ b (by kernel_rfl) (h0.rd 0 rfl) (h0.rd 1 rfl) hn (h0.rd 2 rfl) (h0.rd 3 rfl) hl hls hb7) ?_
  rintro _ w3 ⟨r, rfl, hr9, h3⟩
  refine wq_p 2 [(4, (Value.bool (decide (r ≥ 0)))), (8, (Value.bool (decide (r ≥ 0))))] ?_
  refine wl_end rfl ?_
  refine seq_n hK2 ?_
  refine wp_ret ?_
  refine post_1 rfl (by kernel_rfl) (rtmp (v := (Value.bool (decide (r ≥ 0)))) (by kernel_rfl)) ?_
  exact ⟨by rw [show decide (r ≥ 0) = (ls.any fun x => standsB x b) from Bool.eq_iff_iff.2 (by rw [decide_eq_true_iff]; exact hr9)], h3.below0⟩
set_option maxRecDepth 100000 in
set_option maxHeartbeats 1000000 in
theorem says_any (m : Nat) (p : Mp) (S : KM) (F FT : Nat → Prop) (s : STab) (Lk Lb : List Bytes) (N : List Bytes) (v : Value) (b : Bytes) (w : World) (h : Hp (fun q => F q ∨ FT q) w w [rSB v b] [rMind F none m p S, rTab FT p.tb s]) (hS : WSl s Lk Lb N S) (hN : N.length ≤ 1000000) (hs : Sm s) (hb7 : b.length ≤ 1000000) : Calls Try.prog 17 #[pt m 0, v] w (CloseP F FT w m p s Lk Lb N fun S => .bool (S.al.any fun x => standsB x b)) := by
  obtain ⟨A, c, rfl, hc1, hc2⟩ := sb_form (h.rd 0 rfl)
  have h0 := h
  refine enter 11 Try.func17 rfl rfl ?_
  refine wp_reset 13 [(0, (pt m 0)), (1, (Value.slice A b.length c))] (fun x0 => ?_)
  refine wp_seq_k ?_
  intro K1 hK1
  refine reg_lit ?_
  refine wq_to (some 3) (x_new h0 35 ([(Value.slice A b.length c)]) (fun r => pt r 0) (by kernel_rfl)) ?_
  rintro _ w2 ⟨g2, rfl, h2⟩
  refine wq_p 1 [(4, (Value.bool false))] ?_
  refine wl_end rfl ?_
  refine seq_n hK1 ?_
  refine wp_seq_k ?_
  intro K3 hK3
  refine reg_lit ?_
  refine wq_p 1 [(5, (pt m 0))] ?_
  refine wq_to (some 6) (x_close h2 1 2 rfl rfl (by kernel_rfl) (by kernel_rfl) hS hN hs) ?_
  rintro _ w4 ⟨F4, S4, rfl, hM4, h4⟩
  refine wl_end rfl ?_
  refine seq_n hK3 ?_
  refine wp_seq_k ?_
  intro K5 hK5
  obtain ⟨A0, vs, G, h6⟩ := mind_split h4 1 rfl
  obtain ⟨A1, c1, rfl⟩ := ov_form (h6.own 4 _ rfl)
  obtain ⟨_, hn, hrw⟩ := h6.own 5 _ rfl
  
  refine reg_lit ?_
  refine wq_p 3 [(9, (pt m 4)), (8, (pt m 0)), (7, (pt m 0))] ?_
  refine wq_v (some 10) (Value.slice A1 vs.length c1) (e_load (h6.at_ 0 rfl) 31 (.tmp 9) (by kernel_rfl) 4 (Value.slice A1 vs.length c1) (by kernel_rfl) (by kernel_rfl) (by kernel_rfl)) ?_
  refine wq_p 1 [(11, (Value.func (.func 27) #[] #[(pt g2 0)]))] ?_
  refine wq_to (some 12) (x_anspost h6 26 [.slice A1 vs.length c1, .func (.func 27) #[] #[pt g2 0]] (by kernel_rfl) (by rw [show vs.length = S4.al.length from hn]; exact containsf_any A1 c1 vs S4.al g2 _ b _ (OV.rvn (h6.own 4 _ rfl)).2 (fun i v l h1 h2 => (((h6.own 5 _ rfl).2.2 i v l h1 h2).1)) hn (h6.at_ 6 rfl) (h6.rd 0 rfl) (Nat.le_trans (hM4.toWS.alb hN hs.bn) (by decide)) (fun y hy => by obtain ⟨i, hi, rfl⟩ := List.getElem_of_mem hy; exact (hrw i _ _ (List.getElem?_eq_getElem (show i < vs.length by omega)) (List.getElem?_eq_getElem hi)).2.2.2) hb7)) ?_
  rintro _ w7 ⟨rfl, h7⟩
  refine wq_p 1 [(4, (Value.bool ((S4.al.any fun x => standsB x b))))] ?_
  refine wl_end rfl ?_
  refine seq_n hK5 ?_
  refine wp_ret ?_
  obtain ⟨F8, h8⟩ := mind_join (p := p) (it := none) (S := S4) (rest := [rTab FT p.tb s]) (h7.selS [0, 1, 2, 3, 4, 5, 7] [rBlk m 65 ([(pt p.tb 0), (Value.map (some p.kb)), (Value.map (some p.bb)), (Value.map (some p.ob)), (Value.slice A1 vs.length c1)]), rKM p.kb S4.kk, rBX p.bb none S4.bx, rKM p.ob S4.op, rOV 35 1 ((Value.slice A1 vs.length c1)) (vs.map fun v => [v]), rRows G vs S4.al, rTab FT p.tb s] (by kernel_rfl) rfl)
  refine post_1 rfl (by kernel_rfl) (rtmp (v := (Value.bool ((S4.al.any fun x => standsB x b)))) (by kernel_rfl)) ?_
  exact ⟨_, _, rfl, hM4, h8.sel [0, 1] [] (by decide) rfl rfl⟩
end Go.Proofs.Ytpkelokaammmjaa
end
/-! Calls of minds' methods. -/
section
namespace Go.Proofs.Ytpkelokaammmjaa
open Go.RowKit Go.QT
section
variable {F F0 FT : Nat → Prop} {w0 w : World} {ro rs : List Res} {m tb : Nat} {o : Oper} {a : Act} {S : KM} {p : Mp} {s : STab} {Lk Lb : List Bytes} {N : List Bytes} {v : Value} {b : Bytes}
theorem x_knew (h : Hp F0 w0 w ro rs) (hp : pureVal Try.prog (execOp a.eval o) = some (.enter 12 #[pt tb 0])) :
    OpTo Try.prog o a w (fun u w' => ∃ m p F, u = pt m 0 ∧ (p : Mp).tb = tb ∧ Hp F0 w0 w' ro (rMind F none m p ⟨[], [], [], []⟩ :: rs)) :=
  OpTo.enter 12 [pt tb 0] hp (knew_any tb w) fun e w' hq => by
    obtain ⟨m, p, F, he, hp, hh⟩ := hq
    exact ⟨_, he, m, p, F, rfl, hp, h.call0 hh⟩
theorem x_mcallT (h : Hp F0 w0 w ro rs) (i j : Nat) (hi : rs[i]? = some (rMind F none m p S)) (hj : rs[j]? = some (rTab FT tb s)) (hij : decide (i ≠ j) = true) (htb : p.tb = tb) (fn : FuncId) (al : List Value) (v : KM → Value) (hp : pureVal Try.prog (execOp a.eval o) = some (.enter fn al.toArray))
    (hc : Hp (fun q => F q ∨ FT q) w w [] [rMind F none m p S, rTab FT p.tb s] → Calls Try.prog fn al.toArray w (CloseP F FT w m p s Lk Lb N v)) :
    OpTo Try.prog o a w (fun u w' => ∃ F' S', u = v S' ∧ MSl s Lk Lb N S' ∧ Hp F0 w0 w' ro (rs.set i (rMind F' none m p S'))) := by
  subst htb
  exact x_mcall h i j hi hj hij fn al v hp hc
theorem x_learn (h : Hp F0 w0 w ro rs) (i j : Nat) (hi : rs[i]? = some (rMind F none m p S)) (hj : rs[j]? = some (rTab FT tb s)) (hij : decide (i ≠ j) = true) (htb : p.tb = tb) (K : Fin 16 → UInt8) (hp : pureVal Try.prog (execOp a.eval o) = some (.enter 14 #[pt m 0, .agg (vb (kl K)).toArray])) (hS : WSl s Lk Lb N S) (hN : N.length ≤ 1000000) (hs : Sm s) :
    OpTo Try.prog o a w (fun u w' => ∃ F' S', u = .tuple #[] ∧ MSl s (Lk ++ [kl K]) Lb N S' ∧ Hp F0 w0 w' ro (rs.set i (rMind F' none m p S'))) :=
  x_mcallT h i j hi hj hij htb 14 [pt m 0, .agg (vb (kl K)).toArray] (fun _ => .tuple #[]) hp fun hh => learn_any m p S F FT s Lk Lb N w hh hS hN hs K
theorem x_kkey (h : Hp F0 w0 w ro rs) (i j : Nat) (hi : rs[i]? = some (rMind F none m p S)) (hj : rs[j]? = some (rTab FT tb s)) (hij : decide (i ≠ j) = true) (htb : p.tb = tb) (K : Fin 16 → UInt8) (hp : pureVal Try.prog (execOp a.eval o) = some (.enter 15 #[pt m 0, .agg (vb (kl K)).toArray])) (hS : WSl s Lk Lb N S) (hN : N.length ≤ 1000000) (hs : Sm s) :
    OpTo Try.prog o a w (fun u w' => ∃ F' S', u = .bool (decide (kl K ∈ S'.kk)) ∧ MSl s Lk Lb N S' ∧ Hp F0 w0 w' ro (rs.set i (rMind F' none m p S'))) :=
  x_mcallT h i j hi hj hij htb 15 [pt m 0, .agg (vb (kl K)).toArray] (fun S => .bool (decide (kl K ∈ S.kk))) hp fun hh => key_any m p S F FT s Lk Lb N w hh hS hN hs K
theorem hpB (hh : Hp (fun q => F q ∨ FT q) w w [] [rMind F none m p S, rTab FT p.tb s]) (hb : SB w v b) (h1 : (rSB v b).dj (rMind F none m p S)) (h2 : (rSB v b).dj (rTab FT p.tb s)) : Hp (fun q => F q ∨ FT q) w w [rSB v b] [rMind F none m p S, rTab FT p.tb s] :=
  hh.addR (rSB v b) hb fun k u hk => by
    match k, hk with
    | 0, hk => injection hk with hk; subst hk; exact h1
    | 1, hk => injection hk with hk; subst hk; exact h2
    | k+2, hk => simp at hk
/-- Bytes that lie apart from two things. -/
structure Apart (w : World) (v : Value) (b : Bytes) (r t : Res) : Prop where
  sb : SB w v b
  d1 : (rSB v b).dj r
  d2 : (rSB v b).dj t
theorem Hp.apartR (h : Hp F0 w0 w ro rs) (i j k : Nat) {r t : Res} (hi : rs[i]? = some r) (hj : rs[j]? = some t) (hk : ro[k]? = some (rSB v b)) : Apart w v b r t :=
  ⟨h.red k _ hk, h.rdis k i _ r hk hi, h.rdis k j _ t hk hj⟩
theorem Hp.apartS (h : Hp F0 w0 w ro rs) (i j k : Nat) {r t u : Res} (hi : rs[i]? = some r) (hj : rs[j]? = some t) (hk : rs[k]? = some u) (h1 : decide (k ≠ i) = true) (h2 : decide (k ≠ j) = true) (hb : SB w v b) (hF : ∀ q, (rSB v b).F q → u.F q) : Apart w v b r t :=
  ⟨hb, fun q hq => h.dis k i u r hk hi (of_decide_eq_true h1) q (hF q hq), fun q hq => h.dis k j u t hk hj (of_decide_eq_true h2) q (hF q hq)⟩
theorem Hp.apartO (h : Hp F0 w0 w ro rs) (i j k : Nat) {r t : Res} (hi : rs[i]? = some r) (hj : rs[j]? = some t) (hk : rs[k]? = some (rOB v b)) (h1 : decide (k ≠ i) = true) (h2 : decide (k ≠ j) = true) : Apart w v b r t :=
  h.apartS i j k hi hj hk h1 h2 (OB.sb (h.own k _ hk)) (fun _ hq => hq.2)
theorem Hp.apartB (h : Hp F0 w0 w ro rs) (i j k : Nat) {r t : Res} {g : Nat} {K : Fin 16 → UInt8} (hi : rs[i]? = some r) (hj : rs[j]? = some t) (hk : rs[k]? = some (rBlk g 28 (vb (kl K)))) (h1 : decide (k ≠ i) = true) (h2 : decide (k ≠ j) = true) : Apart w (.slice (some ⟨g, 0, none⟩) 16 16) (kl K) r t :=
  h.apartS i j k hi hj hk h1 h2 (SB.blk16 (h.own k _ hk)) (fun q hq => by
    have : g = q := by simpa [rSB, Value.ownBlock] using hq.2
    exact this.symm)
theorem x_see (h : Hp F0 w0 w ro rs) (i j : Nat) (hi : rs[i]? = some (rMind F none m p S)) (hj : rs[j]? = some (rTab FT tb s)) (hij : decide (i ≠ j) = true) (htb : p.tb = tb) (hp : pureVal Try.prog (execOp a.eval o) = some (.enter 13 #[pt m 0, v])) (ha : Apart w v b (rMind F none m p S) (rTab FT tb s)) (hS : WSl s Lk Lb N S) (hN : N.length ≤ 999999) (hs : Sm s) (hl : b.length ≤ 1000000) :
    OpTo Try.prog o a w (fun u w' => ∃ F' S', u = .tuple #[] ∧ MSl s (Lk ++ marksIn 107 b) (Lb ++ marksIn 98 b) (N ++ [b]) S' ∧ Hp F0 w0 w' ro (rs.set i (rMind F' none m p S'))) :=
  x_mcallT h i j hi hj hij htb 13 [pt m 0, v] (fun _ => .tuple #[]) hp fun hh => see_any m p S F FT s Lk Lb N v b w (hpB hh ha.sb ha.d1 (htb ▸ ha.d2)) hS hN hs hl
theorem x_kopens (h : Hp F0 w0 w ro rs) (i j : Nat) (hi : rs[i]? = some (rMind F none m p S)) (hj : rs[j]? = some (rTab FT tb s)) (hij : decide (i ≠ j) = true) (htb : p.tb = tb) (hp : pureVal Try.prog (execOp a.eval o) = some (.enter 16 #[pt m 0, v])) (ha : Apart w v b (rMind F none m p S) (rTab FT tb s)) (hS : WSl s Lk Lb N S) (hN : N.length ≤ 1000000) (hs : Sm s) (hl : b.length = 16) :
    OpTo Try.prog o a w (fun u w' => ∃ F' S', u = .bool (decide (b ∈ S'.op)) ∧ MSl s Lk Lb N S' ∧ Hp F0 w0 w' ro (rs.set i (rMind F' none m p S'))) :=
  x_mcallT h i j hi hj hij htb 16 [pt m 0, v] (fun S => .bool (decide (b ∈ S.op))) hp fun hh => kopens_any m p S F FT s Lk Lb N v b w (hpB hh ha.sb ha.d1 (htb ▸ ha.d2)) hS hN hs hl
theorem x_says (h : Hp F0 w0 w ro rs) (i j : Nat) (hi : rs[i]? = some (rMind F none m p S)) (hj : rs[j]? = some (rTab FT tb s)) (hij : decide (i ≠ j) = true) (htb : p.tb = tb) (hp : pureVal Try.prog (execOp a.eval o) = some (.enter 17 #[pt m 0, v])) (ha : Apart w v b (rMind F none m p S) (rTab FT tb s)) (hS : WSl s Lk Lb N S) (hN : N.length ≤ 1000000) (hs : Sm s) (hl : b.length ≤ 1000000) :
    OpTo Try.prog o a w (fun u w' => ∃ F' S', u = .bool (S'.al.any fun x => standsB x b) ∧ MSl s Lk Lb N S' ∧ Hp F0 w0 w' ro (rs.set i (rMind F' none m p S'))) :=
  x_mcallT h i j hi hj hij htb 17 [pt m 0, v] (fun S => .bool (S.al.any fun x => standsB x b)) hp fun hh => says_any m p S F FT s Lk Lb N v b w (hpB hh ha.sb ha.d1 (htb ▸ ha.d2)) hS hN hs hl
end
end Go.Proofs.Ytpkelokaammmjaa
end
/-! Plain laws of minds: tables that grow, single marks, truths. -/
section
namespace Go.Proofs.Ytpkelokaammmjaa
open Go.RowKit Go.QT
section
variable {s s' : STab} {K0 B0 : Bytes → Prop} {N : List Bytes} {n : Nat} {S : KM} {f : SFrom} {k : Bytes}
theorem box_more {xs : List SSealed} (h : s'.boxes = s.boxes ++ xs) : ∀ k sl, s.box k = some sl → s'.box k = some sl := by
  intro k sl hs
  unfold STab.box at hs ⊢
  split
  · rename_i kd n hm
    rw [hm] at hs
    simp only at hs ⊢
    split
    · rename_i hc
      rw [if_pos hc] at hs
      rw [h, List.getElem?_append_left (List.getElem?_eq_some_iff.1 hs).1]
      exact hs
    · rename_i hc
      rw [if_neg hc] at hs; cases hs
  · rename_i hm
    rw [hm] at hs; cases hs
theorem WS.more (h : WS s K0 B0 N S) {xs : List SSealed} {ys : List SFrom} (hb : s'.boxes = s.boxes ++ xs) (hk : s'.keys = s.keys ++ ys) : WS s' K0 B0 N S :=
  h.grow (box_more hb) (fun n f hf => by rw [hk, List.getElem?_append_left (List.getElem?_eq_some_iff.1 hf).1]; exact hf)
theorem WS.gadd (h : WS s K0 B0 N S) (hs : s' = s.add f) : WS s' K0 B0 N S := by
  subst hs
  exact h.more (xs := []) (ys := [f]) (by simp [STab.add]) rfl
theorem made_more (f : SFrom) : ∃ ys, (s.made f).boxes = s.boxes ++ [] ∧ (s.made f).keys = s.keys ++ ys := by
  unfold STab.made
  split
  · exact ⟨[], by simp, by simp⟩
  · exact ⟨[f], by simp, rfl⟩
theorem WS.gmade (h : WS s K0 B0 N S) (hs : s' = s.made f) : WS s' K0 B0 N S := by
  subst hs
  obtain ⟨ys, h1, h2⟩ := made_more (s := s) f
  exact h.more h1 h2
theorem WS.gseal {u : Int} {b : Bytes} (h : WS s K0 B0 N S) (hs : s' = s.seal k u b) : WS s' K0 B0 N S := by
  subst hs
  exact h.more (ys := []) rfl (by simp [STab.seal])
theorem findB_one (hk : k.length = 16) : findB k = if (markOf k).isSome then [k] else [] := by
  unfold findB
  rw [hk]
  show findTo k (0 + 1) = _
  rw [findTo_succ]
  have : (k.take (0 + 16)).drop 0 = k := by rw [List.drop_zero, List.take_of_length_le (by omega)]
  rw [this]
  simp [findTo]
theorem isKd_mk {c d : UInt8} (hd : d = 107 ∨ d = 98 ∨ d = 100) (hn : n ≤ 1099511627776) : isKd c (mkB d n) ↔ c = d := by
  unfold isKd
  rw [markOf_mkB hd hn]
  constructor
  · rintro ⟨m, h⟩; injection h with h; injection h with h1 h2; exact h1.symm
  · rintro rfl; exact ⟨n, rfl⟩
theorem findB_mk {d : UInt8} (hd : d = 107 ∨ d = 98 ∨ d = 100) (hn : n ≤ 1099511627776) : findB (mkB d n) = [mkB d n] := by
  rw [findB_one rfl, markOf_mkB hd hn]; rfl
theorem marksIn_same {c : UInt8} (hd : c = 107 ∨ c = 98 ∨ c = 100) (hn : n ≤ 1099511627776) : marksIn c (mkB c n) = [mkB c n] := by
  unfold marksIn
  rw [findB_mk hd hn, List.filter_cons, if_pos (isKdB_iff.2 ((isKd_mk hd hn).2 rfl))]; rfl
theorem marksIn_other {c d : UInt8} (hd : d = 107 ∨ d = 98 ∨ d = 100) (hn : n ≤ 1099511627776) (hne : c ≠ d) : marksIn c (mkB d n) = [] := by
  unfold marksIn
  rw [findB_mk hd hn, List.filter_cons, if_neg (fun h => hne ((isKd_mk hd hn).1 (isKdB_iff.1 h)))]; rfl
theorem fits_key (hn : n ≤ 1099511627776) : fitsB S (mkB 107 n) = decide (mkB 107 n ∈ S.kk) := by
  unfold fitsB
  rw [findB_mk (.inl rfl) hn]
  simp [fitB, isKdB, markOf_mkB (k := 107) (.inl rfl) hn]
theorem fits_box (hn : n ≤ 1099511627776) : fitsB S (mkB 98 n) = decide (mkB 98 n ∈ S.bx) := by
  unfold fitsB
  rw [findB_mk (.inr (.inl rfl)) hn]
  simp [fitB, isKdB, markOf_mkB (k := 98) (.inr (.inl rfl)) hn]
variable {Lk Lb : List Bytes}
theorem decK (b : Bool) (h : Kn s (fun k => k ∈ Lk) (fun k => k ∈ Lb) 0 k ↔ b = true) : ∀ S', MSl s Lk Lb N S' → decide (k ∈ S'.kk) = b := fun S' hM => by
  rw [Bool.eq_iff_iff, decide_eq_true_iff, ← h]; exact hM.iff.1 k
theorem decX (b : Bool) (h : Kn s (fun k => k ∈ Lk) (fun k => k ∈ Lb) 1 k ↔ b = true) : ∀ S', MSl s Lk Lb N S' → decide (k ∈ S'.bx) = b := fun S' hM => by
  rw [Bool.eq_iff_iff, decide_eq_true_iff, ← h]; exact hM.iff.2.1 k
theorem decO (b : Bool) (h : Kn s (fun k => k ∈ Lk) (fun k => k ∈ Lb) 2 k ↔ b = true) : ∀ S', MSl s Lk Lb N S' → decide (k ∈ S'.op) = b := fun S' hM => by
  rw [Bool.eq_iff_iff, decide_eq_true_iff, ← h]; exact hM.iff.2.2 k
theorem decFk (b : Bool) (hn : n ≤ 1099511627776) (hk : k = mkB 107 n) (h : Kn s (fun k => k ∈ Lk) (fun k => k ∈ Lb) 0 k ↔ b = true) : ∀ S', MSl s Lk Lb N S' → fitsB S' k = b := fun S' hM => by
  subst hk
  rw [fits_key hn]; exact decK b h S' hM
end
section
variable {F F0 FT : Nat → Prop} {w0 w : World} {ro rs : List Res} {m i : Nat} {o : Oper} {a : Act} {p : Mp} {s : STab} {Lk Lb : List Bytes} {N : List Bytes} {f : KM → Bool}
theorem mdec (bv : Bool) (hb : ∀ S', MSl s Lk Lb N S' → f S' = bv) (h : OpTo Try.prog o a w (fun u w' => ∃ F' S', u = .bool (f S') ∧ MSl s Lk Lb N S' ∧ Hp F0 w0 w' ro (rs.set i (rMind F' none m p S')))) :
    OpTo Try.prog o a w (fun u w' => ∃ F' S', u = .bool bv ∧ MSl s Lk Lb N S' ∧ Hp F0 w0 w' ro (rs.set i (rMind F' none m p S'))) :=
  h.mono fun u w' hq => by
    obtain ⟨F', S', e, hM, hh⟩ := hq
    exact ⟨F', S', by rw [e, hb S' hM], hM, hh⟩
end
end Go.Proofs.Ytpkelokaammmjaa
end
/-! Plain facts of the example. -/
section
namespace Go.Proofs.Ytpkelokaammmjaa
open Go.RowKit Go.QT
section
variable {s : STab} {K0 B0 : Bytes → Prop} {N : List Bytes} {n : Nat} {S : KM} {Lk Lb : List Bytes}
theorem sm0 (h : s.boxes = []) (hk : s.keys.length < 1000000) : Sm s := ⟨by rw [h]; simp, by rw [h]; decide, hk⟩
theorem sm1 {x : SSealed} (h : s.boxes = [x]) (hb : x.body.length ≤ 1000000) (hk : s.keys.length < 1000000) : Sm s :=
  ⟨by rw [h]; intro b hx; have : b = x := by simpa using hx
      rw [this]; exact hb, by rw [h]; simp, hk⟩
/-- Who knows no key knows none ever. -/
theorem kn_none (h : ∀ k, ¬ K0 k) : ∀ i k, Kn s K0 B0 i k → i = 1 := by
  intro i k hk
  induction hk with
  | key k hk => exact absurd hk (h k)
  | box k hk => rfl
  | opens k sl _ _ _ _ ih => cases ih
  | tkey k x sl _ _ _ _ ih => cases ih
  | tbox k x sl _ _ _ _ ih => cases ih
  | late n f _ _ _ ih => cases ih
theorem knownN_all (h : ∀ i, i < n → mkB 107 (i + 1) ∈ S.kk) : knownN S n = n := by
  unfold knownN
  rw [List.filter_eq_self.2 (fun i hi => decide_eq_true (h i (List.mem_range.1 hi)))]
  simp
theorem al_o {x : SSealed} (hb : s.box (mkB 98 1) = some x) (h1 : x.by_ ∈ Lk) (h2 : mkB 98 1 ∈ Lb) : Kn s (fun k => k ∈ Lk) (fun k => k ∈ Lb) 2 (mkB 98 1) :=
  .opens _ x (.box _ h2) hb (.key _ h1)
theorem al_l {x : SSealed} (hx : x.body = mkB 107 n) (hn : n ≤ 1099511627776) (hb : s.box (mkB 98 1) = some x) (h1 : x.by_ ∈ Lk) (h2 : mkB 98 1 ∈ Lb) : Kn s (fun k => k ∈ Lk) (fun k => k ∈ Lb) 0 (mkB 107 n) :=
  .tkey _ _ x (al_o hb h1 h2) hb (by rw [hx, findB_mk (.inl rfl) hn]; simp) ((isKd_mk (.inl rfl) hn).2 rfl)
theorem stands_self (b : Bytes) : standsB b b = true := stands_yes (i := 0) (by omega) (by simp)
theorem al_says {x : SSealed} (hb : s.box (mkB 98 1) = some x) (h1 : x.by_ ∈ Lk) (h2 : mkB 98 1 ∈ Lb) : ∀ S', MSl s Lk Lb N S' → (S'.al.any fun y => standsB y x.body) = true := fun _ hM =>
  List.any_eq_true.2 ⟨x.body, (hM.tk _ ((hM.iff.2.2 _).2 (al_o hb h1 h2)) x hb).1, stands_self _⟩
theorem true_iff_ {p : Prop} (h : p) : p ↔ true = true := ⟨fun _ => rfl, fun _ => h⟩
theorem false_iff_ {p : Prop} (h : ¬ p) : p ↔ false = true := ⟨fun hp => absurd hp h, fun h => by cases h⟩
end
end Go.Proofs.Ytpkelokaammmjaa
end
/-! The walks of package ratchet, and steps that call it. -/
section
namespace Go.Proofs.Ytpkelokaammmjaa
open Go.RowKit Go.QT
/-- What a call leaves that answers a derived key, and may turn the table. -/
def RKPost (w : World) (F : Nat → Prop) (tb : Nat) (s : STab) (f : SFrom) (mk : (Fin 16 → UInt8) → Value) (e : Ending) (w' : World) : Prop :=
  ∃ K' F' s', e = .returned (mk K') ∧ kl K' = mkB 107 (s.num f) ∧ s' = s.made f ∧ Hp F w w' [] [rTab F' tb s']
theorem dj_tab {F : Nat → Prop} {tb g T : Nat} {s : STab} {cs : List Value} (hd : ¬ F g) : ∀ (j : Nat) (t : Res), [rTab F tb s][j]? = some t → (rBlk g T cs).dj t := fun j t hs q h1 h2 => by
  cases j with
  | zero => injection hs with hs; subst hs; subst h1; exact hd h2
  | succ j => simp at hs
set_option maxRecDepth 100000 in
set_option maxHeartbeats 1000000 in
theorem rslot_any (cb tb : Nat) (K : Fin 16 → UInt8) (e : Int) (o : Bool) (w : World) (hc : Blk w cb 55 ([(Value.iface 23 (pt tb 0))] ++ vb (kl K) ++ [(Value.int .i64 e), (Value.bool o)])) :
    Calls Try.prog 9 #[pt cb 0] w (APost w (kl K)) := by
  have h0 := Hp.ro1 (rBlk cb 55 ([(Value.iface 23 (pt tb 0))] ++ vb (kl K) ++ [(Value.int .i64 e), (Value.bool o)])) hc
  refine enter 6 Try.func9 rfl rfl ?_
  refine wp_reset 7 [(0, (pt cb 0))] (fun x0 => ?_)
  refine wp_seq_k ?_
  intro K1 hK1
  refine reg_lit ?_
  refine wq_to (some 2) (x_new h0 28 (vb (List.replicate 16 0)) (fun r => pt r 0) (by kernel_rfl)) ?_
  rintro _ w2 ⟨g2, rfl, h2⟩
  refine wl_end rfl ?_
  refine seq_n hK1 ?_
  refine wp_seq_k ?_
  intro K3 hK3
  refine reg_lit ?_
  refine wq_p 3 [(5, (pt cb 1)), (4, (pt cb 0)), (3, (pt cb 0))] ?_
  refine wq_v (some 6) (Value.agg (vb (kl K)).toArray) (e_loads (h2.rd 0 rfl) 28 (.tmp 5) (by kernel_rfl) 1 (vb (kl K)) (by kernel_rfl) (by kernel_rfl) (by kernel_rfl)) ?_
  refine wq_to none (x_stores h2 0 rfl 28 (.tmp 2) (.tmp 6) (by kernel_rfl) 0 (vb (kl K)) (vb (kl K)) (by kernel_rfl) (by kernel_rfl) (by kernel_rfl) (by kernel_rfl) (by kernel_rfl) (by kernel_rfl)) ?_
  rintro _ w4 h4
  refine wl_end rfl ?_
  refine seq_n hK3 ?_
  refine wp_ret ?_
  refine post_1 rfl (by kernel_rfl) (rcell (h4.at_ 0 rfl) (by kernel_rfl) (by kernel_rfl)) ?_
  exact ⟨rfl, h4.below0⟩
set_option maxRecDepth 100000 in
set_option maxHeartbeats 1000000 in
theorem repoch_any (cb tb : Nat) (K : Fin 16 → UInt8) (e : Int) (o : Bool) (w : World) (hc : Blk w cb 55 ([(Value.iface 23 (pt tb 0))] ++ vb (kl K) ++ [(Value.int .i64 e), (Value.bool o)])) :
    Calls Try.prog 20 #[pt cb 0] w (VPost w (.int .i64 e)) := by
  have h0 := Hp.ro1 (rBlk cb 55 ([(Value.iface 23 (pt tb 0))] ++ vb (kl K) ++ [(Value.int .i64 e), (Value.bool o)])) hc
  refine enter 6 Try.func20 rfl rfl ?_
  refine wp_reset 7 [(0, (pt cb 0))] (fun x0 => ?_)
  refine wp_seq_k ?_
  intro K1 hK1
  refine reg_lit ?_
  refine wq_p 1 [(2, (Value.int .i64 0))] ?_
  refine wl_end rfl ?_
  refine seq_n hK1 ?_
  refine wp_seq_k ?_
  intro K2 hK2
  refine reg_lit ?_
  refine wq_p 3 [(5, (pt cb 17)), (4, (pt cb 0)), (3, (pt cb 0))] ?_
  refine wq_v (some 6) (Value.int .i64 e) (e_load (h0.rd 0 rfl) 2 (.tmp 5) (by kernel_rfl) 17 (Value.int .i64 e) (by kernel_rfl) (by kernel_rfl) (by kernel_rfl)) ?_
  refine wq_p 1 [(2, (Value.int .i64 e))] ?_
  refine wl_end rfl ?_
  refine seq_n hK2 ?_
  refine wp_ret ?_
  refine post_1 rfl (by kernel_rfl) (rtmp (v := (Value.int .i64 e)) (by kernel_rfl)) ?_
  exact ⟨rfl, rfl⟩
set_option maxRecDepth 100000 in
set_option maxHeartbeats 1000000 in
theorem rkey_any (F : Nat → Prop) (tb : Nat) (s : STab) (cb : Nat) (K : Fin 16 → UInt8) (e : Int) (w : World) (hc : Blk w cb 55 ([(Value.iface 23 (pt tb 0))] ++ vb (kl K) ++ [(Value.int .i64 e), (Value.bool false)])) (hT : TabAt w F tb s) (hd : ¬ F cb) (hn : s.keys.length < 1000000) :
    Calls Try.prog 8 #[pt cb 0] w (RKPost w F tb s (deriveF (kl K) ⟨#[117, 115, 101]⟩) fun K' => .tuple #[.agg (vb (kl K')).toArray, .int .i64 0]) := by
  have h0 := ((Hp.one (rTab F tb s) hT).addR (rBlk cb 55 ([(Value.iface 23 (pt tb 0))] ++ vb (kl K) ++ [(Value.int .i64 e), (Value.bool false)])) hc (dj_tab hd))
  refine enter 19 Try.func8 rfl rfl ?_
  refine wp_reset 20 [(0, (pt cb 0))] (fun x0 => ?_)
  refine wp_seq_k ?_
  intro K1 hK1
  refine reg_lit ?_
  refine wq_to (some 2) (x_new h0 28 (vb (List.replicate 16 0)) (fun r => pt r 0) (by kernel_rfl)) ?_
  rintro _ w2 ⟨g2, rfl, h2⟩
  refine wq_p 1 [(3, (Value.int .i64 0))] ?_
  refine wl_end rfl ?_
  refine seq_n hK1 ?_
  refine wp_seq_k ?_
  intro K3 hK3
  refine wp_seq_k ?_
  intro K4 hK4
  refine reg_lit ?_
  refine wq_p 3 [(6, (pt cb 18)), (5, (pt cb 0)), (4, (pt cb 0))] ?_
  refine wq_v (some 7) (Value.bool false) (e_load (h2.rd 0 rfl) 4 (.tmp 6) (by kernel_rfl) 18 (Value.bool false) (by kernel_rfl) (by kernel_rfl) (by kernel_rfl)) ?_
  refine wl_end rfl ?_
  refine seq_n hK4 ?_
  refine wp_cond_false (by kernel_rfl) ?_
  refine wp_skip ?_
  refine seq_n hK3 ?_
  refine wp_seq_k ?_
  intro K5 hK5
  refine pR_go h2 11 (fun W => (rBlk cb 55 ([(Value.iface 23 (pt tb 0))] ++ vb (kl K) ++ [(Value.int .i64 e), (Value.bool false)])).Φ W ∧ True) [(10, [0], 0), (11, [9], 1), (12, [10], 2), (13, [11], 4), (14, [0], 0), (15, [13], 16), (16, [14], 32), (17, [15], 64), (18, [12], 8), (19, [12], 264), (20, [18, 16], 640), (0, [2, 19], 2047), (4, [], 4095)] rfl (fun _ d _ _ _ h => by cases d <;> exact h) ?_
  intro hs6 w6 h6
  refine pR_p 7 [0, 1, 2, 4, 5, 6] [(15, (pt cb 1)), (14, (pt cb 0)), (13, (pt cb 0)), (11, (pt cb 0)), (10, (pt cb 0)), (9, (pt cb 0))] 119 hs6 ⟨h6.rd 0 rfl, trivial⟩ ?_
  refine pR_v 3 (some 12) (Value.iface 23 (pt tb 0)) 127 rfl hs6 ⟨h6.rd 0 rfl, trivial⟩ (fun W hW => e_load hW.1 53 (.tmp 11) (by kernel_rfl) 0 (Value.iface 23 (pt tb 0)) (by kernel_rfl) (by kernel_rfl) (by kernel_rfl)) ?_
  refine pR_p 4 [8, 9] [(18, (Value.iface 23 (pt tb 0))), (17, (Value.iface 23 (pt tb 0)))] 895 hs6 ⟨h6.rd 0 rfl, trivial⟩ ?_
  refine pR_v 7 (some 16) (Value.agg (vb (kl K)).toArray) 1023 rfl hs6 ⟨h6.rd 0 rfl, trivial⟩ (fun W hW => e_loads hW.1 28 (.tmp 15) (by kernel_rfl) 1 (vb (kl K)) (by kernel_rfl) (by kernel_rfl) (by kernel_rfl)) ?_
  refine pR_to 10 (some 19) 2047 rfl hs6 (x_derive h6 1 rfl K (⟨#[117, 115, 101]⟩) (by kernel_rfl) (by omega)) ?_
  rintro _ w7 ⟨K7, F7, s7, rfl, hK7, hs7, h7⟩
  refine ⟨fun _ => ⟨h7.rd 0 rfl, trivial⟩, ?_⟩
  refine pR_to 11 none 4095 rfl hs6 (x_stores h7 0 rfl 28 (.tmp 2) (.tmp 19) (by kernel_rfl) 0 (vb (kl K7)) (vb (kl K7)) (by kernel_rfl) (by kernel_rfl) (by kernel_rfl) (by kernel_rfl) (by kernel_rfl) (by kernel_rfl)) ?_
  rintro _ w8 h8
  refine ⟨fun h => absurd h (by decide), ?_⟩
  refine pR_to 12 (some 3) 8191 rfl hs6 (OpTo.run (Value.int .i64 0) (pureOp_run (by kernel_rfl) _) (R := fun v w => v = (Value.int .i64 0) ∧ w = w8) ⟨rfl, rfl⟩) ?_
  rintro _ _ ⟨rfl, rfl⟩
  refine ⟨fun h => absurd h (by decide), ?_⟩
  refine pR_done hs6 ?_ _
  refine seq_n hK5 ?_
  refine wp_ret ?_
  refine post_2 rfl (by kernel_rfl) (rcell (h8.at_ 0 rfl) (by kernel_rfl) (by kernel_rfl)) (rtmp (v := (Value.int .i64 0)) (by kernel_rfl)) ?_
  exact ⟨_, _, _, rfl, hK7, hs7, h8.sel [1] [] (by kernel_rfl) rfl rfl⟩
set_option maxRecDepth 100000 in
set_option maxHeartbeats 1000000 in
theorem rkeyc_any (cb tb : Nat) (K : Fin 16 → UInt8) (e : Int) (w : World) (hc : Blk w cb 55 ([(Value.iface 23 (pt tb 0))] ++ vb (kl K) ++ [(Value.int .i64 e), (Value.bool true)])) :
    Calls Try.prog 8 #[pt cb 0] w (fun e w' => e = .returned (.tuple #[.agg (vb zKey).toArray, .int .i64 21]) ∧ Below w.heap.size w w') := by
  have h0 := Hp.ro1 (rBlk cb 55 ([(Value.iface 23 (pt tb 0))] ++ vb (kl K) ++ [(Value.int .i64 e), (Value.bool true)])) hc
  refine enter 19 Try.func8 rfl rfl ?_
  refine wp_reset 20 [(0, (pt cb 0))] (fun x0 => ?_)
  refine wp_seq_k ?_
  intro K1 hK1
  refine reg_lit ?_
  refine wq_to (some 2) (x_new h0 28 (vb (List.replicate 16 0)) (fun r => pt r 0) (by kernel_rfl)) ?_
  rintro _ w2 ⟨g2, rfl, h2⟩
  refine wq_p 1 [(3, (Value.int .i64 0))] ?_
  refine wl_end rfl ?_
  refine seq_n hK1 ?_
  refine wp_seq_k ?_
  intro K3 hK3
  refine wp_seq_k ?_
  intro K4 hK4
  refine reg_lit ?_
  refine wq_p 3 [(6, (pt cb 18)), (5, (pt cb 0)), (4, (pt cb 0))] ?_
  refine wq_v (some 7) (Value.bool true) (e_load (h2.rd 0 rfl) 4 (.tmp 6) (by kernel_rfl) 18 (Value.bool true) (by kernel_rfl) (by kernel_rfl) (by kernel_rfl)) ?_
  refine wl_end rfl ?_
  refine seq_n hK4 ?_
  refine wp_cond_true (by kernel_rfl) ?_
  refine wp_seq_k ?_
  intro K5 hK5
  refine reg_lit ?_
  refine wq_p 1 [(8, (Value.agg (vb (List.replicate 16 0)).toArray))] ?_
  refine wq_to none (x_stores h2 0 rfl 28 (.tmp 2) (.tmp 8) (by kernel_rfl) 0 (vb (List.replicate 16 0)) (vb (List.replicate 16 0)) (by kernel_rfl) (by kernel_rfl) (by kernel_rfl) (by kernel_rfl) (by kernel_rfl) (by kernel_rfl)) ?_
  rintro _ w6 h6
  refine wq_p 1 [(3, (Value.int .i64 21))] ?_
  refine wl_end rfl ?_
  refine seq_n hK5 ?_
  refine wp_ret ?_
  refine seq_r ?_
  refine post_2 rfl (by kernel_rfl) (rcell (h6.at_ 0 rfl) (by kernel_rfl) (by kernel_rfl)) (rtmp (v := (Value.int .i64 21)) (by kernel_rfl)) ?_
  exact ⟨rfl, h6.below0⟩
set_option maxRecDepth 100000 in
set_option maxHeartbeats 1000000 in
theorem rwipe_any (tb cb : Nat) (K : Fin 16 → UInt8) (e : Int) (o : Bool) (w : World) (hc : Blk w cb 55 ([(Value.iface 23 (pt tb 0))] ++ vb (kl K) ++ [(Value.int .i64 e), (Value.bool o)])) :
    Calls Try.prog 18 #[pt cb 0] w (fun e' w' => e' = .returned (.tuple #[]) ∧ Hp (fun q => q = cb) w w' [] [rBlk cb 55 ([Value.iface 23 (pt tb 0)] ++ vb zKey ++ [Value.int .i64 e, Value.bool true])]) := by
  have h0 := Hp.one (rBlk cb 55 ([(Value.iface 23 (pt tb 0))] ++ vb (kl K) ++ [(Value.int .i64 e), (Value.bool o)])) hc
  refine enter 8 Try.func18 rfl rfl ?_
  refine wp_reset 9 [(0, (pt cb 0))] (fun x0 => ?_)
  refine wp_seq_k ?_
  intro K1 hK1
  refine reg_lit ?_
  refine wq_p 4 [(5, (Value.slice (some ⟨cb, 1, none⟩) 16 16)), (4, (pt cb 1)), (3, (pt cb 0)), (2, (pt cb 0))] ?_
  refine wq_to none (x_clear h0 0 rfl (.tmp 5) 35 5 (by kernel_rfl) 1 15 16 (by kernel_rfl) (by kernel_rfl) (Value.int .u8 0) (by kernel_rfl) (vb zKey) (by kernel_rfl) (by kernel_rfl) (by kernel_rfl) ([(Value.iface 23 (pt tb 0))] ++ vb zKey ++ [(Value.int .i64 e), (Value.bool o)]) (by kernel_rfl)) ?_
  rintro _ w2 h2
  refine wl_end rfl ?_
  refine seq_n hK1 ?_
  refine reg_lit ?_
  refine wq_p 3 [(8, (pt cb 18)), (7, (pt cb 0)), (6, (pt cb 0))] ?_
  refine wq_to none (x_store h2 0 rfl 4 (.tmp 8) (.const (Value.bool true)) (by kernel_rfl) 18 (Value.bool true) ([(Value.iface 23 (pt tb 0))] ++ vb zKey ++ [(Value.int .i64 e), (Value.bool true)]) (by kernel_rfl) (by kernel_rfl) (by kernel_rfl) (by kernel_rfl) rfl rfl (by kernel_rfl)) ?_
  rintro _ w3 h3
  refine wl_end rfl ?_
  refine post_n ?_
  refine post_0 rfl (by kernel_rfl)  ?_
  exact ⟨rfl, h3⟩
set_option maxRecDepth 100000 in
set_option maxHeartbeats 1000000 in
theorem rnew_any (F : Nat → Prop) (tb : Nat) (s : STab) (K : Fin 16 → UInt8) (l : ByteArray) (w : World) (hT : TabAt w F tb s) (hn : s.keys.length < 1000000) :
    Calls Try.prog 6 #[Value.iface 23 (pt tb 0), Value.agg (vb (kl K)).toArray, Value.string l] w (fun e w' => ∃ cb K' F' s', e = .returned (pt cb 0) ∧ kl K' = mkB 107 (s.num (deriveF (kl K) l)) ∧ s' = s.made (deriveF (kl K) l) ∧ Hp F w w' [] [rBlk cb 55 ([(Value.iface 23 (pt tb 0))] ++ vb (kl K') ++ [(Value.int .i64 0), (Value.bool false)]), rTab F' tb s']) := by
  have h0 := Hp.one (rTab F tb s) hT
  refine enter 11 Try.func6 rfl rfl ?_
  refine wp_reset 14 [(0, (Value.iface 23 (pt tb 0))), (1, (Value.agg (vb (kl K)).toArray)), (2, (Value.string l))] (fun x0 => ?_)
  refine wp_seq_k ?_
  intro K1 hK1
  refine reg_lit ?_
  refine wq_to (some 4) (x_new h0 28 (vb (kl K)) (fun r => pt r 0) (by kernel_rfl)) ?_
  rintro _ w2 ⟨g2, rfl, h2⟩
  refine wq_p 1 [(6, (Value.pointer none))] ?_
  refine wl_end rfl ?_
  refine seq_n hK1 ?_
  refine wp_seq_k ?_
  intro K3 hK3
  refine reg_lit ?_
  refine wq_p 2 [(8, (Value.iface 23 (pt tb 0))), (7, (Value.iface 23 (pt tb 0)))] ?_
  refine wq_v (some 9) (Value.agg (vb (kl K)).toArray) (e_loads (h2.at_ 0 rfl) 28 (.tmp 4) (by kernel_rfl) 0 (vb (kl K)) (by kernel_rfl) (by kernel_rfl) (by kernel_rfl)) ?_
  refine wq_p 1 [(10, (Value.string l))] ?_
  refine wq_to (some 11) (x_derive h2 1 rfl K l (by kernel_rfl) (by omega)) ?_
  rintro _ w4 ⟨K4, F4, s4, rfl, hK4, hs4, h4⟩
  refine wq_p 1 [(12, (Value.agg ([(Value.iface 23 (pt tb 0))] ++ vb (kl K4) ++ [(Value.int .i64 0), (Value.bool false)]).toArray))] ?_
  refine wq_to (some 13) (x_new h4 55 ([(Value.iface 23 (pt tb 0))] ++ vb (kl K4) ++ [(Value.int .i64 0), (Value.bool false)]) (fun r => pt r 0) (by kernel_rfl)) ?_
  rintro _ w5 ⟨g5, rfl, h5⟩
  refine wq_p 1 [(6, (pt g5 0))] ?_
  refine wl_end rfl ?_
  refine seq_n hK3 ?_
  refine wp_ret ?_
  refine post_1 rfl (by kernel_rfl) (rtmp (v := (pt g5 0)) (by kernel_rfl)) ?_
  exact ⟨_, _, _, _, rfl, hK4, hs4, h5.sel [0, 2] [] (by kernel_rfl) rfl rfl⟩
set_option maxRecDepth 100000 in
set_option maxHeartbeats 1000000 in
theorem rnext_any (F : Nat → Prop) (tb : Nat) (s : STab) (cb : Nat) (K : Fin 16 → UInt8) (e : Int) (w : World) (hc : Blk w cb 55 ([(Value.iface 23 (pt tb 0))] ++ vb (kl K) ++ [(Value.int .i64 e), (Value.bool false)])) (hT : TabAt w F tb s) (hd : ¬ F cb) (hn : s.keys.length < 1000000) (he0 : 0 ≤ e) (he : e < 64) :
    Calls Try.prog 11 #[pt cb 0] w (fun e' w' => e' = .returned (Value.int .i64 0) ∧ ∃ K' F' s', kl K' = mkB 107 (s.num (deriveF (kl K) ⟨#[110, 101, 120, 116]⟩)) ∧ s' = s.made (deriveF (kl K) ⟨#[110, 101, 120, 116]⟩) ∧ Hp (fun q => q = cb ∨ F q) w w' [] [rBlk cb 55 ([(Value.iface 23 (pt tb 0))] ++ vb (kl K') ++ [(Value.int .i64 (e + 1)), (Value.bool false)]), rTab F' tb s']) := by
  have h0 := (Hp.two (rBlk cb 55 ([(Value.iface 23 (pt tb 0))] ++ vb (kl K) ++ [(Value.int .i64 e), (Value.bool false)])) (rTab F tb s) hc hT (fun q h1 h2 => hd (h1 ▸ h2)))
  refine enter 40 Try.func11 rfl rfl ?_
  refine wp_reset 41 [(0, (pt cb 0))] (fun x0 => ?_)
  refine wp_seq_k ?_
  intro K1 hK1
  refine reg_lit ?_
  refine wq_p 1 [(2, (Value.int .i64 0))] ?_
  refine wl_end rfl ?_
  refine seq_n hK1 ?_
  refine wp_seq_k ?_
  intro K2 hK2
  refine wp_block ?_
  refine wp_seq_k ?_
  intro K3 hK3
  refine reg_lit ?_
  refine wq_p 3 [(7, (pt cb 18)), (6, (pt cb 0)), (5, (pt cb 0))] ?_
  refine wq_v (some 8) (Value.bool false) (e_load (h0.at_ 0 rfl) 4 (.tmp 7) (by kernel_rfl) 18 (Value.bool false) (by kernel_rfl) (by kernel_rfl) (by kernel_rfl)) ?_
  refine wq_p 1 [(4, (Value.bool false))] ?_
  refine wl_end rfl ?_
  refine seq_n hK3 ?_
  refine wp_cond_false (by kernel_rfl) ?_
  refine wp_seq_k ?_
  intro K4 hK4
  refine reg_lit ?_
  refine wq_p 3 [(12, (pt cb 17)), (11, (pt cb 0)), (10, (pt cb 0))] ?_
  refine wq_v (some 13) (Value.int .i64 e) (e_load (h0.at_ 0 rfl) 2 (.tmp 12) (by kernel_rfl) 17 (Value.int .i64 e) (by kernel_rfl) (by kernel_rfl) (by kernel_rfl)) ?_
  refine wq_v (some 14) (.bool false) (eq_is (v := (Value.bool (decide (e ≥ 64)))) (by kernel_rfl) (by simp; omega)) ?_
  refine wq_p 1 [(9, (Value.bool false))] ?_
  refine wl_end rfl ?_
  refine seq_n hK4 ?_
  refine wp_cond_false (by kernel_rfl) ?_
  refine wp_skip ?_
  refine blk_n ?_
  refine seq_n hK2 ?_
  refine wp_seq_k ?_
  intro K5 hK5
  refine pR_go h0 12 (fun W => (rBlk cb 55 ([(Value.iface 23 (pt tb 0))] ++ vb (kl K) ++ [(Value.int .i64 e), (Value.bool false)])).Φ W ∧ True) [(16, [0], 0), (17, [15], 1), (18, [16], 2), (19, [17], 4), (20, [0], 0), (21, [19], 16), (22, [20], 32), (23, [21], 64), (24, [18], 8), (25, [18], 264), (26, [24, 22], 640), (4, [], 0), (0, [3, 25], 4095)] rfl (fun _ d _ _ _ h => by cases d <;> exact h) ?_
  intro hs6 w6 h6
  refine pR_p 7 [0, 1, 2, 4, 5, 6] [(21, (pt cb 1)), (20, (pt cb 0)), (19, (pt cb 0)), (17, (pt cb 0)), (16, (pt cb 0)), (15, (pt cb 0))] 119 hs6 ⟨h6.at_ 0 rfl, trivial⟩ ?_
  refine pR_v 3 (some 18) (Value.iface 23 (pt tb 0)) 127 rfl hs6 ⟨h6.at_ 0 rfl, trivial⟩ (fun W hW => e_load hW.1 53 (.tmp 17) (by kernel_rfl) 0 (Value.iface 23 (pt tb 0)) (by kernel_rfl) (by kernel_rfl) (by kernel_rfl)) ?_
  refine pR_p 4 [8, 9] [(24, (Value.iface 23 (pt tb 0))), (23, (Value.iface 23 (pt tb 0)))] 895 hs6 ⟨h6.at_ 0 rfl, trivial⟩ ?_
  refine pR_v 7 (some 22) (Value.agg (vb (kl K)).toArray) 1023 rfl hs6 ⟨h6.at_ 0 rfl, trivial⟩ (fun W hW => e_loads hW.1 28 (.tmp 21) (by kernel_rfl) 1 (vb (kl K)) (by kernel_rfl) (by kernel_rfl) (by kernel_rfl)) ?_
  refine pR_or 10 11 hs6 ?_ ?_
  ·
   refine pR_op 10 (some 25) 2047 rfl (x_derive h6 1 rfl K (⟨#[110, 101, 120, 116]⟩) (by kernel_rfl) (by omega)) ?_
   rintro _ w7 ⟨K7, F7, s7, rfl, hK7, hs7, h7⟩
   refine ⟨fun _ => ⟨h7.at_ 0 rfl, trivial⟩, ?_⟩
   refine pR_to 11 (some 3) 4095 rfl hs6 (x_new h7 28 (vb (List.replicate 16 0)) (fun r => pt r 0) (by kernel_rfl)) ?_
   rintro _ w8 ⟨g8, rfl, h8⟩
   refine ⟨fun _ => ⟨h8.at_ 1 rfl, trivial⟩, ?_⟩
   refine pR_to 12 none 8191 rfl hs6 (x_stores h8 0 rfl 28 (.tmp 3) (.tmp 25) (by kernel_rfl) 0 (vb (kl K7)) (vb (kl K7)) (by kernel_rfl) (by kernel_rfl) (by kernel_rfl) (by kernel_rfl) (by kernel_rfl) (by kernel_rfl)) ?_
   rintro _ w9 h9
   refine ⟨fun h => absurd h (by decide), ?_⟩
   refine pR_done hs6 ?_ _
   refine seq_n hK5 ?_
   refine wp_seq_k ?_
   intro K10 hK10
   refine reg_lit ?_
   refine wq_p 4 [(29, (Value.slice (some ⟨cb, 1, none⟩) 16 16)), (28, (pt cb 1)), (27, (pt cb 0)), (26, (pt cb 0))] ?_
   refine wq_to none (x_clear h9 1 rfl (.tmp 29) 35 5 (by kernel_rfl) 1 15 16 (by kernel_rfl) (by kernel_rfl) (Value.int .u8 0) (by kernel_rfl) (vb zKey) (by kernel_rfl) (by kernel_rfl) (by kernel_rfl) ([(Value.iface 23 (pt tb 0))] ++ vb zKey ++ [(Value.int .i64 e), (Value.bool false)]) (by kernel_rfl)) ?_
   rintro _ w11 h11
   refine wl_end rfl ?_
   refine seq_n hK10 ?_
   refine wp_seq_k ?_
   intro K12 hK12
   refine reg_lit ?_
   refine wq_p 1 [(30, (pt cb 0))] ?_
   refine wq_v (some 31) (Value.agg (vb (kl K7)).toArray) (e_loads (h11.at_ 0 rfl) 28 (.tmp 3) (by kernel_rfl) 0 (vb (kl K7)) (by kernel_rfl) (by kernel_rfl) (by kernel_rfl)) ?_
   refine wq_p 2 [(33, (pt cb 1)), (32, (pt cb 0))] ?_
   refine wq_to none (x_stores h11 1 rfl 28 (.tmp 33) (.tmp 31) (by kernel_rfl) 1 (vb (kl K7)) ([(Value.iface 23 (pt tb 0))] ++ vb (kl K7) ++ [(Value.int .i64 e), (Value.bool false)]) (by kernel_rfl) (by kernel_rfl) (by kernel_rfl) (by kernel_rfl) (by kernel_rfl) (by kernel_rfl)) ?_
   rintro _ w13 h13
   refine wl_end rfl ?_
   refine seq_n hK12 ?_
   refine wp_seq_k ?_
   intro K14 hK14
   refine wp_reset 41 [(0, (pt cb 0)), (2, (Value.int .i64 0)), (3, (pt g8 0)), (4, (Value.bool false)), (9, (Value.bool false))] (fun x15 => ?_)
   refine reg_lit ?_
   refine wq_p 3 [(36, (pt cb 17)), (35, (pt cb 0)), (34, (pt cb 0))] ?_
   refine wq_v (some 37) (Value.int .i64 e) (e_load (h13.at_ 1 rfl) 2 (.tmp 36) (by kernel_rfl) 17 (Value.int .i64 e) (by kernel_rfl) (by kernel_rfl) (by kernel_rfl)) ?_
   refine wq_v (some 38) (Value.int .i64 (e + 1)) (exec_add _ _ _ _ rfl e 1 (by kernel_rfl) (by kernel_rfl) (e + 1) rfl (by omega) (by omega) _) ?_
   refine wq_p 2 [(40, (pt cb 17)), (39, (pt cb 0))] ?_
   refine wq_to none (x_store h13 1 rfl 2 (.tmp 40) (.tmp 38) (by kernel_rfl) 17 (Value.int .i64 (e + 1)) ([(Value.iface 23 (pt tb 0))] ++ vb (kl K7) ++ [(Value.int .i64 (e + 1)), (Value.bool false)]) (by kernel_rfl) (by kernel_rfl) (by kernel_rfl) (by kernel_rfl) rfl rfl (by kernel_rfl)) ?_
   rintro _ w16 h16
   refine wl_end rfl ?_
   refine seq_n hK14 ?_
   refine wp_seq_k ?_
   intro K17 hK17
   refine reg_lit ?_
   refine wq_p 1 [(2, (Value.int .i64 0))] ?_
   refine wl_end rfl ?_
   refine seq_n hK17 ?_
   refine wp_ret ?_
   refine post_1 rfl (by kernel_rfl) (rtmp (v := (Value.int .i64 0)) (by kernel_rfl)) ?_
   exact ⟨rfl, _, _, _, hK7, hs7, h16.sel [1, 2] [] (by kernel_rfl) rfl rfl⟩
  ·
   refine pR_op 11 (some 3) 3071 rfl (x_new h6 28 (vb (List.replicate 16 0)) (fun r => pt r 0) (by kernel_rfl)) ?_
   rintro _ w18 ⟨g18, rfl, h18⟩
   refine ⟨fun _ => ⟨h18.at_ 1 rfl, trivial⟩, ?_⟩
   refine pR_to 10 (some 25) 4095 rfl hs6 (x_derive h18 2 rfl K (⟨#[110, 101, 120, 116]⟩) (by kernel_rfl) (by omega)) ?_
   rintro _ w19 ⟨K19, F19, s19, rfl, hK19, hs19, h19⟩
   refine ⟨fun _ => ⟨h19.at_ 1 rfl, trivial⟩, ?_⟩
   refine pR_to 12 none 8191 rfl hs6 (x_stores h19 0 rfl 28 (.tmp 3) (.tmp 25) (by kernel_rfl) 0 (vb (kl K19)) (vb (kl K19)) (by kernel_rfl) (by kernel_rfl) (by kernel_rfl) (by kernel_rfl) (by kernel_rfl) (by kernel_rfl)) ?_
   rintro _ w20 h20
   refine ⟨fun h => absurd h (by decide), ?_⟩
   refine pR_done hs6 ?_ _
   refine seq_n hK5 ?_
   refine wp_seq_k ?_
   intro K21 hK21
   refine reg_lit ?_
   refine wq_p 4 [(29, (Value.slice (some ⟨cb, 1, none⟩) 16 16)), (28, (pt cb 1)), (27, (pt cb 0)), (26, (pt cb 0))] ?_
   refine wq_to none (x_clear h20 1 rfl (.tmp 29) 35 5 (by kernel_rfl) 1 15 16 (by kernel_rfl) (by kernel_rfl) (Value.int .u8 0) (by kernel_rfl) (vb zKey) (by kernel_rfl) (by kernel_rfl) (by kernel_rfl) ([(Value.iface 23 (pt tb 0))] ++ vb zKey ++ [(Value.int .i64 e), (Value.bool false)]) (by kernel_rfl)) ?_
   rintro _ w22 h22
   refine wl_end rfl ?_
   refine seq_n hK21 ?_
   refine wp_seq_k ?_
   intro K23 hK23
   refine reg_lit ?_
   refine wq_p 1 [(30, (pt cb 0))] ?_
   refine wq_v (some 31) (Value.agg (vb (kl K19)).toArray) (e_loads (h22.at_ 0 rfl) 28 (.tmp 3) (by kernel_rfl) 0 (vb (kl K19)) (by kernel_rfl) (by kernel_rfl) (by kernel_rfl)) ?_
   refine wq_p 2 [(33, (pt cb 1)), (32, (pt cb 0))] ?_
   refine wq_to none (x_stores h22 1 rfl 28 (.tmp 33) (.tmp 31) (by kernel_rfl) 1 (vb (kl K19)) ([(Value.iface 23 (pt tb 0))] ++ vb (kl K19) ++ [(Value.int .i64 e), (Value.bool false)]) (by kernel_rfl) (by kernel_rfl) (by kernel_rfl) (by kernel_rfl) (by kernel_rfl) (by kernel_rfl)) ?_
   rintro _ w24 h24
   refine wl_end rfl ?_
   refine seq_n hK23 ?_
   refine wp_seq_k ?_
   intro K25 hK25
   refine wp_reset 41 [(0, (pt cb 0)), (2, (Value.int .i64 0)), (3, (pt g18 0)), (4, (Value.bool false)), (9, (Value.bool false))] (fun x26 => ?_)
   refine reg_lit ?_
   refine wq_p 3 [(36, (pt cb 17)), (35, (pt cb 0)), (34, (pt cb 0))] ?_
   refine wq_v (some 37) (Value.int .i64 e) (e_load (h24.at_ 1 rfl) 2 (.tmp 36) (by kernel_rfl) 17 (Value.int .i64 e) (by kernel_rfl) (by kernel_rfl) (by kernel_rfl)) ?_
   refine wq_v (some 38) (Value.int .i64 (e + 1)) (exec_add _ _ _ _ rfl e 1 (by kernel_rfl) (by kernel_rfl) (e + 1) rfl (by omega) (by omega) _) ?_
   refine wq_p 2 [(40, (pt cb 17)), (39, (pt cb 0))] ?_
   refine wq_to none (x_store h24 1 rfl 2 (.tmp 40) (.tmp 38) (by kernel_rfl) 17 (Value.int .i64 (e + 1)) ([(Value.iface 23 (pt tb 0))] ++ vb (kl K19) ++ [(Value.int .i64 (e + 1)), (Value.bool false)]) (by kernel_rfl) (by kernel_rfl) (by kernel_rfl) (by kernel_rfl) rfl rfl (by kernel_rfl)) ?_
   rintro _ w27 h27
   refine wl_end rfl ?_
   refine seq_n hK25 ?_
   refine wp_seq_k ?_
   intro K28 hK28
   refine reg_lit ?_
   refine wq_p 1 [(2, (Value.int .i64 0))] ?_
   refine wl_end rfl ?_
   refine seq_n hK28 ?_
   refine wp_ret ?_
   refine post_1 rfl (by kernel_rfl) (rtmp (v := (Value.int .i64 0)) (by kernel_rfl)) ?_
   exact ⟨rfl, _, _, _, hK19, hs19, h27.sel [1, 2] [] (by kernel_rfl) rfl rfl⟩
set_option maxRecDepth 100000 in
set_option maxHeartbeats 1000000 in
theorem rnextf_any (tb cb : Nat) (K : Fin 16 → UInt8) (e : Int) (w : World) (hc : Blk w cb 55 ([(Value.iface 23 (pt tb 0))] ++ vb (kl K) ++ [(Value.int .i64 e), (Value.bool false)])) (he : 64 ≤ e) :
    Calls Try.prog 11 #[pt cb 0] w (VPost w (.int .i64 8)) := by
  have h0 := Hp.ro1 (rBlk cb 55 ([(Value.iface 23 (pt tb 0))] ++ vb (kl K) ++ [(Value.int .i64 e), (Value.bool false)])) hc
  refine enter 40 Try.func11 rfl rfl ?_
  refine wp_reset 41 [(0, (pt cb 0))] (fun x0 => ?_)
  refine wp_seq_k ?_
  intro K1 hK1
  refine reg_lit ?_
  refine wq_p 1 [(2, (Value.int .i64 0))] ?_
  refine wl_end rfl ?_
  refine seq_n hK1 ?_
  refine wp_seq_k ?_
  intro K2 hK2
  refine wp_block ?_
  refine wp_seq_k ?_
  intro K3 hK3
  refine reg_lit ?_
  refine wq_p 3 [(7, (pt cb 18)), (6, (pt cb 0)), (5, (pt cb 0))] ?_
  refine wq_v (some 8) (Value.bool false) (e_load (h0.rd 0 rfl) 4 (.tmp 7) (by kernel_rfl) 18 (Value.bool false) (by kernel_rfl) (by kernel_rfl) (by kernel_rfl)) ?_
  refine wq_p 1 [(4, (Value.bool false))] ?_
  refine wl_end rfl ?_
  refine seq_n hK3 ?_
  refine wp_cond_false (by kernel_rfl) ?_
  refine wp_seq_k ?_
  intro K4 hK4
  refine reg_lit ?_
  refine wq_p 3 [(12, (pt cb 17)), (11, (pt cb 0)), (10, (pt cb 0))] ?_
  refine wq_v (some 13) (Value.int .i64 e) (e_load (h0.rd 0 rfl) 2 (.tmp 12) (by kernel_rfl) 17 (Value.int .i64 e) (by kernel_rfl) (by kernel_rfl) (by kernel_rfl)) ?_
  refine wq_v (some 14) (.bool true) (eq_is (v := (Value.bool (decide (e ≥ 64)))) (by kernel_rfl) (by simp; omega)) ?_
  refine wq_p 1 [(9, (Value.bool true))] ?_
  refine wl_end rfl ?_
  refine seq_n hK4 ?_
  refine wp_cond_true (by kernel_rfl) ?_
  refine wp_seq_k ?_
  intro K5 hK5
  refine reg_lit ?_
  refine wq_p 1 [(2, (Value.int .i64 8))] ?_
  refine wl_end rfl ?_
  refine seq_n hK5 ?_
  refine wp_ret ?_
  refine blk_r ?_
  refine seq_r ?_
  refine post_1 rfl (by kernel_rfl) (rtmp (v := (Value.int .i64 8)) (by kernel_rfl)) ?_
  exact ⟨rfl, rfl⟩
set_option maxRecDepth 100000 in
set_option maxHeartbeats 1000000 in
theorem rnextc_any (tb cb : Nat) (k : Bytes) (hk : k.length = 16) (e : Int) (w : World) (hc : Blk w cb 55 ([Value.iface 23 (pt tb 0)] ++ vb k ++ [Value.int .i64 e, Value.bool true])) :
    Calls Try.prog 11 #[pt cb 0] w (VPost w (.int .i64 21)) := by
  obtain ⟨K, rfl⟩ := kl_of k hk
  have h0 := Hp.ro1 (rBlk cb 55 ([(Value.iface 23 (pt tb 0))] ++ vb (kl K) ++ [(Value.int .i64 e), (Value.bool true)])) hc
  refine enter 40 Try.func11 rfl rfl ?_
  refine wp_reset 41 [(0, (pt cb 0))] (fun x0 => ?_)
  refine wp_seq_k ?_
  intro K1 hK1
  refine reg_lit ?_
  refine wq_p 1 [(2, (Value.int .i64 0))] ?_
  refine wl_end rfl ?_
  refine seq_n hK1 ?_
  refine wp_seq_k ?_
  intro K2 hK2
  refine wp_block ?_
  refine wp_seq_k ?_
  intro K3 hK3
  refine reg_lit ?_
  refine wq_p 3 [(7, (pt cb 18)), (6, (pt cb 0)), (5, (pt cb 0))] ?_
  refine wq_v (some 8) (Value.bool true) (e_load (h0.rd 0 rfl) 4 (.tmp 7) (by kernel_rfl) 18 (Value.bool true) (by kernel_rfl) (by kernel_rfl) (by kernel_rfl)) ?_
  refine wq_p 1 [(4, (Value.bool true))] ?_
  refine wl_end rfl ?_
  refine seq_n hK3 ?_
  refine wp_cond_true (by kernel_rfl) ?_
  refine wp_seq_k ?_
  intro K4 hK4
  refine reg_lit ?_
  refine wq_p 1 [(2, (Value.int .i64 21))] ?_
  refine wl_end rfl ?_
  refine seq_n hK4 ?_
  refine wp_ret ?_
  refine blk_r ?_
  refine seq_r ?_
  refine post_1 rfl (by kernel_rfl) (rtmp (v := (Value.int .i64 21)) (by kernel_rfl)) ?_
  exact ⟨rfl, rfl⟩
end Go.Proofs.Ytpkelokaammmjaa
end
/-! Steps: calls of package ratchet, on what is held. -/
section
namespace Go.Proofs.Ytpkelokaammmjaa
open Go.RowKit Go.QT
def chC (tb : Nat) (k : Bytes) (e : Int) (o : Bool) : List Value := [Value.iface 23 (pt tb 0)] ++ vb k ++ [Value.int .i64 e, Value.bool o]
section
variable {F0 F : Nat → Prop} {w0 w w' : World} {ro rs : List Res} {tb cb : Nat} {s : STab} {o : Oper} {a : Act} {K : Fin 16 → UInt8} {e : Int} {v : Value}
theorem x_rnew (h : Hp F0 w0 w ro rs) (i : Nat) (hi : rs[i]? = some (rTab F tb s)) (K : Fin 16 → UInt8) (l : ByteArray) (hp : pureVal Try.prog (execOp a.eval o) = some (.enter 6 #[Value.iface 23 (pt tb 0), Value.agg (vb (kl K)).toArray, Value.string l])) (hn : s.keys.length < 1000000) :
    OpTo Try.prog o a w (fun u w' => ∃ cb K' F' s', u = pt cb 0 ∧ kl K' = mkB 107 (s.num (deriveF (kl K) l)) ∧ s' = s.made (deriveF (kl K) l) ∧ Hp F0 w0 w' ro ([rBlk cb 55 ([Value.iface 23 (pt tb 0)] ++ vb (kl K') ++ [Value.int .i64 0, Value.bool false]), rTab F' tb s'] ++ rs.eraseIdx i)) :=
  OpTo.enter 6 [Value.iface 23 (pt tb 0), Value.agg (vb (kl K)).toArray, Value.string l] hp (rnew_any F tb s K l w (h.own i _ hi) hn) fun e w' hq => by
    obtain ⟨cb, K', F', s', he, h1, h2, h3⟩ := hq
    exact ⟨_, he, cb, K', F', s', rfl, h1, h2, h.call1 i hi h3⟩
theorem x_rslot (h : Hp F0 w0 w ro rs) (j : Nat) {o' : Bool} (hj : rs[j]? = some (rBlk cb 55 ([Value.iface 23 (pt tb 0)] ++ vb (kl K) ++ [Value.int .i64 e, Value.bool o']))) (hp : pureVal Try.prog (execOp a.eval o) = some (.enter 9 #[pt cb 0])) :
    OpTo Try.prog o a w (fun u w' => u = .agg (vb (kl K)).toArray ∧ Hp F0 w0 w' ro rs) :=
  x_apost h 9 [pt cb 0] hp (rslot_any cb tb K e o' w (h.own j _ hj))
theorem x_rslotB (h : Hp F0 w0 w ro rs) (j : Nat) (k : Bytes) (hk : k.length = 16) {o' : Bool} (hj : rs[j]? = some (rBlk cb 55 ([Value.iface 23 (pt tb 0)] ++ vb k ++ [Value.int .i64 e, Value.bool o']))) (hp : pureVal Try.prog (execOp a.eval o) = some (.enter 9 #[pt cb 0])) :
    OpTo Try.prog o a w (fun u w' => u = .agg (vb k).toArray ∧ Hp F0 w0 w' ro rs) := by
  obtain ⟨K, rfl⟩ := kl_of k hk
  exact x_rslot h j hj hp
theorem x_repoch (h : Hp F0 w0 w ro rs) (j : Nat) {o' : Bool} (hj : rs[j]? = some (rBlk cb 55 ([Value.iface 23 (pt tb 0)] ++ vb (kl K) ++ [Value.int .i64 e, Value.bool o']))) (hp : pureVal Try.prog (execOp a.eval o) = some (.enter 20 #[pt cb 0])) :
    OpTo Try.prog o a w (fun u w' => u = .int .i64 e ∧ Hp F0 w0 w' ro rs) :=
  x_vpost h 20 [pt cb 0] hp (repoch_any cb tb K e o' w (h.own j _ hj))
theorem x_repochB (h : Hp F0 w0 w ro rs) (j : Nat) (k : Bytes) (hk : k.length = 16) {o' : Bool} (hj : rs[j]? = some (rBlk cb 55 ([Value.iface 23 (pt tb 0)] ++ vb k ++ [Value.int .i64 e, Value.bool o']))) (hp : pureVal Try.prog (execOp a.eval o) = some (.enter 20 #[pt cb 0])) :
    OpTo Try.prog o a w (fun u w' => u = .int .i64 e ∧ Hp F0 w0 w' ro rs) := by
  obtain ⟨K, rfl⟩ := kl_of k hk
  exact x_repoch h j hj hp
theorem Hp.ntab (h : Hp F0 w0 w ro rs) (i j : Nat) (hi : rs[i]? = some (rTab F tb s)) {T : Nat} {cs : List Value} (hj : rs[j]? = some (rBlk cb T cs)) (hij : decide (i ≠ j) = true) : ¬ F cb := fun hF =>
  h.dis i j _ _ hi hj (of_decide_eq_true hij) cb hF rfl
theorem x_rkey (h : Hp F0 w0 w ro rs) (i j : Nat) (hi : rs[i]? = some (rTab F tb s)) (hj : rs[j]? = some (rBlk cb 55 ([Value.iface 23 (pt tb 0)] ++ vb (kl K) ++ [Value.int .i64 e, Value.bool false]))) (hij : decide (i ≠ j) = true) (hp : pureVal Try.prog (execOp a.eval o) = some (.enter 8 #[pt cb 0])) (hn : s.keys.length < 1000000) :
    OpTo Try.prog o a w (fun u w' => ∃ K' F' s', u = .tuple #[.agg (vb (kl K')).toArray, .int .i64 0] ∧ kl K' = mkB 107 (s.num (deriveF (kl K) ⟨#[117, 115, 101]⟩)) ∧ s' = s.made (deriveF (kl K) ⟨#[117, 115, 101]⟩) ∧ Hp F0 w0 w' ro (rs.set i (rTab F' tb s'))) :=
  OpTo.enter 8 [pt cb 0] hp (rkey_any F tb s cb K e w (h.own j _ hj) (h.own i _ hi) (h.ntab i j hi hj hij) hn) fun e w' hq => by
    obtain ⟨K', F', s', he, h1, h2, h3⟩ := hq
    exact ⟨_, he, K', F', s', rfl, h1, h2, h.upd i hi h3.fr (rTab F' tb s') (h3.own 0 _ rfl) (h3.mine 0 _ rfl)⟩
theorem x_rkeyc (h : Hp F0 w0 w ro rs) (j : Nat) (k : Bytes) (hk : k.length = 16) (hj : rs[j]? = some (rBlk cb 55 ([Value.iface 23 (pt tb 0)] ++ vb k ++ [Value.int .i64 e, Value.bool true]))) (hp : pureVal Try.prog (execOp a.eval o) = some (.enter 8 #[pt cb 0])) :
    OpTo Try.prog o a w (fun u w' => u = .tuple #[.agg (vb zKey).toArray, .int .i64 21] ∧ Hp F0 w0 w' ro rs) := by
  obtain ⟨K, rfl⟩ := kl_of k hk
  exact OpTo.enter 8 [pt cb 0] hp (rkeyc_any cb tb K e w (h.own j _ hj)) fun e w' hq => ⟨_, hq.1, rfl, h.below hq.2⟩
theorem x_rwipe (h : Hp F0 w0 w ro rs) (j : Nat) {o' : Bool} (hj : rs[j]? = some (rBlk cb 55 ([Value.iface 23 (pt tb 0)] ++ vb (kl K) ++ [Value.int .i64 e, Value.bool o']))) (hp : pureVal Try.prog (execOp a.eval o) = some (.enter 18 #[pt cb 0])) :
    OpTo Try.prog o a w (fun u w' => u = .tuple #[] ∧ Hp F0 w0 w' ro (rs.set j (rBlk cb 55 ([Value.iface 23 (pt tb 0)] ++ vb zKey ++ [Value.int .i64 e, Value.bool true])))) :=
  OpTo.enter 18 [pt cb 0] hp (rwipe_any tb cb K e o' w (h.own j _ hj)) fun _ _ hq => ⟨_, hq.1, rfl, h.upd j hj hq.2.fr _ (hq.2.own 0 _ rfl) (hq.2.mine 0 _ rfl)⟩
theorem x_rnext (h : Hp F0 w0 w ro rs) (i j : Nat) (hi : rs[i]? = some (rTab F tb s)) (hj : rs[j]? = some (rBlk cb 55 ([Value.iface 23 (pt tb 0)] ++ vb (kl K) ++ [Value.int .i64 e, Value.bool false]))) (hij : decide (i ≠ j) = true) (hp : pureVal Try.prog (execOp a.eval o) = some (.enter 11 #[pt cb 0])) (hn : s.keys.length < 1000000) (he0 : 0 ≤ e) (he : e < 64) :
    OpTo Try.prog o a w (fun u w' => ∃ K' F' s', u = .int .i64 0 ∧ kl K' = mkB 107 (s.num (deriveF (kl K) ⟨#[110, 101, 120, 116]⟩)) ∧ s' = s.made (deriveF (kl K) ⟨#[110, 101, 120, 116]⟩) ∧ Hp F0 w0 w' ro ((rs.set j (rBlk cb 55 ([Value.iface 23 (pt tb 0)] ++ vb (kl K') ++ [Value.int .i64 (e + 1), Value.bool false]))).set i (rTab F' tb s'))) :=
  OpTo.enter 11 [pt cb 0] hp (rnext_any F tb s cb K e w (h.own j _ hj) (h.own i _ hi) (h.ntab i j hi hj hij) hn he0 he) fun e w' hq => by
    obtain ⟨he, K', F', s', h1, h2, h3⟩ := hq
    exact ⟨_, he, K', F', s', rfl, h1, h2, h.upd2 j i hj hi (fun e => of_decide_eq_true hij e.symm) h3⟩
theorem x_rnextf (h : Hp F0 w0 w ro rs) (j : Nat) (hj : rs[j]? = some (rBlk cb 55 ([Value.iface 23 (pt tb 0)] ++ vb (kl K) ++ [Value.int .i64 e, Value.bool false]))) (hp : pureVal Try.prog (execOp a.eval o) = some (.enter 11 #[pt cb 0])) (he : 64 ≤ e) :
    OpTo Try.prog o a w (fun u w' => u = .int .i64 8 ∧ Hp F0 w0 w' ro rs) :=
  x_vpost h 11 [pt cb 0] hp (rnextf_any tb cb K e w (h.own j _ hj) he)
theorem x_rnextc (h : Hp F0 w0 w ro rs) (j : Nat) (k : Bytes) (hk : k.length = 16) (hj : rs[j]? = some (rBlk cb 55 ([Value.iface 23 (pt tb 0)] ++ vb k ++ [Value.int .i64 e, Value.bool true]))) (hp : pureVal Try.prog (execOp a.eval o) = some (.enter 11 #[pt cb 0])) :
    OpTo Try.prog o a w (fun u w' => u = .int .i64 21 ∧ Hp F0 w0 w' ro rs) :=
  x_vpost h 11 [pt cb 0] hp (rnextc_any tb cb k hk e w (h.own j _ hj))
end
end Go.Proofs.Ytpkelokaammmjaa
end
/-! An array of sixteen bytes, opened and shut. -/
section
namespace Go.Proofs.Ytpkelokaammmjaa
open Go.ChangeShapes Go.WideShapes Go.ChangeAt Go.RowKit
set_option maxRecDepth 100000
variable {H : Type} {enc : TypeId × Value → H} {w : World} {base : Nat} {spare : Nat → Bool} {held : Bool}
theorem wf_ub (a : UInt8) : (Lit.int .u8 (ub a)).wf = true := by
  have := nb_lt a
  simp [Lit.wf, IntKind.min, IntKind.max, IntKind.signed, IntKind.bits, ub]
  unfold nb at this; omega
theorem tb1 (m : Nat) (a : UInt8) : DataW.trod enc Try.prog w base spare held (m+1) 5 [.int .u8 (ub a)] = some (.lit (.int .u8 (ub a)), []) := by
  simp [DataW.trod, Try.underlying5, wf_ub]
def db {H : Type} (b : Bytes) : DataW H := .agg (b.map fun a => .lit (.int .u8 (ub a)))
theorem all_vb (cs : List Value) (h : ∀ c ∈ cs, ∃ a, c = .int .u8 (ub a)) : ∃ b : Bytes, cs = vb b := by
  induction cs with
  | nil => exact ⟨[], rfl⟩
  | cons c cs ih =>
    obtain ⟨a, rfl⟩ := h c (by simp)
    obtain ⟨b, rfl⟩ := ih fun c hc => h c (by simp [hc])
    exact ⟨a :: b, rfl⟩
theorem c22 : Try.prog.cellsOf 27 = 16 := by kernel_rfl
theorem c5 : Try.prog.cellsOf 5 = 1 := by kernel_rfl
theorem tb16 (m : Nat) (b : Bytes) (hb : b.length = 16) : DataW.trod enc Try.prog w base spare held (m+2) 27 (vb b) = some (db b, []) := by
  unfold DataW.trod
  rw [Try.underlying27]
  match b, hb with
  | [a0, a1, a2, a3, a4, a5, a6, a7, a8, a9, a10, a11, a12, a13, a14, a15], _ =>
  have r16 : List.range 16 = [0, 1, 2, 3, 4, 5, 6, 7, 8, 9, 10, 11, 12, 13, 14, 15] := rfl
  simp [c22, c5, r16, vb, tb1, db]
theorem tb_int {m : Nat} {c : Value} {x : DataW H × List MemPlace} (h : DataW.trod enc Try.prog w base spare held m 5 [c] = some x) : ∃ a, c = .int .u8 (ub a) := by
  obtain ⟨n, hc, _, hw⟩ := DataW.trod_int Try.underlying5 h
  have := bounds_u8 hw
  exact ⟨toB n, by rw [ub_u8 (by omega) (by omega)]; simpa using hc⟩
theorem open_b16 {r : Reach} {b0 : Nat} {v : Value} {d : DataW H} {p : List MemPlace} (hv : Value.okWide Try.prog w r b0 27 v) (h : DataW.Trod enc Try.prog w base spare held 27 v d p) :
    ∃ b : Bytes, b.length = 16 ∧ v = .agg (vb b).toArray ∧ d = db b ∧ p = [] := by
  unfold Value.okWide at hv
  rw [Try.underlying27] at hv
  obtain ⟨cs, rfl, hc, _⟩ := hv
  obtain ⟨fuel, h⟩ := h
  obtain ⟨l, rfl⟩ : ∃ l : List Value, cs = l.toArray := ⟨cs.toList, by simp⟩
  simp only [Value.cells] at h
  rw [c22] at hc
  have hl : l.length = 16 := by simpa using hc
  obtain ⟨xs, m, rfl, hx, _, hxs, hi⟩ := DataW.trod_array Try.underlying27 h
  rw [c5] at hi
  obtain ⟨b, rfl⟩ := all_vb l (by
    intro c hcm
    obtain ⟨i, hil, rfl⟩ := List.getElem_of_mem hcm
    have hi' := hi i (by omega)
    have : (l.drop (i * 1)).take 1 = [l[i]] := by
      rw [Nat.mul_one, List.drop_eq_getElem_cons hil]; rfl
    rw [this, List.getElem?_eq_getElem (by omega)] at hi'
    exact tb_int hi')
  have hb : b.length = 16 := by simpa [vb] using hl
  refine ⟨b, hb, rfl, ?_⟩
  cases m with
  | zero =>
    have := hi 0 (by omega)
    rw [List.getElem?_eq_getElem (by omega)] at this
    simp [DataW.trod] at this
  | succ m =>
    rw [tb16 m b hb] at h
    simp only [Option.some.injEq, Prod.mk.injEq] at h
    exact ⟨h.1.symm, h.2.symm⟩
theorem shut_b16 {b : Bytes} (hb : b.length = 16) : DataW.Trod enc Try.prog w base spare held 27 (.agg (vb b).toArray) (db b) [] :=
  ⟨2, tb16 0 b hb⟩
end Go.Proofs.Ytpkelokaammmjaa
end
/-! What every law's row needs: from 'the call returns true and what was there is as it was' to the row's post; slices of bytes that came in. -/
section
namespace Go.Proofs.Ytpkelokaammmjaa
open Go.ChangeShapes Go.WideShapes Go.ChangeAt Go.RowKit
theorem Try.own : ownKnob Try.prog.godebug = none := by kernel_rfl
theorem Try.laidOut : laidOutB Try.prog = true := by kernel_rfl
section
variable {H : Type} {enc : TypeId × Value → H} {P : Program}
theorem trodAll_stays {W W' : World} {sp' : Nat → Bool} (hl : laidOutB P = true) : ∀ (ts : List TypeId) (vs : List Value) (ds : List (DataW H)) (ps : List MemPlace),
    (ts.all fun t => P.readableRec t && decide (t < P.types.size)) = true → DataW.TrodAll enc P W 0 (fun _ => true) true ts vs ds ps →
    (∀ p ∈ ps, W.sameAt W' p) → (∀ p ∈ ps, sp' p.block = true) → DataW.TrodAll enc P W' 0 sp' true ts vs ds ps
  | [], _, _, _, _, h, _, _ => by
    obtain ⟨rfl, rfl, rfl⟩ := trodAll_nil h
    exact rfl
  | t :: ts, _, _, _, ht, h, hs, hsp => by
    obtain ⟨v, vs, d, ds, a, b, rfl, rfl, rfl, h1, h2⟩ := trodAll_cons h
    rw [List.all_cons, Bool.and_eq_true, Bool.and_eq_true, decide_eq_true_eq] at ht
    exact ⟨a, b, WideElems.Trod_stays hl ht.1.1 ht.1.2 h1 (fun p hp => hs p (by simp [hp])) (fun p hp => hsp p (by simp [hp])),
      trodAll_stays hl ts vs ds b ht.2 h2 (fun p hp => hs p (by simp [hp])) (fun p hp => hsp p (by simp [hp])), rfl⟩
theorem post_of_below {f : Func} {s : ChangeSpec} {apart fresh handsOn again : Bool} {W W' : World} {args : Array Value} {v : Value} {ds gs : List (DataW H)} {before pa pv : List MemPlace}
    (hW : DataW.Whole enc P f.params.toList s.vars apart W args.toList ds gs before)
    (hres : ∀ (b : Nat) (sp : Nat → Bool) (hd : Bool), DataW.TrodAll enc P W' b sp hd f.resultTypes.toList (v.resultList f.resultTypes.size) (s.fn H (ds ++ gs)).results [])
    (hargs : ∀ sp : Nat → Bool, (∀ p ∈ before, sp p.block = true) → DataW.TrodAll enc P W' 0 sp true f.params.toList args.toList (s.fn H (ds ++ gs)).args pa)
    (hvars : ∀ sp : Nat → Bool, (∀ p ∈ before, sp p.block = true) → DataW.TrodVars enc P W' sp s.vars (s.fn H (ds ++ gs)).vars pv)
    (hps : before = pa ++ pv) (hb : Below W.heap.size W W')
    (hok : ∀ (j : Nat) (t : TypeId) (r : Value), f.resultTypes[j]? = some t → (v.resultList f.resultTypes.size)[j]? = some r → Value.okWide P W' .any 0 t r) :
    s.post enc P f apart fresh handsOn again W args v W' := by
  have hlt : ∀ p ∈ before, p.block < W.heap.size := fun p hp => hW.lt p hp
  have hold : ∀ p ∈ before, (fun b => decide (b < W.heap.size)) p.block = true := fun p hp => by simpa using hlt p hp
  refine ⟨ds, gs, before, [], pa, pv, hW, hres _ _ _, hargs _ hold, hvars _ hold, World.keptBut_mono (fun p hp => ⟨hp, ?_⟩) (hb.frame (· ∈ before)), fun _ => ?_⟩
  · rw [hps, List.mem_append] at hp
    exact Or.inr hp
  · obtain ⟨_, _, _, _, _, hz, hn⟩ := hW
    refine ⟨hok, _, _, ([] ++ pa) ++ pv, ⟨[] ++ pa, pv, trodAll_append (hargs _ (fun _ _ => rfl)) (hres _ _ _), hvars _ (fun _ _ => rfl), rfl, ?_, ?_⟩, ?_⟩
    · intro b off hp
      have hin : MemPlace.cell b off ∈ before := by rw [hps]; simpa using hp
      rw [hb.frozen (hlt _ hin)]
      exact hz b off hin
    · intro ha
      have := hn ha
      rw [hps] at this
      simpa using this
    · intro p hp _
      rw [hps]
      simpa using hp
/-- A law's post: it returned true, and what was there is as it was. -/
theorem law_post {f : Func} {s : ChangeSpec} {apart fresh handsOn again : Bool} {W W' : World} {args : Array Value} {ds gs : List (DataW H)} {before : List MemPlace} {tb : TypeId}
    (hl : laidOutB P = true) (hts : (f.params.toList.all fun t => P.readableRec t && decide (t < P.types.size)) = true) (htb : P.underlying tb = some .bool) (hr : f.resultTypes = #[tb]) (hv : s.vars = [])
    (hfn : ∀ ds : List (DataW H), ds.length = f.params.size → s.fn H ds = ⟨[.lit (.bool true)], ds, []⟩)
    (hW : DataW.Whole enc P f.params.toList s.vars apart W args.toList ds gs before) (hb : Below W.heap.size W W') :
    s.post enc P f apart fresh handsOn again W args (.bool true) W' := by
  have hW' := hW
  have hlt : ∀ p ∈ before, p.block < W.heap.size := fun p hp => hW.lt p hp
  obtain ⟨p, q, hA, hV, rfl, hfz, hnd⟩ := hW
  rw [hv] at hV
  obtain ⟨rfl, rfl⟩ := trodVars_none hV
  have hlen : ds.length = f.params.size := by
    have : ∀ (ts : List TypeId) (vs : List Value) (ds : List (DataW H)) (p : List MemPlace), DataW.TrodAll enc P W 0 (fun _ => true) true ts vs ds p → ds.length = ts.length := by
      intro ts
      induction ts with
      | nil => intro vs ds p h; obtain ⟨rfl, rfl, rfl⟩ := trodAll_nil h; rfl
      | cons t ts ih =>
        intro vs ds p h
        obtain ⟨v, vs, d, ds, a, b, rfl, rfl, rfl, h1, h2⟩ := trodAll_cons h
        simp [ih _ _ _ h2]
    simpa using this _ _ _ _ hA
  simp only [List.append_nil] at hW' hlt
  have hds : s.fn H (ds ++ []) = ⟨[.lit (.bool true)], ds, []⟩ := by rw [List.append_nil]; exact hfn ds hlen
  refine post_of_below (pa := p) (pv := []) (gs := []) hW' ?_ ?_ ?_ (by simp) hb ?_
  · intro b sp hd
    rw [hds, hr]
    exact trodAll_mk1 (shut_bool htb true)
  · intro sp hsp
    rw [hds]
    exact trodAll_stays hl _ _ _ _ hts hA (fun x hx => hb.same (hlt x hx)) hsp
  · intro sp _
    rw [hds, hv]
    exact rfl
  · exact ok_one hr rfl (okWide_bool_mk htb true)
end
section
variable {H : Type} {enc : TypeId × Value → H} {w : World} {base : Nat}
set_option maxRecDepth 100000 in
/-- A slice of bytes that came in. -/
theorem open_bs {b0 : Nat} {v : Value} {d : DataW H} {p : List MemPlace} {sp : Nat → Bool} (hv : Value.okWide Try.prog w .any b0 35 v) (h : DataW.Trod enc Try.prog w base sp true 35 v d p) : ∃ l : Bytes, SB w v l := by
  obtain ⟨a1, len, cap, rfl⟩ := okWide_slice Try.underlying35 hv
  obtain ⟨fuel, hf⟩ := h
  rcases open_ints Try.underlying35 Try.underlying5 c5 hf with ⟨hcs, hx⟩ | ⟨a, len', cap', zs, hcs, _, hl, hm, hz, hx, hcell, hwz⟩
  · simp [Value.cells] at hcs
    obtain ⟨rfl, rfl, rfl⟩ := hcs
    exact ⟨[], SB.nil _ _ (Nat.zero_le _) _⟩
  · simp [Value.cells] at hcs
    obtain ⟨rfl, rfl, rfl⟩ := hcs
    have hzl : len ≤ zs.length := by rw [hz]; split <;> omega
    refine ⟨(zs.take len).map toB, some a, cap, ?_, ?_, hm, ?_⟩
    · simp; omega
    · simp; omega
    intro hne
    have hlen : 0 < len := by
      rcases Nat.eq_zero_or_pos len with h0 | h0
      · subst h0; simp at hne
      · exact h0
    obtain ⟨ab, ao, spot⟩ := a
    have h0 := hcell 0 (by omega)
    have hspot : spot = none := by simpa [Addr.add] using World.cell?_spot h0
    subst hspot
    refine ⟨ab, ao, rfl, ?_, fun i hi => ?_⟩
    · rcases Nat.lt_or_ge ab w.heap.size with h' | h'
      · exact h'
      · rw [Addr.add_lit] at h0
        simp [World.cell?, Array.getElem?_eq_none h'] at h0
    · have hi' : i < len := by simpa [Nat.min_eq_left hzl] using hi
      have hc := hcell i (by omega)
      rw [Addr.add_lit] at hc
      rw [hc]
      have e : zs.getD i 0 = zs[i]'(by omega) := by simp [List.getD, List.getElem?_eq_getElem (show i < zs.length by omega)]
      have hb : 0 ≤ zs.getD i 0 ∧ zs.getD i 0 ≤ 255 := by rw [List.getD_eq_getElem?_getD]; exact range_u8 hwz i
      have e2 : gb ((zs.take len).map toB) i = toB (zs.getD i 0) := by
        rw [e]
        simp [gb, hi', show i < zs.length by omega]
      rw [e2, ub_u8 (by omega) (by omega)]
end
end Go.Proofs.Ytpkelokaammmjaa
end
/-! Five parameters. -/
section
namespace Go.Proofs.Ytpkelokaammmjaa
open Go.ChangeShapes
variable {H : Type} {enc : TypeId × Value → H} {P : Program} {w : World} {base : Nat} {spare : Nat → Bool} {held : Bool}
theorem trodAll_five {t t' t'' t3 t4 : TypeId} {args : Array Value} {ds : List (DataW H)} {ps : List MemPlace} (h : DataW.TrodAll enc P w base spare held [t, t', t'', t3, t4] args.toList ds ps) :
    ∃ v v' v'' v3 v4 d d' d'' d3 d4 p p' p'' p3 p4, args = #[v, v', v'', v3, v4] ∧ ds = [d, d', d'', d3, d4] ∧ ps = p ++ p' ++ p'' ++ p3 ++ p4 ∧ DataW.Trod enc P w base spare held t v d p ∧ DataW.Trod enc P w base spare held t' v' d' p' ∧ DataW.Trod enc P w base spare held t'' v'' d'' p'' ∧ DataW.Trod enc P w base spare held t3 v3 d3 p3 ∧ DataW.Trod enc P w base spare held t4 v4 d4 p4 := by
  obtain ⟨v, vs, d, ds', p, q, hargs, rfl, rfl, hd, hrest⟩ := trodAll_cons h
  obtain ⟨v', vs', d', ds'', p', q', rfl, rfl, rfl, hd', hrest'⟩ := trodAll_cons hrest
  obtain ⟨v'', vs'', d'', ds''', p'', q'', rfl, rfl, rfl, hd'', hrest''⟩ := trodAll_cons hrest'
  obtain ⟨v3, vs3, d3, ds3, p3, q3, rfl, rfl, rfl, hd3, hrest3⟩ := trodAll_cons hrest''
  obtain ⟨v4, vs4, d4, ds4, p4, q4, rfl, rfl, rfl, hd4, hrest4⟩ := trodAll_cons hrest3
  obtain ⟨rfl, rfl, rfl⟩ := trodAll_nil hrest4
  exact ⟨v, v', v'', v3, v4, d, d', d'', d3, d4, p, p', p'', p3, p4, by cases args; simp_all, rfl, by simp, hd, hd', hd'', hd3, hd4⟩
end Go.Proofs.Ytpkelokaammmjaa
end
