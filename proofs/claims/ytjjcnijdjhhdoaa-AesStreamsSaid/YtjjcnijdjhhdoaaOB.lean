/- A row of bytes of the call's own: append of one byte, of a slice. -/
import Derived.Test.YtjjcnijdjhhdoaaSB
namespace Go.Proofs.Ytjjcnijdjhhdoaa
open Go.RowKit
theorem ty28 : Try.prog.underlying 28 = some (.slice 5) := by kernel_rfl
theorem i5 : (Try.prog.info? 5).map (fun i => (i.zero, i.size, i.bytes)) = some (some (.int .u8 0), 1, 1) := by kernel_rfl
/-- The slice value v is a row of the call's own, from block base on, and reads as l. -/
def OB (w : World) (base : Nat) (v : Value) (l : Bytes) : Prop := w.ownsRow base 5 1 v l.length (vb l)
section
variable {w w' : World} {base : Nat} {v : Value} {l : Bytes}
theorem OB.nil (w : World) (base : Nat) : OB w base (.slice none 0 0) [] := ⟨by simp, .inl ⟨rfl, rfl⟩⟩
theorem OB.sb (h : OB w base v l) : SB w v l := SB.own h
theorem OB.open_ (h : OB w base v l) (hl : l ≠ []) : ∃ g cap, v = .slice (some ⟨g, 0, none⟩) l.length cap ∧ base ≤ g ∧ g < w.heap.size ∧ l.length ≤ cap ∧ cap ≤ maxLen ∧
    ∀ i, i < l.length → w.cell? ⟨g, i, none⟩ = some (.int .u8 (ub (gb l i))) := by
  have hs := SB.own h
  rcases h.2 with ⟨_, h0⟩ | ⟨g, cap, cur, rfl, hb, hg, hn, hm, _⟩
  · exact absurd (List.eq_nil_of_length_eq_zero h0) hl
  · obtain ⟨A, c, e, _, _, hc⟩ := hs
    obtain ⟨b, o, hA, hlt, hcell⟩ := hc hl
    injection e with e1 e2 e3
    rw [hA] at e1
    injection e1 with e1
    injection e1 with e4 e5
    subst e4; subst e5
    exact ⟨_, _, rfl, hb, hlt, hn, hm, fun i hi => by have := hcell i hi; rwa [Nat.zero_add] at this⟩
theorem OB.own (h : OB w base v l) : ∀ k, v.ownBlock = some k → base ≤ k ∧ k < w.heap.size := by
  intro k hk
  rcases h.2 with ⟨rfl, _⟩ | ⟨g, cap, cur, rfl, hb, hg, _⟩
  · simp [Value.ownBlock] at hk
  · have : g = k := by simpa [Value.ownBlock] using hk
    subst this
    refine ⟨hb, ?_⟩
    rcases Nat.lt_or_ge g w.heap.size with h' | h'
    · exact h'
    · rw [Array.getElem?_eq_none h'] at hg; cases hg
theorem OB.mono {base' : Nat} (h : OB w base v l) (hb : base' ≤ base) : OB w base' v l := by
  obtain ⟨h1, h2⟩ := h
  refine ⟨h1, ?_⟩
  rcases h2 with h2 | ⟨g, cap, cur, rfl, hg, r⟩
  · exact .inl h2
  · exact .inr ⟨g, cap, cur, rfl, by omega, r⟩
theorem OB.set {g n c : Nat} (h : OB w base (.slice (some ⟨g, 0, none⟩) n c) l) (i : Nat) (b : UInt8) : OB (w.setCell ⟨g, i, none⟩ (.int .u8 (ub b))) base (.slice (some ⟨g, 0, none⟩) n c) (l.set i b) := by
  obtain ⟨h1, h2⟩ := h
  refine ⟨by simp, ?_⟩
  rcases h2 with ⟨e, _⟩ | ⟨g', cap, cur, e, hg, hh, hn, hm, hs, ht⟩
  · cases e
  · injection e with e1 e2 e3
    injection e1 with e1
    injection e1 with e1
    subst e1; subst e3
    refine .inr ⟨g, c, cur.setIfInBounds i (.int .u8 (ub b)), by rw [e2]; simp, hg, ?_, by simpa using hn, hm, by simpa using hs, ?_⟩
    · exact heap_setCell_same w g i cur 5 _ hh
    · rw [← vb_set, ← ht]
      simp only [Array.toList_setIfInBounds, List.length_set]
      rw [List.take_set]
theorem OB.frozen_ {g n c : Nat} (h : OB w base (.slice (some ⟨g, 0, none⟩) n c) l) (i : Nat) : w.frozen? ⟨g, i, none⟩ = false := by
  rcases h.2 with ⟨e, _⟩ | ⟨g', cap, cur, e, hg, hh, _⟩
  · cases e
  · injection e with e1 e2 e3
    injection e1 with e1
    injection e1 with e1
    subst e1
    simp [World.frozen?, hh]
theorem OB.keep (h : OB w base v l) (hk : ∀ k, v.ownBlock = some k → w'.heap[k]? = w.heap[k]?) : OB w' base v l := by
  obtain ⟨h1, h2⟩ := h
  refine ⟨h1, ?_⟩
  rcases h2 with h2 | ⟨g, cap, cur, rfl, hb, hg, r⟩
  · exact .inl h2
  · exact .inr ⟨g, cap, cur, rfl, hb, by rw [hk g rfl]; exact hg, r⟩
theorem OB.below (h : OB w base v l) (hb : Below w.heap.size w w') : OB w' base v l := h.keep fun k hk => hb.block k (h.own k hk).2
theorem OB.drewN (h : OB w base v l) (n : Nat) : OB (w.drewN n) base v l := h
theorem OB.alloc (h : OB w base v l) (o : Obj) : OB (w.alloc o) base v l := h.below ((Below.refl _ _).alloc (Nat.le_refl _) o)
theorem OB.grown {row : Option Nat} (h : OB w base v l) (hg : w.grownBy w' row) (hr : ∀ k, v.ownBlock = some k → some k ≠ row) : OB w' base v l := h.keep fun k hk => hg.block k (h.own k hk).2 (hr k hk)
theorem OB.grownBelow {a : World} {B : Nat} (h : OB w base v l) (hb : Below B a w) (hg : w.grownBy w' v.ownBlock) (hB : B ≤ base) (hB2 : B ≤ a.heap.size) : Below B a w' :=
  hb.grown hg (Nat.le_trans hB2 hb.size) (fun k hk => Nat.le_trans hB (h.own k hk).1)
/-- Two slices of the call's own that share no block. -/
def Disj (v u : Value) : Prop := ∀ q, v.ownBlock = some q → u.ownBlock ≠ some q
theorem Disj.symm {v u : Value} (h : Disj v u) : Disj u v := fun q hq hv => h q hv hq
theorem Disj.fresh {u : Value} {B : Nat} (h : OB w base v l) (hu : ∀ k, u.ownBlock = some k → B ≤ k) (hB : w.heap.size ≤ B) : Disj v u := fun q hq hq' => by
  have h1 := (h.own q hq).2
  have h2 := hu q hq'
  omega
/-- Behind an append to v what shares no block with it shares none with what has become of it. -/
theorem Disj.grown {x v' : Value} {m : Bytes} {base' : Nat} (hx : OB w base' x m) (hd : Disj x v) (hat : v'.ownBlock = v.ownBlock ∨ v'.ownBlock = some w.heap.size) : Disj x v' := fun q hq hq' => by
  rcases hat with e | e
  · rw [e] at hq'; exact hd q hq hq'
  · rw [e] at hq'
    have h1 := (hx.own q hq).2
    injection hq' with h2
    omega
theorem OB.apart {u : Value} {m : Bytes} {base' : Nat} (h : OB w base v l) (hg : w.grownBy w' u.ownBlock) (hd : Disj v u) (_hu : OB w base' u m) : OB w' base v l :=
  h.grown hg fun k hk e => hd k hk e.symm
theorem OB.far (h : OB w base v l) {p : Addr} (hp : ∀ q, v.ownBlock = some q → q ≠ p.block) (x : Value) : OB (w.setCell p x) base v l :=
  h.keep fun k hk => Below.heap_setCell w p x k (hp k hk)
theorem OB.new (w : World) (b : Nat) (l : Bytes) (hl : l.length ≤ maxLen) (h : Row w b 5 l) (hb : base ≤ b) : OB w base (.slice (some ⟨b, 0, none⟩) l.length l.length) l :=
  ⟨by simp, .inr ⟨b, l.length, (vb l).toArray, rfl, hb, h, Nat.le_refl _, hl, by simp, by simp [List.take_of_length_le]⟩⟩
end
section
variable {ops : Array Oper} {rest : List Oper} {o : Oper} {a : Act} {w : World} {Q : Exit → Act → World → Prop}
/-- append of a slice that reads as bytes. -/
theorem wl_append (hgd : o.guard = none) (s x : Operand) (ho : o.op = .call { callee := .builtin .append, args := #[s, x], argTypes := #[28, 28] })
    (base : Nat) (v u : Value) (l m : Bytes) (hs : a.eval s = v) (hx : a.eval x = u) (hv : OB w base v l) (hu : SB w u m) (hlen : l.length + m.length ≤ 140737488355328) (hbase : base ≤ w.heap.size)
    (h : ∀ v' w', OB w' base v' (l ++ m) → w.grownBy w' v.ownBlock → (v'.ownBlock = v.ownBlock ∨ v'.ownBlock = some w.heap.size) → wpList Try.prog ops Q rest (a.put o.dst v') w') : wpList Try.prog ops Q (o :: rest) a w := by
  obtain ⟨i0, hi0, hz0, hz1, hz2⟩ := info_parts i5
  obtain ⟨A, c, rfl, hc, hm, hcell⟩ := hu
  have hr := (SB.reads (w := w) (A := A) (n := m.length) (c := c) ⟨A, c, rfl, hc, hm, hcell⟩).2
  refine wpList_append_any w hgd s x 28 ho base 5 i0 _ 1 1 ty28 hi0 hz0 hz1 hz2 rfl (by omega) v l.length (vb l) hs hv w.heap.size A m.length c (vb m) hx hr (vb_ones m) (by unfold maxLen; omega) (by omega) hbase ?_
  intro v' w' h1 h2 h3
  refine h v' w' ?_ h2 h3
  unfold OB
  rw [List.length_append, vb_append]
  exact h1
/-- append of one byte, which lies in a block of its own. -/
theorem wl_push (hgd : o.guard = none) (s x : Operand) (ho : o.op = .call { callee := .builtin .append, args := #[s, x], argTypes := #[28, 28] })
    (base : Nat) (v : Value) (l : Bytes) (b : UInt8) (g : Nat) (hs : a.eval s = v) (hx : a.eval x = .slice (some ⟨g, 0, none⟩) 1 1) (hv : OB w base v l) (hu : Row w g 5 [b]) (hlen : l.length < 140737488355328) (hbase : base ≤ w.heap.size)
    (h : ∀ v' w', OB w' base v' (l ++ [b]) → w.grownBy w' v.ownBlock → (v'.ownBlock = v.ownBlock ∨ v'.ownBlock = some w.heap.size) → wpList Try.prog ops Q rest (a.put o.dst v') w') : wpList Try.prog ops Q (o :: rest) a w :=
  wl_append hgd s x ho base v _ l [b] hs hx hv (SB.row hu (by simp [maxLen])) (by simp; omega) hbase h
end
end Go.Proofs.Ytjjcnijdjhhdoaa
