/- Sets of keys as maps, among the things that a call holds. (Texts laid one behind the other: XS, OpenB, RowL, Five, Mask, STl, Rw, SymP, SPl, LFeq, Plays1, OpenSt, MapB, MapC.) -/
import Derived.ProofKit
import Derived.Carry
import Derived.ChangeShapes
import Derived.Deep.Slices
import Derived.ChangeMaps5
import Derived.MapKept
import Derived.Test.YtjjcnijdjhhdoaaCA6
/-! Steps: calls of package sym, on what is held. -/
section
namespace Go.Proofs.Ytjjcnijdjhhdoaa
open Go.RowKit Go.QT
section
variable {F0 F : Nat → Prop} {w0 w w' : World} {ro rs : List Res} {tb : Nat} {s s2 : STab} {o : Oper} {a : Act} {v : Value} {e : Ending}
theorem Hp.updR (h : Hp F0 w0 w ro rs) (i : Nat) {r : Res} (hi : rs[i]? = some r) (hf : Fr r.F w w') (r' : Res) (hr : r'.Φ w') (hF : ∀ q, r'.F q → r.F q ∨ w.heap.size ≤ q) (t : Res) (ht : t.Φ w') (hn : ∀ q, t.F q → w.heap.size ≤ q ∧ ¬ r'.F q) :
    Hp F0 w0 w' (t :: ro) (rs.set i r') := by
  have hil : i < rs.length := (List.getElem?_eq_some_iff.1 hi).1
  refine (h.upd i hi hf r' hr hF).addR t ht (fun j s hs q h1 h2 => ?_)
  by_cases e : j = i
  · subst e
    rw [List.getElem?_set_self hil] at hs
    injection hs with hs
    subst hs
    exact (hn q h1).2 h2
  · rw [List.getElem?_set_ne (Ne.symm e)] at hs
    exact absurd (s.lt (h.own j s hs) q h2) (Nat.not_lt.2 (hn q h1).1)
theorem x_snew (h : Hp F0 w0 w ro rs) (hp : pureVal Try.prog (execOp a.eval o) = some (.enter 28 #[])) :
    OpTo Try.prog o a w (fun u w' => ∃ tb F, u = pt tb 0 ∧ Hp F0 w0 w' ro (rTab F tb STab.empty :: rs)) :=
  OpTo.enter 28 [] hp (snew_any w) fun e w' hq => by
    obtain ⟨tb, F, he, hT, hF, hb⟩ := hq
    exact ⟨_, he, tb, F, rfl, h.newS hb (rTab F tb STab.empty) hT hF⟩
/-- A method that answers a key's mark. -/
theorem x_tkey (h : Hp F0 w0 w ro rs) (i : Nat) (hi : rs[i]? = some (rTab F tb s)) (fn : FuncId) (al : List Value) (hp : pureVal Try.prog (execOp a.eval o) = some (.enter fn al.toArray)) {n : Nat}
    (hc : TabAt w F tb s → Calls Try.prog fn al.toArray w (TPost w F tb s2 (.agg (vb (mkB 107 n)).toArray))) :
    OpTo Try.prog o a w (fun u w' => ∃ K F' s', u = .agg (vb (kl K)).toArray ∧ kl K = mkB 107 n ∧ s' = s2 ∧ Hp F0 w0 w' ro (rs.set i (rTab F' tb s'))) :=
  (x_tab h i hi fn al hp hc).mono fun u w' hr => by
    obtain ⟨hu, F', h'⟩ := hr
    obtain ⟨K, hK⟩ := kl_of (mkB 107 n) (mkB_len _ _)
    exact ⟨K, F', s2, by rw [hu, hK], hK.symm, rfl, h'⟩
theorem x_fresh (h : Hp F0 w0 w ro rs) (i : Nat) (hi : rs[i]? = some (rTab F tb s)) (hp : pureVal Try.prog (execOp a.eval o) = some (.enter 33 #[pt tb 0])) (hn : s.keys.length < 1000000) :
    OpTo Try.prog o a w (fun u w' => ∃ K F' s', u = .agg (vb (kl K)).toArray ∧ kl K = mkB 107 (s.keys.length + 1) ∧ s' = s.add SFrom.fresh ∧ Hp F0 w0 w' ro (rs.set i (rTab F' tb s'))) :=
  x_tkey h i hi 33 [pt tb 0] hp fun hT => fresh_any F tb s w hT hn
theorem x_derive (h : Hp F0 w0 w ro rs) (i : Nat) (hi : rs[i]? = some (rTab F tb s)) (K : Fin 16 → UInt8) (l : ByteArray) (hp : pureVal Try.prog (execOp a.eval o) = some (.enter 30 #[pt tb 0, .agg (vb (kl K)).toArray, .string l])) (hn : s.keys.length < 1000000) :
    OpTo Try.prog o a w (fun u w' => ∃ K' F' s', u = .agg (vb (kl K')).toArray ∧ kl K' = mkB 107 (s.num (deriveF (kl K) l)) ∧ s' = s.made (deriveF (kl K) l) ∧ Hp F0 w0 w' ro (rs.set i (rTab F' tb s'))) :=
  x_tkey h i hi 30 [pt tb 0, .agg (vb (kl K)).toArray, .string l] hp fun hT => derive_any F tb s (kl K) l w hT (kl_len K) hn
theorem x_text (h : Hp F0 w0 w ro rs) (i : Nat) (hi : rs[i]? = some (rTab F tb s)) (p q : ByteArray) (hp : pureVal Try.prog (execOp a.eval o) = some (.enter 29 #[pt tb 0, .string p, .string q])) (h1 : p.size ≤ 1000000) (h2 : q.size ≤ 1000000) (hn : s.keys.length < 1000000) :
    OpTo Try.prog o a w (fun u w' => ∃ K' F' s', u = .agg (vb (kl K')).toArray ∧ kl K' = mkB 107 (s.num (textF p q)) ∧ s' = s.made (textF p q) ∧ Hp F0 w0 w' ro (rs.set i (rTab F' tb s'))) :=
  x_tkey h i hi 29 [pt tb 0, .string p, .string q] hp fun hT => text_any F tb s p q w hT h1 h2 hn
/-- A method that answers a row of bytes that nobody turns. -/
theorem x_spost (h : Hp F0 w0 w ro rs) (i : Nat) (hi : rs[i]? = some (rTab F tb s)) (fn : FuncId) (al : List Value) (hp : pureVal Try.prog (execOp a.eval o) = some (.enter fn al.toArray)) (l : Bytes)
    (hc : TabAt w F tb s → Calls Try.prog fn al.toArray w (SPost w F tb s2 l)) :
    OpTo Try.prog o a w (fun u w' => ∃ A cc F' s', u = .slice A l.length cc ∧ s' = s2 ∧ Hp F0 w0 w' (rSB (.slice A l.length cc) l :: ro) (rs.set i (rTab F' tb s'))) :=
  OpTo.enter fn al hp (hc (h.own i _ hi)) fun e w' hq => by
    obtain ⟨v, F', he, hsb, hT, h1, h2, hf, hn⟩ := hq
    obtain ⟨A, cc, rfl, hc1, hc2, hcell⟩ := hsb
    exact ⟨_, he, A, cc, F', s2, rfl, rfl, h.updR i hi hf (rTab F' tb s2) hT h1 (rSB (.slice A l.length cc) l) ⟨A, cc, rfl, hc1, hc2, hcell⟩ (fun q hq => hn q hq.2)⟩
theorem x_seal (h : Hp F0 w0 w ro rs) (i : Nat) (hi : rs[i]? = some (rTab F tb s)) (K : Fin 16 → UInt8) (u : Int) (l : Bytes) (bv : Value) (hp : pureVal Try.prog (execOp a.eval o) = some (.enter 31 #[pt tb 0, .agg (vb (kl K)).toArray, .int .i64 u, bv])) (hb : SB w bv l) (hl : l.length ≤ 1000000) (hn : s.boxes.length < 1000000) :
    OpTo Try.prog o a w (fun u' w' => ∃ A cc F' s', u' = .slice A 16 cc ∧ s' = s.seal (kl K) u l ∧ Hp F0 w0 w' (rSB (.slice A 16 cc) (mkB 98 (s.boxes.length + 1)) :: ro) (rs.set i (rTab F' tb s'))) := by
  have := x_spost h i hi 31 [pt tb 0, .agg (vb (kl K)).toArray, .int .i64 u, bv] hp (mkB 98 (s.boxes.length + 1)) fun hT => seal_any F tb s (kl K) u l bv w hT (kl_len K) hb hl hn
  rw [mkB_len] at this
  exact this
theorem x_digest (h : Hp F0 w0 w ro rs) (i : Nat) (hi : rs[i]? = some (rTab F tb s)) (l : Bytes) (bv : Value) (hp : pureVal Try.prog (execOp a.eval o) = some (.enter 32 #[pt tb 0, bv])) (hb : SB w bv l) (hl : l.length ≤ 1000000) (hn : s.sums.length < 1000000) :
    OpTo Try.prog o a w (fun u' w' => ∃ A cc F' s', u' = .slice A 16 cc ∧ s' = s.digest l ∧ Hp F0 w0 w' (rSB (.slice A 16 cc) (mkB 100 (s.sumAt l + 1)) :: ro) (rs.set i (rTab F' tb s'))) := by
  have := x_spost h i hi 32 [pt tb 0, bv] hp (mkB 100 (s.sumAt l + 1)) fun hT => digest_any F tb s l bv w hT hb hl hn
  rw [mkB_len] at this
  exact this
/-- Open: what is in the box is the call's own. -/
theorem x_open (h : Hp F0 w0 w ro rs) (i : Nat) (hi : rs[i]? = some (rTab F tb s)) (K : Fin 16 → UInt8) (u : Int) (l : Bytes) (bv : Value) (r : Option Bytes) (hp : pureVal Try.prog (execOp a.eval o) = some (.enter 34 #[pt tb 0, .agg (vb (kl K)).toArray, .int .i64 u, bv])) (hb : SB w bv l) (hl : ∀ b ∈ s.boxes, b.body.length ≤ 1000000) (hx16 : ∀ b ∈ s.boxes, b.by_.length = 16) (hn : s.boxes.length < 1000000) (hr : s.open_ (kl K) u l = r) :
    OpTo Try.prog o a w (fun u' w' => ∃ A cc, u' = .tuple #[.slice A (r.getD []).length cc, .bool r.isSome] ∧ Hp F0 w0 w' ro (rOB (.slice A (r.getD []).length cc) (r.getD []) :: rs)) :=
  OpTo.enter 34 [pt tb 0, .agg (vb (kl K)).toArray, .int .i64 u, bv] hp (open_any F tb s (kl K) u l bv w (h.own i _ hi) (kl_len K) hb hl hx16 hn) fun e w' hq => by
    subst hr
    obtain ⟨v, he, ho, hb⟩ := hq
    obtain ⟨A, cc, rfl, _⟩ := ho.sb
    exact ⟨_, he, A, cc, rfl, h.newS hb _ (ho.mono (Nat.zero_le _)) (fun q hq => (ho.own q hq).1)⟩
/-- Box. -/
theorem x_box (h : Hp F0 w0 w ro rs) (i : Nat) (hi : rs[i]? = some (rTab F tb s)) (l : Bytes) (bv : Value) (r : Option SSealed) (hp : pureVal Try.prog (execOp a.eval o) = some (.enter 35 #[pt tb 0, bv])) (hb : SB w bv l) (hl : ∀ b ∈ s.boxes, b.body.length ≤ 1000000) (hx16 : ∀ b ∈ s.boxes, b.by_.length = 16) (hn : s.boxes.length < 1000000) (hr : s.box l = r) :
    OpTo Try.prog o a w (fun u' w' => ∃ K us l' A cc, u' = .tuple #[.agg (vb (kl K) ++ [Value.int .i64 us, Value.slice A l'.length cc]).toArray, .bool r.isSome] ∧ (r = some ⟨kl K, us, l'⟩ ∨ r = none ∧ kl K = zKey ∧ us = 0 ∧ l' = []) ∧ Hp F0 w0 w' ro (rOB (.slice A l'.length cc) l' :: rs)) :=
  OpTo.enter 35 [pt tb 0, bv] hp (box_any' F tb s l bv w (h.own i _ hi) hb hl hn) fun e w' hq => by
    subst hr
    obtain ⟨x, body, he, hx, ho, hb⟩ := hq
    have hlen : x.by_.length = 16 := by
      rcases hx with hx | ⟨_, rfl⟩
      · have hm : x ∈ s.boxes := by
          unfold STab.box at hx
          split at hx
          · split at hx
            · exact List.mem_of_getElem? hx
            · cases hx
          · cases hx
        exact hx16 x hm
      · rfl
    obtain ⟨K, hK⟩ := kl_of x.by_ hlen
    obtain ⟨A, cc, rfl, _⟩ := ho.sb
    refine ⟨_, he, K, x.usage, x.body, A, cc, by rw [← hK]; rfl, ?_, h.newS hb _ (ho.mono (Nat.zero_le _)) (fun q hq => (ho.own q hq).1)⟩
    rw [← hK]
    rcases hx with hx | ⟨h1, rfl⟩
    · exact .inl hx
    · exact .inr ⟨h1, rfl, rfl, rfl⟩
/-- Came. -/
theorem x_came (h : Hp F0 w0 w ro rs) (i : Nat) (hi : rs[i]? = some (rTab F tb s)) (K : Fin 16 → UInt8) (r : Option SFrom) (hp : pureVal Try.prog (execOp a.eval o) = some (.enter 38 #[pt tb 0, .agg (vb (kl K)).toArray])) (hf16 : ∀ f ∈ s.keys, f.of.length = 16) (hn : s.keys.length < 1000000) (hr : s.came (kl K) = r) :
    OpTo Try.prog o a w (fun u' w' => ∃ K' l b, u' = .tuple #[.agg (vb (kl K') ++ [Value.string l, Value.bool b]).toArray, .bool r.isSome] ∧ (r = some ⟨kl K', l, b⟩ ∨ r = none ∧ kl K' = zKey ∧ l = ByteArray.empty ∧ b = false) ∧ Hp F0 w0 w' ro rs) :=
  OpTo.enter 38 [pt tb 0, .agg (vb (kl K)).toArray] hp (came_any F tb s (kl K) w (h.own i _ hi) (kl_len K) hn) fun e w' hq => by
    subst hr
    obtain ⟨f, he, hx, hb⟩ := hq
    have hlen : f.of.length = 16 := by
      rcases hx with hx | ⟨_, rfl⟩
      · have hm : f ∈ s.keys := by
          unfold STab.came at hx
          split at hx
          · split at hx
            · exact List.mem_of_getElem? hx
            · cases hx
          · cases hx
        exact hf16 f hm
      · rfl
    obtain ⟨K', hK⟩ := kl_of f.of hlen
    refine ⟨_, he, K', f.label, f.text, by rw [← hK]; rfl, ?_, h.below hb⟩
    rw [← hK]
    rcases hx with hx | ⟨h1, rfl⟩
    · exact .inl hx
    · exact .inr ⟨h1, rfl, rfl, rfl⟩
theorem Hp.tabW (h : Hp F0 w0 w ro rs) (i : Nat) (hi : rs[i]? = some (rTab F tb s)) : (∀ b ∈ s.boxes, b.by_.length = 16) ∧ (∀ f ∈ s.keys, f.of.length = 16) ∧ (∀ p ∈ s.known, p.1.of.length = 16) := by
  obtain ⟨_, _, _, _, _, _, _, _, hR⟩ := h.own i _ hi
  exact ⟨hR.xl, hR.kl, hR.ml⟩
theorem x_nkeys (h : Hp F0 w0 w ro rs) (i : Nat) (hi : rs[i]? = some (rTab F tb s)) (hp : pureVal Try.prog (execOp a.eval o) = some (.enter 36 #[pt tb 0])) :
    OpTo Try.prog o a w (fun u w' => u = .int .i64 (s.keys.length : Int) ∧ Hp F0 w0 w' ro rs) :=
  x_vpost h 36 [pt tb 0] hp (nkeys_any F tb s w (h.own i _ hi))
theorem x_nboxes (h : Hp F0 w0 w ro rs) (i : Nat) (hi : rs[i]? = some (rTab F tb s)) (hp : pureVal Try.prog (execOp a.eval o) = some (.enter 37 #[pt tb 0])) :
    OpTo Try.prog o a w (fun u w' => u = .int .i64 (s.boxes.length : Int) ∧ Hp F0 w0 w' ro rs) :=
  x_vpost h 37 [pt tb 0] hp (nboxes_any F tb s w (h.own i _ hi))
/-- A call that answers sixteen bytes. -/
theorem x_key (h : Hp F0 w0 w ro rs) {l : Bytes} (fn : FuncId) (al : List Value) (hp : pureVal Try.prog (execOp a.eval o) = some (.enter fn al.toArray)) (hl : l.length = 16) (hc : Calls Try.prog fn al.toArray w (APost w l)) :
    OpTo Try.prog o a w (fun u w' => ∃ K, u = .agg (vb (kl K)).toArray ∧ kl K = l ∧ Hp F0 w0 w' ro rs) :=
  (x_apost h fn al hp hc).mono fun u w' hr => by
    obtain ⟨K, hK⟩ := kl_of l hl
    exact ⟨K, by rw [← hK]; exact hr.1, hK.symm, hr.2⟩
theorem x_nth (h : Hp F0 w0 w ro rs) (n : Nat) (hp : pureVal Try.prog (execOp a.eval o) = some (.enter 39 #[pt tb 0, .int .i64 (n : Int)])) (hn : n < 9223372036854775808) :
    OpTo Try.prog o a w (fun u w' => ∃ K, u = .agg (vb (kl K)).toArray ∧ kl K = mkB 107 n ∧ Hp F0 w0 w' ro rs) :=
  x_key h 39 [pt tb 0, .int .i64 (n : Int)] hp (mkB_len _ _) (nth_any n hn tb w)
theorem x_lmark (h : Hp F0 w0 w ro rs) (k : UInt8) (n : Nat) (hp : pureVal Try.prog (execOp a.eval o) = some (.enter 24 #[.int .u8 (ub k), .int .i64 (n : Int)])) (hn : n < 9223372036854775808) :
    OpTo Try.prog o a w (fun u w' => ∃ K, u = .agg (vb (kl K)).toArray ∧ kl K = mkB k n ∧ Hp F0 w0 w' ro rs) :=
  x_key h 24 [.int .u8 (ub k), .int .i64 (n : Int)] hp (mkB_len _ _) (lmark_any k n hn w)
theorem x_Mark (h : Hp F0 w0 w ro rs) (l : Bytes) (bv : Value) (hp : pureVal Try.prog (execOp a.eval o) = some (.enter 27 #[bv])) (hb : SB w bv l) (r : Value) (hr : mkV (markOf l) = r) :
    OpTo Try.prog o a w (fun u w' => u = r ∧ Hp F0 w0 w' ro rs) :=
  OpTo.enter 27 [bv] hp (Mark_any bv l w hb) fun _e _w' hq => ⟨_, hq.1, hr, h.below hq.2⟩
theorem x_plain (h : Hp F0 w0 w ro rs) (l : Bytes) (bv : Value) (hp : pureVal Try.prog (execOp a.eval o) = some (.enter 25 #[bv])) (hb : SB w bv l) (r : Value) (hr : plV (markOf l) = r) :
    OpTo Try.prog o a w (fun u w' => u = r ∧ Hp F0 w0 w' ro rs) :=
  OpTo.enter 25 [bv] hp (lplain_any bv l w hb) fun e w' hq => by
    obtain ⟨he, n, rfl⟩ := hq
    exact ⟨_, he, hr, h.drewN n⟩
theorem x_same (h : Hp F0 w0 w ro rs) (l m : Bytes) (u v : Value) (hp : pureVal Try.prog (execOp a.eval o) = some (.enter 18 #[u, v])) (hu : SB w u l) (hv : SB w v m) (b : Bool) (hb : decide (l = m) = b) :
    OpTo Try.prog o a w (fun u w' => u = .bool b ∧ Hp F0 w0 w' ro rs) :=
  OpTo.enter 18 [u, v] hp (same_any u v l m w hu hv) fun e w' hq => by
    subst hb
    obtain ⟨he, n, rfl⟩ := hq
    exact ⟨_, he, rfl, h.drewN n⟩
/-- Find. -/
theorem x_find (h : Hp F0 w0 w ro rs) (l : Bytes) (bv : Value) (hp : pureVal Try.prog (execOp a.eval o) = some (.enter 26 #[bv])) (hb : SB w bv l) (hl : l.length ≤ 1000000) :
    OpTo Try.prog o a w (fun u w' => ∃ A cc, u = .slice A (findB l).length cc ∧ Hp F0 w0 w' ro (rOV 42 16 (.slice A (findB l).length cc) ((findB l).map vb) :: rs)) :=
  OpTo.enter 26 [bv] hp (find_any bv l w hb hl) fun e w' hq => by
    obtain ⟨v, he, ho, hbl⟩ := hq
    obtain ⟨A, cc, e2, _⟩ := ho.form
    rw [List.length_map] at e2
    subst e2
    exact ⟨_, he, A, cc, rfl, h.newS hbl (rOV 42 16 _ _) (ho.mono (Nat.zero_le _)) (fun q hq => (ho.block q hq).1)⟩
/-- Keys held against one another. -/
theorem e_keq (K L : Fin 16 → UInt8) (t t' : TypeId) (x y : Operand) (ho : o.op = .binOp .eql t x y t') (hx : a.eval x = .agg (vb (kl K)).toArray) (hy : a.eval y = .agg (vb (kl L)).toArray)
    (ht : Try.prog.underlying t = some (.array 16 5)) (hg : Try.prog.eqGuardType Try.prog.depth t = false) (b : Bool) (hb : decide (kl K = kl L) = b) (W : World) :
    (execOp a.eval o).run Try.prog W = .ok (.value (.bool b)) W := by
  subst hb; exact exec_eq16 t t' x y ho (kl K) (kl L) hx hy ht hg (kl_len K) (kl_len L) W
theorem e_kne (K L : Fin 16 → UInt8) (t t' : TypeId) (x y : Operand) (ho : o.op = .binOp .neq t x y t') (hx : a.eval x = .agg (vb (kl K)).toArray) (hy : a.eval y = .agg (vb (kl L)).toArray)
    (ht : Try.prog.underlying t = some (.array 16 5)) (hg : Try.prog.eqGuardType Try.prog.depth t = false) (b : Bool) (hb : decide (kl K ≠ kl L) = b) (W : World) :
    (execOp a.eval o).run Try.prog W = .ok (.value (.bool b)) W := by
  subst hb
  rw [exec_ne16 t t' x y ho (kl K) (kl L) hx hy ht hg (kl_len K) (kl_len L) W]
  by_cases h : kl K = kl L <;> simp [h]
theorem e_keqB (k l : Bytes) (hk : k.length = 16) (hl : l.length = 16) (t t' : TypeId) (x y : Operand) (ho : o.op = .binOp .eql t x y t') (hx : a.eval x = .agg (vb k).toArray) (hy : a.eval y = .agg (vb l).toArray)
    (ht : Try.prog.underlying t = some (.array 16 5)) (hg : Try.prog.eqGuardType Try.prog.depth t = false) (b : Bool) (hb : decide (k = l) = b) (W : World) :
    (execOp a.eval o).run Try.prog W = .ok (.value (.bool b)) W := by
  subst hb; exact exec_eq16 t t' x y ho k l hx hy ht hg hk hl W
theorem e_kneB (k l : Bytes) (hk : k.length = 16) (hl : l.length = 16) (t t' : TypeId) (x y : Operand) (ho : o.op = .binOp .neq t x y t') (hx : a.eval x = .agg (vb k).toArray) (hy : a.eval y = .agg (vb l).toArray)
    (ht : Try.prog.underlying t = some (.array 16 5)) (hg : Try.prog.eqGuardType Try.prog.depth t = false) (b : Bool) (hb : decide (k ≠ l) = b) (W : World) :
    (execOp a.eval o).run Try.prog W = .ok (.value (.bool b)) W := by
  subst hb
  rw [exec_ne16 t t' x y ho k l hx hy ht hg hk hl W]
  by_cases h : k = l <;> simp [h]
theorem e_min (x y : Operand) (ts : Array TypeId) (ho : o.op = .call { callee := .builtin .min, args := #[x, y], argTypes := ts }) (k k' : IntKind) (m n : Int) (hx : a.eval x = .int k m) (hy : a.eval y = .int k' n) (r : Int) (hr : (if n < m then n else m) = r) (W : World) :
    (execOp a.eval o).run Try.prog W = .ok (.value (.int k r)) W := by
  subst hr
  unfold execOp
  simp only [ho, resolve, invoke, builtin, Sem.run_bind, Sem.run_pure, Result.andThen_ok, List.map_toArray, List.map_cons, List.map_nil, hx, hy, run_min_int2]
/-- Keys of one text are one. -/
theorem kl_inj {K L : Fin 16 → UInt8} (h : kl K = kl L) : K = L := by
  funext i
  have h2 : (kl K)[i.val]? = (kl L)[i.val]? := by rw [h]
  unfold kl at h2
  rw [List.getElem?_ofFn, List.getElem?_ofFn, dif_pos i.isLt, dif_pos i.isLt] at h2
  exact Option.some.inj h2
/-- Bytes that stand in the program. -/
theorem x_bsl (h : Hp F0 w0 w ro rs) (l : Bytes) (hn : newVal Try.prog (execOp a.eval o) = some (.cells (vb l).toArray 5, fun r => some (.value (.slice (some ⟨r, 0, none⟩) l.length l.length)))) :
    OpTo Try.prog o a w (fun v w' => ∃ g, v = .slice (some ⟨g, 0, none⟩) l.length l.length ∧ w' = w.alloc (.cells (vb l).toArray 5) ∧ g = w.heap.size ∧ Hp F0 w0 w ro rs ∧ Hp F0 w0 w' ro (rBlk g 5 (vb l) :: rs)) :=
  OpTo.run (.slice (some ⟨w.heap.size, 0, none⟩) l.length l.length) (newVal_run hn w rfl) ⟨_, rfl, rfl, rfl, h, h.alloc 5 (vb l)⟩
theorem x_bcv {W : World} (h : Hp F0 w0 w ro rs) (l : Bytes) (hW : W = w.alloc (.cells (vb l).toArray 5)) (g : Nat) (hg : g = w.heap.size) (x : Operand) (ho : o.op = .convert 28 28 x) (hx : a.eval x = .slice (some ⟨g, 0, none⟩) l.length l.length) (hl : l.length ≤ maxLen) :
    OpTo Try.prog o a W (fun v w' => v = .slice (some ⟨g, 0, none⟩) l.length l.length ∧ Hp F0 w0 w' (rSB (.slice (some ⟨g, 0, none⟩) l.length l.length) l :: ro) rs) := by
  subst hW; subst hg
  refine OpTo.run _ (exec_convC x ho w (vb l).toArray l.length l.length hx) ⟨rfl, ?_⟩
  have hsz : (vb l).toArray.size = l.length := by simp
  rw [hsz]
  exact h.newR ((Below.refl _ _).alloc (Nat.le_refl _) _) (rSB (.slice (some ⟨w.heap.size, 0, none⟩) l.length l.length) l) (SB.marked w l (l.length, l.length + 1) hl) (fun q hq => by
    have : w.heap.size = q := by simpa [Value.ownBlock] using hq.2
    omega)
/-- A block of bytes, read. -/
theorem SB.blk {g : Nat} {T : TypeId} {l : Bytes} {n c : Nat} (hb : Blk w g T (vb l)) (hn : n = l.length) (hc : decide (n ≤ c) = true) (hm : decide (c ≤ maxLen) = true) : SB w (.slice (some ⟨g, 0, none⟩) n c) l := by
  subst hn
  refine ⟨_, _, rfl, of_decide_eq_true hc, of_decide_eq_true hm, fun _ => ⟨g, 0, rfl, hb.lt, fun i hi => ?_⟩⟩
  rw [hb.cell, Nat.zero_add]
  exact vb_get l i hi
theorem SB.blk16 {g : Nat} {T : TypeId} {K : Fin 16 → UInt8} (hb : Blk w g T (vb (kl K))) : SB w (.slice (some ⟨g, 0, none⟩) 16 16) (kl K) :=
  SB.blk hb (kl_len K).symm (by decide) (by decide)
end
end Go.Proofs.Ytjjcnijdjhhdoaa
end
/-! An array of sixteen bytes, opened and shut. -/
section
namespace Go.Proofs.Ytjjcnijdjhhdoaa
open Go.ChangeShapes Go.WideShapes Go.ChangeAt Go.RowKit
set_option maxRecDepth 100000
variable {H : Type} {enc : TypeId × Value → H} {w : World} {base : Nat} {spare : Nat → Bool} {held : Bool}
theorem wf_ub (a : UInt8) : (Lit.int .u8 (ub a)).wf = true := by
  have := nb_lt a
  simp [Lit.wf, IntKind.min, IntKind.max, IntKind.signed, IntKind.bits, ub]
  unfold nb at this; omega
theorem tb1 (m : Nat) (a : UInt8) : DataW.trod enc Try.prog w base spare held (m+1) 5 [.int .u8 (ub a)] = some (.lit (.int .u8 (ub a)), []) := by
  simp [DataW.trod, Try.underlying5, wf_ub]
def db {H : Type} (b : Bytes) : DataW H := .agg (b.map fun a => .lit (.int .u8 (ub a)))
theorem all_vb (cs : List Value) (h : ∀ c ∈ cs, ∃ a, c = .int .u8 (ub a)) : ∃ b : Bytes, cs = vb b := by
  induction cs with
  | nil => exact ⟨[], rfl⟩
  | cons c cs ih =>
    obtain ⟨a, rfl⟩ := h c (by simp)
    obtain ⟨b, rfl⟩ := ih fun c hc => h c (by simp [hc])
    exact ⟨a :: b, rfl⟩
theorem c22 : Try.prog.cellsOf 22 = 16 := by kernel_rfl
theorem c5 : Try.prog.cellsOf 5 = 1 := by kernel_rfl
theorem tb16 (m : Nat) (b : Bytes) (hb : b.length = 16) : DataW.trod enc Try.prog w base spare held (m+2) 22 (vb b) = some (db b, []) := by
  unfold DataW.trod
  rw [Try.underlying22]
  match b, hb with
  | [a0, a1, a2, a3, a4, a5, a6, a7, a8, a9, a10, a11, a12, a13, a14, a15], _ =>
  have r16 : List.range 16 = [0, 1, 2, 3, 4, 5, 6, 7, 8, 9, 10, 11, 12, 13, 14, 15] := rfl
  simp [c22, c5, r16, vb, tb1, db]
theorem tb_int {m : Nat} {c : Value} {x : DataW H × List MemPlace} (h : DataW.trod enc Try.prog w base spare held m 5 [c] = some x) : ∃ a, c = .int .u8 (ub a) := by
  obtain ⟨n, hc, _, hw⟩ := DataW.trod_int Try.underlying5 h
  have := bounds_u8 hw
  exact ⟨toB n, by rw [ub_u8 (by omega) (by omega)]; simpa using hc⟩
theorem open_b16 {r : Reach} {b0 : Nat} {v : Value} {d : DataW H} {p : List MemPlace} (hv : Value.okWide Try.prog w r b0 22 v) (h : DataW.Trod enc Try.prog w base spare held 22 v d p) :
    ∃ b : Bytes, b.length = 16 ∧ v = .agg (vb b).toArray ∧ d = db b ∧ p = [] := by
  unfold Value.okWide at hv
  rw [Try.underlying22] at hv
  obtain ⟨cs, rfl, hc, _⟩ := hv
  obtain ⟨fuel, h⟩ := h
  obtain ⟨l, rfl⟩ : ∃ l : List Value, cs = l.toArray := ⟨cs.toList, by simp⟩
  simp only [Value.cells] at h
  rw [c22] at hc
  have hl : l.length = 16 := by simpa using hc
  obtain ⟨xs, m, rfl, hx, _, hxs, hi⟩ := DataW.trod_array Try.underlying22 h
  rw [c5] at hi
  obtain ⟨b, rfl⟩ := all_vb l (by
    intro c hcm
    obtain ⟨i, hil, rfl⟩ := List.getElem_of_mem hcm
    have hi' := hi i (by omega)
    have : (l.drop (i * 1)).take 1 = [l[i]] := by
      rw [Nat.mul_one, List.drop_eq_getElem_cons hil]; rfl
    rw [this, List.getElem?_eq_getElem (by omega)] at hi'
    exact tb_int hi')
  have hb : b.length = 16 := by simpa [vb] using hl
  refine ⟨b, hb, rfl, ?_⟩
  cases m with
  | zero =>
    have := hi 0 (by omega)
    rw [List.getElem?_eq_getElem (by omega)] at this
    simp [DataW.trod] at this
  | succ m =>
    rw [tb16 m b hb] at h
    simp only [Option.some.injEq, Prod.mk.injEq] at h
    exact ⟨h.1.symm, h.2.symm⟩
theorem shut_b16 {b : Bytes} (hb : b.length = 16) : DataW.Trod enc Try.prog w base spare held 22 (.agg (vb b).toArray) (db b) [] :=
  ⟨2, tb16 0 b hb⟩
end Go.Proofs.Ytjjcnijdjhhdoaa
end
/-! What every law's row needs: from 'the call returns true and what was there is as it was' to the row's post; slices of bytes that came in. -/
section
namespace Go.Proofs.Ytjjcnijdjhhdoaa
open Go.ChangeShapes Go.WideShapes Go.ChangeAt Go.RowKit
theorem Try.own : ownKnob Try.prog.godebug = none := by kernel_rfl
theorem Try.laidOut : laidOutB Try.prog = true := by kernel_rfl
section
variable {H : Type} {enc : TypeId × Value → H} {P : Program}
theorem trodAll_stays {W W' : World} {sp' : Nat → Bool} (hl : laidOutB P = true) : ∀ (ts : List TypeId) (vs : List Value) (ds : List (DataW H)) (ps : List MemPlace),
    (ts.all fun t => P.readableRec t && decide (t < P.types.size)) = true → DataW.TrodAll enc P W 0 (fun _ => true) true ts vs ds ps →
    (∀ p ∈ ps, W.sameAt W' p) → (∀ p ∈ ps, sp' p.block = true) → DataW.TrodAll enc P W' 0 sp' true ts vs ds ps
  | [], _, _, _, _, h, _, _ => by
    obtain ⟨rfl, rfl, rfl⟩ := trodAll_nil h
    exact rfl
  | t :: ts, _, _, _, ht, h, hs, hsp => by
    obtain ⟨v, vs, d, ds, a, b, rfl, rfl, rfl, h1, h2⟩ := trodAll_cons h
    rw [List.all_cons, Bool.and_eq_true, Bool.and_eq_true, decide_eq_true_eq] at ht
    exact ⟨a, b, WideElems.Trod_stays hl ht.1.1 ht.1.2 h1 (fun p hp => hs p (by simp [hp])) (fun p hp => hsp p (by simp [hp])),
      trodAll_stays hl ts vs ds b ht.2 h2 (fun p hp => hs p (by simp [hp])) (fun p hp => hsp p (by simp [hp])), rfl⟩
theorem post_of_below {f : Func} {s : ChangeSpec} {apart fresh handsOn again : Bool} {W W' : World} {args : Array Value} {v : Value} {ds gs : List (DataW H)} {before pa pv : List MemPlace}
    (hW : DataW.Whole enc P f.params.toList s.vars apart W args.toList ds gs before)
    (hres : ∀ (b : Nat) (sp : Nat → Bool) (hd : Bool), DataW.TrodAll enc P W' b sp hd f.resultTypes.toList (v.resultList f.resultTypes.size) (s.fn H (ds ++ gs)).results [])
    (hargs : ∀ sp : Nat → Bool, (∀ p ∈ before, sp p.block = true) → DataW.TrodAll enc P W' 0 sp true f.params.toList args.toList (s.fn H (ds ++ gs)).args pa)
    (hvars : ∀ sp : Nat → Bool, (∀ p ∈ before, sp p.block = true) → DataW.TrodVars enc P W' sp s.vars (s.fn H (ds ++ gs)).vars pv)
    (hps : before = pa ++ pv) (hb : Below W.heap.size W W')
    (hok : ∀ (j : Nat) (t : TypeId) (r : Value), f.resultTypes[j]? = some t → (v.resultList f.resultTypes.size)[j]? = some r → Value.okWide P W' .any 0 t r) :
    s.post enc P f apart fresh handsOn again W args v W' := by
  have hlt : ∀ p ∈ before, p.block < W.heap.size := fun p hp => hW.lt p hp
  have hold : ∀ p ∈ before, (fun b => decide (b < W.heap.size)) p.block = true := fun p hp => by simpa using hlt p hp
  refine ⟨ds, gs, before, [], pa, pv, hW, hres _ _ _, hargs _ hold, hvars _ hold, World.keptBut_mono (fun p hp => ⟨hp, ?_⟩) (hb.frame (· ∈ before)), fun _ => ?_⟩
  · rw [hps, List.mem_append] at hp
    exact Or.inr hp
  · obtain ⟨_, _, _, _, _, hz, hn⟩ := hW
    refine ⟨hok, _, _, ([] ++ pa) ++ pv, ⟨[] ++ pa, pv, trodAll_append (hargs _ (fun _ _ => rfl)) (hres _ _ _), hvars _ (fun _ _ => rfl), rfl, ?_, ?_⟩, ?_⟩
    · intro b off hp
      have hin : MemPlace.cell b off ∈ before := by rw [hps]; simpa using hp
      rw [hb.frozen (hlt _ hin)]
      exact hz b off hin
    · intro ha
      have := hn ha
      rw [hps] at this
      simpa using this
    · intro p hp _
      rw [hps]
      simpa using hp
/-- A law's post: it returned true, and what was there is as it was. -/
theorem law_post {f : Func} {s : ChangeSpec} {apart fresh handsOn again : Bool} {W W' : World} {args : Array Value} {ds gs : List (DataW H)} {before : List MemPlace} {tb : TypeId}
    (hl : laidOutB P = true) (hts : (f.params.toList.all fun t => P.readableRec t && decide (t < P.types.size)) = true) (htb : P.underlying tb = some .bool) (hr : f.resultTypes = #[tb]) (hv : s.vars = [])
    (hfn : ∀ ds : List (DataW H), ds.length = f.params.size → s.fn H ds = ⟨[.lit (.bool true)], ds, []⟩)
    (hW : DataW.Whole enc P f.params.toList s.vars apart W args.toList ds gs before) (hb : Below W.heap.size W W') :
    s.post enc P f apart fresh handsOn again W args (.bool true) W' := by
  have hW' := hW
  have hlt : ∀ p ∈ before, p.block < W.heap.size := fun p hp => hW.lt p hp
  obtain ⟨p, q, hA, hV, rfl, hfz, hnd⟩ := hW
  rw [hv] at hV
  obtain ⟨rfl, rfl⟩ := trodVars_none hV
  have hlen : ds.length = f.params.size := by
    have : ∀ (ts : List TypeId) (vs : List Value) (ds : List (DataW H)) (p : List MemPlace), DataW.TrodAll enc P W 0 (fun _ => true) true ts vs ds p → ds.length = ts.length := by
      intro ts
      induction ts with
      | nil => intro vs ds p h; obtain ⟨rfl, rfl, rfl⟩ := trodAll_nil h; rfl
      | cons t ts ih =>
        intro vs ds p h
        obtain ⟨v, vs, d, ds, a, b, rfl, rfl, rfl, h1, h2⟩ := trodAll_cons h
        simp [ih _ _ _ h2]
    simpa using this _ _ _ _ hA
  simp only [List.append_nil] at hW' hlt
  have hds : s.fn H (ds ++ []) = ⟨[.lit (.bool true)], ds, []⟩ := by rw [List.append_nil]; exact hfn ds hlen
  refine post_of_below (pa := p) (pv := []) (gs := []) hW' ?_ ?_ ?_ (by simp) hb ?_
  · intro b sp hd
    rw [hds, hr]
    exact trodAll_mk1 (shut_bool htb true)
  · intro sp hsp
    rw [hds]
    exact trodAll_stays hl _ _ _ _ hts hA (fun x hx => hb.same (hlt x hx)) hsp
  · intro sp _
    rw [hds, hv]
    exact rfl
  · exact ok_one hr rfl (okWide_bool_mk htb true)
end
section
variable {H : Type} {enc : TypeId × Value → H} {w : World} {base : Nat}
set_option maxRecDepth 100000 in
/-- A slice of bytes that came in. -/
theorem open_bs {b0 : Nat} {v : Value} {d : DataW H} {p : List MemPlace} {sp : Nat → Bool} (hv : Value.okWide Try.prog w .any b0 28 v) (h : DataW.Trod enc Try.prog w base sp true 28 v d p) : ∃ l : Bytes, SB w v l := by
  obtain ⟨a1, len, cap, rfl⟩ := okWide_slice Try.underlying28 hv
  obtain ⟨fuel, hf⟩ := h
  rcases open_ints Try.underlying28 Try.underlying5 c5 hf with ⟨hcs, hx⟩ | ⟨a, len', cap', zs, hcs, _, hl, hm, hz, hx, hcell, hwz⟩
  · simp [Value.cells] at hcs
    obtain ⟨rfl, rfl, rfl⟩ := hcs
    exact ⟨[], SB.nil _ _ (Nat.zero_le _) _⟩
  · simp [Value.cells] at hcs
    obtain ⟨rfl, rfl, rfl⟩ := hcs
    have hzl : len ≤ zs.length := by rw [hz]; split <;> omega
    refine ⟨(zs.take len).map toB, some a, cap, ?_, ?_, hm, ?_⟩
    · simp; omega
    · simp; omega
    intro hne
    have hlen : 0 < len := by
      rcases Nat.eq_zero_or_pos len with h0 | h0
      · subst h0; simp at hne
      · exact h0
    obtain ⟨ab, ao, spot⟩ := a
    have h0 := hcell 0 (by omega)
    have hspot : spot = none := by simpa [Addr.add] using World.cell?_spot h0
    subst hspot
    refine ⟨ab, ao, rfl, ?_, fun i hi => ?_⟩
    · rcases Nat.lt_or_ge ab w.heap.size with h' | h'
      · exact h'
      · rw [Addr.add_lit] at h0
        simp [World.cell?, Array.getElem?_eq_none h'] at h0
    · have hi' : i < len := by simpa [Nat.min_eq_left hzl] using hi
      have hc := hcell i (by omega)
      rw [Addr.add_lit] at hc
      rw [hc]
      have e : zs.getD i 0 = zs[i]'(by omega) := by simp [List.getD, List.getElem?_eq_getElem (show i < zs.length by omega)]
      have hb : 0 ≤ zs.getD i 0 ∧ zs.getD i 0 ≤ 255 := by rw [List.getD_eq_getElem?_getD]; exact range_u8 hwz i
      have e2 : gb ((zs.take len).map toB) i = toB (zs.getD i 0) := by
        rw [e]
        simp [gb, hi', show i < zs.length by omega]
      rw [e2, ub_u8 (by omega) (by omega)]
end
end Go.Proofs.Ytjjcnijdjhhdoaa
end
/-! Five parameters. -/
section
namespace Go.Proofs.Ytjjcnijdjhhdoaa
open Go.ChangeShapes
variable {H : Type} {enc : TypeId × Value → H} {P : Program} {w : World} {base : Nat} {spare : Nat → Bool} {held : Bool}
theorem trodAll_five {t t' t'' t3 t4 : TypeId} {args : Array Value} {ds : List (DataW H)} {ps : List MemPlace} (h : DataW.TrodAll enc P w base spare held [t, t', t'', t3, t4] args.toList ds ps) :
    ∃ v v' v'' v3 v4 d d' d'' d3 d4 p p' p'' p3 p4, args = #[v, v', v'', v3, v4] ∧ ds = [d, d', d'', d3, d4] ∧ ps = p ++ p' ++ p'' ++ p3 ++ p4 ∧ DataW.Trod enc P w base spare held t v d p ∧ DataW.Trod enc P w base spare held t' v' d' p' ∧ DataW.Trod enc P w base spare held t'' v'' d'' p'' ∧ DataW.Trod enc P w base spare held t3 v3 d3 p3 ∧ DataW.Trod enc P w base spare held t4 v4 d4 p4 := by
  obtain ⟨v, vs, d, ds', p, q, hargs, rfl, rfl, hd, hrest⟩ := trodAll_cons h
  obtain ⟨v', vs', d', ds'', p', q', rfl, rfl, rfl, hd', hrest'⟩ := trodAll_cons hrest
  obtain ⟨v'', vs'', d'', ds''', p'', q'', rfl, rfl, rfl, hd'', hrest''⟩ := trodAll_cons hrest'
  obtain ⟨v3, vs3, d3, ds3, p3, q3, rfl, rfl, rfl, hd3, hrest3⟩ := trodAll_cons hrest''
  obtain ⟨v4, vs4, d4, ds4, p4, q4, rfl, rfl, rfl, hd4, hrest4⟩ := trodAll_cons hrest3
  obtain ⟨rfl, rfl, rfl⟩ := trodAll_nil hrest4
  exact ⟨v, v', v'', v3, v4, d, d', d'', d3, d4, p, p', p'', p3, p4, by cases args; simp_all, rfl, by simp, hd, hd', hd'', hd3, hd4⟩
end Go.Proofs.Ytjjcnijdjhhdoaa
end
/-! Masks of ints. -/
section
namespace Go.Proofs.Ytjjcnijdjhhdoaa
theorem and_mask (x : Int) (m : Nat) (hm : m < 4611686018427387904) : ∃ n : Nat, bits .and .i64 x (m : Int) = (n : Int) ∧ n ≤ m := by
  refine ⟨((BitVec.ofInt 64 x) &&& (BitVec.ofInt 64 (m : Int))).toNat, ?_, ?_⟩
  · show IntKind.i64.wrap ((((BitVec.ofInt 64 x) &&& (BitVec.ofInt 64 (m : Int))).toNat : Nat) : Int) = _
    have h : ((BitVec.ofInt 64 x) &&& (BitVec.ofInt 64 (m : Int))).toNat ≤ m := by
      rw [BitVec.toNat_and, BitVec.ofInt_natCast, BitVec.toNat_ofNat]
      exact Nat.le_trans Nat.and_le_right (Nat.mod_le _ _)
    rw [IntKind.wrap_i64]
    omega
  · rw [BitVec.toNat_and, BitVec.ofInt_natCast, BitVec.toNat_ofNat]
    exact Nat.le_trans Nat.and_le_right (Nat.mod_le _ _)
end Go.Proofs.Ytjjcnijdjhhdoaa
end
/-! Plain laws of a table: what is known is one thing each. -/
section
namespace Go.Proofs.Ytjjcnijdjhhdoaa
theorem mkB_inj {k : UInt8} {m n : Nat} (hm : m < 18446744073709551616) (hn : n < 18446744073709551616) (h : mkB k m = mkB k n) : m = n := by
  have h1 : (mkB k m).drop 8 = (mkB k n).drop 8 := by rw [h]
  have h2 : put8 m = put8 n := h1
  rw [← getN_put8 m hm, ← getN_put8 n hn, h2]
structure STab.WF (s : STab) : Prop where
  le : ∀ p ∈ s.known, 1 ≤ p.2 ∧ p.2 ≤ s.keys.length
  inj : ∀ p ∈ s.known, ∀ q ∈ s.known, p.2 = q.2 → p.1 = q.1
theorem STab.WF.empty : STab.empty.WF := ⟨by simp [STab.empty], by simp [STab.empty]⟩
theorem STab.WF.add {s : STab} (h : s.WF) (f : SFrom) : (s.add f).WF :=
  ⟨fun p hp => by have := h.le p hp; simp only [STab.add, List.length_append, List.length_cons, List.length_nil]; omega, fun p hp q hq => h.inj p hp q hq⟩
theorem STab.WF.made {s : STab} (h : s.WF) (f : SFrom) : (s.made f).WF := by
  unfold STab.made
  split
  · exact h
  · refine ⟨fun p hp => ?_, fun p hp q hq e => ?_⟩
    · simp only [List.mem_append, List.mem_singleton] at hp
      simp only [List.length_append, List.length_cons, List.length_nil]
      rcases hp with hp | rfl
      · have := h.le p hp; omega
      · simp
    · simp only [List.mem_append, List.mem_singleton] at hp hq
      rcases hp with hp | rfl
      · rcases hq with hq | rfl
        · exact h.inj p hp q hq e
        · have := h.le p hp; simp only at e; omega
      · rcases hq with hq | rfl
        · have := h.le q hq; simp only at e; omega
        · rfl
theorem STab.at_mem {s : STab} {f : SFrom} {n : Nat} (h : s.at_ f = some n) : (f, n) ∈ s.known := by
  unfold STab.at_ at h
  rw [Option.map_eq_some_iff] at h
  obtain ⟨p, hp, rfl⟩ := h
  have h1 := List.find?_some hp
  have h2 := List.mem_of_find?_eq_some hp
  have : p.1 = f := by simpa using h1
  subst this
  exact h2
theorem STab.num_le {s : STab} (h : s.WF) (f : SFrom) : 1 ≤ s.num f ∧ s.num f ≤ s.keys.length + 1 := by
  unfold STab.num
  cases hc : s.at_ f with
  | none => simp
  | some n => have := h.le _ (STab.at_mem hc); simp at this ⊢; omega
theorem STab.num_iff {s : STab} (h : s.WF) {f : SFrom} {n : Nat} (hf : s.at_ f = some n) (g : SFrom) : n = s.num g ↔ f = g := by
  have hm := STab.at_mem hf
  constructor
  · intro e
    cases hc : s.at_ g with
    | none =>
      have := h.le _ hm
      rw [e, STab.num, hc] at this
      simp at this
      omega
    | some k =>
      have hk := STab.at_mem hc
      rw [STab.num, hc] at e
      exact h.inj _ hm _ hk (by simpa using e)
  · rintro rfl
    rw [STab.num, hf]; rfl
theorem STab.made_keys (s : STab) (f : SFrom) : (s.made f).keys.length ≤ s.keys.length + 1 := by
  unfold STab.made; split <;> simp
theorem STab.made_mono (s : STab) (f : SFrom) : s.keys.length ≤ (s.made f).keys.length := by
  unfold STab.made; split <;> simp
theorem STab.at_made (s : STab) (f : SFrom) : (s.made f).at_ f = some (s.num f) := by
  unfold STab.made STab.num
  cases h : s.at_ f with
  | some n => simp only [h]; rfl
  | none =>
    unfold STab.at_ at h ⊢
    rw [Option.map_eq_none_iff] at h
    simp [List.find?_append, h]
theorem STab.num_again (s : STab) (f : SFrom) : (s.made f).num f = s.num f := by
  conv => lhs; unfold STab.num
  rw [STab.at_made]; rfl
/-- What is known stays. -/
theorem STab.at_made_of (s : STab) (f g : SFrom) (n : Nat) (h : s.at_ f = some n) : (s.made g).at_ f = some n := by
  unfold STab.made
  cases hg : s.at_ g with
  | some m => exact h
  | none =>
    unfold STab.at_ at h ⊢
    simp only [List.find?_append]
    cases hf : s.known.find? (fun p => decide (p.1 = f)) with
    | none => rw [hf] at h; cases h
    | some p => rw [hf] at h; simpa using h
theorem STab.num_of (s : STab) (f : SFrom) (n : Nat) (h : s.at_ f = some n) : s.num f = n := by unfold STab.num; rw [h]; rfl
section
variable {s s' : STab} {f g : SFrom} {n : Nat}
theorem keys_made (h : s' = s.made f) : s'.keys.length ≤ s.keys.length + 1 := h ▸ STab.made_keys s f
theorem num_again' (h : s' = s.made f) : s'.num f = s.num f := h ▸ STab.num_again s f
theorem at_made' (h : s' = s.made f) : s'.at_ f = some (s.num f) := h ▸ STab.at_made s f
theorem at_more (h : s' = s.made g) (hf : s.at_ f = some n) : s'.at_ f = some n := h ▸ STab.at_made_of s f g n hf
theorem wf_made (h : s' = s.made f) (hw : s.WF) : s'.WF := h ▸ hw.made f
/-- Keys of two that are known. -/
theorem mk_iff (hw : s.WF) (hf : s.at_ f = some n) (hl : s.keys.length < 1000000) (g : SFrom) : mkB 107 n = mkB 107 (s.num g) ↔ f = g := by
  have h1 := hw.le _ (STab.at_mem hf)
  have h2 := STab.num_le hw g
  simp only at h1
  constructor
  · intro h; exact (STab.num_iff hw hf g).1 (mkB_inj (by omega) (by omega) h)
  · rintro rfl; rw [STab.num_of _ _ _ hf]
theorem derive_inj {k l : Bytes} {a b : ByteArray} : deriveF k a = deriveF l b ↔ k = l ∧ a = b := by
  simp [deriveF]
end
end Go.Proofs.Ytjjcnijdjhhdoaa
end
/-! More steps on slices: parts of them, their elements' places and cells. -/
section
namespace Go.Proofs.Ytjjcnijdjhhdoaa
open Go.RowKit Go.QT
section
variable {P : Program} {o : Oper} {a : Act} {w w' w0 : World} {sz c : Nat} {A : Option Addr} {xs : List (List Value)} {F0 : Nat → Prop} {ro rs : List Res}
theorem e_cut_lh {v : Value} {l : Bytes} (h : SB w v l) (x lo hi : Operand) (ho : o.op = .slice 28 x (some lo) (some hi) none) (hx : a.eval x = v) (k k' : IntKind) (i j : Nat) (hlo : a.eval lo = .int k (i : Int)) (hhi : a.eval hi = .int k' (j : Int)) (h1 : i ≤ j) (h2 : j ≤ l.length) (W : World) :
    (execOp a.eval o).run Try.prog W = .ok (.value (cutS v i j)) W :=
  exec_cut_lh x lo hi ho v l hx h k k' (i : Int) (j : Int) hlo hhi (by omega) (by omega) (by omega) W
theorem e_cut_h {v : Value} {l : Bytes} (h : SB w v l) (x hi : Operand) (ho : o.op = .slice 28 x none (some hi) none) (hx : a.eval x = v) (k' : IntKind) (j : Nat) (hhi : a.eval hi = .int k' (j : Int)) (h2 : j ≤ l.length) (W : World) :
    (execOp a.eval o).run Try.prog W = .ok (.value (cutS v 0 j)) W :=
  exec_cut_h x hi ho v l hx h k' (j : Int) hhi (by omega) (by omega) W
theorem e_cut_l {v : Value} {l : Bytes} (h : SB w v l) (x lo : Operand) (ho : o.op = .slice 28 x (some lo) none none) (hx : a.eval x = v) (k : IntKind) (i : Nat) (hlo : a.eval lo = .int k (i : Int)) (h2 : i ≤ l.length) (W : World) :
    (execOp a.eval o).run Try.prog W = .ok (.value (cutS v i l.length)) W :=
  exec_cut_l x lo ho v l hx h k (i : Int) hlo (by omega) (by omega) W
theorem e_idxN (h : RV w sz A c xs) (i n : Nat) (hn : xs.length = n) (hi : i < n) (t : TypeId) (x y : Operand) (ho : o.op = .indexAddr t x y) (k : IntKind) (hx : a.eval x = .slice A n c) (hy : a.eval y = .int k (i : Int)) (E : TypeId) (ht : P.underlying t = some (.slice E)) (hE : pureVal P (sizeOf E) = some sz) (W : World) :
    (execOp a.eval o).run P W = .ok (.value (eAt A (i * sz))) W := by
  subst hn
  exact e_idx h i hi t x y ho k hx hy E ht hE W
theorem eAt_at (h : RV w sz A c xs) (i : Nat) (x : List Value) (hxi : xs[i]? = some x) (j : Nat) : ∃ b k, A = some ⟨b, k, none⟩ ∧ eAt A (i * sz + j) = pt b (k + (i * sz + j)) ∧ ∀ m u, x[j + m]? = some u → w.cell? ⟨b, k + (i * sz + j) + m, none⟩ = some u := by
  have hi : i < xs.length := (List.getElem?_eq_some_iff.1 hxi).1
  obtain ⟨b, o', rfl, hb, hc⟩ := h.at_ (by rintro rfl; simp at hi)
  refine ⟨b, o', rfl, ?_, fun m u hu => ?_⟩
  · unfold eAt pt
    by_cases h0 : i * sz + j = 0
    · rw [h0]; simp [Addr.add]
    · simp only [Addr.add]
      simp
      intro h2 h3; exact h0 (by omega)
  · have := hc i x hxi (j + m) u hu
    rw [show o' + (i * sz + j) + m = o' + i * sz + (j + m) by omega]
    exact this
/-- A cell of an element: its j-th. -/
theorem e_elemN (h : RV w sz A c xs) (i j : Nat) (x : List Value) (hxi : xs[i]? = some x) (t : TypeId) (p : Operand) (ho : o.op = .load t p) (v : Value) (hx : a.eval p = eAt A (i * sz + j)) (hv : x[j]? = some v) (ht : pureVal P (isAgg t) = some false) :
    (execOp a.eval o).run P w = .ok (.value v) w := by
  obtain ⟨b, k, rfl, e, hc⟩ := eAt_at h i x hxi j
  have hcell : w.cell? ⟨b, k + (i * sz + j), none⟩ = some v := by simpa using hc 0 v hv
  have hl : (loadVar t ⟨b, k + (i * sz + j), none⟩).run P w = .ok v w := by simp [loadVar, pureVal_run ht, hcell]
  unfold execOp
  rw [e] at hx
  simp only [ho, hx, pt, Instr.loadAt, Instr.sureAddr, Sem.run_bind, Sem.run_pure, Result.andThen_ok, hl]
/-- Cells of an element, from the j-th on. -/
theorem e_elemsN (h : RV w sz A c xs) (i j : Nat) (x : List Value) (hxi : xs[i]? = some x) (t : TypeId) (p : Operand) (ho : o.op = .load t p) (ds : List Value) (hx : a.eval p = eAt A (i * sz + j)) (hv : (x.drop j).take ds.length = ds) (hB : rowB P t ds.length = true) :
    (execOp a.eval o).run P w = .ok (.value (.agg ds.toArray)) w := by
  obtain ⟨b, k, rfl, e, hc⟩ := eAt_at h i x hxi j
  obtain ⟨d, hu, hr, hs⟩ := rowB_spec hB
  have hl := run_loadVar_mid (P := P) w b (k + (i * sz + j)) t ds d (fun m v hm => hc m v (slice_get x j ds.length m v (by rw [hv]; exact hm))) hu hr hs
  unfold execOp
  rw [e] at hx
  simp only [ho, hx, pt, Instr.loadAt, Instr.sureAddr, Sem.run_bind, Sem.run_pure, Result.andThen_ok, hl]
/-- The place of an element's field. -/
theorem e_fldN (h : RV w sz A c xs) (i j k : Nat) (x : List Value) (hxi : xs[i]? = some x) (p : Operand) (hx : a.eval p = eAt A (i * sz + j)) (hf : ∀ b n, pureVal P (execOp (fun _ => pt b n) o) = some (.value (pt b (n + k)))) (hE : ∀ ev : Operand → Value, execOp ev o = execOp (fun _ => ev p) o) (W : World) :
    (execOp a.eval o).run P W = .ok (.value (eAt A (i * sz + (j + k)))) W := by
  obtain ⟨b, n, rfl, e, _⟩ := eAt_at h i x hxi j
  have e2 : eAt (some ⟨b, n, none⟩) (i * sz + (j + k)) = pt b (n + (i * sz + (j + k))) := by
    unfold eAt pt
    by_cases h0 : i * sz + (j + k) = 0
    · rw [h0]; simp [Addr.add]
    · simp only [Addr.add]
      simp
      intro h2 h3 h4; exact absurd (show i * sz + (j + k) = 0 by omega) h0
  rw [hE, hx, e, e2, show n + (i * sz + (j + k)) = n + (i * sz + j) + k by omega]
  exact pureVal_run (hf _ _) W
/-- A new slice of values. -/
theorem x_bs (h : Hp F0 w0 w ro rs) (T : TypeId) (cs : List Value) (n : Nat) (hn : newVal P (execOp a.eval o) = some (.cells cs.toArray T, fun r => some (.value (.slice (some ⟨r, 0, none⟩) n n)))) :
    OpTo P o a w (fun v w' => ∃ g, v = .slice (some ⟨g, 0, none⟩) n n ∧ Hp F0 w0 w' ro (rBlk g T cs :: rs)) :=
  OpTo.run (.slice (some ⟨w.heap.size, 0, none⟩) n n) (newVal_run hn w rfl) ⟨_, rfl, h.alloc T cs⟩
theorem x_bs0 (h : Hp F0 w0 w ro rs) (T : TypeId) (sz : Nat) (hn : newVal P (execOp a.eval o) = some (.cells #[] T, fun r => some (.value (.slice (some ⟨r, 0, none⟩) 0 0)))) :
    OpTo P o a w (fun v w' => ∃ A, v = .slice A 0 0 ∧ Hp F0 w0 w' ro (rOV T sz (.slice A 0 0) [] :: rs)) := by
  refine (x_bs h T [] 0 hn).mono fun v w' hr => ?_
  obtain ⟨g, hv, h'⟩ := hr
  have hb : Blk w' g T [] := h'.own 0 _ rfl
  refine ⟨_, hv, h'.upd 0 rfl (Fr.refl _ _) (rOV T sz (.slice (some ⟨g, 0, none⟩) 0 0) []) ⟨⟨by simp, .inr ⟨g, 0, #[], rfl, Nat.zero_le _, hb, Nat.le_refl _, by unfold maxLen; omega, by simp, by simp⟩⟩, by simp, by simp⟩ (fun q hq => .inl ?_)⟩
  have : g = q := by simpa [rOV, Value.ownBlock] using hq
  exact this.symm
theorem x_bs0B (h : Hp F0 w0 w ro rs) (hn : newVal P (execOp a.eval o) = some (.cells #[] 5, fun r => some (.value (.slice (some ⟨r, 0, none⟩) 0 0)))) :
    OpTo P o a w (fun v w' => ∃ A, v = .slice A 0 0 ∧ Hp F0 w0 w' ro (rOB (.slice A 0 0) [] :: rs)) := by
  refine (x_bs h 5 [] 0 hn).mono fun v w' hr => ?_
  obtain ⟨g, hv, h'⟩ := hr
  have hb : Blk w' g 5 [] := h'.own 0 _ rfl
  refine ⟨_, hv, h'.upd 0 rfl (Fr.refl _ _) (rOB (.slice (some ⟨g, 0, none⟩) 0 0) []) (OB.new w' g [] (by simp) hb (Nat.zero_le _)) (fun q hq => .inl ?_)⟩
  have : g = q := by simpa [rOB, Value.ownBlock] using hq
  exact this.symm
theorem SB.rvn {l : Bytes} {n : Nat} (h : SB w (.slice A n c) l) : (bx l).length = n ∧ RV w 1 A c (bx l) := by
  obtain ⟨A', c', e, h1, h2, h3⟩ := id h
  injection e with e1 e2 e3
  subst e2
  exact ⟨bx_len l, SB.rv h⟩
theorem OV.rvn {base E : Nat} {n : Nat} (h : OV w base E sz (.slice A n c) xs) : xs.length = n ∧ RV w sz A c xs := ⟨(OV.rv h).1.symm, (OV.rv h).2⟩
/-- append of one element, its answer as one likes to spell it. -/
theorem x_pushG (h : Hp F0 w0 w ro rs) (i j : Nat) {E : TypeId} {v : Value} {g : Nat} {T : TypeId} {news : List Value} (hi : rs[i]? = some (rOV E sz v xs)) (hj : rs[j]? = some (rBlk g T news)) (hij : decide (i ≠ j) = true)
    (s x : Operand) (t : TypeId) (ho : o.op = .call { callee := .builtin .append, args := #[s, x], argTypes := #[t, t] }) (bytes : Nat) (z : Value) (ht : P.underlying t = some (.slice E)) (hinf : (P.info? E).map (fun i => (i.zero, i.size, i.bytes)) = some (some z, sz, bytes))
    (hzs : z.cells.size = sz) (hsz : decide (0 < sz) = true) (hs : a.eval s = v) (c : Nat) (hx : a.eval x = .slice (some ⟨g, 0, none⟩) 1 c) (hn : news.length = sz) (h1 : news.all (·.oneCell') = true)
    (hlen : (xs.length + 1) * bytes ≤ 140737488355328) (hlen2 : xs.length < maxLen) (ys : List (List Value)) (n : Nat) (hys : ys = xs ++ [news]) (hyn : ys.length = n) :
    OpTo P o a w (fun u w' => ∃ A cc, u = .slice A n cc ∧ Hp F0 w0 w' ro (rs.set i (rOV E sz (.slice A n cc) ys))) := by
  subst hys; subst hyn
  refine (x_push h i j hi hj (of_decide_eq_true hij) s x t ho bytes z ht hinf hzs (of_decide_eq_true hsz) hs c hx hn (by simpa using h1) hlen hlen2).mono fun u w' hr => ?_
  obtain ⟨A, cc, rfl, h'⟩ := hr
  exact ⟨A, cc, rfl, h'⟩
theorem x_appG (h : Hp F0 w0 w ro rs) (i : Nat) {v : Value} {l m : Bytes} (hi : rs[i]? = some (rOB v l)) (s x : Operand) (ho : o.op = .call { callee := .builtin .append, args := #[s, x], argTypes := #[28, 28] })
    (u : Value) (hs : a.eval s = v) (hx : a.eval x = u) (hu : SB w u m) (hlen : l.length + m.length ≤ 140737488355328) (r : Bytes) (n : Nat) (hr : r = l ++ m) (hn : r.length = n) :
    OpTo Try.prog o a w (fun u w' => ∃ A cc, u = .slice A n cc ∧ Hp F0 w0 w' ro (rs.set i (rOB (.slice A n cc) r))) := by
  subst hr; subst hn
  refine (x_appB h i hi s x ho u hs hx hu hlen).mono fun u w' hr => ?_
  obtain ⟨A, cc, rfl, h'⟩ := hr
  exact ⟨A, cc, rfl, h'⟩
/-- Box, of one that is there. -/
theorem x_boxS {F : Nat → Prop} {tb : Nat} {s : STab} (h : Hp F0 w0 w ro rs) (i : Nat) (hi : rs[i]? = some (rTab F tb s)) (l : Bytes) (bv : Value) (D : Fin 16 → UInt8) (us : Int) (l' : Bytes) (hp : pureVal Try.prog (execOp a.eval o) = some (.enter 35 #[pt tb 0, bv])) (hb : SB w bv l) (hl : ∀ b ∈ s.boxes, b.body.length ≤ 1000000) (hx16 : ∀ b ∈ s.boxes, b.by_.length = 16) (hn : s.boxes.length < 1000000) (hr : s.box l = some ⟨kl D, us, l'⟩) :
    OpTo Try.prog o a w (fun u' w' => ∃ A cc, u' = .tuple #[.agg (vb (kl D) ++ [Value.int .i64 us, Value.slice A l'.length cc]).toArray, .bool true] ∧ Hp F0 w0 w' ro (rOB (.slice A l'.length cc) l' :: rs)) :=
  (x_box h i hi l bv _ hp hb hl hx16 hn hr).mono fun u w' hq => by
    obtain ⟨K, us', l'', A, cc, hu, hor, h'⟩ := hq
    rcases hor with e | ⟨e, _⟩
    · injection e with e
      injection e with e1 e2 e3
      subst e2; subst e3
      exact ⟨A, cc, by rw [hu, e1]; rfl, h'⟩
    · cases e
theorem x_boxN {F : Nat → Prop} {tb : Nat} {s : STab} (h : Hp F0 w0 w ro rs) (i : Nat) (hi : rs[i]? = some (rTab F tb s)) (l : Bytes) (bv : Value) (hp : pureVal Try.prog (execOp a.eval o) = some (.enter 35 #[pt tb 0, bv])) (hb : SB w bv l) (hl : ∀ b ∈ s.boxes, b.body.length ≤ 1000000) (hx16 : ∀ b ∈ s.boxes, b.by_.length = 16) (hn : s.boxes.length < 1000000) (hr : s.box l = none) :
    OpTo Try.prog o a w (fun u' w' => ∃ A cc, u' = .tuple #[.agg (vb zKey ++ [Value.int .i64 0, Value.slice A 0 cc]).toArray, .bool false] ∧ Hp F0 w0 w' ro rs) :=
  (x_box h i hi l bv _ hp hb hl hx16 hn hr).mono fun u w' hq => by
    obtain ⟨K, us', l'', A, cc, hu, hor, h'⟩ := hq
    rcases hor with e | ⟨_, e1, e2, e3⟩
    · cases e
    · subst e2; subst e3
      exact ⟨A, cc, by rw [hu, e1]; rfl, h'.drop 0⟩
theorem e_sadd (x y : Operand) (t t' : TypeId) (ho : o.op = .binOp .add t x y t') (p q : ByteArray) (hx : a.eval x = .string p) (hy : a.eval y = .string q) (hp : p.size ≤ 1000000) (hq : q.size ≤ 1000000) (W : World) :
    (execOp a.eval o).run P W = .ok (.value (.string (p ++ q))) W := by
  unfold execOp
  simp only [ho, hx, hy, eqGuard_add, binOp_string_add, run_string_add_sum _ p q (by omega), Sem.run_bind, Sem.run_pure, Result.andThen_ok]
theorem u8_wrap (x : Int) : ∃ b : UInt8, IntKind.u8.wrap x = ub b := by
  refine ⟨toB (IntKind.u8.wrap x), (ub_u8 ?_ ?_).symm⟩ <;> (rw [IntKind.wrap_u8]; omega)
/-- A byte is stored into a row of the call's own. -/
theorem x_storeB (h : Hp F0 w0 w ro rs) (i : Nat) {n : Nat} {l : Bytes} (hi : rs[i]? = some (rOB (.slice A n c) l)) (j : Nat) (hj : j < l.length) (t : TypeId) (x y : Operand) (ho : o.op = .store t x y) (bv : UInt8) (hx : a.eval x = eAt A (j * 1 + 0)) (hy : a.eval y = .int .u8 (ub bv)) (hsz : (P.info? t).map (·.size) = some 1) :
    OpTo P o a w (fun _ w' => Hp F0 w0 w' ro (rs.set i (rOB (.slice A n c) (l.set j bv)))) := by
  have hv : OB w 0 (.slice A n c) l := h.own i _ hi
  obtain ⟨h1, h2⟩ := id hv
  rcases h2 with ⟨e, h0⟩ | ⟨g, cap, cur, e, hg, hh, hn, hm, hs, ht⟩
  · omega
  · injection e with e1 e2 e3
    subst e1; subst e2; subst e3
    have hb : Blk w g 5 cur.toList := by unfold Blk; simpa using hh
    have hx' : a.eval x = .pointer (some ⟨g, j, none⟩) := by
      rw [hx]; simp only [eAt, Addr.add, Nat.mul_one, Nat.add_zero, Nat.zero_add]
      by_cases h0 : j = 0
      · subst h0; rfl
      · simp [h0]
    have hl : j < cur.toList.length := by simp; omega
    refine OpTo.runs (w' := w.setCell ⟨g, j, none⟩ (.int .u8 (ub bv))) (exec_storeCell t x y ho g j _ hx' hy 5 cur.toList hb hl hsz rfl rfl) ?_
    have hf := Fr.setCell w g j (.int .u8 (ub bv))
    exact h.upd i hi ⟨hf.os, hf.tape, hf.output, hf.size, fun k hk hn => hf.block k hk (fun e => hn (by subst e; rfl))⟩ (rOB (.slice (some ⟨g, 0, none⟩) l.length c) (l.set j bv)) (hv.set j bv) (fun q hq => .inl hq)
theorem e_rem (x y : Operand) (t t' : TypeId) (ho : o.op = .binOp .rem t x y t') (m n : Nat) (hx : a.eval x = .int .i64 (m : Int)) (hy : a.eval y = .int .i64 (n : Int)) (hn : 0 < n) (W : World) :
    (execOp a.eval o).run P W = .ok (.value (.int .i64 ((m % n : Nat) : Int))) W := by
  have h0 : ¬ ((n : Int) = 0) := by omega
  unfold execOp
  simp only [ho, hx, hy, eqGuard_rem, binOp_rem, Op.intDiv, Sem.run_bind, Sem.run_pure, Result.andThen_ok, if_neg h0, Int.ofNat_tmod]
end
end Go.Proofs.Ytjjcnijdjhhdoaa
end
/-! Plain facts of marks, and of the marks that stand in bytes. -/
section
namespace Go.Proofs.Ytjjcnijdjhhdoaa
open Go.RowKit
theorem markOf_spec {b : Bytes} {k : UInt8} {n : Nat} (h : markOf b = some (k, n)) : b.length = 16 ∧ (k = 107 ∨ k = 98 ∨ k = 100) ∧ n ≤ 1099511627776 ∧ b = mkB k n := by
  unfold markOf at h
  split at h
  · rename_i hc
    injection h with h
    injection h with h1 h2
    subst h1; subst h2
    exact hc
  · cases h
theorem markOf_mkB {k : UInt8} {n : Nat} (hk : k = 107 ∨ k = 98 ∨ k = 100) (hn : n ≤ 1099511627776) : markOf (mkB k n) = some (k, n) := by
  have h2 : gb (mkB k n) 2 = k := rfl
  have h8 : getN ((mkB k n).drop 8) = n := getN_put8 n (by omega)
  unfold markOf
  rw [h2, h8, if_pos ⟨rfl, hk, hn, rfl⟩]
theorem kd_ne {k : UInt8} (h : k = 107 ∨ k = 98 ∨ k = 100) : (ub k != 0) = true := by
  rcases h with rfl | rfl | rfl <;> kernel_rfl
theorem findTo_16 (b : Bytes) : ∀ i, ∀ x ∈ findTo b i, x.length = 16
  | 0 => by simp [findTo]
  | i+1 => by
    intro x hx
    rw [findTo_succ] at hx
    split at hx
    · rename_i hm
      rw [List.mem_append, List.mem_singleton] at hx
      rcases hx with hx | rfl
      · exact findTo_16 b i x hx
      · obtain ⟨⟨k, n⟩, hp⟩ := Option.isSome_iff_exists.1 hm
        exact (markOf_spec hp).1
    · exact findTo_16 b i x hx
theorem findB_kl (b : Bytes) (j : Nat) (hj : j < (findB b).length) : ∃ K, (findB b)[j]? = some (kl K) := by
  have h := findTo_16 b (b.length - 15) ((findB b)[j]) (List.getElem_mem hj)
  obtain ⟨K, hK⟩ := kl_of _ h
  exact ⟨K, by rw [List.getElem?_eq_getElem hj, ← hK]⟩
theorem map_vb_get {l : List Bytes} {j : Nat} {x : Bytes} (h : l[j]? = some x) : (l.map vb)[j]? = some (vb x) := by
  rw [List.getElem?_map, h]; rfl
/-! ### Tables -/
section
variable {s s' : STab} {f g : SFrom} {n : Nat} {k l : Bytes} {u : Int} {b : Bytes}
theorem box_at {x : SSealed} (h : s.boxes[n]? = some x) (hn : n < 1000000) : s.box (mkB 98 (n + 1)) = some x := by
  unfold STab.box
  rw [markOf_mkB (by decide) (by omega)]
  simp [h]
theorem open_at (h : s.boxes[n]? = some ⟨k, u, b⟩) (hn : n < 1000000) : s.open_ k u (mkB 98 (n + 1)) = some b := by
  unfold STab.open_
  rw [box_at h hn]
  simp
theorem at_add (h : s' = s.add g) (hf : s.at_ f = some n) : s'.at_ f = some n := by subst h; exact hf
theorem made_boxes (h : s' = s.made f) : s'.boxes = s.boxes ∧ s'.sums = s.sums := by
  subst h; unfold STab.made; split <;> exact ⟨rfl, rfl⟩
theorem add_boxes (h : s' = s.add f) : s'.boxes = s.boxes ∧ s'.sums = s.sums ∧ s'.keys.length = s.keys.length + 1 := by
  subst h; exact ⟨rfl, rfl, by simp [STab.add]⟩
theorem seal_all (h : s' = s.seal k u b) : s'.boxes = s.boxes ++ [⟨k, u, b⟩] ∧ s'.sums = s.sums ∧ s'.keys = s.keys ∧ s'.known = s.known := by
  subst h; exact ⟨rfl, rfl, rfl, rfl⟩
theorem digest_all (h : s' = s.digest b) : s'.boxes = s.boxes ∧ s'.keys = s.keys ∧ s'.known = s.known ∧ s'.sums.length ≤ s.sums.length + 1 := by
  subst h; unfold STab.digest; split <;> exact ⟨rfl, rfl, rfl, by simp⟩
theorem at_known (h : s'.known = s.known) (f : SFrom) : s'.at_ f = s.at_ f := by unfold STab.at_; rw [h]
/-- The sum that stands first is told first. -/
theorem sumAt_zero (h : s.sums[0]? = some b) : s.sumAt b = 0 := by
  unfold STab.sumAt
  cases hs : s.sums with
  | nil => rw [hs] at h; cases h
  | cons x xs =>
    rw [hs] at h
    have : x = b := by simpa using h
    subst this
    simp [List.findIdx_cons]
theorem digest_first (h : s' = s.digest b) {x : Bytes} (h0 : s.sums[0]? = some x) : s'.sums[0]? = some x := by
  subst h; unfold STab.digest
  split
  · exact h0
  · cases hs : s.sums with
    | nil => rw [hs] at h0; cases h0
    | cons y ys => rw [hs] at h0; simpa [hs] using h0
theorem digest_new (h : s' = s.digest b) (h0 : s.sums = []) : s'.sums[0]? = some b ∧ s.sumAt b = 0 := by
  subst h
  have hz : s.sumAt b = 0 := by unfold STab.sumAt; rw [h0]; rfl
  unfold STab.digest
  rw [hz, h0]
  exact ⟨rfl, rfl⟩
theorem get_snoc {α : Type} {xs : List α} {i : Nat} {x y : α} (h : xs[i]? = some x) : (xs ++ [y])[i]? = some x := by
  rw [List.getElem?_append_left (List.getElem?_eq_some_iff.1 h).1]; exact h
end
end Go.Proofs.Ytjjcnijdjhhdoaa
end
/-! Plain laws of what SymPlays keeps beside a table; rows of rows of bytes that are read. -/
section
namespace Go.Proofs.Ytjjcnijdjhhdoaa
open Go.RowKit Go.QT
/-! ### Rows of bytes -/
def rSBs (vs : List Value) (ls : List Bytes) : Res where
  F := fun q => ∃ (i : Nat) (v : Value) (l : Bytes), vs[i]? = some v ∧ ls[i]? = some l ∧ l ≠ [] ∧ v.ownBlock = some q
  Φ := fun w => ∀ (i : Nat) (v : Value) (l : Bytes), vs[i]? = some v → ls[i]? = some l → SB w v l
  lt := fun h q hq => by
    obtain ⟨i, v, l, h1, h2, h3, h4⟩ := hq
    exact (rSB v l).lt (h i v l h1 h2) q ⟨h3, h4⟩
  keep := fun h hs hk i v l h1 h2 => (rSB v l).keep (h i v l h1 h2) hs fun q hq => hk q ⟨i, v, l, h1, h2, hq.1, hq.2⟩
section
variable {F0 : Nat → Prop} {w0 w : World} {ro rs : List Res} {vs : List Value} {ls : List Bytes} {v : Value} {l : Bytes} {i : Nat}
theorem SBs.at_ (h : (rSBs vs ls).Φ w) (h1 : vs[i]? = some v) (h2 : ls[i]? = some l) : SB w v l := h i v l h1 h2
theorem Hp.nilSBs (h : Hp F0 w0 w ro rs) : Hp F0 w0 w (rSBs [] [] :: ro) rs :=
  h.addR _ (fun i v l h1 _ => by simp at h1) (fun j s _ q h1 _ => by obtain ⟨i, v, l, h2, _⟩ := h1; simp at h2)
/-- One more row. -/
theorem Hp.snocSBs (h : Hp F0 w0 w ro rs) (i j : Nat) (hi : ro[i]? = some (rSBs vs ls)) (hj : ro[j]? = some (rSB v l)) (hn : vs.length = ls.length) : Hp F0 w0 w (rSBs (vs ++ [v]) (ls ++ [l]) :: ro) rs := by
  have hA := h.red i _ hi
  have hB : SB w v l := h.red j _ hj
  have cases_ : ∀ (k : Nat) (u : Value) (m : Bytes), (vs ++ [v])[k]? = some u → (ls ++ [l])[k]? = some m → (vs[k]? = some u ∧ ls[k]? = some m) ∨ (u = v ∧ m = l) := by
    intro k u m h1 h2
    by_cases hk : k < vs.length
    · left
      rw [List.getElem?_append_left hk] at h1
      rw [List.getElem?_append_left (by omega)] at h2
      exact ⟨h1, h2⟩
    · right
      rw [List.getElem?_append_right (by omega)] at h1
      rw [List.getElem?_append_right (by omega)] at h2
      rw [← hn] at h2
      cases hz : k - vs.length with
      | zero => rw [hz] at h1 h2; simp at h1 h2; exact ⟨h1.symm, h2.symm⟩
      | succ z => rw [hz] at h1; simp at h1
  refine h.addR _ (fun k u m h1 h2 => ?_) (fun k s hs q h1 h2 => ?_)
  · rcases cases_ k u m h1 h2 with ⟨a, b⟩ | ⟨rfl, rfl⟩
    · exact hA k u m a b
    · exact hB
  · obtain ⟨z, u, m, a, b, c, d⟩ := h1
    rcases cases_ z u m a b with ⟨a, b⟩ | ⟨rfl, rfl⟩
    · exact h.rdis i k _ s hi hs q ⟨z, u, m, a, b, c, d⟩ h2
    · exact h.rdis j k _ s hj hs q ⟨c, d⟩ h2
theorem Hp.subSBs (h : Hp F0 w0 w ro rs) (i : Nat) (hi : ro[i]? = some (rSBs vs ls)) (k : Nat) (h1 : vs[k]? = some v) (h2 : ls[k]? = some l) : Hp F0 w0 w (rSB v l :: ro) rs :=
  h.sub i hi (rSB v l) (h.red i _ hi k v l h1 h2) (fun _ hq => ⟨k, v, l, h1, h2, hq.1, hq.2⟩)
/-- A row of the call's own is not turned any more. -/
theorem Hp.shareOB (h : Hp F0 w0 w ro rs) (i : Nat) (hi : rs[i]? = some (rOB v l)) : Hp F0 w0 w (rSB v l :: ro) (rs.eraseIdx i) :=
  (h.drop i).addR (rSB v l) (OB.sb (h.own i _ hi)) fun j s hj q h1 h2 => by
    obtain ⟨k, hk, hne, _⟩ := get_erase hj
    exact h.dis i k _ s hi hk (Ne.symm hne) q h1.2 h2
end
/-! ### How keys came -/
structure LF where
  kind : Int
  of : Bytes
  a : ByteArray
  b : ByteArray
deriving DecidableEq
def lfCells (f : LF) : List Value := [Value.int .i64 f.kind] ++ vb f.of ++ [Value.string f.a, Value.string f.b]
def LF.fresh : LF := ⟨0, zKey, ByteArray.empty, ByteArray.empty⟩
def LF.text (a b : ByteArray) : LF := ⟨1, zKey, a, b⟩
def LF.derive (k : Bytes) (a : ByteArray) : LF := ⟨2, k, a, ByteArray.empty⟩
/-- One that may come: no fresh one. -/
def LF.Ok (f : LF) : Prop := (∃ a b : ByteArray, a.size ≤ 40 ∧ b.size ≤ 40 ∧ f = LF.text a b) ∨ (∃ (k : Bytes) (a : ByteArray), k.length = 16 ∧ f = LF.derive k a)
def LF.toS (f : LF) : SFrom := if f.kind = 0 then SFrom.fresh else if f.kind = 1 then textF f.a f.b else deriveF f.of f.a
theorem toS_text (a b : ByteArray) : (LF.text a b).toS = textF a b := rfl
theorem toS_derive (k : Bytes) (a : ByteArray) : (LF.derive k a).toS = deriveF k a := rfl
theorem text_inj {a b c d : ByteArray} (ha : a.size ≤ 40) (hc : c.size ≤ 40) (h : textF a b = textF c d) : a = c ∧ b = d := by
  have h1 : put8 a.size ++ a.data.toList ++ b.data.toList = put8 c.size ++ c.data.toList ++ d.data.toList := by
    have := congrArg (fun f => f.label.data.toList) h
    simpa [textF] using this
  rw [List.append_assoc, List.append_assoc] at h1
  obtain ⟨h2, h3⟩ := List.append_inj h1 rfl
  have h4 : a.size = c.size := by rw [← getN_put8 a.size (by omega), ← getN_put8 c.size (by omega), h2]
  have e : ∀ x : ByteArray, x.data.toList.length = x.size := fun x => by cases x; rfl
  obtain ⟨h5, h6⟩ := List.append_inj h3 (by rw [e, e, h4])
  have f : ∀ x y : ByteArray, x.data.toList = y.data.toList → x = y := fun x y hxy => by
    cases x; cases y; simp only [ByteArray.mk.injEq]; exact Array.toList_inj.1 hxy
  exact ⟨f _ _ h5, f _ _ h6⟩
theorem toS_inj {f g : LF} (hf : f.Ok) (hg : g.Ok) (h : f.toS = g.toS) : f = g := by
  rcases hf with ⟨a, b, ha, _, rfl⟩ | ⟨k, a, _, rfl⟩ <;> rcases hg with ⟨c, d, hc, _, rfl⟩ | ⟨l, c, _, rfl⟩
  · obtain ⟨rfl, rfl⟩ := text_inj ha hc h; rfl
  · rw [toS_text, toS_derive] at h; simp [textF, deriveF] at h
  · rw [toS_text, toS_derive] at h; simp [textF, deriveF] at h
  · rw [toS_derive, toS_derive, derive_inj] at h; obtain ⟨rfl, rfl⟩ := h; rfl
structure Inv (ks : List LF) (s : STab) : Prop where
  keys : s.keys = ks.map LF.toS
  ok : ∀ f ∈ ks, f = LF.fresh ∨ f.Ok
  known : ∀ (f : LF) (n : Nat), f.Ok → (s.at_ f.toS = some n ↔ 1 ≤ n ∧ ks[n - 1]? = some f)
theorem Inv.empty : Inv [] STab.empty := ⟨rfl, by simp, by intro f n _; simp [STab.at_, STab.empty]⟩
theorem fresh_notOk : ¬ LF.fresh.Ok := by
  rintro (⟨a, b, _, _, h⟩ | ⟨k, a, _, h⟩) <;> (have := congrArg LF.kind h; simp [LF.fresh, LF.text, LF.derive] at this)
theorem get_snoc_iff {α : Type} {xs : List α} {i : Nat} {x y : α} : (xs ++ [y])[i]? = some x ↔ xs[i]? = some x ∨ (i = xs.length ∧ x = y) := by
  by_cases h : i < xs.length
  · rw [List.getElem?_append_left h]
    constructor
    · exact .inl
    · rintro (h1 | ⟨h1, _⟩)
      · exact h1
      · omega
  · rw [List.getElem?_append_right (by omega)]
    constructor
    · intro h1
      right
      cases hz : i - xs.length with
      | zero => rw [hz] at h1; simp at h1; exact ⟨by omega, h1.symm⟩
      | succ z => rw [hz] at h1; simp at h1
    · rintro (h1 | ⟨h1, rfl⟩)
      · rw [List.getElem?_eq_none (by omega)] at h1; cases h1
      · subst h1; simp
theorem Inv.add {ks : List LF} {s : STab} (h : Inv ks s) : Inv (ks ++ [LF.fresh]) (s.add SFrom.fresh) where
  keys := by simp [STab.add, h.keys]; rfl
  ok := fun f hf => by
    rcases List.mem_append.1 hf with hf | hf
    · exact h.ok f hf
    · left; simpa using hf
  known := fun f n hf => by
    have e : (s.add SFrom.fresh).at_ f.toS = s.at_ f.toS := rfl
    rw [e, h.known f n hf, get_snoc_iff]
    constructor
    · rintro ⟨a, b⟩; exact ⟨a, .inl b⟩
    · rintro ⟨a, b | ⟨_, b⟩⟩
      · exact ⟨a, b⟩
      · subst b; exact absurd hf fresh_notOk
theorem Inv.old {ks : List LF} {s : STab} (h : Inv ks s) {f : LF} (hf : f.Ok) {z : Nat} (hz : 1 ≤ z) (hk : ks[z - 1]? = some f) : s.num f.toS = z ∧ s.made f.toS = s := by
  have := (h.known f z hf).2 ⟨hz, hk⟩
  exact ⟨STab.num_of _ _ _ this, by unfold STab.made; rw [this]⟩
theorem Inv.new {ks : List LF} {s : STab} (h : Inv ks s) {f : LF} (hf : f.Ok) (hk : ∀ j : Nat, ks[j]? ≠ some f) : s.num f.toS = ks.length + 1 ∧ Inv (ks ++ [f]) (s.made f.toS) := by
  have hat : s.at_ f.toS = none := by
    cases hc : s.at_ f.toS with
    | none => rfl
    | some n => exact absurd ((h.known f n hf).1 hc).2 (hk _)
  have hl : s.keys.length = ks.length := by rw [h.keys, List.length_map]
  have hm : s.made f.toS = { s with keys := s.keys ++ [f.toS], known := s.known ++ [(f.toS, s.keys.length + 1)] } := by unfold STab.made; rw [hat]
  refine ⟨by unfold STab.num; rw [hat]; simp [hl], ?_, ?_, ?_⟩
  · rw [hm]; simp [h.keys]
  · intro g hg
    rcases List.mem_append.1 hg with hg | hg
    · exact h.ok g hg
    · right; have : g = f := by simpa using hg
      rw [this]; exact hf
  · intro g n hg
    rw [get_snoc_iff]
    by_cases hgf : g = f
    · subst hgf
      rw [STab.at_made]
      have e : s.num g.toS = ks.length + 1 := by unfold STab.num; rw [hat]; simp [hl]
      rw [e]
      constructor
      · intro h1; injection h1 with h1; subst h1; exact ⟨by omega, .inr ⟨by omega, rfl⟩⟩
      · rintro ⟨h1, h2 | ⟨h2, _⟩⟩
        · exact absurd h2 (hk _)
        · congr 1; omega
    · have hne : g.toS ≠ f.toS := fun e => hgf (toS_inj hg hf e)
      have e : (s.made f.toS).at_ g.toS = s.at_ g.toS := by
        rw [hm]; unfold STab.at_
        simp only [List.find?_append]
        cases hq : s.known.find? (fun p => decide (p.1 = g.toS)) with
        | none => simp [Ne.symm hne]
        | some p => simp
      rw [e, h.known g n hg]
      constructor
      · rintro ⟨a, b⟩; exact ⟨a, .inl b⟩
      · rintro ⟨a, b | ⟨_, b⟩⟩
        · exact ⟨a, b⟩
        · exact absurd b hgf
theorem Inv.of16 {ks : List LF} {s : STab} (h : Inv ks s) {f : LF} (hf : f ∈ ks) : f.of.length = 16 := by
  rcases h.ok f hf with rfl | ⟨a, b, _, _, rfl⟩ | ⟨k, a, hk, rfl⟩
  · rfl
  · rfl
  · exact hk
theorem lf_get {ks : List LF} {s : STab} (h : Inv ks s) (i : Nat) (hi : i < ks.length) : ∃ fk fK fa fb, ks[i]? = some ⟨fk, kl fK, fa, fb⟩ := by
  have hm := List.getElem_mem hi
  obtain ⟨K, hK⟩ := kl_of _ (h.of16 hm)
  refine ⟨ks[i].kind, K, ks[i].a, ks[i].b, ?_⟩
  rw [List.getElem?_eq_getElem hi, ← hK]
theorem map_get {α β : Type} {l : List α} (f : α → β) {j : Nat} {x : α} (h : l[j]? = some x) : (l.map f)[j]? = some (f x) := by
  rw [List.getElem?_map, h]; rfl
theorem zip_get {α β γ : Type} {l : List α} {m : List β} (f : α → β → γ) {j : Nat} {x : α} {y : β} (h : l[j]? = some x) (k : m[j]? = some y) : (List.zipWith f l m)[j]? = some (f x y) := by
  rw [List.getElem?_zipWith, h, k]
end Go.Proofs.Ytjjcnijdjhhdoaa
end
/-! How keys came, held against one another by the law. -/
section
namespace Go.Proofs.Ytjjcnijdjhhdoaa
open Go.RowKit Go.QT
theorem folf : (Try.prog.fieldsOf 67).toList.map (fun f => (f.name == "_", f.type, f.offset)) = [(false, 3, 0), (false, 22, 1), (false, 9, 17), (false, 9, 18)] := by kernel_rfl
theorem fieldslf : ∃ f0 f1 f2 f3 : Field, (Try.prog.fieldsOf 67).toList = [f0, f1, f2, f3] ∧ (f0.name ≠ "_" ∧ f0.type = 3 ∧ f0.offset = 0) ∧ (f1.name ≠ "_" ∧ f1.type = 22 ∧ f1.offset = 1) ∧ (f2.name ≠ "_" ∧ f2.type = 9 ∧ f2.offset = 17) ∧ (f3.name ≠ "_" ∧ f3.type = 9 ∧ f3.offset = 18) := by
  have h := folf
  match hq : (Try.prog.fieldsOf 67).toList with
  | [f0, f1, f2, f3] =>
    rw [hq] at h
    simp only [List.map_cons, List.map_nil, List.cons.injEq, Prod.mk.injEq, beq_eq_false_iff_ne, and_true] at h
    exact ⟨f0, f1, f2, f3, rfl, h.1, h.2.1, h.2.2.1, h.2.2.2⟩
  | [] => rw [hq] at h; simp at h
  | [_] => rw [hq] at h; simp at h
  | [_, _] => rw [hq] at h; simp at h
  | [_, _, _] => rw [hq] at h; simp at h
  | _ :: _ :: _ :: _ :: _ :: _ => rw [hq] at h; simp at h
theorem stoodlf : Try.prog.stoodInHeld 67 = false := by kernel_rfl
theorem agg22 (W : World) : (isAgg 22).run Try.prog W = .ok true W := by kernel_rfl
theorem size22 (W : World) : (sizeOf 22).run Try.prog W = .ok 16 W := by kernel_rfl
theorem agg3 (W : World) : (isAgg 3).run Try.prog W = .ok false W := by kernel_rfl
theorem tylf : Try.prog.underlying 67 = some (.struct (Try.prog.fieldsOf 67)) := by kernel_rfl
theorem part_one (t : TypeId) (cs : List Value) (k : Nat) (v : Value) (ht : ∀ W, (isAgg t).run Try.prog W = .ok false W) (hv : cs[k]? = some v) (W : World) : (part t cs.toArray k).run Try.prog W = .ok v W := by
  have e : cs.toArray[k]? = some v := by simpa using hv
  simp only [part, Sem.run_bind, ht, Result.andThen_ok, Bool.false_eq_true, if_false, e, Sem.run_pure]
theorem part_lfof (f : LF) (h : f.of.length = 16) (W : World) : (part 22 (lfCells f).toArray 1).run Try.prog W = .ok (.agg (vb f.of).toArray) W := by
  have e : (lfCells f).toArray.extract 1 (1 + 16) = (vb f.of).toArray := by
    apply Array.ext'
    simp only [Array.toList_extract]
    show ((lfCells f).drop 1).take 16 = vb f.of
    show (vb f.of ++ [Value.string f.a, Value.string f.b]).take 16 = vb f.of
    rw [List.take_left' (by simp [h])]
  simp only [part, Sem.run_bind, agg22, size22, Result.andThen_ok, if_true, Sem.run_pure]
  rw [e]
theorem str_dec (b b' : ByteArray) : (b.toList == b'.toList) = decide (b = b') := by
  rw [ByteArray.toList_eq, ByteArray.toList_eq, Bool.eq_iff_iff, beq_iff_eq, decide_eq_true_eq]
  constructor
  · intro h; cases b; cases b'; simp only [ByteArray.mk.injEq]; exact Array.ext' h
  · rintro rfl; rfl
set_option maxRecDepth 100000 in
theorem run_eq_lf (f g : LF) (hf : f.of.length = 16) (hg : g.of.length = 16) (w : World) : (Op.equalIn 10000 67 (.agg (lfCells f).toArray) (.agg (lfCells g).toArray)).run Try.prog w = .ok (decide (f = g)) w := by
  obtain ⟨f0, f1, f2, f3, hl, ⟨n0, t0, o0⟩, ⟨n1, t1, o1⟩, ⟨n2, t2, o2⟩, ⟨n3, t3, o3⟩⟩ := fieldslf
  have h0 : ∀ W, (Op.equalIn 9999 3 (.int .i64 f.kind) (.int .i64 g.kind)).run Try.prog W = .ok (f.kind == g.kind) W := fun W => run_equalIn_int W 9998 3 .i64 .i64 _ _ (by kernel_rfl)
  have h1 : ∀ W, (Op.equalIn 9999 22 (.agg (vb f.of).toArray) (.agg (vb g.of).toArray)).run Try.prog W = .ok (decide (f.of = g.of)) W := fun W => run_equalIn16 9997 22 f.of g.of W (by kernel_rfl) hf hg
  have h2 : ∀ W, (Op.equalIn 9999 9 (.string f.a) (.string g.a)).run Try.prog W = .ok (f.a.toList == g.a.toList) W := fun W => run_equalIn_string W 9998 9 _ _ (by kernel_rfl)
  have h3 : ∀ W, (Op.equalIn 9999 9 (.string f.b) (.string g.b)).run Try.prog W = .ok (f.b.toList == g.b.toList) W := fun W => run_equalIn_string W 9998 9 _ _ (by kernel_rfl)
  have p0 : ∀ (f : LF) W, (part 3 (lfCells f).toArray 0).run Try.prog W = .ok (.int .i64 f.kind) W := fun f W => part_one 3 (lfCells f) 0 _ agg3 rfl W
  have p2 : ∀ (f : LF), f.of.length = 16 → ∀ W, (part 9 (lfCells f).toArray 17).run Try.prog W = .ok (.string f.a) W := fun f h W => part_one 9 (lfCells f) 17 _ agg9 (by simp [lfCells, h]) W
  have p3 : ∀ (f : LF), f.of.length = 16 → ∀ W, (part 9 (lfCells f).toArray 18).run Try.prog W = .ok (.string f.b) W := fun f h W => part_one 9 (lfCells f) 18 _ agg9 (by simp [lfCells, h]) W
  show (Op.equalIn (9999 + 1) 67 (.agg (lfCells f).toArray) (.agg (lfCells g).toArray)).run Try.prog w = _
  rw [run_equalIn_struct w 9999 67 _ _ tylf stoodlf, hl]
  simp only [Op.eqFields, n0, n1, n2, n3, t0, t1, t2, t3, o0, o1, o2, o3, ne_eq, not_false_eq_true, if_true, Sem.run_bind, p0, Result.andThen_ok, h0]
  have hdec : decide (f = g) = ((f.kind == g.kind) && decide (f.of = g.of) && decide (f.a = g.a) && decide (f.b = g.b)) := by
    obtain ⟨a, b, c, d⟩ := f
    obtain ⟨a', b', c', d'⟩ := g
    rw [Bool.eq_iff_iff]
    simp [and_assoc]
  rw [hdec]
  clear hdec
  simp only [str_dec] at h2 h3
  generalize (f.kind == g.kind) = b0 at *
  generalize decide (f.of = g.of) = b1 at *
  generalize decide (f.a = g.a) = b2 at *
  generalize decide (f.b = g.b) = b3 at *
  cases b0 <;> cases b1 <;> cases b2 <;> cases b3 <;> simp [part_lfof f hf, part_lfof g hg, p2 f hf, p2 g hg, p3 f hf, p3 g hg, h1, h2, h3]
set_option maxRecDepth 100000 in
theorem e_lfeq {o : Oper} {a : Act} (f g : LF) (hf : f.of.length = 16) (hg : g.of.length = 16) (x y : Operand) (t' : TypeId) (ho : o.op = .binOp .eql 67 x y t') (hx : a.eval x = .agg (lfCells f).toArray) (hy : a.eval y = .agg (lfCells g).toArray) (b : Bool) (hb : decide (f = g) = b) (W : World) :
    (execOp a.eval o).run Try.prog W = .ok (.value (.bool b)) W := by
  subst hb
  have hg' : Try.prog.eqGuardType Try.prog.depth 67 = false := by kernel_rfl
  unfold execOp
  simp only [ho, hx, hy, Sem.run_bind, run_eqGuard_agg W _ 67 _ _ _ _ hg', Result.andThen_ok, run_eql_struct, run_eq_lf f g hf hg, Sem.run_pure]
end Go.Proofs.Ytjjcnijdjhhdoaa
end
/-! What SymPlays asks: its steps in memory, and plain laws of boxes and sums. -/
section
namespace Go.Proofs.Ytjjcnijdjhhdoaa
open Go.RowKit Go.QT
structure StS where
  kind : Int
  a : Int
  b : Int
  text : ByteArray
  v : Value
  body : Bytes
def stCells (x : StS) : List Value := [Value.int .i64 x.kind, Value.int .i64 x.a, Value.int .i64 x.b, Value.string x.text, x.v]
section
variable {P : Program} {w w0 w' : World} {sz c n : Nat} {A : Option Addr} {xs : List (List Value)} {vs : List Value} {ls : List Bytes}
theorem RV.lenIs (h : RV w sz A c xs) (hn : xs.length = n) : xs.length = n ∧ RV w sz A c xs := ⟨hn, h⟩
theorem sbs_get (h : (rSBs vs ls).Φ w) (hn : vs.length = ls.length) (i : Nat) (hi : i < ls.length) : ∃ A c y, vs[i]? = some (Value.slice A y.length c) ∧ ls[i]? = some y := by
  have h1 : vs[i]? = some (vs[i]'(by omega)) := List.getElem?_eq_getElem _
  have h2 : ls[i]? = some ls[i] := List.getElem?_eq_getElem hi
  obtain ⟨A, c, e, _⟩ := sb_form (h i _ _ h1 h2)
  exact ⟨A, c, _, by rw [h1, e], h2⟩
theorem st_get {st : List StS} (h : (rSBs (st.map (·.v)) (st.map (·.body))).Φ w) (i : Nat) (hi : i < st.length) : ∃ xk xa xb xt A c y, st[i]? = some ⟨xk, xa, xb, xt, .slice A y.length c, y⟩ := by
  have h0 : st[i]? = some st[i] := List.getElem?_eq_getElem hi
  obtain ⟨A, c, e, _⟩ := sb_form (h i _ _ (map_get (·.v) h0) (map_get (·.body) h0))
  refine ⟨st[i].kind, st[i].a, st[i].b, st[i].text, A, c, st[i].body, ?_⟩
  rw [h0, ← e]
theorem Inv.same {ks : List LF} {s s' : STab} (h : Inv ks s) (hk : s'.keys = s.keys) (hn : s'.known = s.known) : Inv ks s' :=
  ⟨by rw [hk, h.keys], h.ok, fun f n hf => by rw [at_known hn]; exact h.known f n hf⟩
theorem Inv.of_eq {ks : List LF} {s s' : STab} (h : Inv ks s) (e : s' = s) : Inv ks s' := e ▸ h
theorem Inv.len {ks : List LF} {s : STab} (h : Inv ks s) : s.keys.length = ks.length := by rw [h.keys, List.length_map]
/-! ### Boxes -/
theorem box_zero (s : STab) : s.box (mkB 98 0) = none := by
  unfold STab.box
  rw [markOf_mkB (by decide) (by omega)]
  rfl
theorem box_behind {s : STab} {m : Nat} (h : s.boxes.length < m) (hm : m ≤ 31) : s.box (mkB 98 m) = none := by
  unfold STab.box
  rw [markOf_mkB (by decide) (by omega)]
  simp only []
  split
  · exact List.getElem?_eq_none (by omega)
  · rfl
theorem box_there {s : STab} {m : Nat} {x : SSealed} (h : s.boxes[m - 1]? = some x) (h1 : 1 ≤ m) (hm : m ≤ 31) : s.box (mkB 98 m) = some x := by
  have := box_at h (by omega)
  rwa [show m - 1 + 1 = m by omega] at this
theorem open_none {s : STab} {k l : Bytes} {u : Int} (h : s.box l = none) : s.open_ k u l = none := by unfold STab.open_; rw [h]; rfl
theorem open_some {s : STab} {k l b : Bytes} {u : Int} (h : s.box l = some ⟨k, u, b⟩) : s.open_ k u l = some b := by unfold STab.open_; rw [h]; simp
theorem open_other {s : STab} {k k' l b : Bytes} {u u' : Int} (h : s.box l = some ⟨k', u', b⟩) (hne : ¬ (k' = k ∧ u' = u)) : s.open_ k u l = none := by
  unfold STab.open_; rw [h]; simp only [Option.bind_some]; rw [if_neg hne]
/-! ### Sums -/
theorem sum_old {s : STab} {b : Bytes} {z : Nat} (hn : s.sums.Nodup) (_hz : 1 ≤ z) (h : s.sums[z - 1]? = some b) : s.sumAt b = z - 1 ∧ s.digest b = s := by
  obtain ⟨hl, he⟩ := List.getElem?_eq_some_iff.1 h
  have h1 : s.sumAt b = z - 1 := by
    unfold STab.sumAt
    have hlt : s.sums.findIdx (fun x => decide (x = b)) < s.sums.length := List.findIdx_lt_length_of_exists ⟨b, List.mem_of_getElem? h, by simp⟩
    have h2 : s.sums[s.sums.findIdx (fun x => decide (x = b))] = b := by
      have := List.findIdx_getElem (xs := s.sums) (p := fun x => decide (x = b)) (w := hlt)
      simpa using this
    exact (List.getElem_inj hn).1 (h2.trans he.symm)
  refine ⟨h1, ?_⟩
  unfold STab.digest
  rw [h1, if_pos hl]
theorem sum_new {s : STab} {b : Bytes} (h : ∀ j : Nat, s.sums[j]? ≠ some b) : s.sumAt b = s.sums.length ∧ s.digest b = { s with sums := s.sums ++ [b] } := by
  have hm : b ∉ s.sums := fun hb => by
    obtain ⟨i, hi, he⟩ := List.getElem_of_mem hb
    exact h i (by rw [List.getElem?_eq_getElem hi, he])
  have h1 : s.sumAt b = s.sums.length := by
    unfold STab.sumAt
    apply List.findIdx_eq_length_of_false
    intro x hx
    have : x ≠ b := fun e => hm (e ▸ hx)
    simpa using this
  refine ⟨h1, ?_⟩
  unfold STab.digest
  rw [h1, if_neg (Nat.lt_irrefl _)]
theorem nodup_snoc {l : List Bytes} {b : Bytes} (hn : l.Nodup) (h : ∀ j : Nat, l[j]? ≠ some b) : (l ++ [b]).Nodup := by
  have hm : b ∉ l := fun hb => by
    obtain ⟨i, hi, he⟩ := List.getElem_of_mem hb
    exact h i (by rw [List.getElem?_eq_getElem hi, he])
  rw [List.nodup_append]
  refine ⟨hn, by simp, fun x hx y hy e => ?_⟩
  have : y = b := by simpa using hy
  subst this; subst e; exact hm hx
/-! ### What came -/
theorem came_there {s : STab} {m : Nat} {f : SFrom} (h : s.keys[m]? = some f) (hm : m ≤ 100) : s.came (mkB 107 (m + 1)) = some f := by
  unfold STab.came
  rw [markOf_mkB (by decide) (by omega)]
  simp [h]
theorem came_behind {s : STab} (hm : s.keys.length ≤ 100) : s.came (mkB 107 (s.keys.length + 1)) = none := by
  unfold STab.came
  rw [markOf_mkB (by decide) (by omega)]
  simp
section
variable {F0 F : Nat → Prop} {ro rs : List Res} {tb : Nat} {s : STab} {o : Oper} {a : Act}
theorem x_cameS (h : Hp F0 w0 w ro rs) (i : Nat) (hi : rs[i]? = some (rTab F tb s)) (K : Fin 16 → UInt8) (k : Bytes) (l : ByteArray) (b : Bool) (hp : pureVal Try.prog (execOp a.eval o) = some (.enter 38 #[pt tb 0, .agg (vb (kl K)).toArray])) (hf16 : ∀ f ∈ s.keys, f.of.length = 16) (hn : s.keys.length < 1000000) (hr : s.came (kl K) = some ⟨k, l, b⟩) :
    OpTo Try.prog o a w (fun u' w' => u' = .tuple #[.agg (vb k ++ [Value.string l, Value.bool b]).toArray, .bool true] ∧ Hp F0 w0 w' ro rs) :=
  (x_came h i hi K _ hp hf16 hn hr).mono fun u w' hq => by
    obtain ⟨K', l', b', hu, hor, h'⟩ := hq
    rcases hor with e | ⟨e, _⟩
    · injection e with e
      injection e with e1 e2 e3
      subst e1; subst e2; subst e3
      exact ⟨hu, h'⟩
    · cases e
theorem x_cameN (h : Hp F0 w0 w ro rs) (i : Nat) (hi : rs[i]? = some (rTab F tb s)) (K : Fin 16 → UInt8) (hp : pureVal Try.prog (execOp a.eval o) = some (.enter 38 #[pt tb 0, .agg (vb (kl K)).toArray])) (hf16 : ∀ f ∈ s.keys, f.of.length = 16) (hn : s.keys.length < 1000000) (hr : s.came (kl K) = none) :
    OpTo Try.prog o a w (fun u' w' => u' = .tuple #[.agg (vb zKey ++ [Value.string ByteArray.empty, Value.bool false]).toArray, .bool false] ∧ Hp F0 w0 w' ro rs) :=
  (x_came h i hi K _ hp hf16 hn hr).mono fun u w' hq => by
    obtain ⟨K', l', b', hu, hor, h'⟩ := hq
    rcases hor with e | ⟨_, e1, e2, e3⟩
    · cases e
    · subst e2; subst e3
      exact ⟨by rw [hu, e1]; rfl, h'⟩
end
end
theorem seal_get {s : STab} {bx : List SSealed} (h16 : ∀ b ∈ s.boxes, b.by_.length = 16) (hB : s.boxes = bx) (i : Nat) {l : Bytes} (hl : (bx.map (·.body))[i]? = some l) : ∃ K u, bx[i]? = some ⟨kl K, u, l⟩ := by
  rw [List.getElem?_map, Option.map_eq_some_iff] at hl
  obtain ⟨x, hx, rfl⟩ := hl
  obtain ⟨K, hK⟩ := kl_of x.by_ (h16 x (by rw [hB]; exact List.mem_of_getElem? hx))
  exact ⟨K, x.usage, by rw [hx, ← hK]⟩
theorem lf_kinds {ks : List LF} {s : STab} (h : Inv ks s) (i : Nat) (hi : i < ks.length) : ks[i]? = some LF.fresh ∨ (∃ a b, ks[i]? = some (LF.text a b)) ∨ (∃ K a, ks[i]? = some (LF.derive (kl K) a)) := by
  have h0 : ks[i]? = some ks[i] := List.getElem?_eq_getElem hi
  rcases h.ok _ (List.getElem_mem hi) with e | ⟨a, b, _, _, e⟩ | ⟨k, a, hk, e⟩
  · exact .inl (by rw [h0, e])
  · exact .inr (.inl ⟨a, b, by rw [h0, e]⟩)
  · obtain ⟨K, hK⟩ := kl_of k hk
    exact .inr (.inr ⟨K, a, by rw [h0, e, hK]⟩)
end Go.Proofs.Ytjjcnijdjhhdoaa
end
/-! What SymPlays is asked, as it comes in: opened. -/
section
namespace Go.Proofs.Ytjjcnijdjhhdoaa
open Go.ChangeShapes Go.WideShapes Go.ChangeAt Go.RowKit Go.QT
set_option maxRecDepth 100000
section
variable {H : Type} {enc : TypeId × Value → H} {w : World} {base : Nat}
theorem sb_of_trod {fuel : Nat} {c : Value} {x : DataW H × List MemPlace} {sp : Nat → Bool} (hf : DataW.trod enc Try.prog w base sp true fuel 28 [c] = some x) : ∃ l : Bytes, SB w c l := by
  rcases open_ints Try.underlying28 Try.underlying5 c5 hf with ⟨hcs, hx⟩ | ⟨a, len, cap, zs, hcs, _, hl, hm, hz, hx, hcell, hwz⟩
  · have : c = .slice none 0 0 := by simpa using hcs
    subst this
    exact ⟨[], SB.nil _ _ (Nat.zero_le _) _⟩
  · have : c = .slice (some a) len cap := by simpa using hcs
    subst this
    have hzl : len ≤ zs.length := by rw [hz]; split <;> omega
    refine ⟨(zs.take len).map toB, some a, cap, ?_, ?_, hm, ?_⟩
    · simp; omega
    · simp; omega
    intro hne
    have hlen : 0 < len := by
      rcases Nat.eq_zero_or_pos len with h0 | h0
      · subst h0; simp at hne
      · exact h0
    obtain ⟨ab, ao, spot⟩ := a
    have h0 := hcell 0 (by omega)
    have hspot : spot = none := by simpa [Addr.add] using World.cell?_spot h0
    subst hspot
    refine ⟨ab, ao, rfl, ?_, fun i hi => ?_⟩
    · rcases Nat.lt_or_ge ab w.heap.size with h' | h'
      · exact h'
      · rw [Addr.add_lit] at h0
        simp [World.cell?, Array.getElem?_eq_none h'] at h0
    · have hi' : i < len := by simpa [Nat.min_eq_left hzl] using hi
      have hc := hcell i (by omega)
      rw [Addr.add_lit] at hc
      rw [hc]
      have e : zs.getD i 0 = zs[i]'(by omega) := by simp [List.getD, List.getElem?_eq_getElem (show i < zs.length by omega)]
      have hb : 0 ≤ zs.getD i 0 ∧ zs.getD i 0 ≤ 255 := by rw [List.getD_eq_getElem?_getD]; exact range_u8 hwz i
      have e2 : gb ((zs.take len).map toB) i = toB (zs.getD i 0) := by
        rw [e]
        simp [gb, hi', show i < zs.length by omega]
      rw [e2, ub_u8 (by omega) (by omega)]
theorem stFields : (Try.prog.fieldsOf 65).toList.map (fun f => (f.type, f.offset)) = [(3, 0), (3, 1), (3, 2), (9, 3), (28, 4)] := by kernel_rfl
theorem stUnd : Try.prog.underlying 65 = some (.struct (Try.prog.fieldsOf 65)) := by kernel_rfl
theorem stCellsOf : Try.prog.cellsOf 65 = 5 := by kernel_rfl
theorem cInt : Try.prog.cellsOf 3 = 1 := by kernel_rfl
theorem cStr : Try.prog.cellsOf 9 = 1 := by kernel_rfl
theorem cBs : Try.prog.cellsOf 28 = 1 := by kernel_rfl
theorem uInt : Try.prog.underlying 3 = some (.int .i64) := by kernel_rfl
theorem uStr : Try.prog.underlying 9 = some .string := by kernel_rfl
theorem uSteps : Try.prog.underlying 60 = some (.slice 65) := by kernel_rfl
theorem step_of {fuel : Nat} {cs : List Value} {x : DataW H × List MemPlace} {sp : Nat → Bool} (hf : DataW.trod enc Try.prog w base sp true fuel 65 cs = some x) : ∃ z : StS, cs = stCells z ∧ SB w z.v z.body := by
  obtain ⟨xs, n, rfl, _, hl, hxl, hx⟩ := DataW.trod_struct stUnd hf
  rw [stCellsOf] at hl
  have hfl : (Try.prog.fieldsOf 65).size = 5 := by
    have := congrArg List.length stFields
    simpa using this
  have fld : ∀ (i : Nat) (t o : Nat), ((Try.prog.fieldsOf 65).toList.map (fun f => (f.type, f.offset)))[i]? = some (t, o) → i < 5 → ∃ y, DataW.trod enc Try.prog w base sp true n t ((cs.drop o).take (Try.prog.cellsOf t)) = some y := by
    intro i t o h hi
    rw [List.getElem?_map, Option.map_eq_some_iff] at h
    obtain ⟨f, hf1, hf2⟩ := h
    injection hf2 with h1 h2
    have := hx i f (by rw [← Array.getElem?_toList]; exact hf1)
    rw [h1, h2, List.getElem?_eq_getElem (by omega)] at this
    exact ⟨_, this⟩
  rw [stFields] at fld
  match cs, hl with
  | [c0, c1, c2, c3, c4], _ =>
    obtain ⟨y0, h0⟩ := fld 0 3 0 rfl (by omega)
    obtain ⟨y1, h1⟩ := fld 1 3 1 rfl (by omega)
    obtain ⟨y2, h2⟩ := fld 2 3 2 rfl (by omega)
    obtain ⟨y3, h3⟩ := fld 3 9 3 rfl (by omega)
    obtain ⟨y4, h4⟩ := fld 4 28 4 rfl (by omega)
    rw [cInt] at h0 h1 h2
    rw [cStr] at h3
    rw [cBs] at h4
    obtain ⟨k, e0, _, _⟩ := DataW.trod_int uInt h0
    obtain ⟨a, e1, _, _⟩ := DataW.trod_int uInt h1
    obtain ⟨b, e2, _, _⟩ := DataW.trod_int uInt h2
    obtain ⟨t, e3, _, _⟩ := DataW.trod_string uStr h3
    simp at e0 e1 e2 e3
    subst e0; subst e1; subst e2; subst e3
    obtain ⟨l, hs⟩ := sb_of_trod (c := c4) (by simpa using h4)
    exact ⟨⟨k, a, b, t, c4, l⟩, rfl, hs⟩
theorem steps_list (n : Nat) (p : Nat → StS → Prop) (h : ∀ i, i < n → ∃ z, p i z) : ∃ st : List StS, st.length = n ∧ ∀ i z, st[i]? = some z → p i z := by
  induction n with
  | zero => exact ⟨[], rfl, by simp⟩
  | succ n ih =>
    obtain ⟨st, hl, hst⟩ := ih fun i hi => h i (by omega)
    obtain ⟨z, hz⟩ := h n (by omega)
    refine ⟨st ++ [z], by simp [hl], fun i y hy => ?_⟩
    rcases get_snoc_iff.1 hy with h1 | ⟨h1, h2⟩
    · exact hst i y h1
    · subst h2; rw [h1, hl]; exact hz
theorem open_steps {b0 : Nat} {v : Value} {d : DataW H} {p : List MemPlace} {sp : Nat → Bool} (hv : Value.okWide Try.prog w .any b0 60 v) (h : DataW.Trod enc Try.prog w base sp true 60 v d p) :
    ∃ A c st, v = .slice A (List.length st) c ∧ RV w 5 A c (st.map stCells) ∧ (rSBs (st.map (·.v)) (st.map (·.body))).Φ w := by
  obtain ⟨a1, len, cap, rfl⟩ := okWide_slice uSteps hv
  obtain ⟨fuel, hf⟩ := h
  rcases Go.Deep.open_slice uSteps hf with ⟨hcs, _⟩ | ⟨a, len', cap', m, n, D, Pl, hcs, _, hl, hm, hmm, _, hx⟩
  · simp [Value.cells] at hcs
    obtain ⟨rfl, rfl, rfl⟩ := hcs
    exact ⟨none, 0, [], rfl, ⟨by simp, Nat.zero_le _, by simp, by simp⟩, by intro i v l h1; simp at h1⟩
  · simp [Value.cells] at hcs
    obtain ⟨rfl, rfl, rfl⟩ := hcs
    have hml : len ≤ m := by rw [hmm]; split <;> omega
    obtain ⟨st, hlen, hst⟩ := steps_list len (fun i z => w.cells? base (a.add (i * 5)) 5 = some (stCells z) ∧ SB w z.v z.body) fun i hi => by
      obtain ⟨cs', h1, h2⟩ := hx i (by omega)
      obtain ⟨z, rfl, hs⟩ := step_of h2
      rw [stCellsOf] at h1
      exact ⟨z, h1, hs⟩
    subst hlen
    refine ⟨some a, cap, st, rfl, ⟨by simpa using hl, hm, ?_, ?_⟩, ?_⟩
    · intro y hy
      rw [List.mem_map] at hy
      obtain ⟨z, _, rfl⟩ := hy
      rfl
    · intro hne
      have hpos : 0 < st.length := by
        rcases Nat.eq_zero_or_pos st.length with h0 | h0
        · exact absurd (by rw [List.eq_nil_of_length_eq_zero h0]; rfl) hne
        · exact h0
      have hz0 := (hst 0 _ (List.getElem?_eq_getElem hpos)).1
      obtain ⟨_, _, hc0⟩ := World.cells?_some hz0
      obtain ⟨ab, ao, spot⟩ := a
      have h00 := hc0 0 (by omega)
      have h01 : w.cell? (((⟨ab, ao, spot⟩ : Addr).add (0 * 5)).add 0) = some (.int .i64 st[0].kind) := h00
      have hspot : spot = none := by simpa [Addr.add] using World.cell?_spot h01
      subst hspot
      refine ⟨ab, ao, rfl, ?_, fun i y hy j u hu => ?_⟩
      · rcases Nat.lt_or_ge ab w.heap.size with h' | h'
        · exact h'
        · rw [Addr.add_lit, Addr.add_lit] at h01
          simp [World.cell?, Array.getElem?_eq_none h'] at h01
      · rw [List.getElem?_map, Option.map_eq_some_iff] at hy
        obtain ⟨z, hz, rfl⟩ := hy
        obtain ⟨_, _, hc⟩ := World.cells?_some (hst i z hz).1
        have hj : j < 5 := by have := (List.getElem?_eq_some_iff.1 hu).1; simpa [stCells] using this
        have := hc j hj
        rw [Addr.add_lit, Addr.add_lit] at this
        rw [this]; exact hu
    · intro i v l h1 h2
      rw [List.getElem?_map, Option.map_eq_some_iff] at h1 h2
      obtain ⟨z, hz, rfl⟩ := h1
      obtain ⟨z', hz', rfl⟩ := h2
      rw [hz] at hz'
      injection hz' with hz'
      subst hz'
      exact (hst i z hz).2
end
end Go.Proofs.Ytjjcnijdjhhdoaa
end
/-! Maps from keys to truths, of which all that is held is true: sets of keys. -/
section
namespace Go.Proofs.Ytjjcnijdjhhdoaa
open Go.RowKit Go.QT
theorem undKm : Try.prog.underlying 132 = some (.map 42 4) := by kernel_rfl
theorem undK16 : Try.prog.underlying 42 = some (.array 16 5) := by kernel_rfl
theorem zbool (W : World) : (zeroValue 4).run Try.prog W = .ok (.bool false) W := by kernel_rfl
theorem sameNow_array (n : Nat) (e : TypeId) (a b : Value) : Instr.sameNow (.array n e) a b = none := by
  unfold Instr.sameNow; rfl
def ents (ks : List Bytes) : List (Value × Value) := ks.map fun k => (Value.agg (vb k).toArray, Value.bool true)
set_option maxRecDepth 100000 in
theorem run_find_key (f : Bytes) (hf : f.length = 16) (w : World) : ∀ (es : List MapEntry) (ks : List Bytes) (i : Nat), es.map (fun e => (e.key, e.val)) = ents ks → (∀ k ∈ ks, k.length = 16) →
    (Instr.findAsking 42 (.agg (vb f).toArray) es i).run Try.prog w = .ok ((ks.findIdx? fun k => decide (k = f)).map fun j => (i + j, Value.bool true)) w
  | [], ks, i, h, _ => by
    have : ks = [] := by simpa [ents] using h.symm
    subst this
    simp [Instr.findAsking]
  | e :: es, [], i, h, _ => by simp [ents] at h
  | e :: es, g :: ks, i, h, hl => by
    simp only [ents, List.map_cons, List.cons.injEq, Prod.mk.injEq] at h
    have hg := hl g (by simp)
    have ih := run_find_key f hf w es ks (i + 1) h.2 (fun p hp => hl p (by simp [hp]))
    have he : (Op.equal 42 (.agg (vb f).toArray) (.agg (vb g).toArray)).run Try.prog w = .ok (decide (f = g)) w := run_equalIn16 9998 42 f g w undK16 hf hg
    rw [← h.1.1] at he
    have hc : decide (g = f) = decide (f = g) := by rw [Bool.eq_iff_iff]; simp [eq_comm]
    simp only [Instr.findAsking, Sem.run_bind, he, Result.andThen_ok, List.findIdx?_cons, hc]
    by_cases hfg : f = g
    · simp [hfg, h.1.2]
    · simp only [decide_eq_false hfg, Bool.false_eq_true, if_false, ih]
      congr 1
      cases hq : ks.findIdx? fun p => decide (p = f) with
      | none => simp
      | some j => simp [Nat.add_assoc, Nat.add_comm 1 j]
/-- Where a key stands. -/
theorem run_findKey (f : Bytes) (hf : f.length = 16) (w : World) (es : Array MapEntry) (ks : List Bytes) (hme : es.toList.map (fun e => (e.key, e.val)) = ents ks) (hml : ∀ k ∈ ks, k.length = 16) :
    (Instr.findKey 42 (.agg (vb f).toArray) es.toList).run Try.prog w = .ok ((ks.findIdx? fun k => decide (k = f)).map fun j => (j, Value.bool true)) w := by
  have hfa := run_find_key f hf w es.toList ks 0 hme hml
  simp only [Nat.zero_add] at hfa
  cases hes : es.toList with
  | nil =>
    rw [hes] at hme
    have : ks = [] := by simpa [ents] using hme.symm
    simp [Instr.findKey, Instr.findNow, run_underlying undK16, this]
  | cons e rest =>
    rw [hes] at hfa
    have hn : Instr.findNow (.array 16 5) (.agg (vb f).toArray) (e :: rest) 0 = none := by
      simp only [Instr.findNow, sameNow_array]
    simp only [Instr.findKey, Sem.run_bind, run_underlying undK16, Result.andThen_ok, hn, hfa]
theorem find_mem (ks : List Bytes) (f : Bytes) : (ks.findIdx? fun k => decide (k = f)).isSome = decide (f ∈ ks) := by
  rw [List.findIdx?_isSome, Bool.eq_iff_iff]
  simp
theorem run_lookup_key (f : Bytes) (hf : f.length = 16) (mb : Nat) (es : Array MapEntry) (clock : Nat) (w : World) (hm : w.heap[mb]? = some (.map es clock)) (ks : List Bytes)
    (hme : es.toList.map (fun e => (e.key, e.val)) = ents ks) (hml : ∀ k ∈ ks, k.length = 16) :
    (Instr.lookup 132 (.map (some mb)) (.agg (vb f).toArray) false).run Try.prog w = .ok (.bool (decide (f ∈ ks))) w := by
  have hkey := run_findKey f hf w es ks hme hml
  have hobj : (getObj mb).run Try.prog w = .ok (.map es clock) w := by simp [getObj, Sem.run, hm]
  simp only [Instr.lookup, Sem.run_bind, run_underlying undKm, Result.andThen_ok, hobj, Sem.run_pure, check_key _ 9998 f hf, hkey]
  rw [← find_mem]
  cases hq : ks.findIdx? fun k => decide (k = f) with
  | none => simp
  | some j => simp
theorem sameBits_all (n : Nat) (l : Bytes) : ((vb l).zip (vb l)).all (fun (x, y) => Instr.sameBits n x y) = true := by
  induction l with
  | nil => rfl
  | cons a l ih =>
    show (Instr.sameBits n (.int .u8 (ub a)) (.int .u8 (ub a)) && ((vb l).zip (vb l)).all (fun (x, y) => Instr.sameBits n x y)) = true
    rw [ih, Bool.and_true]
    cases n <;> simp [Instr.sameBits]
theorem keyStays (k : Bytes) (w : World) : (Instr.keyThatStays (.agg (vb k).toArray) (.agg (vb k).toArray)).run Try.prog w = .ok (.agg (vb k).toArray) w := by
  have h : Instr.sameBits 10000 (.agg (vb k).toArray) (.agg (vb k).toArray) = true := by
    show ((vb k).toArray.size == (vb k).toArray.size && ((vb k).toArray.toList.zip (vb k).toArray.toList).all fun (x, y) => Instr.sameBits 9999 x y) = true
    rw [beq_self_eq_true, Bool.true_and]
    exact sameBits_all 9999 k
  unfold Instr.keyThatStays
  rw [h]
  rfl
end Go.Proofs.Ytjjcnijdjhhdoaa
end
/-! Sets of keys as maps, among the things that a call holds. -/
section
namespace Go.Proofs.Ytjjcnijdjhhdoaa
open Go.RowKit Go.QT
def insK (ks : List Bytes) (f : Bytes) : List Bytes := if f ∈ ks then ks else ks ++ [f]
/-- Entries as they come in: each younger than those ahead of it. -/
structure KmOk (es : Array MapEntry) (clock : Nat) (ks : List Bytes) : Prop where
  me : es.toList.map (fun e => (e.key, e.val)) = ents ks
  ml : ∀ k ∈ ks, k.length = 16
  nd : ks.Nodup
  lt : ∀ (i : Nat) (e : MapEntry), es[i]? = some e → e.born < clock
  inc : ∀ (i j : Nat) (e e' : MapEntry), es[i]? = some e → es[j]? = some e' → e.born = e'.born → i = j
theorem KmOk.empty : KmOk #[] 0 [] := ⟨rfl, by simp, by simp, by simp, by simp⟩
def rKM (mb : Nat) (ks : List Bytes) : Res where
  F := fun q => q = mb
  Φ := fun w => ∃ es clock, w.heap[mb]? = some (.map es clock) ∧ KmOk es clock ks
  lt := fun h q hq => by
    obtain ⟨es, clock, hm, _⟩ := h
    subst hq
    exact (Array.getElem?_eq_some_iff.1 hm).1
  keep := fun h _ hk => by
    obtain ⟨es, clock, hm, ho⟩ := h
    exact ⟨es, clock, (hk mb rfl).trans hm, ho⟩
theorem KmOk.push {es : Array MapEntry} {clock : Nat} {ks : List Bytes} (h : KmOk es clock ks) (f : Bytes) (hf : f.length = 16) (hn : f ∉ ks) : KmOk (es.push { key := .agg (vb f).toArray, val := .bool true, born := clock }) (clock + 1) (ks ++ [f]) where
  me := by rw [Array.toList_push, List.map_append, h.me]; simp [ents]
  ml := fun k hk => by
    rcases List.mem_append.1 hk with hk | hk
    · exact h.ml k hk
    · have : k = f := by simpa using hk
      rw [this]; exact hf
  nd := by
    rw [List.nodup_append]
    refine ⟨h.nd, by simp, fun x hx y hy e => ?_⟩
    have : y = f := by simpa using hy
    subst this; subst e; exact hn hx
  lt := fun i e hi => by
    rw [Array.getElem?_push] at hi
    split at hi
    · injection hi with hi; subst hi; exact Nat.lt_succ_self _
    · exact Nat.lt_succ_of_lt (h.lt i e hi)
  inc := fun i j e e' hi hj hb => by
    rw [Array.getElem?_push] at hi hj
    split at hi
    · split at hj
      · omega
      · injection hi with hi; subst hi
        have := h.lt j e' hj
        simp only at hb; omega
    · split at hj
      · injection hj with hj; subst hj
        have := h.lt i e hi
        simp only at hb; omega
      · exact h.inc i j e e' hi hj hb
theorem KmOk.again {es : Array MapEntry} {clock : Nat} {ks : List Bytes} (h : KmOk es clock ks) (f : Bytes) (j : Nat) (hj : ks[j]? = some f) : KmOk (es.modify j fun e => { e with key := .agg (vb f).toArray, val := .bool true }) clock ks where
  me := by
    rw [← h.me]
    apply List.ext_getElem?
    intro i
    rw [List.getElem?_map, List.getElem?_map, Array.getElem?_toList, Array.getElem?_toList, Array.getElem?_modify]
    by_cases e : j = i
    · subst e
      rw [if_pos rfl]
      have hme := congrArg (fun l => l[j]?) h.me
      simp only [List.getElem?_map, ents, hj, Option.map_some, Array.getElem?_toList] at hme
      cases hc : es[j]? with
      | none => rw [hc] at hme; cases hme
      | some x =>
        rw [hc] at hme
        simp only [Option.map_some, Option.some.injEq] at hme ⊢
        exact hme.symm
    · rw [if_neg e]
  ml := h.ml
  nd := h.nd
  lt := fun i e hi => by
    rw [Array.getElem?_modify] at hi
    split at hi
    · rw [Option.map_eq_some_iff] at hi
      obtain ⟨x, hx, rfl⟩ := hi
      exact h.lt i x hx
    · exact h.lt i e hi
  inc := fun i k e e' hi hk hb => by
    have born : ∀ (i : Nat) (e : MapEntry), (es.modify j fun e => { e with key := .agg (vb f).toArray, val := .bool true })[i]? = some e → ∃ x, es[i]? = some x ∧ x.born = e.born := by
      intro i e hi
      rw [Array.getElem?_modify] at hi
      split at hi
      · rw [Option.map_eq_some_iff] at hi
        obtain ⟨x, hx, rfl⟩ := hi
        exact ⟨x, hx, rfl⟩
      · exact ⟨e, hi, rfl⟩
    obtain ⟨x, hx, h1⟩ := born i e hi
    obtain ⟨y, hy, h2⟩ := born k e' hk
    exact h.inc i k x y hx hy (by rw [h1, h2, hb])
section
variable {F0 : Nat → Prop} {w0 w w' : World} {ro rs : List Res} {mb : Nat} {ks : List Bytes} {o : Oper} {a : Act}
theorem e_lookK {F : Res} (hF : F.Φ w) (he : F = rKM mb ks) (f : Bytes) (hf : f.length = 16) (x y : Operand) (ho : o.op = .lookup 132 x y false) (hx : a.eval x = .map (some mb)) (hy : a.eval y = .agg (vb f).toArray) (b : Bool) (hb : decide (f ∈ ks) = b) :
    (execOp a.eval o).run Try.prog w = .ok (.value (.bool b)) w := by
  subst he; subst hb
  obtain ⟨es, clock, hm, ho'⟩ := hF
  unfold execOp
  simp only [ho, hx, hy, Sem.run_bind, run_lookup_key f hf mb es clock w hm ks ho'.me ho'.ml, Result.andThen_ok, Sem.run_pure]
theorem run_updK (f : Bytes) (hf : f.length = 16) (h : (rKM mb ks).Φ w) : ∃ w', (Instr.mapUpdate 132 (.map (some mb)) (.agg (vb f).toArray) (.bool true)).run Try.prog w = .ok () w' ∧ (rKM mb (insK ks f)).Φ w' ∧ Fr (fun q => q = mb) w w' := by
  obtain ⟨es, clock, hm, hk⟩ := h
  have hkey := run_findKey f hf w es ks hk.me hk.ml
  have hobj : (getObj mb).run Try.prog w = .ok (.map es clock) w := by simp [getObj, Sem.run, hm]
  have hlt : mb < w.heap.size := (Array.getElem?_eq_some_iff.1 hm).1
  have fr : ∀ ob : Obj, Fr (fun q => q = mb) w { w with heap := w.heap.setIfInBounds mb ob } := fun ob =>
    ⟨rfl, rfl, rfl, by simp, fun q _ hq => by
      have : mb ≠ q := fun e => hq e.symm
      simp [this]⟩
  cases hq : ks.findIdx? fun k => decide (k = f) with
  | none =>
    rw [hq] at hkey
    have hn : f ∉ ks := by
      have := find_mem ks f
      rw [hq] at this
      simpa using this.symm
    refine ⟨{ w with heap := w.heap.setIfInBounds mb (.map (es.push { key := .agg (vb f).toArray, val := .bool true, born := clock }) (clock + 1)) }, ?_, ⟨es.push { key := .agg (vb f).toArray, val := .bool true, born := clock }, clock + 1, by simp [hlt], ?_⟩, fr _⟩
    · simp only [Instr.mapUpdate, Sem.run_bind, run_underlying undKm, Result.andThen_ok, hobj, check_key _ 9998 f hf, hkey]
      simp [setObj, Sem.run, hm]
    · unfold insK; rw [if_neg hn]; exact hk.push f hf hn
  | some j =>
    rw [hq] at hkey
    obtain ⟨hj, hj2, _⟩ := List.findIdx?_eq_some_iff_getElem.1 hq
    have hjf : ks[j] = f := by simpa using hj2
    have hin : f ∈ ks := hjf ▸ List.getElem_mem hj
    have hkj : ks[j]? = some f := by rw [List.getElem?_eq_getElem hj, hjf]
    have hej : ∃ e, es[j]? = some e ∧ e.key = .agg (vb f).toArray := by
      have hme := congrArg (fun l => l[j]?) hk.me
      simp only [List.getElem?_map, ents, hkj, Option.map_some, Array.getElem?_toList] at hme
      cases hc : es[j]? with
      | none => rw [hc] at hme; cases hme
      | some x =>
        rw [hc] at hme
        simp only [Option.map_some, Option.some.injEq, Prod.mk.injEq] at hme
        exact ⟨x, rfl, hme.1⟩
    obtain ⟨e0, he0, hk0⟩ := hej
    refine ⟨{ w with heap := w.heap.setIfInBounds mb (.map (es.modify j fun e => { e with key := .agg (vb f).toArray, val := .bool true }) clock) }, ?_, ⟨es.modify j fun e => { e with key := .agg (vb f).toArray, val := .bool true }, clock, by simp [hlt], ?_⟩, fr _⟩
    · simp only [Instr.mapUpdate, Sem.run_bind, run_underlying undKm, Result.andThen_ok, hobj, check_key _ 9998 f hf, hkey, Option.map_some, he0, hk0, Option.getD_some, keyStays]
      simp [setObj, Sem.run, hm]
    · unfold insK; rw [if_pos hin]; exact hk.again f j hkj
theorem x_updK (h : Hp F0 w0 w ro rs) (i : Nat) (hi : rs[i]? = some (rKM mb ks)) (f : Bytes) (hf : f.length = 16) (x y z : Operand) (ho : o.op = .mapUpdate 132 x y z) (hx : a.eval x = .map (some mb)) (hy : a.eval y = .agg (vb f).toArray) (hz : a.eval z = .bool true) :
    OpTo Try.prog o a w (fun _ w' => Hp F0 w0 w' ro (rs.set i (rKM mb (insK ks f)))) := by
  obtain ⟨w', hr, hk, hf'⟩ := run_updK f hf (h.own i _ hi)
  refine OpTo.runs (w' := w') ?_ (h.upd i hi hf' (rKM mb (insK ks f)) hk (fun q hq => .inl hq))
  unfold execOp
  simp only [ho, hx, hy, hz, Sem.run_bind, hr, Result.andThen_ok, Sem.run_pure]
theorem x_makeK (h : Hp F0 w0 w ro rs) (ho : o.op = .makeMap 132 none) :
    OpTo Try.prog o a w (fun v w' => ∃ mb, v = .map (some mb) ∧ Hp F0 w0 w' ro (rKM mb [] :: rs)) := by
  refine OpTo.run (.map (some w.heap.size)) (w' := w.alloc (.map #[] 0)) ?_ ⟨_, rfl, h.newS ((Below.refl _ _).alloc (Nat.le_refl _) _) (rKM w.heap.size []) ⟨#[], 0, heap_alloc_new w _, KmOk.empty⟩ (fun q hq => by rw [show q = _ from hq]; exact Nat.le_refl _)⟩
  have h1 : (Instr.makeMap 132 none).run Try.prog w = .ok (.map (some w.heap.size)) (w.alloc (.map #[] 0)) := rfl
  unfold execOp
  simp only [ho, Option.map_none, Sem.run_bind, h1, Result.andThen_ok, Sem.run_pure]
end
end Go.Proofs.Ytjjcnijdjhhdoaa
end
