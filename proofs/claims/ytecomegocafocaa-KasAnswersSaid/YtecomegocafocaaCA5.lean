/- Laws on the short bytes of a number, and on a value's first bytes. -/
import Derived.Test.YtecomegocafocaaCA4
set_option maxRecDepth 100000
set_option maxHeartbeats 4000000
namespace Go.Proofs.Ytecomegocafocaa
section
open Go.RowKit Go.QT
section
variable {P : Program} {o : Oper} {a : Act} {w w' : World} {F0 : Nat -> Prop} {w0 : World} {ro rs : List Res}
/-- What a call leaves that answers new bytes, a part of a row of its own. -/
def SbPost (w : World) (l : Bytes) (e : Ending) (w' : World) : Prop := ∃ v, e = .returned v /\ SB w' v l /\ Below w.heap.size w w' /\ ∀ q, v.ownBlock = some q -> w.heap.size <= q
theorem x_sb (h : Hp F0 w0 w ro rs) {l : Bytes} (fn : FuncId) (al : List Value) (hp : pureVal P (execOp a.eval o) = some (.enter fn al.toArray)) (hc : Calls P fn al.toArray w (SbPost w l)) (r : Bytes) (n : Nat) (hr : r = l) (hn : n = r.length) :
   OpTo P o a w (fun u w' => ∃ A cc, u = .slice A n cc /\ Hp F0 w0 w' (rSB (.slice A n cc) r :: ro) rs) :=
 OpTo.enter fn al hp hc fun e w' hq => by
   subst hr; subst hn
   obtain ⟨v, he, hs, hb, hF⟩ := hq
   obtain ⟨A, cc, rfl, _⟩ := id hs
   exact ⟨_, he, A, cc, rfl, h.newR hb (rSB _ r) hs (fun q hq => hF q hq.2)⟩
end
section
variable {F0 : Nat -> Prop} {w0 w : World} {ro rs : List Res} {v : Value} {l : Bytes}
/-- Own bytes, of which a part is read from here on. -/
theorem Hp.obSB (h : Hp F0 w0 w ro rs) (i : Nat) (hi : rs[i]? = some (rOB v l)) : Hp F0 w0 w ro (rs.set i (rSB v l)) :=
 h.upd i hi (Fr.refl _ _) (rSB v l) (OB.sb (h.own i _ hi)) (fun _ hq => .inl hq.2)
theorem Hp.sbCut (h : Hp F0 w0 w ro rs) (i : Nat) (hi : rs[i]? = some (rSB v l)) (k : Nat) (hk : k <= l.length) : ∃ A c, cutS v k l.length = .slice A (l.drop k).length c /\ Hp F0 w0 w ro (rs.set i (rSB (.slice A (l.drop k).length c) (l.drop k))) := by
 have hs := SB.cut (h.own i _ hi) k l.length (Nat.le_refl _)
 rw [List.take_length] at hs
 obtain ⟨A, c, e, _⟩ := id hs
 refine ⟨A, c, e, ?_⟩
 rw [← e]
 refine h.upd i hi (Fr.refl _ _) (rSB _ _) hs (fun q hq => .inl ⟨?_, ?_⟩)
 · rintro rfl; exact hq.1 (by simp)
 · have h2 : (cutS v k l.length).ownBlock = some q := hq.2
   rw [cutS_block] at h2; exact h2
theorem sbpost_sb {L : Bytes} (h : Hp (fun _ => False) w0 w ro rs) (i : Nat) (hi : rs[i]? = some (rSB v l)) (hne : l ≠ []) (e : l = L) : SbPost w0 L (.returned v) w := by
 subst e
 refine ⟨v, rfl, h.own i _ hi, h.below0, fun q hq => ?_⟩
 rcases h.mine i _ hi q ⟨hne, hq⟩ with h3 | h3
 · exact h3.elim
 · exact h3
end
end
section
open Go.RowKit Go.QT
section
variable {P : Program} {o : Oper} {a : Act} {w w' : World} {F0 : Nat -> Prop} {w0 : World} {ro rs : List Res}
/-- A call that leaves new bytes. -/
theorem x_bytesE (h : Hp F0 w0 w ro rs) {l : Bytes} (fn : FuncId) (al : List Value) (hp : pureVal P (execOp a.eval o) = some (.enter fn al.toArray)) (hc : Calls P fn al.toArray w (BPost w l)) (r : Bytes) (n : Nat) (hr : r = l) (hn : n = r.length) :
   OpTo P o a w (fun u w' => ∃ A cc, u = .slice A n cc /\ Hp F0 w0 w' ro (rOB (.slice A n cc) r :: rs)) := by
 subst hr; subst hn
 refine (x_bytes h fn al hp hc).mono fun u w' hq => ?_
 obtain ⟨A, cc, rfl, h'⟩ := hq
 exact ⟨A, cc, rfl, h'⟩
theorem bpost_of {L r : Bytes} {v : Value} (h : Hp (fun _ => False) w0 w ro rs) (i : Nat) (hi : rs[i]? = some (rOB v r)) (e : r = L) : BPost w0 L (.returned v) w := by
 subst e
 have ho : OB w 0 v r := h.own i _ hi
 refine ⟨v, rfl, ⟨ho.1, ?_⟩, h.below0⟩
 rcases ho.2 with h2 | ⟨g, cap, cur, rfl, _, rest⟩
 · exact .inl h2
 · refine .inr ⟨g, cap, cur, rfl, ?_, rest⟩
   rcases h.mine i _ hi g rfl with h3 | h3
   · exact h3.elim
   · exact h3
theorem bs2 {g : Nat} {u1 u2 : Value} {l1 l2 : Bytes} (hb : Blk w g 22 [u1, u2]) (h1 : SB w u1 l1) (h2 : SB w u2 l2) : SS w (.slice (some ⟨g, 0, none⟩) 2 2) [l1, l2] :=
 ⟨_, 2, rfl, Nat.le_refl _, by decide, fun i hi => by
   match i, hi with
   | 0, _ => exact ⟨g, 0, u1, rfl, hb.lt, hb.cell 0, h1⟩
   | 1, _ => exact ⟨g, 0, u2, rfl, hb.lt, hb.cell 1, h2⟩⟩
end
end
section
open Go.RowKit Go.QT
theorem wrap_u64_is {x : Int} (h0 : 0 ≤ x) (h1 : x < 18446744073709551616) : Value.int .u64 (IntKind.u64.wrap x) = Value.int .u64 x := by
 congr 1; rw [IntKind.wrap_u64]; omega
section
variable {P : Program} {o : Oper} {a : Act} {w w' : World}
/-- The place of an element of an array. -/
theorem e_idxA (t : TypeId) (x y : Operand) (ho : o.op = .indexAddr t x y) (k : IntKind) (g off i n : Nat) (hx : a.eval x = pt g off) (hy : a.eval y = .int k (i : Int)) (hi : i < n) (E : TypeId) (ht : P.underlying t = some (.array n E)) (hE : pureVal P (sizeOf E) = some 1) (r : Nat) (hr : off + i = r) (W : World) :
   (execOp a.eval o).run P W = .ok (.value (pt g r)) W := by
 subst hr
 have h0 : (0 : Int) ≤ i ∧ (i : Int) < n := ⟨by omega, by omega⟩
 have h1 : (Instr.indexAt t (pt g off) (.int k (i : Int))).run P W = .ok (pt g (off + i)) W := by
   by_cases hz : i = 0
   · subst hz; simp [Instr.indexAt, asIntOf, run_underlying ht, hi, pureVal_run hE, pt, Addr.add, Instr.sureAddr]
   · simp [Instr.indexAt, asIntOf, run_underlying ht, hi, pureVal_run hE, pt, Addr.add, Instr.sureAddr, hz]
 unfold execOp
 simp only [ho, hx, hy, Sem.run_bind, h1, Result.andThen_ok, Sem.run_pure]
end
theorem eIa {P : Program} {o : Oper} {a : Act} (t : TypeId) (x y : Operand) (k : IntKind) (g off i n : Nat) (E : TypeId) (r : Nat) {W : World} (ho : o.op = .indexAddr t x y := by kernel_rfl) (hx : a.eval x = pt g off := by kernel_rfl) (hy : a.eval y = .int k (i : Int) := by kernel_rfl) (hi : i < n := by omega) (ht : P.underlying t = some (.array n E) := by kernel_rfl) (hE : pureVal P (sizeOf E) = some 1 := by kernel_rfl) (hr : off + i = r := by omega) :
    (execOp a.eval o).run P W = .ok (.value (pt g r)) W := e_idxA t x y ho k g off i n hx hy hi E ht hE r hr W
end
section
open Go.RowKit Go.QT
theorem ub0_eq {x : UInt8} (h : x = 0) : (ub x == 0) = true := by subst h; unfold ub; rfl
theorem ub0_ne {x : UInt8} (h : x ≠ 0) : (ub x == 0) = false := by
 have : ub x ≠ ub 0 := fun e => h (by unfold ub at e; exact UInt8.toNat_inj.1 (by simpa using e))
 have h0 : ub 0 = 0 := by unfold ub; rfl
 rw [h0] at this
 simpa using this
section
variable {P : Program} {o : Oper} {a : Act} {w w' : World} {F0 : Nat -> Prop} {w0 : World} {ro rs : List Res}
/-- A call that leaves nothing. -/
def DPost (w : World) (v : Value) (e : Ending) (w' : World) : Prop := e = .returned v /\ Below w.heap.size w w'
theorem x_dp (h : Hp F0 w0 w ro rs) {v : Value} (fn : FuncId) (al : List Value) (hp : pureVal P (execOp a.eval o) = some (.enter fn al.toArray)) (hc : Calls P fn al.toArray w (DPost w v)) :
   OpTo P o a w (fun u w' => u = v /\ Hp F0 w0 w' ro rs) :=
 OpTo.enter fn al hp hc fun _e _w' hq => ⟨_, hq.1, rfl, h.below hq.2⟩
end
theorem bz_eq {n : Nat} (h : n = 0) : Value.bool (((n : Nat) : Int) == 0) = Value.bool true := by subst h; rfl
theorem bz_ne {n : Nat} (h : n ≠ 0) : Value.bool (((n : Nat) : Int) == 0) = Value.bool false := by
 congr 1
 have : ¬ ((n : Int) = 0) := by omega
 simpa using this
theorem rightL_all : ∀ (l : List DVal) (d : Nat), (∀ x ∈ l, rightV x d = true) -> rightL l d = true
 | [], _, _ => by simp [rightL]
 | x :: r, d, h => by
   rw [rightL, h x (by simp), rightL_all r d fun y hy => h y (by simp [hy])]; rfl
theorem rightL_no : ∀ (l : List DVal) (d : Nat) (x : DVal), x ∈ l -> rightV x d = false -> rightL l d = false
 | [], _, _, h, _ => by cases h
 | y :: r, d, x, h, h0 => by
   rw [rightL]
   rcases List.mem_cons.1 h with rfl | h
   · rw [h0]; rfl
   · rw [rightL_no r d x h h0]; simp
section
variable {k t n d : Nat} {b : Bytes} {ts : List DVal}
theorem rv_bad (h : 30 < t ∨ 8 < d) : rightV (.mk k t n b ts) d = false := by
 rw [rightV]
 rcases h with h | h
 · rw [decide_eq_false (by omega : ¬ t <= 30)]; rfl
 · rw [decide_eq_false (by omega : ¬ d <= 8), Bool.and_false]; rfl
theorem rv_in (ht : t <= 30) (hd : d <= 8) : rightV (.mk k t n b ts) d = (if k = 0 then b.isEmpty && ts.isEmpty else if k = 1 then decide (n = 0) && ts.isEmpty else if k = 2 then rightL ts (d + 1) && decide (n = 0) && b.isEmpty else false) := by
 rw [rightV, decide_eq_true ht, decide_eq_true hd, Bool.true_and, Bool.true_and]
theorem emp_t {α : Type} {l : List α} (h : l.length = 0) : l.isEmpty = true := by rw [List.eq_nil_of_length_eq_zero h]; rfl
theorem emp_f {α : Type} {l : List α} (h : l.length ≠ 0) : l.isEmpty = false := by cases l with | nil => exact absurd rfl h | cons x r => rfl
theorem rv0_t (ht : t <= 30) (hd : d <= 8) (h1 : b.length = 0) (h2 : ts.length = 0) (hk : k = 0) : rightV (.mk k t n b ts) d = true := by subst hk; rw [rv_in ht hd, if_pos rfl, emp_t h1, emp_t h2]; rfl
theorem rv0_f (ht : t <= 30) (hd : d <= 8) (h : b.length ≠ 0 ∨ ts.length ≠ 0) (hk : k = 0) : rightV (.mk k t n b ts) d = false := by
 subst hk; rw [rv_in ht hd, if_pos rfl]; rcases h with h | h <;> simp only [emp_f h, Bool.false_and, Bool.and_false]
theorem rv1_t (ht : t <= 30) (hd : d <= 8) (h1 : n = 0) (h2 : ts.length = 0) (hk : k = 1) : rightV (.mk k t n b ts) d = true := by subst hk; rw [rv_in ht hd, if_neg (by decide), if_pos rfl, decide_eq_true h1, emp_t h2]; rfl
theorem rv1_f (ht : t <= 30) (hd : d <= 8) (h : n ≠ 0 ∨ ts.length ≠ 0) (hk : k = 1) : rightV (.mk k t n b ts) d = false := by
 subst hk; rw [rv_in ht hd, if_neg (by decide), if_pos rfl]
 rcases h with h | h
 · simp only [decide_eq_false h, Bool.false_and]
 · simp only [emp_f h, Bool.and_false]
theorem rv2_t (ht : t <= 30) (hd : d <= 8) (hL : rightL ts (d + 1) = true) (h1 : n = 0) (h2 : b.length = 0) (hk : k = 2) : rightV (.mk k t n b ts) d = true := by subst hk; rw [rv_in ht hd, if_neg (by decide), if_neg (by decide), if_pos rfl, hL, decide_eq_true h1, emp_t h2]; rfl
theorem rv2_f (ht : t <= 30) (hd : d <= 8) (h : n ≠ 0 ∨ b.length ≠ 0) (hk : k = 2) : rightV (.mk k t n b ts) d = false := by
 subst hk; rw [rv_in ht hd, if_neg (by decide), if_neg (by decide), if_pos rfl]
 rcases h with h | h
 · simp only [decide_eq_false h, Bool.and_false, Bool.false_and]
 · simp only [emp_f h, Bool.and_false]
theorem rv2_no (ht : t <= 30) (hd : d <= 8) (hL : rightL ts (d + 1) = false) (hk : k = 2) : rightV (.mk k t n b ts) d = false := by subst hk; rw [rv_in ht hd, if_neg (by decide), if_neg (by decide), if_pos rfl, hL]; rfl
theorem rv_k (ht : t <= 30) (hd : d <= 8) (h0 : k ≠ 0) (h1 : k ≠ 1) (h2 : k ≠ 2) : rightV (.mk k t n b ts) d = false := by
 rw [rv_in ht hd, if_neg h0, if_neg h1, if_neg h2]
theorem rightL_upto {i d : Nat} (h : i = ts.length) (hr : ∀ (j : Nat) (x : DVal), j < i -> ts[j]? = some x -> rightV x d = true) : rightL ts d = true :=
 rightL_all ts d fun x hx => by
   obtain ⟨j, hj⟩ := List.getElem?_of_mem hx
   exact hr j x (by have := (List.getElem?_eq_some_iff.1 hj).1; omega) hj
end
end
section
open Go.RowKit Go.QT
def SBF (F : Nat -> Prop) (w : World) (v : Value) (l : Bytes) : Prop := SB w v l /\ (l ≠ [] -> ∀ q, v.ownBlock = some q -> F q)
def RVF (F : Nat -> Prop) (w : World) (sz : Nat) (A : Option Addr) (c : Nat) (xs : List (List Value)) : Prop := RV w sz A c xs /\ (xs ≠ [] -> ∀ q, ownA A = some q -> F q)
/-- The cells cs are the value t; what they point to lies in the blocks F. -/
inductive DVR (F : Nat -> Prop) (w : World) : List Value -> DVal -> Prop
 | mk (k t n : Nat) (bv : Value) (b : Bytes) (A : Option Addr) (c : Nat) (xs : List (List Value)) (ts : List DVal) (hn : n < 18446744073709551616) (hb : SBF F w bv b) (hx : RVF F w 5 A c xs) (hl : xs.length = ts.length)
     (hs : ∀ (i : Nat) (x : List Value) (u : DVal), xs[i]? = some x -> ts[i]? = some u -> DVR F w x u) :
     DVR F w [.int .i64 (k : Int), .int .i64 (t : Int), .int .u64 (n : Int), bv, .slice A ts.length c] (.mk k t n b ts)
theorem SBF.keep {F : Nat -> Prop} {w w' : World} {v : Value} {l : Bytes} (h : SBF F w v l) (hs : w.heap.size <= w'.heap.size) (hk : ∀ q, F q -> w'.heap[q]? = w.heap[q]?) : SBF F w' v l :=
 ⟨(rSB v l).keep h.1 hs (fun q hq => hk q (h.2 hq.1 q hq.2)), h.2⟩
theorem RVF.keep {F : Nat -> Prop} {w w' : World} {sz : Nat} {A : Option Addr} {c : Nat} {xs : List (List Value)} (h : RVF F w sz A c xs) (hs : w.heap.size <= w'.heap.size) (hk : ∀ q, F q -> w'.heap[q]? = w.heap[q]?) : RVF F w' sz A c xs :=
 ⟨(rRV sz A c xs).keep h.1 hs (fun q hq => hk q (h.2 hq.1 q hq.2)), h.2⟩
theorem DVR.keep {F : Nat -> Prop} {w w' : World} {cs : List Value} {v : DVal} (h : DVR F w cs v) (hs : w.heap.size <= w'.heap.size) (hk : ∀ q, F q -> w'.heap[q]? = w.heap[q]?) : DVR F w' cs v := by
 induction h with
 | mk k t n bv b A c xs ts hn hb hx hl _ ih => exact .mk k t n bv b A c xs ts hn (hb.keep hs hk) (hx.keep hs hk) hl ih
theorem DVR.mono {F G : Nat -> Prop} {w : World} {cs : List Value} {v : DVal} (h : DVR F w cs v) (hFG : ∀ q, F q -> G q) : DVR G w cs v := by
 induction h with
 | mk k t n bv b A c xs ts hn hb hx hl _ ih => exact .mk k t n bv b A c xs ts hn ⟨hb.1, fun h q hq => hFG q (hb.2 h q hq)⟩ ⟨hx.1, fun h q hq => hFG q (hx.2 h q hq)⟩ hl ih
/-- A value. -/
def rDV (F : Nat -> Prop) (cs : List Value) (v : DVal) : Res where
 F := F
 Φ := fun w => (∀ q, F q -> q < w.heap.size) /\ DVR F w cs v
 lt := fun h => h.1
 keep := fun h hs hk => ⟨fun q hq => Nat.lt_of_lt_of_le (h.1 q hq) hs, h.2.keep hs hk⟩
/-- The values of a list. -/
def rDL (F : Nat -> Prop) (xs : List (List Value)) (ts : List DVal) : Res where
 F := F
 Φ := fun w => (∀ q, F q -> q < w.heap.size) /\ ∀ (i : Nat) (x : List Value) (u : DVal), xs[i]? = some x -> ts[i]? = some u -> DVR F w x u
 lt := fun h => h.1
 keep := fun h hs hk => ⟨fun q hq => Nat.lt_of_lt_of_le (h.1 q hq) hs, fun i x u hx hu => (h.2 i x u hx hu).keep hs hk⟩
theorem dv_open {F : Nat -> Prop} {w : World} {cs : List Value} {v : DVal} (h : (rDV F cs v).Φ w) : ∃ B d A c xs, cs = [.int .i64 (v.kind : Int), .int .i64 (v.tag : Int), .int .u64 (v.n : Int), .slice B v.b.length d, .slice A v.l.length c] /\
   SB w (.slice B v.b.length d) v.b /\ RV w 5 A c xs /\ xs.length = v.l.length /\ v.n < 18446744073709551616 /\ (∀ q, (rSB (.slice B v.b.length d) v.b).F q -> F q) /\ (rDL F xs v.l).Φ w := by
 obtain ⟨hF, h⟩ := h
 cases h with
 | mk k t n bv b A c xs ts hn hb hx hl hs =>
   obtain ⟨B, d, rfl, _⟩ := id hb.1
   exact ⟨B, d, A, c, xs, rfl, hb.1, hx.1, hl, hn, fun q hq => hb.2 hq.1 q hq.2, hF, hs⟩
theorem dl_at {F : Nat -> Prop} {w : World} {xs : List (List Value)} {ts : List DVal} (h : (rDL F xs ts).Φ w) (hl : xs.length = ts.length) (i : Nat) (hi : i < ts.length) : ∃ x u, xs[i]? = some x /\ ts[i]? = some u /\ (rDV F x u).Φ w :=
 ⟨xs[i]'(by omega), ts[i], List.getElem?_eq_getElem _, List.getElem?_eq_getElem _, h.1, h.2 i _ _ (List.getElem?_eq_getElem _) (List.getElem?_eq_getElem _)⟩
theorem rvf_nil (F : Nat -> Prop) (w : World) (sz c : Nat) (hc : c <= maxLen) (A : Option Addr) : RVF F w sz A c [] := ⟨⟨Nat.zero_le _, hc, by simp, fun h => absurd rfl h⟩, fun h => absurd rfl h⟩
theorem sbf_nil (F : Nat -> Prop) (w : World) : SBF F w (.slice none 0 0) [] := ⟨SB.nil _ 0 (by unfold maxLen; omega) none, fun h => absurd rfl h⟩
/-- A list. -/
theorem dv_seq {w : World} {F : Nat -> Prop} {A : Option Addr} {c t : Nat} {xs : List (List Value)} {ts : List DVal} (hx : RVF F w 5 A c xs) (hl : xs.length = ts.length) (hs : (rDL F xs ts).Φ w) :
   (rDV F [.int .i64 2, .int .i64 (t : Int), .int .u64 0, .slice none 0 0, .slice A ts.length c] (.mk 2 t 0 [] ts)).Φ w :=
 ⟨hs.1, .mk 2 t 0 _ [] A c xs ts (by omega) (sbf_nil _ _) hx hl hs.2⟩
end
section
open Go.RowKit Go.QT
theorem short_any (n : Nat) (_hn : n < 18446744073709551616) (w : World) : Calls Try.prog 86 #[.int .u64 (n : Int)] w (SbPost w (shortB n)) := by
 have h0 := Hp.nil (fun _ => False) w
 refine enter 17 Try.func86 rfl rfl ?_
 refine wp_reset 18 [(0, (Value.int .u64 ((n : Int))))] (fun x0 => ?_)
 refine wR fun K1 hK1 => ?_
 refine wq_p 1 [(2, nS)] ?_
 refine wE hK1 (wR fun K2 hK2 => ?_)
 refine wq_p 1 [(4, (Value.int .u64 ((n : Int))))] ?_
 refine wT 5 (x_bytesE h0 35 [(Value.int .u64 ((n : Int)))] (by kernel_rfl) (put_any (n) _) (put8 (n)) (8) rfl rfl) ?_
 rintro _ w3 ⟨A3, c3, rfl, h3⟩
 refine wq_p 1 [(3, (Value.slice A3 8 c3))] ?_
 refine wE hK2 (wp_seq_k fun K4 hK4 => wp_block ?_)
 have h5 := h3.obSB 0 rfl
 refine wp_loopm (fun mM xX aA wL => ∃ (l : Bytes) (Av : Option Addr) (cv : Nat), (stripZ l = shortB n) /\ (0 < (l : Bytes).length) /\ ((l : Bytes).length <= 8) /\ mM = (l : Bytes).length /\ aA = patch xX 18 [(0, (Value.int .u64 ((n : Int)))), (2, (Value.slice none 0 0)), (3, (Value.slice Av ((l : Bytes).length) cv))] /\ Hp (fun _ => False) w wL [] [rSB ((Value.slice Av ((l : Bytes).length) cv)) l]) ⟨_, ((put8 n)), A3, c3, rfl, (by rw [put8_len]; decide), (by rw [put8_len]; decide), rfl, (pEq 18), h5.sel [0] [] (by kernel_rfl) rfl rfl⟩ ?_
 rintro _ x6 _ w6 ⟨l, Av, cv, hl, hp0, h8, rfl, rfl, h6⟩
 refine wp_seq_k fun K7 hK7 => wp_seq_k fun K8 hK8 => ?_
 rcases (show (1 < l.length /\ gb l 0 = 0) ∨ (¬ 1 < l.length) ∨ (1 < l.length /\ gb l 0 ≠ 0) by by_cases c1 : 1 < l.length <;> by_cases c2 : gb l 0 = 0 <;> simp [c1, c2]) with ⟨hq1, hq2⟩ | hq | ⟨hq1, hq2⟩
 ·
  refine reg_lit ?_
  refine wq_p 2 [(7, (D (((l : Bytes).length : Int)))), (6, (Value.slice Av ((l : Bytes).length) cv))] (wV 8 (.bool true) (eqI (Value.bool (decide (((l : Bytes).length : Int) > 1))) (by simp; omega)) (wq_p 2 [(10, (Value.slice Av ((l : Bytes).length) cv)), (9, I)] (wV 11 (eAt Av (0 * 1 + 0)) (eIx (SB.rvn (h6.at_ 0 rfl)).2 0 ((l : Bytes).length) (SB.rvn (h6.at_ 0 rfl)).1 (by omega) 22 (.tmp 10) (.const O) .i64 5) ?_)))
  refine wV 12 (Value.int .u8 (ub (gb (l) (0)))) (eEl (SB.rvn (h6.at_ 0 rfl)).2 0 0 ([(Value.int .u8 (ub (gb (l) (0))))]) (bx_get _ _ (by omega)) 5 (.tmp 11) (Value.int .u8 (ub (gb (l) (0))))) (wV 13 (.bool true) (eqI (Value.bool ((ub (gb (l) (0))) == 0)) (congrArg Value.bool (ub0_eq hq2))) (wq_p 1 [(14, I)] ?_))
  refine wE hK8 (cT (wp_skip (seq_n hK7 (wp_block (reg_lit ?_)))))
  refine wq_p 1 [(15, (Value.slice Av ((l : Bytes).length) cv))] ?_
  obtain ⟨A10, c10, e10, h10⟩ := h6.sbCut 0 rfl 1 (by omega)
  refine wV 16 (Value.slice A10 ((l.drop 1 : Bytes).length) c10) (e10 ▸ e_cut_l (h6.at_ 0 rfl) (.tmp 15) (.const (D 1)) (by kernel_rfl) (by kernel_rfl) .i64 1 (by kernel_rfl) (by omega) _) (wq_p 1 [(3, (Value.slice A10 ((l.drop 1 : Bytes).length) c10))] ?_)
  refine wl_end rfl (blk_n ?_)
  refine ⟨((l.drop 1) : Bytes).length, (by rw [List.length_drop]; omega), ((l.drop 1)), A10, c10, (by rw [stripZ_step l hq1 hq2]; exact hl), (by rw [List.length_drop]; omega), (by rw [List.length_drop]; omega), rfl, (pEq 18), h10.sel [0] [] (by kernel_rfl) rfl rfl⟩
 ·
  refine reg_lit ?_
  refine wq_p 2 [(7, (D (((l : Bytes).length : Int)))), (6, (Value.slice Av ((l : Bytes).length) cv))] (wV 8 (.bool false) (eqI (Value.bool (decide (((l : Bytes).length : Int) > 1))) (by simp; omega)) (wq_p 4 [(12, undef), (11, undef), (10, undef), (9, V)] (wq_p 1 [(13, undef)] ?_)))
  refine wq_p 1 [(14, V)] ?_
  refine wE hK8 (cF (wp_exit (seq_e (seq_e (blk_e (seq_n hK4 (wR fun K11 hK11 => ?_)))))))
  refine wq_p 2 [(2, (Value.slice Av ((l : Bytes).length) cv)), (17, (Value.slice Av ((l : Bytes).length) cv))] ?_
  refine wE hK11 (wp_ret ?_)
  refine post_1 rfl (by kernel_rfl) (rtm (Value.slice Av ((l : Bytes).length) cv)) ?_
  exact sbpost_sb h6 0 rfl (by rintro rfl; cases hp0) (by rw [← hl]; exact (stripZ_end l (by rintro ⟨c1, c2⟩; first | exact hq c1 | exact hq2 c2)).symm)
 ·
  refine reg_lit ?_
  refine wq_p 2 [(7, (D (((l : Bytes).length : Int)))), (6, (Value.slice Av ((l : Bytes).length) cv))] (wV 8 (.bool true) (eqI (Value.bool (decide (((l : Bytes).length : Int) > 1))) (by simp; omega)) (wq_p 2 [(10, (Value.slice Av ((l : Bytes).length) cv)), (9, I)] (wV 11 (eAt Av (0 * 1 + 0)) (eIx (SB.rvn (h6.at_ 0 rfl)).2 0 ((l : Bytes).length) (SB.rvn (h6.at_ 0 rfl)).1 (by omega) 22 (.tmp 10) (.const O) .i64 5) ?_)))
  refine wV 12 (Value.int .u8 (ub (gb (l) (0)))) (eEl (SB.rvn (h6.at_ 0 rfl)).2 0 0 ([(Value.int .u8 (ub (gb (l) (0))))]) (bx_get _ _ (by omega)) 5 (.tmp 11) (Value.int .u8 (ub (gb (l) (0))))) (wV 13 (.bool false) (eqI (Value.bool ((ub (gb (l) (0))) == 0)) (congrArg Value.bool (ub0_ne hq2))) (wq_p 1 [(14, V)] ?_))
  refine wE hK8 (cF (wp_exit (seq_e (seq_e (blk_e (seq_n hK4 (wR fun K12 hK12 => ?_)))))))
  refine wq_p 2 [(2, (Value.slice Av ((l : Bytes).length) cv)), (17, (Value.slice Av ((l : Bytes).length) cv))] ?_
  refine wE hK12 (wp_ret ?_)
  refine post_1 rfl (by kernel_rfl) (rtm (Value.slice Av ((l : Bytes).length) cv)) ?_
  exact sbpost_sb h6 0 rfl (by rintro rfl; cases hp0) (by rw [← hl]; exact (stripZ_end l (by rintro ⟨c1, c2⟩; first | exact hq c1 | exact hq2 c2)).symm)
end
section
open Go.Value renaming int -> iV, slice -> lV, string -> sV, bool -> bV, agg -> aV
open Go.RowKit Go.QT
theorem dnum_any (n : Nat) (w : World) : Calls Try.prog 77 #[.int .u64 (n : Int)] w (DPost w (.agg #[.int .i64 0, .int .i64 0, .int .u64 (n : Int), .slice none 0 0, .slice none 0 0])) := by
 have h0 := Hp.nil (fun _ => False) w
 refine enter 4 Try.func77 rfl rfl ?_
 refine wp_reset 5 [(0, (iV .u64 ((n : Int))))] (fun x0 => ?_)
 refine wR fun K1 hK1 => ?_
 refine wT 2 (xN h0 106 ([O, O, (iV .u64 0), nS, nS])) ?_
 rintro _ w2 ⟨g2, rfl, h2⟩
 refine wE hK1 (wR fun K3 hK3 => ?_)
 refine wq_p 2 [(4, (aV ([O, O, (iV .u64 ((n : Int))), nS, nS]).toArray)), (3, (iV .u64 ((n : Int))))] ?_
 refine wq_to none (xSs h2 0 106 (.tmp 2) (.tmp 4) 0 ([O, O, (iV .u64 ((n : Int))), nS, nS]) ([O, O, (iV .u64 ((n : Int))), nS, nS])) ?_
 rintro _ w4 h4
 refine wE hK3 (wp_ret ?_)
 refine post_1 rfl (by kernel_rfl) (rce (h4.at_ 0 rfl)) ?_
 exact ⟨rfl, h4.below0⟩
theorem dseq_any (t : Int) (A : Option Addr) (m c : Nat) (w : World) : Calls Try.prog 50 #[.int .i64 t, .slice A m c] w (DPost w (.agg #[.int .i64 2, .int .i64 t, .int .u64 0, .slice none 0 0, .slice A m c])) := by
 have h0 := Hp.nil (fun _ => False) w
 refine enter 6 Try.func50 rfl rfl ?_
 refine wp_reset 8 [(0, (D t)), (1, (lV A m c))] (fun x0 => ?_)
 refine wR fun K1 hK1 => ?_
 refine wT 4 (xN h0 106 ([O, O, (iV .u64 0), nS, nS])) ?_
 rintro _ w2 ⟨g2, rfl, h2⟩
 refine wE hK1 (wR fun K3 hK3 => ?_)
 refine wq_p 3 [(7, (aV ([(D 2), (D t), (iV .u64 0), nS, (lV A m c)]).toArray)), (6, (lV A m c)), (5, (D t))] ?_
 refine wq_to none (xSs h2 0 106 (.tmp 4) (.tmp 7) 0 ([(D 2), (D t), (iV .u64 0), nS, (lV A m c)]) ([(D 2), (D t), (iV .u64 0), nS, (lV A m c)])) ?_
 rintro _ w4 h4
 refine wE hK3 (wp_ret ?_)
 refine post_1 rfl (by kernel_rfl) (rce (h4.at_ 0 rfl)) ?_
 exact ⟨rfl, h4.below0⟩
/-- What der.Raw leaves. -/
def RawPost (w : World) (b : Bytes) (e : Ending) (w' : World) : Prop := ∃ A c, e = .returned (.agg #[.int .i64 1, .int .i64 0, .int .u64 0, .slice A b.length c, .slice none 0 0]) /\ SB w' (.slice A b.length c) b /\ Below w.heap.size w w' /\ ∀ q, (lV A b.length c).ownBlock = some q -> w.heap.size <= q
theorem rawpost_of {w w0 : World} {ro rs : List Res} {A : Option Addr} {c : Nat} {b : Bytes} (h : Hp (fun _ => False) w0 w ro rs) (i : Nat) (hi : rs[i]? = some (rOB (.slice A b.length c) b)) : RawPost w0 b (.returned (.agg #[.int .i64 1, .int .i64 0, .int .u64 0, .slice A b.length c, .slice none 0 0])) w := by
 refine ⟨A, c, rfl, OB.sb (h.own i _ hi), h.below0, fun q hq => ?_⟩
 rcases h.mine i _ hi q hq with h3 | h3
 · exact h3.elim
 · exact h3
theorem draw_any (v : Value) (b : Bytes) (w : World) (hv : SB w v b) (hl : b.length <= 1000000) : Calls Try.prog 52 #[v] w (RawPost w b) := by
 obtain ⟨B, d, rfl, hc1, hc2⟩ := sb_form hv
 have h0 := Hp.ro1 (rSB (.slice B b.length d) b) hv
 refine enter 5 Try.func52 rfl rfl ?_
 refine wp_reset 6 [(0, (lV B b.length d))] (fun x0 => ?_)
 refine wR fun K1 hK1 => ?_
 refine wT 2 (xN h0 106 ([O, O, (iV .u64 0), nS, nS])) ?_
 rintro _ w2 ⟨g2, rfl, h2⟩
 refine wE hK1 (wp_seq_k fun K3 hK3 => ?_)
 have h4 := h2.obNil
 refine reg_lit ?_
 refine wq_p 1 [(3, (lV B b.length d))] ?_
 refine wT 4 (x_appG h4 0 rfl (.const nS) (.tmp 3) (by kernel_rfl) (lV B b.length d) (by kernel_rfl) (by kernel_rfl) (h4.rd 0 rfl) (by simp; omega) (b) (b.length) rfl rfl) ?_
 rintro _ w5 ⟨A5, c5, rfl, h5⟩
 refine wq_p 1 [(5, (aV ([(D 1), O, (iV .u64 0), (lV A5 b.length c5), nS]).toArray))] ?_
 refine wq_to none (xSs h5 1 106 (.tmp 2) (.tmp 5) 0 ([(D 1), O, (iV .u64 0), (lV A5 b.length c5), nS]) ([(D 1), O, (iV .u64 0), (lV A5 b.length c5), nS])) ?_
 rintro _ w6 h6
 refine wE hK3 (wp_ret ?_)
 refine post_1 rfl (by kernel_rfl) (rce (h6.at_ 1 rfl)) ?_
 exact rawpost_of h6 0 rfl
theorem right_step (d : Nat) (hd : d <= 100) (ih : d <= 8 -> ∀ (F : Nat -> Prop) (cs : List Value) (v : DVal) (w : World), (rDV F cs v).Φ w -> Calls Try.prog 78 #[.agg cs.toArray, .int .i64 ((d + 1 : Nat) : Int)] w (DPost w (.bool (rightV v (d + 1)))))
   (F : Nat -> Prop) (cs : List Value) (v : DVal) (w : World) (hv : (rDV F cs v).Φ w) : Calls Try.prog 78 #[.agg cs.toArray, .int .i64 (d : Int)] w (DPost w (.bool (rightV v d))) := by
 obtain ⟨k, t, n, b, ts⟩ := v
 obtain ⟨B, dd, A, c, xs, rfl, hbb, hxx, hll, hn6, hbF, hLL⟩ := dv_open hv
 simp only [DVal.kind, DVal.tag, DVal.n, DVal.b, DVal.l] at *
 have hcap : ts.length <= 9223372036854775807 := by have h1 := hxx.le; have h2 := hxx.cap; unfold maxLen at h2; omega
 have h0 := ((Hp.ro1 (rDL F xs ts) hLL).addR (rSB (.slice B b.length dd) b) hbb (by simp)).addR (rRV 5 A c xs) hxx (by simp)
 refine enter 66 Try.func78 rfl rfl ?_
 refine wp_reset 68 [(0, (aV ([(D ((k : Int))), (D ((t : Int))), (iV .u64 ((n : Int))), (lV B b.length dd), (lV A ts.length c)]).toArray)), (1, (D ((d : Int))))] (fun x0 => ?_)
 refine wR fun K1 hK1 => ?_
 refine wT 2 (xN h0 106 ([(D ((k : Int))), (D ((t : Int))), (iV .u64 ((n : Int))), (lV B b.length dd), (lV A ts.length c)])) ?_
 rintro _ w2 ⟨g2, rfl, h2⟩
 refine wq_p 1 [(4, V)] ?_
 refine wE hK1 (wp_seq_k fun K3 hK3 => wp_seq_k fun K4 hK4 => ?_)
 rcases (show (30 < t) ∨ (t <= 30 /\ 8 < d) ∨ (t <= 30 /\ d <= 8) by omega) with hq | ⟨hq1, hq⟩ | ⟨hq1, hq2⟩
 ·
  refine reg_lit ?_
  refine wq_p 1 [(7, (pt g2 1))] (wV 8 (D ((t : Int))) (eL (h2.at_ 0 rfl) 3 (.tmp 7) 1 _) (wV 9 (.bool false) (eqI (bV (decide ((t : Int) < 0))) (by simp)) (wq_p 2 [(11, (pt g2 1)), (10, V)] ?_)))
  refine wV 12 (D ((t : Int))) (eL (h2.at_ 0 rfl) 3 (.tmp 11) 1 _) (wV 13 (.bool true) (eqI (bV (decide ((t : Int) > 30))) (by simp; omega)) (wq_p 3 [(16, undef), (15, I), (14, I)] (wq_p 1 [(17, undef)] ?_)))
  refine wq_p 1 [(18, I)] ?_
  refine wE hK4 (cT (wR fun K6 hK6 => ?_))
  refine wq_p 1 [(4, V)] ?_
  refine wE hK6 (wp_ret (seq_r ?_))
  refine post_1 rfl (by kernel_rfl) (rtm V) ?_
  exact ⟨congrArg (fun x => Ending.returned (bV x)) ((rv_bad (by omega))).symm, h2.below0⟩
 ·
  refine reg_lit ?_
  refine wq_p 1 [(7, (pt g2 1))] (wV 8 (D ((t : Int))) (eL (h2.at_ 0 rfl) 3 (.tmp 7) 1 _) (wV 9 (.bool false) (eqI (bV (decide ((t : Int) < 0))) (by simp)) (wq_p 2 [(11, (pt g2 1)), (10, V)] ?_)))
  refine wV 12 (D ((t : Int))) (eL (h2.at_ 0 rfl) 3 (.tmp 11) 1 _) (wV 13 (.bool false) (eqI (bV (decide ((t : Int) > 30))) (by simp; omega)) (wq_p 3 [(16, (D ((d : Int)))), (15, V), (14, V)] (wV 17 (.bool true) (eqI (bV (decide ((d : Int) > 8))) (by simp; omega)) ?_)))
  refine wq_p 1 [(18, I)] ?_
  refine wE hK4 (cT (wR fun K7 hK7 => ?_))
  refine wq_p 1 [(4, V)] ?_
  refine wE hK7 (wp_ret (seq_r ?_))
  refine post_1 rfl (by kernel_rfl) (rtm V) ?_
  exact ⟨congrArg (fun x => Ending.returned (bV x)) ((rv_bad (by omega))).symm, h2.below0⟩
 ·
  refine reg_lit ?_
  refine wq_p 1 [(7, (pt g2 1))] (wV 8 (D ((t : Int))) (eL (h2.at_ 0 rfl) 3 (.tmp 7) 1 _) (wV 9 (.bool false) (eqI (bV (decide ((t : Int) < 0))) (by simp)) (wq_p 2 [(11, (pt g2 1)), (10, V)] ?_)))
  refine wV 12 (D ((t : Int))) (eL (h2.at_ 0 rfl) 3 (.tmp 11) 1 _) (wV 13 (.bool false) (eqI (bV (decide ((t : Int) > 30))) (by simp; omega)) (wq_p 3 [(16, (D ((d : Int)))), (15, V), (14, V)] (wV 17 (.bool false) (eqI (bV (decide ((d : Int) > 8))) (by simp; omega)) ?_)))
  refine wq_p 1 [(18, V)] ?_
  refine wE hK4 (cF (wp_skip (seq_n hK3 (wp_seq_k fun K8 hK8 => wR fun K9 hK9 => ?_))))
  refine wq_p 1 [(19, (pt g2 0))] (wV 20 (D ((k : Int))) (eL (h2.at_ 0 rfl) 3 (.tmp 19) 0 _) ?_)
  refine wE hK9 (wp_block (wR fun K10 hK10 => ?_))
  refine wq_p 2 [(21, (bV (((k : Int)) == 0))), (22, (bV (((k : Int)) == 0)))] ?_
  refine wE hK10 ?_
  refine wp_ifeq ((k : Int)) 0 (by kernel_rfl) (fun b11 => ?_) (fun b11 => ?_)
  ·
   have hk0 : k = 0 := by omega
   refine wp_seq_k fun K12 hK12 => ?_
   rcases (show (b.length = 0 /\ ts.length = 0) ∨ (¬ b.length = 0) ∨ (b.length = 0 /\ ¬ ts.length = 0) by by_cases c1 : b.length = 0 <;> by_cases c2 : ts.length = 0 <;> simp [c1, c2]) with ⟨hz1, hz2⟩ | hz1 | ⟨hz1, hz2⟩
   ·
    refine reg_lit ?_
    refine wq_p 1 [(23, (pt g2 3))] (wV 24 (lV B b.length dd) (eL (h2.at_ 0 rfl) 22 (.tmp 23) 3 _) (wq_p 1 [(25, (D ((b.length : Int))))] (wV 26 (.bool true) (eqI (bV (((b.length : Int)) == 0)) (bz_eq hz1)) ?_)))
    refine wq_p 2 [(28, (pt g2 4)), (27, I)] (wV 29 (lV A ts.length c) (eL (h2.at_ 0 rfl) 104 (.tmp 28) 4 _) (wq_p 1 [(30, (D ((ts.length : Int))))] (wV 31 (.bool true) (eqI (bV (((ts.length : Int)) == 0)) (bz_eq hz2)) ?_)))
    refine wq_p 2 [(4, I), (32, I)] ?_
    refine wE hK12 (wp_ret (blk_r (seq_r ?_)))
    refine post_1 rfl (by kernel_rfl) (rtm I) ?_
    exact ⟨congrArg (fun x => Ending.returned (bV x)) ((rv0_t hq1 hq2 hz1 hz2 hk0)).symm, h2.below0⟩
   ·
    refine reg_lit ?_
    refine wq_p 1 [(23, (pt g2 3))] (wV 24 (lV B b.length dd) (eL (h2.at_ 0 rfl) 22 (.tmp 23) 3 _) (wq_p 1 [(25, (D ((b.length : Int))))] (wV 26 (.bool false) (eqI (bV (((b.length : Int)) == 0)) (bz_ne hz1)) ?_)))
    refine wq_p 4 [(30, undef), (29, undef), (28, undef), (27, V)] (wq_p 1 [(31, undef)] (wq_p 2 [(4, V), (32, V)] ?_))
    refine wE hK12 (wp_ret (blk_r (seq_r ?_)))
    refine post_1 rfl (by kernel_rfl) (rtm V) ?_
    exact ⟨congrArg (fun x => Ending.returned (bV x)) ((rv0_f hq1 hq2 (.inl hz1) hk0)).symm, h2.below0⟩
   ·
    refine reg_lit ?_
    refine wq_p 1 [(23, (pt g2 3))] (wV 24 (lV B b.length dd) (eL (h2.at_ 0 rfl) 22 (.tmp 23) 3 _) (wq_p 1 [(25, (D ((b.length : Int))))] (wV 26 (.bool true) (eqI (bV (((b.length : Int)) == 0)) (bz_eq hz1)) ?_)))
    refine wq_p 2 [(28, (pt g2 4)), (27, I)] (wV 29 (lV A ts.length c) (eL (h2.at_ 0 rfl) 104 (.tmp 28) 4 _) (wq_p 1 [(30, (D ((ts.length : Int))))] (wV 31 (.bool false) (eqI (bV (((ts.length : Int)) == 0)) (bz_ne hz2)) ?_)))
    refine wq_p 2 [(4, V), (32, V)] ?_
    refine wE hK12 (wp_ret (blk_r (seq_r ?_)))
    refine post_1 rfl (by kernel_rfl) (rtm V) ?_
    exact ⟨congrArg (fun x => Ending.returned (bV x)) ((rv0_f hq1 hq2 (.inr hz2) hk0)).symm, h2.below0⟩
  ·
   have hk0 : k ≠ 0 := by omega
   refine wR fun K14 hK14 => ?_
   refine wq_p 2 [(33, (bV (((k : Int)) == 1))), (34, (bV (((k : Int)) == 1)))] ?_
   refine wE hK14 ?_
   refine wp_ifeq ((k : Int)) 1 (by kernel_rfl) (fun b15 => ?_) (fun b15 => ?_)
   ·
    have hk1 : k = 1 := by omega
    refine wp_seq_k fun K16 hK16 => ?_
    rcases (show (n = 0 /\ ts.length = 0) ∨ (¬ n = 0) ∨ (n = 0 /\ ¬ ts.length = 0) by by_cases c1 : n = 0 <;> by_cases c2 : ts.length = 0 <;> simp [c1, c2]) with ⟨hz1, hz2⟩ | hz1 | ⟨hz1, hz2⟩
    ·
     refine wp_reset 68 [(0, (aV ([(D ((k : Int))), (D ((t : Int))), (iV .u64 ((n : Int))), (lV B b.length dd), (lV A ts.length c)]).toArray)), (1, (D ((d : Int)))), (2, (pt g2 0)), (4, V), (18, V), (20, (D ((k : Int)))), (21, (bV (((k : Int)) == 0))), (33, (bV (((k : Int)) == 1)))] (fun x18 => ?_)
     refine reg_lit ?_
     refine wq_p 1 [(35, (pt g2 2))] (wV 36 (iV .u64 ((n : Int))) (eL (h2.at_ 0 rfl) 103 (.tmp 35) 2 _) (wV 37 (.bool true) (eqI (bV (((n : Int)) == 0)) (bz_eq hz1)) (wq_p 2 [(39, (pt g2 4)), (38, I)] ?_)))
     refine wV 40 (lV A ts.length c) (eL (h2.at_ 0 rfl) 104 (.tmp 39) 4 _) (wq_p 1 [(41, (D ((ts.length : Int))))] (wV 42 (.bool true) (eqI (bV (((ts.length : Int)) == 0)) (bz_eq hz2)) (wq_p 2 [(4, I), (43, I)] ?_)))
     refine wE hK16 (wp_ret (blk_r (seq_r ?_)))
     refine post_1 rfl (by kernel_rfl) (rtm I) ?_
     exact ⟨congrArg (fun x => Ending.returned (bV x)) ((rv1_t hq1 hq2 hz1 hz2 hk1)).symm, h2.below0⟩
    ·
     refine wp_reset 68 [(0, (aV ([(D ((k : Int))), (D ((t : Int))), (iV .u64 ((n : Int))), (lV B b.length dd), (lV A ts.length c)]).toArray)), (1, (D ((d : Int)))), (2, (pt g2 0)), (4, V), (18, V), (20, (D ((k : Int)))), (21, (bV (((k : Int)) == 0))), (33, (bV (((k : Int)) == 1)))] (fun x19 => ?_)
     refine reg_lit ?_
     refine wq_p 1 [(35, (pt g2 2))] (wV 36 (iV .u64 ((n : Int))) (eL (h2.at_ 0 rfl) 103 (.tmp 35) 2 _) (wV 37 (.bool false) (eqI (bV (((n : Int)) == 0)) (bz_ne hz1)) (wq_p 4 [(41, undef), (40, undef), (39, undef), (38, V)] ?_)))
     refine wq_p 1 [(42, undef)] (wq_p 2 [(4, V), (43, V)] ?_)
     refine wE hK16 (wp_ret (blk_r (seq_r ?_)))
     refine post_1 rfl (by kernel_rfl) (rtm V) ?_
     exact ⟨congrArg (fun x => Ending.returned (bV x)) ((rv1_f hq1 hq2 (.inl hz1) hk1)).symm, h2.below0⟩
    ·
     refine wp_reset 68 [(0, (aV ([(D ((k : Int))), (D ((t : Int))), (iV .u64 ((n : Int))), (lV B b.length dd), (lV A ts.length c)]).toArray)), (1, (D ((d : Int)))), (2, (pt g2 0)), (4, V), (18, V), (20, (D ((k : Int)))), (21, (bV (((k : Int)) == 0))), (33, (bV (((k : Int)) == 1)))] (fun x20 => ?_)
     refine reg_lit ?_
     refine wq_p 1 [(35, (pt g2 2))] (wV 36 (iV .u64 ((n : Int))) (eL (h2.at_ 0 rfl) 103 (.tmp 35) 2 _) (wV 37 (.bool true) (eqI (bV (((n : Int)) == 0)) (bz_eq hz1)) (wq_p 2 [(39, (pt g2 4)), (38, I)] ?_)))
     refine wV 40 (lV A ts.length c) (eL (h2.at_ 0 rfl) 104 (.tmp 39) 4 _) (wq_p 1 [(41, (D ((ts.length : Int))))] (wV 42 (.bool false) (eqI (bV (((ts.length : Int)) == 0)) (bz_ne hz2)) (wq_p 2 [(4, V), (43, V)] ?_)))
     refine wE hK16 (wp_ret (blk_r (seq_r ?_)))
     refine post_1 rfl (by kernel_rfl) (rtm V) ?_
     exact ⟨congrArg (fun x => Ending.returned (bV x)) ((rv1_f hq1 hq2 (.inr hz2) hk1)).symm, h2.below0⟩
   ·
    have hk1 : k ≠ 1 := by omega
    refine wp_seq_k fun K21 hK21 => ?_
    refine wp_reset 68 [(0, (aV ([(D ((k : Int))), (D ((t : Int))), (iV .u64 ((n : Int))), (lV B b.length dd), (lV A ts.length c)]).toArray)), (1, (D ((d : Int)))), (2, (pt g2 0)), (4, V), (18, V), (20, (D ((k : Int)))), (21, (bV (((k : Int)) == 0))), (33, (bV (((k : Int)) == 1)))] (fun x22 => ?_)
    refine reg_lit ?_
    refine wq_p 2 [(44, (bV (((k : Int)) == 2))), (45, (bV (((k : Int)) == 2)))] ?_
    refine wE hK21 ?_
    refine wp_ifeq ((k : Int)) 2 (by kernel_rfl) (fun b23 => ?_) (fun b23 => ?_)
    ·
     have hk2 : k = 2 := by omega
     refine wp_seq_k fun K24 hK24 => wR fun K25 hK25 => ?_
     refine wq_p 1 [(46, (pt g2 4))] (wV 47 (lV A ts.length c) (eL (h2.at_ 0 rfl) 104 (.tmp 46) 4 _) (wq_p 2 [(49, O), (48, (D ((ts.length : Int))))] ?_))
     refine wE hK25 (wp_block ?_)
     refine wp_loopm (fun mM xX aA wL => ∃ (i : Nat), (i <= ts.length) /\ (∀ (j : Nat) (x : DVal), j < i -> ts[j]? = some x -> rightV x (d + 1) = true) /\ mM = ts.length - i /\ aA = patch xX 68 [(0, (aV ([(iV .i64 ((k : Int))), (iV .i64 ((t : Int))), (iV .u64 ((n : Int))), (lV B b.length dd), (lV A ts.length c)]).toArray)), (1, (iV .i64 ((d : Int)))), (2, (pt g2 0)), (18, (bV false)), (20, (iV .i64 ((k : Int)))), (21, (bV (((k : Int)) == 0))), (33, (bV (((k : Int)) == 1))), (44, (bV (((k : Int)) == 2))), (47, (lV A ts.length c)), (48, (iV .i64 ((ts.length : Int)))), (49, (iV .i64 ((i : Int))))] /\ Hp (fun _ => False) w wL [rRV 5 A c xs, rSB ((lV B b.length dd)) b, rDL F xs ts] [rBlk g2 106 ([(iV .i64 ((k : Int))), (iV .i64 ((t : Int))), (iV .u64 ((n : Int))), (lV B b.length dd), (lV A ts.length c)])]) ⟨_, 0, (by omega), (fun j x h => absurd h (by omega)), rfl, (pEq 68), h2.sel [0] [0, 1, 2] (by kernel_rfl) rfl rfl⟩ ?_
     rintro _ x26 _ w26 ⟨i, hi, hr, rfl, rfl, h26⟩
     refine wR fun K27 hK27 => ?_
     refine wq_p 1 [(50, (bV (decide ((i : Int) < (ts.length : Int)))))] ?_
     refine wE hK27 (wp_seq_k fun K28 hK28 => ?_)
     refine wp_if ((i : Int) < (ts.length : Int)) (by kernel_rfl) (fun b29 => ?_) (fun b29 => ?_)
     ·
      refine wp_skip (seq_n hK28 (wp_seq_k fun K30 hK30 => wp_block (wp_seq_k fun K31 hK31 => ?_)))
      obtain ⟨xe, u, hxi, hui, hxe⟩ := dl_at (h26.rd 2 rfl) hll i (by omega)
      obtain ⟨ke, te, ne, be, le⟩ := u
      obtain ⟨Be, de, Ae, ce, xse, rfl, _, _, _, _, _, _⟩ := dv_open hxe
      clear hxe
      simp only [DVal.kind, DVal.tag, DVal.n, DVal.b, DVal.l] at *
      refine reg_lit ?_
      refine wV 51 (eAt A (i * 5 + 0)) (eIx (RV.lenIs (n := ts.length) (h26.rd 0 rfl) hll).2 i ts.length (RV.lenIs (n := ts.length) (h26.rd 0 rfl) hll).1 (by omega) 104 (.tmp 47) (.tmp 49) .i64 106) (wV 52 (aV ([(D ((ke : Int))), (D ((te : Int))), (iV .u64 ((ne : Int))), (lV Be be.length de), (lV Ae le.length ce)]).toArray) (e_elemsN (RV.lenIs (n := ts.length) (h26.rd 0 rfl) hll).2 i 0 ([(D ((ke : Int))), (D ((te : Int))), (iV .u64 ((ne : Int))), (lV Be be.length de), (lV Ae le.length ce)]) hxi 106 (.tmp 51) (by kernel_rfl) ([(D ((ke : Int))), (D ((te : Int))), (iV .u64 ((ne : Int))), (lV Be be.length de), (lV Ae le.length ce)]) (by kernel_rfl) (by kernel_rfl) (by kernel_rfl)) ?_)
      refine wT 6 (xN h26 106 ([O, O, (iV .u64 0), nS, nS])) ?_
      rintro _ w32 ⟨g32, rfl, h32⟩
      refine wq_to none (xSs h32 0 106 (.tmp 6) (.tmp 52) 0 ([(D ((ke : Int))), (D ((te : Int))), (iV .u64 ((ne : Int))), (lV Be be.length de), (lV Ae le.length ce)]) ([(D ((ke : Int))), (D ((te : Int))), (iV .u64 ((ne : Int))), (lV Be be.length de), (lV Ae le.length ce)])) ?_
      rintro _ w33 h33
      refine wE hK31 (wR fun K34 hK34 => ?_)
      refine wV 53 (aV ([(D ((ke : Int))), (D ((te : Int))), (iV .u64 ((ne : Int))), (lV Be be.length de), (lV Ae le.length ce)]).toArray) (eLs (h33.at_ 0 rfl) 106 (.tmp 6) 0 ([(D ((ke : Int))), (D ((te : Int))), (iV .u64 ((ne : Int))), (lV Be be.length de), (lV Ae le.length ce)])) (wq_p 1 [(54, (D ((d : Int))))] (wV 55 (D (((d + 1 : Nat) : Int))) (exec_add _ _ _ _ rfl ((d : Int)) 1 (by kernel_rfl) (by kernel_rfl) (((d + 1 : Nat) : Int)) (by omega) (by omega) (by omega) _) ?_))
      refine wT 56 (x_dp h33 78 [(aV ([(D ((ke : Int))), (D ((te : Int))), (iV .u64 ((ne : Int))), (lV Be be.length de), (lV Ae le.length ce)]).toArray), (D (((d + 1 : Nat) : Int)))] (by kernel_rfl) (ih hq2 F _ (DVal.mk ke te ne be le) _ ⟨(h33.rd 2 rfl).1, (h33.rd 2 rfl).2 i _ _ hxi hui⟩)) ?_
      rintro _ w35 ⟨rfl, h35⟩
      refine wq_p 1 [(57, (bV (!(rightV (DVal.mk ke te ne be le) (d + 1)))))] ?_
      refine wE hK34 ?_
      refine wp_cond_split (t := !(rightV (DVal.mk ke te ne be le) (d + 1))) (by kernel_rfl) (fun b36 => ?_) (fun b36 => ?_)
      ·
       refine wR fun K37 hK37 => ?_
       refine wq_p 1 [(4, V)] ?_
       refine wE hK37 (wp_ret (blk_r (seq_r (seq_r (blk_r (seq_r (blk_r (seq_r ?_))))))))
       refine post_1 rfl (by kernel_rfl) (rtm V) ?_
       exact ⟨congrArg (fun x => Ending.returned (bV x)) ((rv2_no hq1 hq2 (rightL_no ts (d + 1) (DVal.mk ke te ne be le) (List.mem_of_getElem? hui) (by simpa using b36)) hk2)).symm, h35.below0⟩
      ·
       refine wp_skip (blk_n (seq_n hK30 (reg_lit ?_)))
       refine wV 58 (D ((i : Int) + 1)) (exec_add _ _ _ _ rfl ((i : Int)) 1 (by kernel_rfl) (by kernel_rfl) ((i : Int) + 1) rfl (by omega) (by omega) _) (wq_p 1 [(49, (D ((i : Int) + 1)))] ?_)
       refine wl_end rfl ?_
       refine ⟨ts.length - (i + 1), (by omega), (i + 1), (by omega), (fun j x hj hx => (Nat.lt_or_ge j i).elim (fun h => hr j x h hx) (fun h => by obtain rfl : j = i := (by omega); rw [hui] at hx; injection hx with hx; subst hx; simpa using b36)), rfl, (pEq 68), h35.sel [1] [0, 1, 2] (by kernel_rfl) rfl rfl⟩
     ·
      refine wp_exit (seq_e (seq_e (blk_e (seq_n hK24 (wp_seq_k fun K38 hK38 => ?_)))))
      rcases (show (n = 0 /\ b.length = 0) ∨ (¬ n = 0) ∨ (n = 0 /\ ¬ b.length = 0) by by_cases c1 : n = 0 <;> by_cases c2 : b.length = 0 <;> simp [c1, c2]) with ⟨hz1, hz2⟩ | hz1 | ⟨hz1, hz2⟩
      ·
       refine reg_lit ?_
       refine wq_p 1 [(59, (pt g2 2))] (wV 60 (iV .u64 ((n : Int))) (eL (h26.at_ 0 rfl) 103 (.tmp 59) 2 _) (wV 61 (.bool true) (eqI (bV (((n : Int)) == 0)) (bz_eq hz1)) (wq_p 2 [(63, (pt g2 3)), (62, I)] ?_)))
       refine wV 64 (lV B b.length dd) (eL (h26.at_ 0 rfl) 22 (.tmp 63) 3 _) (wq_p 1 [(65, (D ((b.length : Int))))] (wV 66 (.bool true) (eqI (bV (((b.length : Int)) == 0)) (bz_eq hz2)) (wq_p 2 [(4, I), (67, I)] ?_)))
       refine wE hK38 (wp_ret (blk_r (seq_r ?_)))
       refine post_1 rfl (by kernel_rfl) (rtm I) ?_
       exact ⟨congrArg (fun x => Ending.returned (bV x)) ((rv2_t hq1 hq2 (rightL_upto (by omega) hr) hz1 hz2 hk2)).symm, h26.below0⟩
      ·
       refine reg_lit ?_
       refine wq_p 1 [(59, (pt g2 2))] (wV 60 (iV .u64 ((n : Int))) (eL (h26.at_ 0 rfl) 103 (.tmp 59) 2 _) (wV 61 (.bool false) (eqI (bV (((n : Int)) == 0)) (bz_ne hz1)) (wq_p 4 [(65, undef), (64, undef), (63, undef), (62, V)] ?_)))
       refine wq_p 1 [(66, undef)] (wq_p 2 [(4, V), (67, V)] ?_)
       refine wE hK38 (wp_ret (blk_r (seq_r ?_)))
       refine post_1 rfl (by kernel_rfl) (rtm V) ?_
       exact ⟨congrArg (fun x => Ending.returned (bV x)) ((rv2_f hq1 hq2 (.inl hz1) hk2)).symm, h26.below0⟩
      ·
       refine reg_lit ?_
       refine wq_p 1 [(59, (pt g2 2))] (wV 60 (iV .u64 ((n : Int))) (eL (h26.at_ 0 rfl) 103 (.tmp 59) 2 _) (wV 61 (.bool true) (eqI (bV (((n : Int)) == 0)) (bz_eq hz1)) (wq_p 2 [(63, (pt g2 3)), (62, I)] ?_)))
       refine wV 64 (lV B b.length dd) (eL (h26.at_ 0 rfl) 22 (.tmp 63) 3 _) (wq_p 1 [(65, (D ((b.length : Int))))] (wV 66 (.bool false) (eqI (bV (((b.length : Int)) == 0)) (bz_ne hz2)) (wq_p 2 [(4, V), (67, V)] ?_)))
       refine wE hK38 (wp_ret (blk_r (seq_r ?_)))
       refine post_1 rfl (by kernel_rfl) (rtm V) ?_
       exact ⟨congrArg (fun x => Ending.returned (bV x)) ((rv2_f hq1 hq2 (.inr hz2) hk2)).symm, h26.below0⟩
    ·
     have hk2 : k ≠ 2 := by omega
     refine wp_skip (blk_n (seq_n hK8 (wR fun K40 hK40 => ?_)))
     refine wq_p 1 [(4, V)] ?_
     refine wE hK40 (wp_ret ?_)
     refine post_1 rfl (by kernel_rfl) (rtm V) ?_
     exact ⟨congrArg (fun x => Ending.returned (bV x)) ((rv_k hq1 hq2 hk0 hk1 hk2)).symm, h2.below0⟩
end
section
open Go.RowKit Go.QT
/-- May a value be, so many levels deep: by the code. -/
theorem right_any (m : Nat) : ∀ (d : Nat), 9 <= d + m -> d <= 100 -> ∀ (F : Nat -> Prop) (cs : List Value) (v : DVal) (w : World), (rDV F cs v).Φ w -> Calls Try.prog 78 #[.agg cs.toArray, .int .i64 (d : Int)] w (DPost w (.bool (rightV v d))) := by
 induction m with
 | zero => intro d h hd F cs v w hv; exact right_step d hd (fun h8 => absurd h8 (by omega)) F cs v w hv
 | succ m ih =>
   intro d h hd F cs v w hv
   by_cases h8 : d <= 8
   · exact right_step d hd (fun _ => ih (d + 1) (by omega) (by omega)) F cs v w hv
   · exact right_step d hd (fun h => absurd h h8) F cs v w hv
/-- The first byte. -/
theorem head_or : ((List.range 3).all fun k => (List.range 31).all fun t => decide (bits .or .i64 ((k * 64 : Nat) : Int) (t : Int) = ((k * 64 + t : Nat) : Int))) = true := by decide +kernel
theorem head_or' {k t : Nat} (hk : k <= 2) (ht : t <= 30) : bits .or .i64 ((k * 64 : Nat) : Int) (t : Int) = ((k * 64 + t : Nat) : Int) := by
 have h1 := List.all_eq_true.1 head_or k (List.mem_range.2 (by omega))
 have h2 := List.all_eq_true.1 h1 t (List.mem_range.2 (by omega))
 exact of_decide_eq_true h2
section
variable {P : Program} {o : Oper} {a : Act}
theorem e_shlI (t t' : TypeId) (x y : Operand) (ho : o.op = .binOp .shl t x y t') (m n : Nat) (k : IntKind) (hn : n < 64) (hx : a.eval x = .int .i64 (m : Int)) (hy : a.eval y = .int k (n : Int)) (r : Nat) (hr : m * 2 ^ n = r) (hb : r < 9223372036854775808) (W : World) :
   (execOp a.eval o).run P W = .ok (.value (.int .i64 ((r : Nat) : Int))) W := by
 subst hr
 have h3 : (eqGuard .shl t x y (.int .i64 (m : Int)) (.int k (n : Int))).run P W = .ok () W := by simp [eqGuard]
 have e : IntKind.i64.wrap ((m : Int) * 2 ^ n) = ((m * 2 ^ n : Nat) : Int) := by
   have h2 : (2 : Int) ^ n = ((2 ^ n : Nat) : Int) := by simp
   rw [h2, ← Int.natCast_mul, IntKind.wrap_i64]
   generalize m * 2 ^ n = q at *
   omega
 have h4 : (binOp .shl t (.int .i64 (m : Int)) (.int k (n : Int))).run P W = .ok (.int .i64 ((m * 2 ^ n : Nat) : Int)) W := by
   have hm : min ((n : Int)).toNat IntKind.i64.bits = n := by
     show min ((n : Int)).toNat 64 = n
     omega
   have h0 : ¬ ((n : Int) < 0) := by omega
   unfold binOp Op.shift
   simp only [if_neg h0, hm, e, Sem.run_pure]
 unfold execOp
 simp only [ho, hx, hy, Sem.run_bind, h3, h4, Result.andThen_ok, Sem.run_pure]
theorem w_8ofI (n : Nat) : Value.int .u8 (IntKind.u8.wrap ((n : Nat) : Int)) = Value.int .u8 (ub (UInt8.ofNat n)) := by
 congr 1
 rw [IntKind.wrap_u8, ub_ofNat]
theorem wrap64_nat' {n : Nat} (h : n < 18446744073709551616) : Value.int .u64 (IntKind.u64.wrap ((n : Nat) : Int)) = Value.int .u64 ((n : Nat) : Int) := by
 congr 1; rw [IntKind.wrap_u64]; omega
end
theorem headB_lo (k t m : Nat) (h : m < 128) : headB k t m = [UInt8.ofNat (k * 64 + t), UInt8.ofNat m] := if_pos h
theorem headB_hi (k t m : Nat) (h : ¬ m < 128) : headB k t m = [UInt8.ofNat (k * 64 + t), UInt8.ofNat (128 + (shortB m).length)] ++ shortB m := if_neg h
theorem headB_len (k t m : Nat) : (headB k t m).length <= 10 := by
 unfold headB
 split
 · simp
 · have := shortB_len m
   simp; omega
end
section
open Go.RowKit Go.QT
theorem head_any (k t m : Nat) (hk : k <= 2) (ht : t <= 30) (hm : m <= 1000000) (w : World) : Calls Try.prog 80 #[.int .i64 (k : Int), .int .i64 (t : Int), .int .i64 (m : Int)] w (BPost w (headB k t m)) := by
 have hs8 := shortB_len m
 have h0 := Hp.nil (fun _ => False) w
 refine enter 29 Try.func80 rfl rfl ?_
 refine wp_reset 32 [(0, (D ((k : Int)))), (1, (D ((t : Int)))), (2, (D ((m : Int))))] (fun x0 => ?_)
 refine wR fun K1 hK1 => ?_
 refine wq_p 1 [(6, nS)] ?_
 refine wE hK1 (wR fun K2 hK2 => ?_)
 refine wq_p 1 [(9, (D ((k : Int))))] (wV 10 (D (((k * 64 : Nat) : Int))) (e_shlI 3 173 (.tmp 9) (.const (Value.int .u64 6)) (by kernel_rfl) k 6 .u64 (by decide) (by kernel_rfl) (by kernel_rfl) (k * 64) rfl (by omega) _) (wq_p 1 [(11, (D ((t : Int))))] (wV 12 (D (((k * 64 + t : Nat) : Int))) (eqI (D (bits .or .i64 ((k * 64 : Nat) : Int) (t : Int))) (congrArg (Value.int .i64) (head_or' hk ht))) ?_)))
 refine wV 13 (Value.int .u8 (ub (UInt8.ofNat (((k * 64 + t)))))) (eqI (Value.int .u8 (IntKind.u8.wrap ((((k * 64 + t)) : Nat) : Int))) (w_8ofI (((k * 64 + t))))) (wq_p 1 [(7, (Value.int .u8 (ub (UInt8.ofNat (((k * 64 + t)))))))] ?_)
 refine wE hK2 (wp_seq_k fun K3 hK3 => wR fun K4 hK4 => ?_)
 refine wq_p 2 [(15, (Value.bool (decide ((m : Int) < 128)))), (14, (D ((m : Int))))] ?_
 refine wE hK4 ?_
 refine wp_if ((m : Int) < 128) (by kernel_rfl) (fun b5 => ?_) (fun b5 => ?_)
 ·
  refine wR fun K6 hK6 => ?_
  refine wq_p 2 [(17, (D ((m : Int)))), (16, (Value.int .u8 (ub (UInt8.ofNat (((k * 64 + t)))))))] (wV 18 (Value.int .u8 (ub (UInt8.ofNat m))) (eqI (Value.int .u8 (IntKind.u8.wrap ((m : Nat) : Int))) (w_8ofI m)) ?_)
  refine wT 19 (x_bsl h0 [(UInt8.ofNat (((k * 64 + t)))), (UInt8.ofNat m)] (by kernel_rfl)) ?_
  rintro _ w7 ⟨g7, rfl, hw7, hg7, hq7, h7⟩
  refine wq_p 1 [(6, (Value.slice (some ⟨g7, 0, none⟩) 2 2))] ?_
  refine wE hK6 (wp_ret (seq_r ?_))
  refine post_1 rfl (by kernel_rfl) (rtm (Value.slice (some ⟨g7, 0, none⟩) 2 2)) ?_
  have hz := h7.blkOB 0 [(UInt8.ofNat (((k * 64 + t)))), (UInt8.ofNat m)] rfl (by unfold maxLen; simp)
  exact bpost_of hz 0 rfl (headB_lo k t m (by omega)).symm
 ·
  refine wp_skip (seq_n hK3 (wR fun K8 hK8 => ?_))
  refine wq_p 1 [(20, (D ((m : Int))))] (wV 21 (Value.int .u64 (((m : Nat) : Int))) (eqI (Value.int .u64 (IntKind.u64.wrap ((m : Nat) : Int))) (wrap64_nat' (by omega))) ?_)
  refine wT 22 (x_sb h0 86 [(Value.int .u64 (((m : Nat) : Int)))] (by kernel_rfl) (short_any (((m))) (by omega) _) (shortB (((m)))) ((shortB (((m)))).length) rfl rfl) ?_
  rintro _ w9 ⟨A9, c9, rfl, h9⟩
  refine wq_p 1 [(8, (Value.slice A9 ((shortB (((m)))).length) c9))] ?_
  refine wE hK8 (wR fun K10 hK10 => ?_)
  refine wq_p 3 [(25, (D (((shortB (((m)))).length : Int)))), (24, (Value.slice A9 ((shortB (((m)))).length) c9)), (23, (Value.int .u8 (ub (UInt8.ofNat (((k * 64 + t)))))))] (wV 26 (D (((128 + ((shortB (((m)))).length) : Nat) : Int))) (exec_add _ _ _ _ rfl 128 (((shortB (((m)))).length : Int)) (by kernel_rfl) (by kernel_rfl) (((128 + ((shortB (((m)))).length) : Nat) : Int)) (by omega) (by omega) (by omega) _) (wV 27 (Value.int .u8 (ub (UInt8.ofNat (((128 + ((shortB (((m)))).length))))))) (eqI (Value.int .u8 (IntKind.u8.wrap ((((128 + ((shortB (((m)))).length))) : Nat) : Int))) (w_8ofI (((128 + ((shortB (((m)))).length)))))) ?_))
  refine wT 28 (x_bsl h9 [(UInt8.ofNat (((k * 64 + t)))), (UInt8.ofNat (((128 + ((shortB (((m)))).length)))))] (by kernel_rfl)) ?_
  rintro _ w11 ⟨g11, rfl, hw11, hg11, hq11, h11⟩
  refine wq_p 1 [(29, (Value.slice A9 ((shortB (((m)))).length) c9))] ?_
  refine wT 30 (x_bs h11 22 ([(Value.slice (some ⟨g11, 0, none⟩) 2 2), (Value.slice A9 ((shortB (((m)))).length) c9)]) 2 (by kernel_rfl)) ?_
  rintro _ w12 ⟨g12, rfl, h12⟩
  refine wT 31 (x_bytesE h12 34 [(Value.slice (some ⟨g12, 0, none⟩) 2 2)] (by kernel_rfl) (joined_any (Value.slice (some ⟨g12, 0, none⟩) 2 2) [[(UInt8.ofNat (((k * 64 + t)))), (UInt8.ofNat (((128 + ((shortB (((m)))).length)))))], shortB (((m)))] _ (bs2 (h12.at_ 0 rfl) (SB.blk (h12.at_ 1 rfl) (by kernel_rfl) (by kernel_rfl) (by kernel_rfl)) (h12.rd 0 rfl)) (by simp; omega)) (([(UInt8.ofNat (((k * 64 + t)))), (UInt8.ofNat (((128 + ((shortB (((m)))).length)))))]) ++ (shortB (((m))))) ((([(UInt8.ofNat (((k * 64 + t)))), (UInt8.ofNat (((128 + ((shortB (((m)))).length)))))]) ++ (shortB (((m))))).length) (by simp) rfl) ?_
  rintro _ w13 ⟨A13, c13, rfl, h13⟩
  refine wq_p 1 [(6, (Value.slice A13 ((([(UInt8.ofNat (((k * 64 + t)))), (UInt8.ofNat (((128 + ((shortB (((m)))).length)))))]) ++ (shortB (((m))))).length) c13))] ?_
  refine wE hK10 (wp_ret ?_)
  refine post_1 rfl (by kernel_rfl) (rtm (Value.slice A13 ((([(UInt8.ofNat (((k * 64 + t)))), (UInt8.ofNat (((128 + ((shortB (((m)))).length)))))]) ++ (shortB (((m))))).length) c13)) ?_
  exact bpost_of h13 0 rfl (headB_hi k t m (by omega)).symm
end
section
open Go.RowKit Go.QT
section
variable {P : Program} {o : Oper} {a : Act} {w w' : World} {F0 : Nat -> Prop} {w0 : World} {ro rs : List Res}
/-- Bytes: new ones, or a part of what the call was given. -/
def BodyPost (G : Nat -> Prop) (w : World) (l : Bytes) (e : Ending) (w' : World) : Prop := ∃ v, e = .returned v /\ SB w' v l /\ Below w.heap.size w w' /\ ∀ q, (rSB v l).F q -> w.heap.size <= q ∨ G q
theorem bodypost_sb {G : Nat -> Prop} {L l : Bytes} {v : Value} (h : Hp (fun _ => False) w0 w ro rs) (i : Nat) (hi : rs[i]? = some (rSB v l)) (e : l = L) : BodyPost G w0 L (.returned v) w := by
 subst e
 refine ⟨v, rfl, h.own i _ hi, h.below0, fun q hq => ?_⟩
 rcases h.mine i _ hi q hq with h3 | h3
 · exact h3.elim
 · exact .inl h3
theorem bodypost_ob {G : Nat -> Prop} {L l : Bytes} {v : Value} (h : Hp (fun _ => False) w0 w ro rs) (i : Nat) (hi : rs[i]? = some (rOB v l)) (e : l = L) : BodyPost G w0 L (.returned v) w := by
 subst e
 refine ⟨v, rfl, OB.sb (h.own i _ hi), h.below0, fun q hq => ?_⟩
 rcases h.mine i _ hi q hq.2 with h3 | h3
 · exact h3.elim
 · exact .inl h3
theorem bodypost_ro {G : Nat -> Prop} {L l : Bytes} {v : Value} (h : Hp (fun _ => False) w0 w ro rs) (i : Nat) (hi : ro[i]? = some (rSB v l)) (hG : ∀ q, (rSB v l).F q -> G q) (e : l = L) : BodyPost G w0 L (.returned v) w := by
 subst e
 exact ⟨v, rfl, h.red i _ hi, h.below0, fun q hq => .inr (hG q hq)⟩
theorem x_sbO (h : Hp F0 w0 w ro rs) {l : Bytes} (fn : FuncId) (al : List Value) (hp : pureVal P (execOp a.eval o) = some (.enter fn al.toArray)) (hc : Calls P fn al.toArray w (SbPost w l)) (r : Bytes) (n : Nat) (hr : r = l) (hn : n = r.length) :
   OpTo P o a w (fun u w' => ∃ A cc, u = .slice A n cc /\ Hp F0 w0 w' ro (rSB (.slice A n cc) r :: rs)) :=
 OpTo.enter fn al hp hc fun e w' hq => by
   subst hr; subst hn
   obtain ⟨v, he, hs, hb, hF⟩ := hq
   obtain ⟨A, cc, rfl, _⟩ := id hs
   exact ⟨_, he, A, cc, rfl, h.newS hb (rSB _ r) hs (fun q hq => hF q hq.2)⟩
/-- A call of body: what it leaves is only read. -/
theorem x_body (h : Hp F0 w0 w ro rs) (j : Nat) {s : Res} (hj : ro[j]? = some s) {l : Bytes} (fn : FuncId) (al : List Value) (hp : pureVal P (execOp a.eval o) = some (.enter fn al.toArray)) (hc : Calls P fn al.toArray w (BodyPost s.F w l)) (r : Bytes) (n : Nat) (hr : r = l) (hn : n = r.length) :
   OpTo P o a w (fun u w' => ∃ A cc, u = .slice A n cc /\ Hp F0 w0 w' (rSB (.slice A n cc) r :: ro) rs) :=
 OpTo.enter fn al hp hc fun e w' hq => by
   subst hr; subst hn
   obtain ⟨v, he, hs, hb, hF⟩ := hq
   obtain ⟨A, cc, rfl, _⟩ := id hs
   refine ⟨_, he, A, cc, rfl, (h.below hb).addR _ hs fun k t ht q h1 h2 => ?_⟩
   rcases hF q h1 with h3 | h3
   · exact absurd (t.lt (h.own k t ht) q h2) (Nat.not_lt.2 h3)
   · exact h.rdis j k s t hj ht q h3 h2
end
section
variable {k t n d : Nat} {b : Bytes} {ts : List DVal}
theorem bodyV_0 (hk : k = 0) : bodyV (.mk k t n b ts) = shortB n := by subst hk; rfl
theorem bodyV_1 (hk : k = 1) : bodyV (.mk k t n b ts) = b := by subst hk; rfl
theorem bodyV_2 (h0 : k ≠ 0) (h1 : k ≠ 1) : bodyV (.mk k t n b ts) = wrL ts := (if_neg h0).trans (if_neg h1)
theorem rightV_le (h : rightV (.mk k t n b ts) d = true) : k <= 2 /\ t <= 30 /\ d <= 8 := by
 rw [rightV] at h
 simp only [Bool.and_eq_true, decide_eq_true_eq] at h
 refine ⟨?_, h.1.1, h.1.2⟩
 by_cases h2 : k <= 2
 · exact h2
 · rw [if_neg (by omega), if_neg (by omega), if_neg (by omega)] at h; exact absurd h.2 (by simp)
theorem rightV_l (h : rightV (.mk k t n b ts) d = true) (h0 : k ≠ 0) (h1 : k ≠ 1) : rightL ts (d + 1) = true := by
 have h2 := (rightV_le h).1
 obtain rfl : k = 2 := by omega
 rw [rightV] at h
 simp only [Bool.and_eq_true, if_pos, if_neg h0, if_neg h1] at h
 exact h.2.1.1
end
theorem rightL_at : ∀ (l : List DVal) (d i : Nat) (u : DVal), l[i]? = some u -> rightL l d = true -> rightV u d = true
 | [], _, i, u, h, _ => by simp at h
 | y :: r, d, 0, u, h, hr => by
   have : y = u := by simpa using h
   subst this
   rw [rightL, Bool.and_eq_true] at hr; exact hr.1
 | y :: r, d, i + 1, u, h, hr => by
   rw [rightL, Bool.and_eq_true] at hr
   exact rightL_at r d i u (by simpa using h) hr.2
theorem wrL_take_le : ∀ (l : List DVal) (i : Nat), (wrL (l.take i)).length <= (wrL l).length
 | [], i => by simp
 | y :: r, 0 => by simp [wrL]
 | y :: r, i + 1 => by
   have := wrL_take_le r i
   simp only [List.take_succ_cons, wrL, List.length_append]; omega
theorem wrV_len (v : DVal) : (bodyV v).length <= (wrV v).length := by rw [wrV_eq]; simp
end
section
open Go.Value renaming int -> iV, slice -> lV, string -> sV, bool -> bV, agg -> aV
open Go.RowKit Go.QT
theorem body_step (d : Nat) (ih : ∀ (F : Nat -> Prop) (cs : List Value) (v : DVal) (w : World), (rDV F cs v).Φ w -> rightV v (d + 1) = true -> (wrV v).length <= 1000000 -> Calls Try.prog 58 #[.agg cs.toArray] w (BPost w (wrV v)))
   (F : Nat -> Prop) (cs : List Value) (v : DVal) (w : World) (hv : (rDV F cs v).Φ w) (hr : rightV v d = true) (hn : (bodyV v).length <= 1000000) : Calls Try.prog 79 #[.agg cs.toArray] w (BodyPost F w (bodyV v)) := by
 obtain ⟨k, t, n, b, ts⟩ := v
 obtain ⟨B, dd, A, c, xs, rfl, hbb, hxx, hll, hn6, hbF, hLL⟩ := dv_open hv
 simp only [DVal.kind, DVal.tag, DVal.n, DVal.b, DVal.l] at *
 have hcap : ts.length <= 9223372036854775807 := by have h1 := hxx.le; have h2 := hxx.cap; unfold maxLen at h2; omega
 have hk2 := rightV_le hr
 have h0 := ((Hp.ro1 (rDL F xs ts) hLL).addR (rSB (.slice B b.length dd) b) hbb (by simp)).addR (rRV 5 A c xs) hxx (by simp)
 refine enter 29 Try.func79 rfl rfl ?_
 refine wp_reset 30 [(0, (aV ([(D ((k : Int))), (D ((t : Int))), (iV .u64 ((n : Int))), (lV B b.length dd), (lV A ts.length c)]).toArray))] (fun x0 => ?_)
 refine wR fun K1 hK1 => ?_
 refine wT 1 (xN h0 106 ([(D ((k : Int))), (D ((t : Int))), (iV .u64 ((n : Int))), (lV B b.length dd), (lV A ts.length c)])) ?_
 rintro _ w2 ⟨g2, rfl, h2⟩
 refine wq_p 1 [(2, nS)] ?_
 refine wE hK1 (wp_seq_k fun K3 hK3 => wR fun K4 hK4 => ?_)
 refine wq_p 1 [(6, (pt g2 0))] (wV 7 (D ((k : Int))) (eL (h2.at_ 0 rfl) 3 (.tmp 6) 0 _) ?_)
 refine wE hK4 (wp_block (wR fun K5 hK5 => ?_))
 refine wq_p 2 [(8, (bV (((k : Int)) == 0))), (9, (bV (((k : Int)) == 0)))] ?_
 refine wE hK5 ?_
 refine wp_ifeq ((k : Int)) 0 (by kernel_rfl) (fun b6 => ?_) (fun b6 => ?_)
 ·
  have hk0 : k = 0 := by omega
  refine wR fun K7 hK7 => ?_
  refine wq_p 1 [(10, (pt g2 2))] (wV 11 (iV .u64 ((n : Int))) (eL (h2.at_ 0 rfl) 103 (.tmp 10) 2 _) ?_)
  refine wT 12 (x_sbO h2 86 [(iV .u64 ((n : Int)))] (by kernel_rfl) (short_any n hn6 _) (shortB n) ((shortB n).length) rfl rfl) ?_
  rintro _ w8 ⟨A8, c8, rfl, h8⟩
  refine wq_p 1 [(2, (lV A8 ((shortB n).length) c8))] ?_
  refine wE hK7 (wp_ret (blk_r (seq_r ?_)))
  refine post_1 rfl (by kernel_rfl) (rtm (lV A8 ((shortB n).length) c8)) ?_
  exact bodypost_sb h8 0 rfl (bodyV_0 hk0).symm
 ·
  have hk0 : k ≠ 0 := by omega
  refine wR fun K9 hK9 => ?_
  refine wq_p 2 [(13, (bV (((k : Int)) == 1))), (14, (bV (((k : Int)) == 1)))] ?_
  refine wE hK9 ?_
  refine wp_ifeq ((k : Int)) 1 (by kernel_rfl) (fun b10 => ?_) (fun b10 => ?_)
  ·
   have hk1 : k = 1 := by omega
   refine wR fun K11 hK11 => ?_
   refine wq_p 1 [(15, (pt g2 3))] (wV 16 (lV B b.length dd) (eL (h2.at_ 0 rfl) 22 (.tmp 15) 3 _) (wq_p 1 [(2, (lV B b.length dd))] ?_))
   refine wE hK11 (wp_ret (blk_r (seq_r ?_)))
   refine post_1 rfl (by kernel_rfl) (rtm (lV B b.length dd)) ?_
   exact bodypost_ro h2 1 rfl hbF (bodyV_1 hk1).symm
  ·
   have hk1 : k ≠ 1 := by omega
   refine wp_skip (blk_n (seq_n hK3 (wR fun K12 hK12 => ?_)))
   refine wq_p 1 [(3, nS)] ?_
   refine wE hK12 (wp_seq_k fun K13 hK13 => wp_seq_k fun K14 hK14 => ?_)
   have h15 := h2.obNil
   have hL := rightV_l hr hk0 hk1
   have hB := bodyV_2 (t := t) (n := n) (b := b) (ts := ts) hk0 hk1
   rw [hB] at hn
   refine reg_lit ?_
   refine wq_p 1 [(17, (pt g2 4))] (wV 18 (lV A ts.length c) (eL (h15.at_ 1 rfl) 104 (.tmp 17) 4 _) (wq_p 2 [(20, O), (19, (D ((ts.length : Int))))] ?_))
   refine wE hK14 (wp_block ?_)
   refine wp_loopm (fun mM xX aA wL => ∃ (i : Nat) (l : Bytes) (Av : Option Addr) (cv : Nat), (i <= ts.length) /\ (l = wrL (ts.take i)) /\ mM = ts.length - i /\ aA = patch xX 30 [(0, (aV ([(iV .i64 ((k : Int))), (iV .i64 ((t : Int))), (iV .u64 ((n : Int))), (lV B b.length dd), (lV A ts.length c)]).toArray)), (1, (pt g2 0)), (2, (lV none 0 0)), (3, (lV Av ((l : Bytes).length) cv)), (7, (iV .i64 ((k : Int)))), (8, (bV (((k : Int)) == 0))), (13, (bV (((k : Int)) == 1))), (18, (lV A ts.length c)), (19, (iV .i64 ((ts.length : Int)))), (20, (iV .i64 ((i : Int))))] /\ Hp (fun _ => False) w wL [rRV 5 A c xs, rSB ((lV B b.length dd)) b, rDL F xs ts] [rOB ((lV Av ((l : Bytes).length) cv)) l, rBlk g2 106 ([(iV .i64 ((k : Int))), (iV .i64 ((t : Int))), (iV .u64 ((n : Int))), (lV B b.length dd), (lV A ts.length c)])]) ⟨_, 0, (([] : Bytes)), none, 0, (by omega), (by simp [wrL]), rfl, (pEq 30), h15.sel [0, 1] [0, 1, 2] (by kernel_rfl) rfl rfl⟩ ?_
   rintro _ x16 _ w16 ⟨i, l, Av, cv, hi, hl, rfl, rfl, h16⟩
   refine wR fun K17 hK17 => ?_
   refine wq_p 1 [(21, (bV (decide ((i : Int) < (ts.length : Int)))))] ?_
   refine wE hK17 (wp_seq_k fun K18 hK18 => ?_)
   refine wp_if ((i : Int) < (ts.length : Int)) (by kernel_rfl) (fun b19 => ?_) (fun b19 => ?_)
   ·
    refine wp_skip (seq_n hK18 (wp_seq_k fun K20 hK20 => wp_block (wp_seq_k fun K21 hK21 => ?_)))
    obtain ⟨xe, u, hxi, hui, hxe⟩ := dl_at (h16.rd 2 rfl) hll i (by omega)
    obtain ⟨ke, te, ne, be, le⟩ := u
    obtain ⟨Be, de, Ae, ce, xse, rfl, _, _, _, _, _, _⟩ := dv_open hxe
    clear hxe
    simp only [DVal.kind, DVal.tag, DVal.n, DVal.b, DVal.l] at *
    have hz1 := congrArg List.length (wrL_take ts i _ hui)
    rw [List.length_append] at hz1
    have hz2 := wrL_take_le ts (i + 1)
    have hz3 := congrArg List.length hl
    have hru := rightL_at ts (d + 1) i _ hui hL
    refine reg_lit ?_
    refine wV 22 (eAt A (i * 5 + 0)) (eIx (RV.lenIs (n := ts.length) (h16.rd 0 rfl) hll).2 i ts.length (RV.lenIs (n := ts.length) (h16.rd 0 rfl) hll).1 (by omega) 104 (.tmp 18) (.tmp 20) .i64 106) (wV 23 (aV ([(D ((ke : Int))), (D ((te : Int))), (iV .u64 ((ne : Int))), (lV Be be.length de), (lV Ae le.length ce)]).toArray) (e_elemsN (RV.lenIs (n := ts.length) (h16.rd 0 rfl) hll).2 i 0 ([(D ((ke : Int))), (D ((te : Int))), (iV .u64 ((ne : Int))), (lV Be be.length de), (lV Ae le.length ce)]) hxi 106 (.tmp 22) (by kernel_rfl) ([(D ((ke : Int))), (D ((te : Int))), (iV .u64 ((ne : Int))), (lV Be be.length de), (lV Ae le.length ce)]) (by kernel_rfl) (by kernel_rfl) (by kernel_rfl)) ?_)
    refine wT 5 (xN h16 106 ([O, O, (iV .u64 0), nS, nS])) ?_
    rintro _ w22 ⟨g22, rfl, h22⟩
    refine wq_to none (xSs h22 0 106 (.tmp 5) (.tmp 23) 0 ([(D ((ke : Int))), (D ((te : Int))), (iV .u64 ((ne : Int))), (lV Be be.length de), (lV Ae le.length ce)]) ([(D ((ke : Int))), (D ((te : Int))), (iV .u64 ((ne : Int))), (lV Be be.length de), (lV Ae le.length ce)])) ?_
    rintro _ w23 h23
    refine wE hK21 (reg_lit ?_)
    refine wq_p 1 [(24, (lV Av ((l : Bytes).length) cv))] (wV 25 (aV ([(D ((ke : Int))), (D ((te : Int))), (iV .u64 ((ne : Int))), (lV Be be.length de), (lV Ae le.length ce)]).toArray) (eLs (h23.at_ 0 rfl) 106 (.tmp 5) 0 ([(D ((ke : Int))), (D ((te : Int))), (iV .u64 ((ne : Int))), (lV Be be.length de), (lV Ae le.length ce)])) ?_)
    refine wT 26 (x_bytesE h23 58 [(aV ([(D ((ke : Int))), (D ((te : Int))), (iV .u64 ((ne : Int))), (lV Be be.length de), (lV Ae le.length ce)]).toArray)] (by kernel_rfl) (ih F _ (DVal.mk ke te ne be le) _ ⟨(h23.rd 2 rfl).1, (h23.rd 2 rfl).2 i _ _ hxi hui⟩ hru (by omega)) (wrV (DVal.mk ke te ne be le)) ((wrV (DVal.mk ke te ne be le)).length) rfl rfl) ?_
    rintro _ w24 ⟨A24, c24, rfl, h24⟩
    refine wT 27 (x_appG h24 2 rfl (.tmp 24) (.tmp 26) (by kernel_rfl) (lV A24 ((wrV (DVal.mk ke te ne be le)).length) c24) (by kernel_rfl) (by kernel_rfl) (OB.sb (h24.at_ 0 rfl)) (by omega) (l ++ (wrV (DVal.mk ke te ne be le))) ((l ++ (wrV (DVal.mk ke te ne be le))).length) rfl rfl) ?_
    rintro _ w25 ⟨A25, c25, rfl, h25⟩
    refine wq_p 1 [(3, (lV A25 ((l ++ (wrV (DVal.mk ke te ne be le))).length) c25))] ?_
    refine wl_end rfl (blk_n (seq_n hK20 (reg_lit ?_)))
    refine wV 28 (D (((i + 1 : Nat) : Int))) (exec_add _ _ _ _ rfl ((i : Int)) 1 (by kernel_rfl) (by kernel_rfl) (((i + 1 : Nat) : Int)) (by omega) (by omega) (by omega) _) (wq_p 1 [(20, (D (((i + 1 : Nat) : Int))))] ?_)
    refine wl_end rfl ?_
    refine ⟨ts.length - (i + 1), (by omega), (i + 1), ((l ++ wrV (DVal.mk ke te ne be le))), A25, c25, (by omega), (by rw [wrL_take ts i _ hui, ← hl]), rfl, (pEq 30), h25.sel [2, 3] [0, 1, 2] (by kernel_rfl) rfl rfl⟩
   ·
    refine wp_exit (seq_e (seq_e (blk_e (seq_n hK13 (wR fun K26 hK26 => ?_)))))
    refine wq_p 2 [(2, (lV Av ((l : Bytes).length) cv)), (29, (lV Av ((l : Bytes).length) cv))] ?_
    refine wE hK26 (wp_ret ?_)
    refine post_1 rfl (by kernel_rfl) (rtm (lV Av ((l : Bytes).length) cv)) ?_
    exact bodypost_ob h16 0 rfl (by rw [hB, hl, show i = ts.length by omega, List.take_length])
theorem write_step (d : Nat) (ih : ∀ (F : Nat -> Prop) (cs : List Value) (v : DVal) (w : World), (rDV F cs v).Φ w -> rightV v (d + 1) = true -> (wrV v).length <= 1000000 -> Calls Try.prog 58 #[.agg cs.toArray] w (BPost w (wrV v)))
   (F : Nat -> Prop) (cs : List Value) (v : DVal) (w : World) (hv : (rDV F cs v).Φ w) (hr : rightV v d = true) (hn : (wrV v).length <= 1000000) : Calls Try.prog 58 #[.agg cs.toArray] w (BPost w (wrV v)) := by
 have hbn := Nat.le_trans (wrV_len v) hn
 have hbody := body_step d ih F cs v
 obtain ⟨k, t, n, b, ts⟩ := v
 obtain ⟨B, dd, A, c, xs, rfl, hbb, hxx, hll, hn6, hbF, hLL⟩ := dv_open hv
 simp only [DVal.kind, DVal.tag, DVal.n, DVal.b, DVal.l] at *
 have hcap : ts.length <= 9223372036854775807 := by have h1 := hxx.le; have h2 := hxx.cap; unfold maxLen at h2; omega
 have hk2 := rightV_le hr
 have hh := headB_len k t (bodyV (DVal.mk k t n b ts)).length
 have h0 := Hp.ro1 (rDV F _ _) hv
 refine enter 15 Try.func58 rfl rfl ?_
 refine wp_reset 16 [(0, (aV ([(D ((k : Int))), (D ((t : Int))), (iV .u64 ((n : Int))), (lV B b.length dd), (lV A ts.length c)]).toArray))] (fun x0 => ?_)
 refine wR fun K1 hK1 => ?_
 refine wT 1 (xN h0 106 ([(D ((k : Int))), (D ((t : Int))), (iV .u64 ((n : Int))), (lV B b.length dd), (lV A ts.length c)])) ?_
 rintro _ w2 ⟨g2, rfl, h2⟩
 refine wq_p 1 [(2, nS)] ?_
 refine wE hK1 (wR fun K3 hK3 => ?_)
 refine wV 4 (aV ([(D ((k : Int))), (D ((t : Int))), (iV .u64 ((n : Int))), (lV B b.length dd), (lV A ts.length c)]).toArray) (eLs (h2.at_ 0 rfl) 106 (.tmp 1) 0 ([(D ((k : Int))), (D ((t : Int))), (iV .u64 ((n : Int))), (lV B b.length dd), (lV A ts.length c)])) ?_
 refine wT 5 (x_body h2 0 rfl 79 [(aV ([(D ((k : Int))), (D ((t : Int))), (iV .u64 ((n : Int))), (lV B b.length dd), (lV A ts.length c)]).toArray)] (by kernel_rfl) (hbody _ (h2.rd 0 rfl) hr hbn) (bodyV (DVal.mk k t n b ts)) ((bodyV (DVal.mk k t n b ts)).length) rfl rfl) ?_
 rintro _ w4 ⟨A4, c4, rfl, h4⟩
 refine wq_p 1 [(3, (lV A4 ((bodyV (DVal.mk k t n b ts)).length) c4))] ?_
 refine wE hK3 (wR fun K5 hK5 => ?_)
 refine wq_p 1 [(6, (pt g2 0))] (wV 7 (D ((k : Int))) (eL (h4.at_ 0 rfl) 3 (.tmp 6) 0 _) (wq_p 1 [(8, (pt g2 1))] (wV 9 (D ((t : Int))) (eL (h4.at_ 0 rfl) 3 (.tmp 8) 1 _) ?_)))
 refine wq_p 2 [(11, (D (((bodyV (DVal.mk k t n b ts)).length : Int)))), (10, (lV A4 ((bodyV (DVal.mk k t n b ts)).length) c4))] ?_
 refine wT 12 (x_bytesE h4 80 [(D ((k : Int))), (D ((t : Int))), (D (((bodyV (DVal.mk k t n b ts)).length : Int)))] (by kernel_rfl) (head_any k t (bodyV (DVal.mk k t n b ts)).length hk2.1 hk2.2.1 hbn _) (headB k t (bodyV (DVal.mk k t n b ts)).length) ((headB k t (bodyV (DVal.mk k t n b ts)).length).length) rfl rfl) ?_
 rintro _ w6 ⟨A6, c6, rfl, h6⟩
 refine wq_p 1 [(13, (lV A4 ((bodyV (DVal.mk k t n b ts)).length) c4))] ?_
 refine wT 14 (x_bs h6 22 ([(lV A6 ((headB k t (bodyV (DVal.mk k t n b ts)).length).length) c6), (lV A4 ((bodyV (DVal.mk k t n b ts)).length) c4)]) 2 (by kernel_rfl)) ?_
 rintro _ w7 ⟨g7, rfl, h7⟩
 refine wT 15 (x_bytesE h7 34 [(lV (some ⟨g7, 0, none⟩) 2 2)] (by kernel_rfl) (joined_any (lV (some ⟨g7, 0, none⟩) 2 2) [headB k t (bodyV (DVal.mk k t n b ts)).length, bodyV (DVal.mk k t n b ts)] _ (bs2 (h7.at_ 0 rfl) (OB.sb (h7.at_ 1 rfl)) (h7.rd 0 rfl)) (by simp only [List.flatten_cons, List.flatten_nil, List.length_append, List.length_nil]; omega)) ((headB k t (bodyV (DVal.mk k t n b ts)).length) ++ (bodyV (DVal.mk k t n b ts))) (((headB k t (bodyV (DVal.mk k t n b ts)).length) ++ (bodyV (DVal.mk k t n b ts))).length) (by simp) rfl) ?_
 rintro _ w8 ⟨A8, c8, rfl, h8⟩
 refine wq_p 1 [(2, (lV A8 (((headB k t (bodyV (DVal.mk k t n b ts)).length) ++ (bodyV (DVal.mk k t n b ts))).length) c8))] ?_
 refine wE hK5 (wp_ret ?_)
 refine post_1 rfl (by kernel_rfl) (rtm (lV A8 (((headB k t (bodyV (DVal.mk k t n b ts)).length) ++ (bodyV (DVal.mk k t n b ts))).length) c8)) ?_
 exact bpost_of h8 0 rfl (wrV_eq (DVal.mk k t n b ts)).symm
/-- A value's bytes: by the code. -/
theorem write_any (m : Nat) : ∀ (d : Nat), 9 <= d + m -> ∀ (F : Nat -> Prop) (cs : List Value) (v : DVal) (w : World), (rDV F cs v).Φ w -> rightV v d = true -> (wrV v).length <= 1000000 -> Calls Try.prog 58 #[.agg cs.toArray] w (BPost w (wrV v)) := by
 induction m with
 | zero => intro d h F cs v w hv hr hn; obtain ⟨k, t, n, b, ts⟩ := v; exact absurd (rightV_le hr).2.2 (by omega)
 | succ m ih => intro d h F cs v w hv hr hn; exact write_step d (ih (d + 1) (by omega)) F cs v w hv hr hn
theorem Right_any (F : Nat -> Prop) (cs : List Value) (v : DVal) (w : World) (hv : (rDV F cs v).Φ w) : Calls Try.prog 57 #[.agg cs.toArray] w (DPost w (.bool (rightV v 1))) := by
 obtain ⟨k, t, n, b, ts⟩ := v
 obtain ⟨B, dd, A, c, xs, rfl, hbb, hxx, hll, hn6, hbF, hLL⟩ := dv_open hv
 simp only [DVal.kind, DVal.tag, DVal.n, DVal.b, DVal.l] at *
 have hcap : ts.length <= 9223372036854775807 := by have h1 := hxx.le; have h2 := hxx.cap; unfold maxLen at h2; omega
 have h0 := Hp.ro1 (rDV F _ _) hv
 refine enter 4 Try.func57 rfl rfl ?_
 refine wp_reset 5 [(0, (aV ([(D ((k : Int))), (D ((t : Int))), (iV .u64 ((n : Int))), (lV B b.length dd), (lV A ts.length c)]).toArray))] (fun x0 => ?_)
 refine wR fun K1 hK1 => ?_
 refine wT 1 (xN h0 106 ([(D ((k : Int))), (D ((t : Int))), (iV .u64 ((n : Int))), (lV B b.length dd), (lV A ts.length c)])) ?_
 rintro _ w2 ⟨g2, rfl, h2⟩
 refine wq_p 1 [(2, V)] ?_
 refine wE hK1 (wR fun K3 hK3 => ?_)
 refine wV 3 (aV ([(D ((k : Int))), (D ((t : Int))), (iV .u64 ((n : Int))), (lV B b.length dd), (lV A ts.length c)]).toArray) (eLs (h2.at_ 0 rfl) 106 (.tmp 1) 0 ([(D ((k : Int))), (D ((t : Int))), (iV .u64 ((n : Int))), (lV B b.length dd), (lV A ts.length c)])) ?_
 refine wT 4 (x_dp h2 78 [(aV ([(D ((k : Int))), (D ((t : Int))), (iV .u64 ((n : Int))), (lV B b.length dd), (lV A ts.length c)]).toArray), (D 1)] (by kernel_rfl) (right_any 8 1 (by omega) (by omega) F _ (DVal.mk k t n b ts) _ (h2.rd 0 rfl))) ?_
 rintro _ w4 ⟨rfl, h4⟩
 refine wq_p 1 [(2, (bV (rightV (DVal.mk k t n b ts) 1)))] ?_
 refine wE hK3 (wp_ret ?_)
 refine post_1 rfl (by kernel_rfl) (rtm (bV (rightV (DVal.mk k t n b ts) 1))) ?_
 exact ⟨rfl, h4.below0⟩
/-- What der.Write leaves of a value that may be. -/
def WrPost (w : World) (l : Bytes) (e : Ending) (w' : World) : Prop := ∃ A c, e = .returned (.tuple #[.slice A l.length c, .int .i64 0]) /\ Hp (fun _ => False) w w' [] [rOB (.slice A l.length c) l]
theorem Write_any (F : Nat -> Prop) (cs : List Value) (v : DVal) (w : World) (hv : (rDV F cs v).Φ w) (hr : rightV v 1 = true) (hn : (wrV v).length <= 4096) : Calls Try.prog 37 #[.agg cs.toArray] w (WrPost w (wrV v)) := by
 obtain ⟨k, t, n, b, ts⟩ := v
 obtain ⟨B, dd, A, c, xs, rfl, hbb, hxx, hll, hn6, hbF, hLL⟩ := dv_open hv
 simp only [DVal.kind, DVal.tag, DVal.n, DVal.b, DVal.l] at *
 have hcap : ts.length <= 9223372036854775807 := by have h1 := hxx.le; have h2 := hxx.cap; unfold maxLen at h2; omega
 have h0 := Hp.ro1 (rDV F _ _) hv
 refine enter 13 Try.func37 rfl rfl ?_
 refine wp_reset 14 [(0, (aV ([(D ((k : Int))), (D ((t : Int))), (iV .u64 ((n : Int))), (lV B b.length dd), (lV A ts.length c)]).toArray))] (fun x0 => ?_)
 refine wR fun K1 hK1 => ?_
 refine wT 1 (xN h0 106 ([(D ((k : Int))), (D ((t : Int))), (iV .u64 ((n : Int))), (lV B b.length dd), (lV A ts.length c)])) ?_
 rintro _ w2 ⟨g2, rfl, h2⟩
 refine wq_p 2 [(3, O), (2, nS)] ?_
 refine wE hK1 (wp_seq_k fun K3 hK3 => wR fun K4 hK4 => ?_)
 refine wV 5 (aV ([(D ((k : Int))), (D ((t : Int))), (iV .u64 ((n : Int))), (lV B b.length dd), (lV A ts.length c)]).toArray) (eLs (h2.at_ 0 rfl) 106 (.tmp 1) 0 ([(D ((k : Int))), (D ((t : Int))), (iV .u64 ((n : Int))), (lV B b.length dd), (lV A ts.length c)])) ?_
 refine wT 6 (x_dp (v := .bool true) h2 57 [(aV ([(D ((k : Int))), (D ((t : Int))), (iV .u64 ((n : Int))), (lV B b.length dd), (lV A ts.length c)]).toArray)] (by kernel_rfl) (by have hz := Right_any F _ (DVal.mk k t n b ts) _ (h2.rd 0 rfl); rw [hr] at hz; exact hz)) ?_
 rintro _ w5 ⟨rfl, h5⟩
 refine wq_p 1 [(7, V)] ?_
 refine wE hK4 (cF (wp_skip (seq_n hK3 (wR fun K6 hK6 => ?_))))
 refine wV 8 (aV ([(D ((k : Int))), (D ((t : Int))), (iV .u64 ((n : Int))), (lV B b.length dd), (lV A ts.length c)]).toArray) (eLs (h5.at_ 0 rfl) 106 (.tmp 1) 0 ([(D ((k : Int))), (D ((t : Int))), (iV .u64 ((n : Int))), (lV B b.length dd), (lV A ts.length c)])) ?_
 refine wT 9 (x_bytesE h5 58 [(aV ([(D ((k : Int))), (D ((t : Int))), (iV .u64 ((n : Int))), (lV B b.length dd), (lV A ts.length c)]).toArray)] (by kernel_rfl) (write_any 8 1 (by omega) F _ (DVal.mk k t n b ts) _ (h5.rd 0 rfl) hr (by omega)) (wrV (DVal.mk k t n b ts)) ((wrV (DVal.mk k t n b ts)).length) rfl rfl) ?_
 rintro _ w7 ⟨A7, c7, rfl, h7⟩
 refine wq_p 1 [(4, (lV A7 ((wrV (DVal.mk k t n b ts)).length) c7))] ?_
 refine wE hK6 (wp_seq_k fun K8 hK8 => wR fun K9 hK9 => ?_)
 refine wq_p 2 [(11, (D (((wrV (DVal.mk k t n b ts)).length : Int)))), (10, (lV A7 ((wrV (DVal.mk k t n b ts)).length) c7))] (wV 12 (.bool false) (eqI (bV (decide (((wrV (DVal.mk k t n b ts)).length : Int) > 4096))) (by simp; omega)) ?_)
 refine wE hK9 (cF (wp_skip (seq_n hK8 (wR fun K10 hK10 => ?_))))
 refine wq_p 3 [(3, O), (2, (lV A7 ((wrV (DVal.mk k t n b ts)).length) c7)), (13, (lV A7 ((wrV (DVal.mk k t n b ts)).length) c7))] ?_
 refine wE hK10 (wp_ret ?_)
 refine post_2 rfl (by kernel_rfl) (rtm (lV A7 ((wrV (DVal.mk k t n b ts)).length) c7)) (rtm O) ?_
 exact ⟨_, _, rfl, h7.sel [0] [] (by decide) rfl rfl⟩
end
section
theorem getN_put8 (n : Nat) (h : n < 18446744073709551616) : getN (put8 n) = n := by
 have e : put8 n = [UInt8.ofNat (n / 72057594037927936), UInt8.ofNat (n / 281474976710656), UInt8.ofNat (n / 1099511627776), UInt8.ofNat (n / 4294967296), UInt8.ofNat (n / 16777216), UInt8.ofNat (n / 65536), UInt8.ofNat (n / 256), UInt8.ofNat (n / 1)] := rfl
 have f : ∀ x, nb (UInt8.ofNat x) = x % 256 := fun x => by unfold nb; simp
 rw [e]
 simp only [getN, List.foldl_cons, List.foldl_nil, f]
 omega
end
section
open Go.RowKit Go.QT
theorem foldN (r : Bytes) : ∀ x : Nat, r.foldl (fun n c => 256 * n + nb c) x = x * 256 ^ r.length + getN r := by
 induction r with
 | nil => intro x; simp [getN]
 | cons a r ih =>
   intro x
   have h1 := ih (256 * x + nb a)
   have h2 := ih (256 * 0 + nb a)
   unfold getN at *
   rw [List.foldl_cons, List.foldl_cons, h1, h2, List.length_cons, Nat.pow_succ, Nat.add_mul, Nat.add_mul]
   have : 256 * x * 256 ^ r.length = x * (256 ^ r.length * 256) := by rw [Nat.mul_comm 256 x, Nat.mul_assoc, Nat.mul_comm 256]
   omega
theorem getN_cons (a : UInt8) (r : Bytes) : getN (a :: r) = nb a * 256 ^ r.length + getN r := by
 have := foldN r (nb a)
 show r.foldl (fun n c => 256 * n + nb c) (256 * 0 + nb a) = _
 rw [Nat.mul_zero, Nat.zero_add]; exact this
theorem getN_zero (r : Bytes) : getN (0 :: r) = getN r := by
 have : nb (0 : UInt8) = 0 := by unfold nb; rfl
 rw [getN_cons, this, Nat.zero_mul, Nat.zero_add]
theorem getN_strip : ∀ l : Bytes, getN (stripZ l) = getN l
 | [] => rfl
 | [_] => rfl
 | a :: b :: r => by
   rw [stripZ]
   split
   · rename_i h; rw [getN_strip (b :: r), h, getN_zero]
   · rfl
theorem getN_short {n : Nat} (h : n < 18446744073709551616) : getN (shortB n) = n := by
 unfold shortB; rw [getN_strip, getN_put8 n h]
theorem strip_lead : ∀ l : Bytes, 1 < (stripZ l).length -> gb (stripZ l) 0 ≠ 0
 | [], h => by simp [stripZ] at h
 | [_], h => by simp [stripZ] at h
 | a :: b :: r, h => by
   rw [stripZ] at h ⊢
   split
   · rename_i h0; rw [if_pos h0] at h; exact strip_lead (b :: r) h
   · rename_i h0; exact h0
theorem short_lead (n : Nat) (h : 1 < (shortB n).length) : gb (shortB n) 0 ≠ 0 := strip_lead _ h
theorem nb_pos {x : UInt8} (h : x ≠ 0) : 0 < nb x := by
 rcases Nat.eq_zero_or_pos (nb x) with h0 | h0
 · exact absurd (UInt8.toNat_inj.1 (by unfold nb at h0; simpa using h0)) h
 · exact h0
theorem lead_ge (l : Bytes) (h : 1 < l.length) (h0 : gb l 0 ≠ 0) : 256 ^ (l.length - 1) <= getN l := by
 match l, h with
 | a :: r, _ =>
   have h1 := nb_pos (x := a) h0
   rw [getN_cons, List.length_cons, Nat.add_sub_cancel]
   have := Nat.mul_le_mul_right (256 ^ r.length) h1
   omega
/-- A length that has bytes of its own has one or two. -/
theorem short_two {m : Nat} (h0 : 128 <= m) (h : m < 65536) : ((shortB m).length = 1 /\ m < 256) ∨ ((shortB m).length = 2 /\ 256 <= m) := by
 have hg := getN_short (n := m) (by omega)
 have hne := List.length_pos_iff.2 (shortB_ne m)
 have hlt := getN_lt (shortB m) (shortB m).length (Nat.le_refl _)
 rw [List.take_length, hg] at hlt
 by_cases h1 : (shortB m).length = 1
 · rw [h1] at hlt; exact .inl ⟨h1, by omega⟩
 · have hge := lead_ge (shortB m) (by omega) (short_lead m (by omega))
   rw [hg] at hge
   by_cases h2 : (shortB m).length = 2
   · rw [h2] at hge; exact .inr ⟨h2, by omega⟩
   · exfalso
     have h3 : 256 ^ 2 <= 256 ^ ((shortB m).length - 1) := Nat.pow_le_pow_right (by omega) (by omega)
     omega
theorem nb_ofNat {n : Nat} (h : n < 256) : nb (UInt8.ofNat n) = n := by
 unfold nb; rw [UInt8.toNat_ofNat']; omega
/-- The second byte says how many follow .. -/
theorem head_lo1 (k t : Nat) {m : Nat} (h : m < 128) (r : Bytes) : nb (gb (headB k t m ++ r) 1) = m := by
 rw [headB_lo _ _ _ h]; exact nb_ofNat (by omega)
/-- .. or how many bytes say it. -/
theorem head_hi1 (k t : Nat) {m : Nat} (h : ¬ m < 128) (r : Bytes) : nb (gb (headB k t m ++ r) 1) = 128 + (shortB m).length := by
 rw [headB_hi _ _ _ h]; have := shortB_len m; exact nb_ofNat (by omega)
theorem head_0 (k t m : Nat) (hk : k <= 2) (ht : t <= 30) (r : Bytes) : nb (gb (headB k t m ++ r) 0) = k * 64 + t := by
 by_cases h : m < 128
 · rw [headB_lo _ _ _ h]; exact nb_ofNat (by omega)
 · rw [headB_hi _ _ _ h]; exact nb_ofNat (by omega)
theorem head_hi2 (k t : Nat) {m : Nat} (h : ¬ m < 128) (r : Bytes) : ((headB k t m ++ r).take (2 + (shortB m).length)).drop 2 = shortB m := by
 rw [headB_hi _ _ _ h]
 have e : 2 + (shortB m).length = ([UInt8.ofNat (k * 64 + t), UInt8.ofNat (128 + (shortB m).length)] ++ shortB m).length := by simp; omega
 rw [e, List.take_left]; rfl
theorem head_loL (k t : Nat) {m : Nat} (h : m < 128) : (headB k t m).length = 2 := by rw [headB_lo _ _ _ h]; rfl
theorem head_hiL (k t : Nat) {m : Nat} (h : ¬ m < 128) : (headB k t m).length = 2 + (shortB m).length := by rw [headB_hi _ _ _ h]; simp; omega
theorem u64_ub (x : UInt8) {m : Nat} (h : nb x = m) : Value.int .u64 (IntKind.u64.wrap (ub x)) = Value.int .u64 (m : Int) := by
 have := nb_lt x
 congr 1; rw [IntKind.wrap_u64]; unfold ub nb at *; omega
theorem i64_nat {m : Nat} (h : m < 9223372036854775808) : Value.int .i64 (IntKind.i64.wrap ((m : Nat) : Int)) = Value.int .i64 (m : Int) := by
 congr 1; rw [IntKind.wrap_i64]; omega
theorem u64_sub {m n p : Nat} (h : m = n + p) (hm : m < 18446744073709551616) : Value.int .u64 (IntKind.u64.wrap ((m : Nat) - (n : Nat) : Int)) = Value.int .u64 (p : Int) := by
 congr 1; rw [IntKind.wrap_u64]; omega
section
variable {o : Oper} {a : Act} {w : World} {F0 : Nat -> Prop} {w0 : World} {ro rs : List Res}
theorem x_getD (h : Hp F0 w0 w ro rs) (l : Bytes) (bv : Value) (hp : pureVal Try.prog (execOp a.eval o) = some (.enter 68 #[bv])) (hb : SB w bv l) (h0 : l.length ≠ 0) (h8 : l.length <= 8) (n : Nat) (hn : getN l = n) :
   OpTo Try.prog o a w (fun u w' => u = .tuple #[.int .u64 ((n : Nat) : Int), .bool true] /\ Hp F0 w0 w' ro rs) :=
 OpTo.enter 68 [bv] hp (get_any bv l w hb) fun e w' hq => by
   obtain ⟨he, m, rfl⟩ := hq
   rw [getP_yes l h0 h8, Option.getD_some, hn] at he
   exact ⟨_, he, rfl, h.drewN m⟩
end
end
end Go.Proofs.Ytecomegocafocaa
