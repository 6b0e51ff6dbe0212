/- What stands in boxes; what a value is: plain functions. Calls of the taker. -/
import Derived.Test.YtecomegocafocaaCA8
set_option maxRecDepth 100000
set_option maxHeartbeats 4000000
namespace Go.Proofs.Ytecomegocafocaa
section
open Go.RowKit Go.QT
abbrev TkSt := List DVal × Bool
def zDV : DVal := .mk 0 0 0 [] []
def nxV (k : Nat) : List DVal -> DVal
 | [] => zDV
 | v :: _ => if v.kind = k /\ v.tag = 0 then v else zDV
def nxT (k : Nat) : TkSt -> TkSt
 | ([], _) => ([], true)
 | (v :: r, b) => if v.kind = k /\ v.tag = 0 then (r, b) else ([], true)
theorem nx_bad {k : Nat} {v : DVal} {r : List DVal} (h : v.kind ≠ k ∨ v.tag ≠ 0) (b : Bool) : nxV k (v :: r) = zDV /\ nxT k (v :: r, b) = ([], true) := by
 have : ¬ (v.kind = k /\ v.tag = 0) := fun hh => h.elim (fun h => h hh.1) (fun h => h hh.2)
 exact ⟨if_neg this, if_neg this⟩
theorem nx_good {k : Nat} {v : DVal} {r : List DVal} (h : v.kind = k) (h2 : v.tag = 0) (b : Bool) : nxV k (v :: r) = v /\ nxT k (v :: r, b) = (r, b) := ⟨if_pos ⟨h, h2⟩, if_pos ⟨h, h2⟩⟩
/-- A number that is taken, and what is left. -/
def numO (T : TkSt) : Int := if (nxV 0 T.1).n > 1099511627776 then 0 else (nxV 0 T.1).n
def numT (T : TkSt) : TkSt := ((nxT 0 T).1, (nxT 0 T).2 || decide ((nxV 0 T.1).n > 1099511627776))
def nameO (T : TkSt) : ByteArray := ⟨(nxV 1 T.1).b.toArray⟩
def nameT (T : TkSt) : TkSt := ((nxT 1 T).1, (nxT 1 T).2 || !rightN (nameO T))
def keyF (b : Bytes) : Bytes := if b.length = 16 then b else zKey
def keyO (T : TkSt) : Fin 16 -> UInt8 := fun i => gb (keyF (nxV 1 T.1).b) i.val
def keyT (T : TkSt) : TkSt := ((nxT 1 T).1, (nxT 1 T).2 || !decide ((nxV 1 T.1).b.length = 16))
def truthO (T : TkSt) : Bool := decide ((nxV 0 T.1).n = 1)
def truthT (T : TkSt) : TkSt := ((nxT 0 T).1, (nxT 0 T).2 || decide ((nxV 0 T.1).n > 1))
def bytesO (T : TkSt) : Bytes := (nxV 1 T.1).b
def bytesT (T : TkSt) : TkSt := nxT 1 T
def doneO (T : TkSt) : Bool := !T.2 && decide (T.1.length = 0)
/-- No bytes are very long. -/
def Sm (ts : List DVal) : Prop := ∀ v ∈ ts, v.b.length <= 1000000
theorem Sm.nxV {ts : List DVal} (h : Sm ts) (k : Nat) : (nxV k ts).b.length <= 1000000 := by
 cases ts with
 | nil => exact Nat.zero_le _
 | cons v r =>
   by_cases hc : v.kind = k /\ v.tag = 0
   · rw [(nx_good (r := r) hc.1 hc.2 true).1]; exact h v (by simp)
   · rw [Go.Proofs.Ytecomegocafocaa.nxV, if_neg hc]; exact Nat.zero_le _
theorem Sm.nxT {T : TkSt} (h : Sm T.1) (k : Nat) : Sm (nxT k T).1 := by
 obtain ⟨ts, b⟩ := T
 cases ts with
 | nil => intro v hv; cases hv
 | cons v r =>
   by_cases hc : v.kind = k /\ v.tag = 0
   · rw [(nx_good (r := r) hc.1 hc.2 b).2]; exact fun u hu => h u (by simp [hu])
   · rw [Go.Proofs.Ytecomegocafocaa.nxT, if_neg hc]; intro v hv; cases hv
/-- A list of values, all of which lies in the blocks G. -/
def rLst (G : Nat -> Prop) (A : Option Addr) (c : Nat) (ts : List DVal) : Res where
 F := G
 Φ := fun w => (∀ q, G q -> q < w.heap.size) /\ ∃ xs, RVF G w 5 A c xs /\ xs.length = ts.length /\ ∀ (i : Nat) (x : List Value) (u : DVal), xs[i]? = some x -> ts[i]? = some u -> DVR G w x u
 lt := fun h => h.1
 keep := fun h hs hk => ⟨fun q hq => Nat.lt_of_lt_of_le (h.1 q hq) hs, by
   obtain ⟨_, xs, h1, h2, h3⟩ := h
   exact ⟨xs, h1.keep hs hk, h2, fun i x u hx hu => (h3 i x u hx hu).keep hs hk⟩⟩
/-- Bytes that lie in the blocks G. -/
def rSG (G : Nat -> Prop) (v : Value) (b : Bytes) : Res where
 F := G
 Φ := fun w => (∀ q, G q -> q < w.heap.size) /\ SBF G w v b
 lt := fun h => h.1
 keep := fun h hs hk => ⟨fun q hq => Nat.lt_of_lt_of_le (h.1 q hq) hs, h.2.keep hs hk⟩
theorem dv_lst {G : Nat -> Prop} {w : World} {cs : List Value} {v : DVal} (h : (rDV G cs v).Φ w) : ∃ B d A c, cs = [.int .i64 (v.kind : Int), .int .i64 (v.tag : Int), .int .u64 (v.n : Int), .slice B v.b.length d, .slice A v.l.length c] /\
   (rSG G (.slice B v.b.length d) v.b).Φ w /\ (rLst G A c v.l).Φ w /\ v.n < 18446744073709551616 := by
 obtain ⟨hF, h⟩ := h
 cases h with
 | mk k t n bv b A c xs ts hn hb hx hl hs =>
   obtain ⟨B, d, rfl, _⟩ := id hb.1
   exact ⟨B, d, A, c, rfl, ⟨hF, hb⟩, ⟨hF, xs, hx, hl, hs⟩, hn⟩
theorem lst_nil {G : Nat -> Prop} {w : World} (hG : ∀ q, G q -> q < w.heap.size) (A : Option Addr) (c : Nat) (hc : c <= maxLen) : (rLst G A c []).Φ w := ⟨hG, [], rvf_nil _ _ _ _ hc _, rfl, by simp⟩
theorem sg_nil {G : Nat -> Prop} {w : World} (hG : ∀ q, G q -> q < w.heap.size) : (rSG G (.slice none 0 0) []).Φ w := ⟨hG, sbf_nil _ _⟩
/-- Where a list goes on behind its first one. -/
def tlA (sz : Nat) (A : Option Addr) (c : Nat) : Option Addr := if c = 1 then A else A.map (·.add (1 * sz))
section
variable {P : Program} {w : World} {sz c : Nat} {A : Option Addr} {x : List Value} {xs : List (List Value)} {o : Oper} {a : Act}
theorem RV.tailA (h : RV w sz A c (x :: xs)) : RV w sz (tlA sz A c) (c - 1) xs := by
 have hle := h.le
 rw [List.length_cons] at hle
 refine ⟨by omega, by have := h.cap; omega, fun y hy => h.len y (by simp [hy]), fun hne => ?_⟩
 obtain ⟨b, o, rfl, hb, hc⟩ := h.at_ (by simp)
 have hp := List.length_pos_iff.2 hne
 refine ⟨b, o + sz, ?_, hb, fun i y hy j u hu => ?_⟩
 · unfold tlA
   rw [if_neg (by omega)]
   simp [Addr.add]
 · have := hc (i + 1) y (by simpa using hy) j u hu
   rw [Nat.add_mul, Nat.one_mul] at this
   rw [show o + sz + i * sz + j = o + (i * sz + sz) + j by omega]
   exact this
theorem tlA_own {q : Nat} (h : ownA (tlA sz A c) = some q) : ownA A = some q := by
 unfold tlA at h
 split at h
 · exact h
 · cases A with
   | none => exact h
   | some a => rw [Option.map_some] at h; rw [← h]; show some a.block = some (a.add (1 * sz)).block; rw [block_of_add]
theorem RVF.tailA {G : Nat -> Prop} (h : RVF G w sz A c (x :: xs)) : RVF G w sz (tlA sz A c) (c - 1) xs := ⟨h.1.tailA, fun _ q hq => h.2 (by simp) q (tlA_own hq)⟩
/-- v[1:]. -/
theorem e_tailA {n : Nat} (hn : 0 < n) (t : TypeId) (x lo : Operand) (ho : o.op = .slice t x (some lo) none none) (hx : a.eval x = .slice A n c) (k : IntKind) (hlo : a.eval lo = .int k 1) (ht : P.underlying t = some (.slice (P.elem t))) (hE : pureVal P (sizeOf (P.elem t)) = some sz) (W : World) :
   (execOp a.eval o).run P W = .ok (.value (.slice (tlA sz A c) (n - 1) (c - 1))) W := by
 have hsz := pureVal_run hE W
 have hr : (Instr.sliceAt t (.slice A n c) (some (.int k 1)) none none).run P W = .ok (.slice (tlA sz A c) (n - 1) (c - 1)) W := by
   rw [run_sliceAt_slice W t _ _ _ _ ht, run_slice_l W t A _ c ht k 1 (by omega) (by omega), hsz]
   rfl
 unfold execOp
 simp only [ho, hx, hlo, Option.map_some, Option.map_none, Sem.run_bind, hr, Result.andThen_ok, Sem.run_pure]
end
theorem lst_tail {G : Nat -> Prop} {w : World} {A : Option Addr} {c : Nat} {v : DVal} {r : List DVal} (h : (rLst G A c (v :: r)).Φ w) : (rLst G (tlA 5 A c) (c - 1) r).Φ w := by
 obtain ⟨hG, xs, h1, h2, h3⟩ := h
 cases xs with
 | nil => cases h2
 | cons x xs => exact ⟨hG, xs, h1.tailA, by simpa using h2, fun i y u hy hu => h3 (i + 1) y u (by simpa using hy) (by simpa using hu)⟩
/-- The first one of a list. -/
theorem lst_head {G : Nat -> Prop} {w : World} {A : Option Addr} {c : Nat} {v : DVal} {r : List DVal} (h : (rLst G A c (v :: r)).Φ w) : ∃ xs cs, RV w 5 A c xs /\ xs.length = (v :: r).length /\ xs[0]? = some cs /\ (rDV G cs v).Φ w /\ (∀ q, (rRV 5 A c xs).F q -> G q) := by
 obtain ⟨hG, xs, h1, h2, h3⟩ := h
 cases xs with
 | nil => cases h2
 | cons x xs => exact ⟨x :: xs, x, h1.1, h2, rfl, ⟨hG, h3 0 x v rfl rfl⟩, fun q hq => h1.2 hq.1 q hq.2⟩
/-- What a method of the taker leaves. -/
def TkPost (w : World) (tb : Nat) (G : Nat -> Prop) (T : TkSt) (u : Value) (e : Ending) (w' : World) : Prop :=
 ∃ A c ts b, ts = T.1 /\ b = T.2 /\ e = .returned u /\ Hp (fun q => q = tb) w w' [rLst G A c ts] [rBlk tb 175 [.slice A ts.length c, .bool b]]
def BkPost (w : World) (tb : Nat) (G : Nat -> Prop) (T : TkSt) (l : Bytes) (e : Ending) (w' : World) : Prop :=
 ∃ A c ts b B d, ts = T.1 /\ b = T.2 /\ e = .returned (.slice B l.length d) /\ Hp (fun q => q = tb) w w' [rLst G A c ts, rSG G (.slice B l.length d) l] [rBlk tb 175 [.slice A ts.length c, .bool b]]
def NxPost (w : World) (tb : Nat) (G : Nat -> Prop) (T : TkSt) (v : DVal) (e : Ending) (w' : World) : Prop :=
 ∃ A c B d A2 c2 ts b, ts = T.1 /\ b = T.2 /\ e = .returned (.agg #[.int .i64 (v.kind : Int), .int .i64 (v.tag : Int), .int .u64 (v.n : Int), .slice B v.b.length d, .slice A2 v.l.length c2]) /\ v.n < 18446744073709551616 /\
   Hp (fun q => q = tb) w w' [rLst G A c ts, rSG G (.slice B v.b.length d) v.b, rLst G A2 c2 v.l] [rBlk tb 175 [.slice A ts.length c, .bool b]]
section
variable {o : Oper} {a : Act} {F0 : Nat -> Prop} {w0 w w' : World} {ro rs : List Res} {tb : Nat} {G : Nat -> Prop} {A : Option Addr} {c : Nat} {ts : List DVal} {b : Bool}
/-- What comes back from a call that was given one thing to turn, and what it read. -/
theorem Hp.callR {ro' : List Res} (h : Hp F0 w0 w ro rs) (i : Nat) {r r' : Res} (hi : rs[i]? = some r) (k : Nat) {s : Res} (hk : ro[k]? = some s) (hc : Hp r.F w w' ro' [r']) (hL : ∀ t ∈ ro', ∀ q, t.F q -> s.F q) : Hp F0 w0 w' (ro' ++ ro) (rs.set i r') := by
 have hu := h.upd i hi hc.fr r' (hc.own 0 _ rfl) (hc.mine 0 _ rfl)
 have hd : ∀ t ∈ ro', ∀ (j : Nat) (u : Res), (rs.set i r')[j]? = some u -> t.dj u := fun t ht j u hj q h1 h2 => by
   by_cases hij : j = i
   · subst hij
     rw [List.getElem?_set_self (List.getElem?_eq_some_iff.1 hi).1] at hj
     injection hj with hj; subst hj
     obtain ⟨m, hm, rfl⟩ := List.getElem_of_mem ht
     exact hc.rdis m 0 _ _ (List.getElem?_eq_getElem hm) rfl q h1 h2
   · rw [List.getElem?_set_ne (by omega)] at hj
     exact h.rdis k j _ u hk hj q (hL t ht q h1) h2
 have hr : ∀ t ∈ ro', t.Φ w' := fun t ht => by
   obtain ⟨m, hm, rfl⟩ := List.getElem_of_mem ht
   exact hc.red m _ (List.getElem?_eq_getElem hm)
 clear hc hL
 induction ro' with
 | nil => exact hu
 | cons t l ih => exact (ih (fun t ht => hd t (by simp [ht])) (fun t ht => hr t (by simp [ht]))).addR t (hr t (by simp)) (hd t (by simp))
/-- The taker's methods, at their callers. -/
theorem x_tk (h : Hp F0 w0 w ro rs) (i : Nat) {cs : List Value} (hi : rs[i]? = some (rBlk tb 175 cs)) (k : Nat) (hk : ro[k]? = some (rLst G A c ts)) {T : TkSt} {u : Value} (fn : FuncId) (al : List Value) (hp : pureVal Try.prog (execOp a.eval o) = some (.enter fn al.toArray)) (hc : Calls Try.prog fn al.toArray w (TkPost w tb G T u)) :
   OpTo Try.prog o a w (fun u' w' => ∃ A c ts b, ts = T.1 /\ b = T.2 /\ u' = u /\ Hp F0 w0 w' (rLst G A c ts :: ro) (rs.set i (rBlk tb 175 [.slice A ts.length c, .bool b]))) :=
 OpTo.enter fn al hp hc fun e w' ⟨A, c, ts, b, h1, h2, he, hh⟩ => ⟨_, he, A, c, ts, b, h1, h2, rfl, h.callR i hi k hk (Hp.weaken hh (fun q hq => hq ▸ rfl)) (by intro t ht; simp at ht; subst ht; exact fun q hq => hq)⟩
theorem x_bk (h : Hp F0 w0 w ro rs) (i : Nat) {cs : List Value} (hi : rs[i]? = some (rBlk tb 175 cs)) (k : Nat) (hk : ro[k]? = some (rLst G A c ts)) {T : TkSt} {l : Bytes} (fn : FuncId) (al : List Value) (hp : pureVal Try.prog (execOp a.eval o) = some (.enter fn al.toArray)) (hc : Calls Try.prog fn al.toArray w (BkPost w tb G T l)) :
   OpTo Try.prog o a w (fun u' w' => ∃ A c ts b B d, ts = T.1 /\ b = T.2 /\ u' = .slice B l.length d /\ Hp F0 w0 w' (rLst G A c ts :: rSG G (.slice B l.length d) l :: ro) (rs.set i (rBlk tb 175 [.slice A ts.length c, .bool b]))) :=
 OpTo.enter fn al hp hc fun e w' ⟨A, c, ts, b, B, d, h1, h2, he, hh⟩ => ⟨_, he, A, c, ts, b, B, d, h1, h2, rfl, h.callR i hi k hk (Hp.weaken hh (fun q hq => hq ▸ rfl)) (by intro t ht; simp at ht; rcases ht with rfl | rfl <;> exact fun q hq => hq)⟩
theorem x_nx (h : Hp F0 w0 w ro rs) (i : Nat) {cs : List Value} (hi : rs[i]? = some (rBlk tb 175 cs)) (k : Nat) (hk : ro[k]? = some (rLst G A c ts)) {T : TkSt} {v : DVal} (fn : FuncId) (al : List Value) (hp : pureVal Try.prog (execOp a.eval o) = some (.enter fn al.toArray)) (hc : Calls Try.prog fn al.toArray w (NxPost w tb G T v)) :
   OpTo Try.prog o a w (fun u' w' => ∃ A c B d A2 c2 ts b, ts = T.1 /\ b = T.2 /\ u' = .agg #[.int .i64 (v.kind : Int), .int .i64 (v.tag : Int), .int .u64 (v.n : Int), .slice B v.b.length d, .slice A2 v.l.length c2] /\ v.n < 18446744073709551616 /\
     Hp F0 w0 w' (rLst G A c ts :: rSG G (.slice B v.b.length d) v.b :: rLst G A2 c2 v.l :: ro) (rs.set i (rBlk tb 175 [.slice A ts.length c, .bool b]))) :=
 OpTo.enter fn al hp hc fun e w' ⟨A, c, B, d, A2, c2, ts, b, h1, h2, he, hn, hh⟩ => ⟨_, he, A, c, B, d, A2, c2, ts, b, h1, h2, rfl, hn, h.callR i hi k hk (Hp.weaken hh (fun q hq => hq ▸ rfl)) (by intro t ht; simp at ht; rcases ht with rfl | rfl | rfl <;> exact fun q hq => hq)⟩
end
end
section
open Go.Value renaming int -> iV, slice -> lV, string -> sV, bool -> bV, agg -> aV
open Go.RowKit Go.QT
theorem sel1 {a s : Res} {j : Nat} (h : [a][j]? = some s) : some a = some s := by
 cases j with
 | zero => exact h
 | succ j => cases h
theorem len_pos0 {v : DVal} {r : List DVal} : bV ((((v :: r).length : Nat) : Int) == 0) = bV false := by
 congr 1
theorem next_nil {tb : Nat} {G : Nat -> Prop} {A : Option Addr} {c : Nat} {bad : Bool} (k : Nat) {w : World}  (hL : (rLst G A c (([] : List DVal))).Φ w) (hb : Blk w tb 175 [.slice A (([] : List DVal)).length c, .bool bad]) (hd : ¬ G tb) : Calls Try.prog 82 #[pt tb 0, .int .i64 (k : Int)] w (NxPost w tb G ([], true) zDV) := by
 have hdd : ∀ (j : Nat) (s : Res), [rBlk tb 175 [.slice A 0 c, .bool bad]][j]? = some s -> (rLst G A c (([] : List DVal))).dj s := fun j s hj q h1 h2 => by
   have h3 := sel1 hj
   injection h3 with h3
   subst h3
   exact hd (by rw [show q = tb from h2] at h1; exact h1)
 have h0 := ((Hp.one (rBlk tb 175 [.slice A 0 c, .bool bad]) hb).weaken (F := fun q => q = tb) (fun q hq => hq)).addR (rLst G A c ([])) hL hdd
 refine enter 53 Try.func82 rfl rfl ?_
 refine wp_reset 55 [(0, (pt tb 0)), (1, (D ((k : Int))))] (fun x0 => ?_)
 refine wR fun K1 hK1 => ?_
 refine wT 4 (xN h0 106 ([O, O, (iV .u64 0), nS, nS])) ?_
 rintro _ w2 ⟨g2, rfl, h2⟩
 refine wE hK1 (wp_seq_k fun K3 hK3 => wR fun K4 hK4 => ?_)
 refine wq_p 3 [(8, (pt tb 0)), (7, (pt tb 0)), (6, (pt tb 0))] (wV 9 (lV A 0 c) (eL (h2.at_ 1 rfl) 104 (.tmp 8) 0 _) (wq_p 23 [(32, I), (31, undef), (30, undef), (29, undef), (28, undef), (27, undef), (26, undef), (25, undef), (24, undef), (23, I), (22, I), (21, undef), (20, undef), (19, undef), (18, undef), (17, undef), (16, undef), (15, undef), (14, undef), (13, undef), (12, I), (11, I), (10, O)] ?_))
 refine wE hK4 (cT (wR fun K5 hK5 => ?_))
 refine wq_p 4 [(36, (pt tb 1)), (35, (pt tb 0)), (34, (pt tb 0)), (33, (pt tb 0))] ?_
 refine wq_to none (xSt h2 1 4 (.tmp 36) (.const I) 1 I ([(lV A 0 c), I])) ?_
 rintro _ w6 h6
 refine wq_p 2 [(38, (pt tb 0)), (37, (pt tb 0))] ?_
 refine wq_to none (xSt h6 1 104 (.tmp 38) (.const nS) 0 nS ([nS, I])) ?_
 rintro _ w7 h7
 refine wE hK5 (wR fun K8 hK8 => ?_)
 refine wq_p 1 [(39, (aV ([O, O, (iV .u64 0), nS, nS]).toArray))] ?_
 refine wq_to none (xSs h7 0 106 (.tmp 4) (.tmp 39) 0 ([O, O, (iV .u64 0), nS, nS]) ([O, O, (iV .u64 0), nS, nS])) ?_
 rintro _ w9 h9
 refine wE hK8 (wp_ret (seq_r ?_))
 refine post_1 rfl (by kernel_rfl) (rce (h9.at_ 0 rfl)) ?_
 exact ⟨none, 0, none, 0, none, 0, [], true, rfl, rfl, rfl, by decide, (((h9.sel [1] [] rfl rfl rfl).addR (rLst G none 0 []) (lst_nil (fun q hq => Nat.lt_of_lt_of_le (hL.1 q hq) h9.fr.size) _ _ (by unfold maxLen; omega)) (fun j s hj q h1 h2 => h9.rdis 0 1 _ s rfl (sel1 hj) q h1 h2)).addR (rSG G (.slice none 0 0) []) (sg_nil (fun q hq => Nat.lt_of_lt_of_le (hL.1 q hq) h9.fr.size)) (fun j s hj q h1 h2 => h9.rdis 0 1 _ s rfl (sel1 hj) q h1 h2)).addR (rLst G none 0 []) (lst_nil (fun q hq => Nat.lt_of_lt_of_le (hL.1 q hq) h9.fr.size) _ _ (by unfold maxLen; omega)) (fun j s hj q h1 h2 => h9.rdis 0 1 _ s rfl (sel1 hj) q h1 h2)⟩
theorem next_kind {tb : Nat} {G : Nat -> Prop} {A : Option Addr} {c : Nat} {bad : Bool} (k : Nat) {w : World} (v : DVal) (r : List DVal) (hk : v.kind ≠ k) (hL : (rLst G A c (v :: r)).Φ w) (hb : Blk w tb 175 [.slice A (v :: r).length c, .bool bad]) (hd : ¬ G tb) : Calls Try.prog 82 #[pt tb 0, .int .i64 (k : Int)] w (NxPost w tb G ([], true) zDV) := by
 obtain ⟨xs, cs, hx, hll, hxi, hv, hxF⟩ := lst_head hL
 obtain ⟨B, d, A2, c2, rfl, hsg, hls, hn⟩ := dv_lst hv
 have hxx := hxi
 have hdd : ∀ (j : Nat) (s : Res), [rBlk tb 175 [.slice A (v :: r).length c, .bool bad]][j]? = some s -> (rLst G A c (v :: r)).dj s := fun j s hj q h1 h2 => by
   have h3 := sel1 hj
   injection h3 with h3
   subst h3
   exact hd (by rw [show q = tb from h2] at h1; exact h1)
 have h0 := ((((((Hp.one (rBlk tb 175 [.slice A (v :: r).length c, .bool bad]) hb).weaken (F := fun q => q = tb) (fun q hq => hq)).addR (rLst G A c (v :: r)) hL hdd).addR (rRV 5 A c xs) hx (fun j s hj q h1 h2 => hdd j s hj q (hxF q h1) h2)).addR (rLst G A2 c2 v.l) hls (fun j s hj => hdd j s hj)).addR (rSG G (.slice B v.b.length d) v.b) hsg (fun j s hj => hdd j s hj))
 refine enter 53 Try.func82 rfl rfl ?_
 refine wp_reset 55 [(0, (pt tb 0)), (1, (D ((k : Int))))] (fun x0 => ?_)
 refine wR fun K1 hK1 => ?_
 refine wT 4 (xN h0 106 ([O, O, (iV .u64 0), nS, nS])) ?_
 rintro _ w2 ⟨g2, rfl, h2⟩
 refine wE hK1 (wp_seq_k fun K3 hK3 => wR fun K4 hK4 => ?_)
 refine wq_p 3 [(8, (pt tb 0)), (7, (pt tb 0)), (6, (pt tb 0))] (wV 9 (lV A ((v :: r).length) c) (eL (h2.at_ 1 rfl) 104 (.tmp 8) 0 _) (wq_p 1 [(10, (D (((v :: r).length : Int))))] (wV 11 V (eqI (bV ((((v :: r).length : Int)) == 0)) len_pos0) ?_)))
 refine wq_p 4 [(15, (pt tb 0)), (14, (pt tb 0)), (13, (pt tb 0)), (12, V)] (wV 16 (lV A ((v :: r).length) c) (eL (h2.at_ 1 rfl) 104 (.tmp 15) 0 _) (wV 17 (eAt A (0 * 5 + 0)) (eIx (RV.lenIs (n := (v :: r).length) (h2.rd 2 rfl) hll).2 0 ((v :: r).length) (RV.lenIs (n := (v :: r).length) (h2.rd 2 rfl) hll).1 (by simp) 104 (.tmp 16) (.const O) .i64 106) (wV 18 (eAt A (0 * 5 + 0)) (e_fldN (RV.lenIs (n := (v :: r).length) (h2.rd 2 rfl) hll).2 0 0 0 ([(D ((v.kind : Int))), (D ((v.tag : Int))), (iV .u64 ((v.n : Int))), (lV B v.b.length d), (lV A2 v.l.length c2)]) hxi (.tmp 17) (by kernel_rfl) (fun _ _ => by kernel_rfl) (fun _ => rfl) _) ?_)))
 refine wV 19 (D ((v.kind : Int))) (eEl (RV.lenIs (n := (v :: r).length) (h2.rd 2 rfl) hll).2 0 0 ([(D ((v.kind : Int))), (D ((v.tag : Int))), (iV .u64 ((v.n : Int))), (lV B v.b.length d), (lV A2 v.l.length c2)]) hxi 3 (.tmp 18) (D ((v.kind : Int)))) (wq_p 1 [(20, (D ((k : Int))))] (wV 21 I (eqI (bV (((v.kind : Int)) != ((k : Int)))) (ine hk)) (wq_p 11 [(32, I), (31, undef), (30, undef), (29, undef), (28, undef), (27, undef), (26, undef), (25, undef), (24, undef), (23, I), (22, I)] ?_)))
 refine wE hK4 (cT (wR fun K5 hK5 => ?_))
 refine wq_p 4 [(36, (pt tb 1)), (35, (pt tb 0)), (34, (pt tb 0)), (33, (pt tb 0))] ?_
 refine wq_to none (xSt h2 1 4 (.tmp 36) (.const I) 1 I ([(lV A ((v :: r).length) c), I])) ?_
 rintro _ w6 h6
 refine wq_p 2 [(38, (pt tb 0)), (37, (pt tb 0))] ?_
 refine wq_to none (xSt h6 1 104 (.tmp 38) (.const nS) 0 nS ([nS, I])) ?_
 rintro _ w7 h7
 refine wE hK5 (wR fun K8 hK8 => ?_)
 refine wq_p 1 [(39, (aV ([O, O, (iV .u64 0), nS, nS]).toArray))] ?_
 refine wq_to none (xSs h7 0 106 (.tmp 4) (.tmp 39) 0 ([O, O, (iV .u64 0), nS, nS]) ([O, O, (iV .u64 0), nS, nS])) ?_
 rintro _ w9 h9
 refine wE hK8 (wp_ret (seq_r ?_))
 refine post_1 rfl (by kernel_rfl) (rce (h9.at_ 0 rfl)) ?_
 exact ⟨none, 0, none, 0, none, 0, [], true, rfl, rfl, rfl, by decide, (((h9.sel [1] [] rfl rfl rfl).addR (rLst G none 0 []) (lst_nil (fun q hq => Nat.lt_of_lt_of_le (hL.1 q hq) h9.fr.size) _ _ (by unfold maxLen; omega)) (fun j s hj q h1 h2 => h9.rdis 3 1 _ s rfl (sel1 hj) q h1 h2)).addR (rSG G (.slice none 0 0) []) (sg_nil (fun q hq => Nat.lt_of_lt_of_le (hL.1 q hq) h9.fr.size)) (fun j s hj q h1 h2 => h9.rdis 3 1 _ s rfl (sel1 hj) q h1 h2)).addR (rLst G none 0 []) (lst_nil (fun q hq => Nat.lt_of_lt_of_le (hL.1 q hq) h9.fr.size) _ _ (by unfold maxLen; omega)) (fun j s hj q h1 h2 => h9.rdis 3 1 _ s rfl (sel1 hj) q h1 h2)⟩
theorem next_tag {tb : Nat} {G : Nat -> Prop} {A : Option Addr} {c : Nat} {bad : Bool} (k : Nat) {w : World} (v : DVal) (r : List DVal) (hk : v.kind = k) (ht : v.tag ≠ 0) (hL : (rLst G A c (v :: r)).Φ w) (hb : Blk w tb 175 [.slice A (v :: r).length c, .bool bad]) (hd : ¬ G tb) : Calls Try.prog 82 #[pt tb 0, .int .i64 (k : Int)] w (NxPost w tb G ([], true) zDV) := by
 obtain ⟨xs, cs, hx, hll, hxi, hv, hxF⟩ := lst_head hL
 obtain ⟨B, d, A2, c2, rfl, hsg, hls, hn⟩ := dv_lst hv
 have hxx := hxi
 have hdd : ∀ (j : Nat) (s : Res), [rBlk tb 175 [.slice A (v :: r).length c, .bool bad]][j]? = some s -> (rLst G A c (v :: r)).dj s := fun j s hj q h1 h2 => by
   have h3 := sel1 hj
   injection h3 with h3
   subst h3
   exact hd (by rw [show q = tb from h2] at h1; exact h1)
 have h0 := ((((((Hp.one (rBlk tb 175 [.slice A (v :: r).length c, .bool bad]) hb).weaken (F := fun q => q = tb) (fun q hq => hq)).addR (rLst G A c (v :: r)) hL hdd).addR (rRV 5 A c xs) hx (fun j s hj q h1 h2 => hdd j s hj q (hxF q h1) h2)).addR (rLst G A2 c2 v.l) hls (fun j s hj => hdd j s hj)).addR (rSG G (.slice B v.b.length d) v.b) hsg (fun j s hj => hdd j s hj))
 refine enter 53 Try.func82 rfl rfl ?_
 refine wp_reset 55 [(0, (pt tb 0)), (1, (D ((k : Int))))] (fun x0 => ?_)
 refine wR fun K1 hK1 => ?_
 refine wT 4 (xN h0 106 ([O, O, (iV .u64 0), nS, nS])) ?_
 rintro _ w2 ⟨g2, rfl, h2⟩
 refine wE hK1 (wp_seq_k fun K3 hK3 => wR fun K4 hK4 => ?_)
 refine wq_p 3 [(8, (pt tb 0)), (7, (pt tb 0)), (6, (pt tb 0))] (wV 9 (lV A ((v :: r).length) c) (eL (h2.at_ 1 rfl) 104 (.tmp 8) 0 _) (wq_p 1 [(10, (D (((v :: r).length : Int))))] (wV 11 V (eqI (bV ((((v :: r).length : Int)) == 0)) len_pos0) ?_)))
 refine wq_p 4 [(15, (pt tb 0)), (14, (pt tb 0)), (13, (pt tb 0)), (12, V)] (wV 16 (lV A ((v :: r).length) c) (eL (h2.at_ 1 rfl) 104 (.tmp 15) 0 _) (wV 17 (eAt A (0 * 5 + 0)) (eIx (RV.lenIs (n := (v :: r).length) (h2.rd 2 rfl) hll).2 0 ((v :: r).length) (RV.lenIs (n := (v :: r).length) (h2.rd 2 rfl) hll).1 (by simp) 104 (.tmp 16) (.const O) .i64 106) (wV 18 (eAt A (0 * 5 + 0)) (e_fldN (RV.lenIs (n := (v :: r).length) (h2.rd 2 rfl) hll).2 0 0 0 ([(D ((v.kind : Int))), (D ((v.tag : Int))), (iV .u64 ((v.n : Int))), (lV B v.b.length d), (lV A2 v.l.length c2)]) hxi (.tmp 17) (by kernel_rfl) (fun _ _ => by kernel_rfl) (fun _ => rfl) _) ?_)))
 refine wV 19 (D ((v.kind : Int))) (eEl (RV.lenIs (n := (v :: r).length) (h2.rd 2 rfl) hll).2 0 0 ([(D ((v.kind : Int))), (D ((v.tag : Int))), (iV .u64 ((v.n : Int))), (lV B v.b.length d), (lV A2 v.l.length c2)]) hxi 3 (.tmp 18) (D ((v.kind : Int)))) (wq_p 1 [(20, (D ((k : Int))))] (wV 21 V (eqI (bV (((v.kind : Int)) != ((k : Int)))) (ieq hk)) (wq_p 5 [(26, (pt tb 0)), (25, (pt tb 0)), (24, (pt tb 0)), (23, V), (22, V)] ?_)))
 refine wV 27 (lV A ((v :: r).length) c) (eL (h2.at_ 1 rfl) 104 (.tmp 26) 0 _) (wV 28 (eAt A (0 * 5 + 0)) (eIx (RV.lenIs (n := (v :: r).length) (h2.rd 2 rfl) hll).2 0 ((v :: r).length) (RV.lenIs (n := (v :: r).length) (h2.rd 2 rfl) hll).1 (by simp) 104 (.tmp 27) (.const O) .i64 106) (wV 29 (eAt A (0 * 5 + 1)) (e_fldN (RV.lenIs (n := (v :: r).length) (h2.rd 2 rfl) hll).2 0 0 1 ([(D ((v.kind : Int))), (D ((v.tag : Int))), (iV .u64 ((v.n : Int))), (lV B v.b.length d), (lV A2 v.l.length c2)]) hxi (.tmp 28) (by kernel_rfl) (fun _ _ => by kernel_rfl) (fun _ => rfl) _) (wV 30 (D ((v.tag : Int))) (eEl (RV.lenIs (n := (v :: r).length) (h2.rd 2 rfl) hll).2 0 1 ([(D ((v.kind : Int))), (D ((v.tag : Int))), (iV .u64 ((v.n : Int))), (lV B v.b.length d), (lV A2 v.l.length c2)]) hxi 3 (.tmp 29) (D ((v.tag : Int)))) ?_)))
 refine wV 31 I (eqI (bV (((v.tag : Int)) != 0)) (ine (b := 0) ht)) (wq_p 1 [(32, I)] ?_)
 refine wE hK4 (cT (wR fun K5 hK5 => ?_))
 refine wq_p 4 [(36, (pt tb 1)), (35, (pt tb 0)), (34, (pt tb 0)), (33, (pt tb 0))] ?_
 refine wq_to none (xSt h2 1 4 (.tmp 36) (.const I) 1 I ([(lV A ((v :: r).length) c), I])) ?_
 rintro _ w6 h6
 refine wq_p 2 [(38, (pt tb 0)), (37, (pt tb 0))] ?_
 refine wq_to none (xSt h6 1 104 (.tmp 38) (.const nS) 0 nS ([nS, I])) ?_
 rintro _ w7 h7
 refine wE hK5 (wR fun K8 hK8 => ?_)
 refine wq_p 1 [(39, (aV ([O, O, (iV .u64 0), nS, nS]).toArray))] ?_
 refine wq_to none (xSs h7 0 106 (.tmp 4) (.tmp 39) 0 ([O, O, (iV .u64 0), nS, nS]) ([O, O, (iV .u64 0), nS, nS])) ?_
 rintro _ w9 h9
 refine wE hK8 (wp_ret (seq_r ?_))
 refine post_1 rfl (by kernel_rfl) (rce (h9.at_ 0 rfl)) ?_
 exact ⟨none, 0, none, 0, none, 0, [], true, rfl, rfl, rfl, by decide, (((h9.sel [1] [] rfl rfl rfl).addR (rLst G none 0 []) (lst_nil (fun q hq => Nat.lt_of_lt_of_le (hL.1 q hq) h9.fr.size) _ _ (by unfold maxLen; omega)) (fun j s hj q h1 h2 => h9.rdis 3 1 _ s rfl (sel1 hj) q h1 h2)).addR (rSG G (.slice none 0 0) []) (sg_nil (fun q hq => Nat.lt_of_lt_of_le (hL.1 q hq) h9.fr.size)) (fun j s hj q h1 h2 => h9.rdis 3 1 _ s rfl (sel1 hj) q h1 h2)).addR (rLst G none 0 []) (lst_nil (fun q hq => Nat.lt_of_lt_of_le (hL.1 q hq) h9.fr.size) _ _ (by unfold maxLen; omega)) (fun j s hj q h1 h2 => h9.rdis 3 1 _ s rfl (sel1 hj) q h1 h2)⟩
theorem next_good {tb : Nat} {G : Nat -> Prop} {A : Option Addr} {c : Nat} {bad : Bool} (k : Nat) {w : World} (v : DVal) (r : List DVal) (hk : v.kind = k) (ht : v.tag = 0) (hL : (rLst G A c (v :: r)).Φ w) (hb : Blk w tb 175 [.slice A (v :: r).length c, .bool bad]) (hd : ¬ G tb) : Calls Try.prog 82 #[pt tb 0, .int .i64 (k : Int)] w (NxPost w tb G (r, bad) v) := by
 obtain ⟨xs, cs, hx, hll, hxi, hv, hxF⟩ := lst_head hL
 obtain ⟨B, d, A2, c2, rfl, hsg, hls, hn⟩ := dv_lst hv
 have hxx := hxi
 have hdd : ∀ (j : Nat) (s : Res), [rBlk tb 175 [.slice A (v :: r).length c, .bool bad]][j]? = some s -> (rLst G A c (v :: r)).dj s := fun j s hj q h1 h2 => by
   have h3 := sel1 hj
   injection h3 with h3
   subst h3
   exact hd (by rw [show q = tb from h2] at h1; exact h1)
 have h0 := ((((((Hp.one (rBlk tb 175 [.slice A (v :: r).length c, .bool bad]) hb).weaken (F := fun q => q = tb) (fun q hq => hq)).addR (rLst G A c (v :: r)) hL hdd).addR (rRV 5 A c xs) hx (fun j s hj q h1 h2 => hdd j s hj q (hxF q h1) h2)).addR (rLst G A2 c2 v.l) hls (fun j s hj => hdd j s hj)).addR (rSG G (.slice B v.b.length d) v.b) hsg (fun j s hj => hdd j s hj))
 refine enter 53 Try.func82 rfl rfl ?_
 refine wp_reset 55 [(0, (pt tb 0)), (1, (D ((k : Int))))] (fun x0 => ?_)
 refine wR fun K1 hK1 => ?_
 refine wT 4 (xN h0 106 ([O, O, (iV .u64 0), nS, nS])) ?_
 rintro _ w2 ⟨g2, rfl, h2⟩
 refine wE hK1 (wp_seq_k fun K3 hK3 => wR fun K4 hK4 => ?_)
 refine wq_p 3 [(8, (pt tb 0)), (7, (pt tb 0)), (6, (pt tb 0))] (wV 9 (lV A ((v :: r).length) c) (eL (h2.at_ 1 rfl) 104 (.tmp 8) 0 _) (wq_p 1 [(10, (D (((v :: r).length : Int))))] (wV 11 V (eqI (bV ((((v :: r).length : Int)) == 0)) len_pos0) ?_)))
 refine wq_p 4 [(15, (pt tb 0)), (14, (pt tb 0)), (13, (pt tb 0)), (12, V)] (wV 16 (lV A ((v :: r).length) c) (eL (h2.at_ 1 rfl) 104 (.tmp 15) 0 _) (wV 17 (eAt A (0 * 5 + 0)) (eIx (RV.lenIs (n := (v :: r).length) (h2.rd 2 rfl) hll).2 0 ((v :: r).length) (RV.lenIs (n := (v :: r).length) (h2.rd 2 rfl) hll).1 (by simp) 104 (.tmp 16) (.const O) .i64 106) (wV 18 (eAt A (0 * 5 + 0)) (e_fldN (RV.lenIs (n := (v :: r).length) (h2.rd 2 rfl) hll).2 0 0 0 ([(D ((v.kind : Int))), (D ((v.tag : Int))), (iV .u64 ((v.n : Int))), (lV B v.b.length d), (lV A2 v.l.length c2)]) hxi (.tmp 17) (by kernel_rfl) (fun _ _ => by kernel_rfl) (fun _ => rfl) _) ?_)))
 refine wV 19 (D ((v.kind : Int))) (eEl (RV.lenIs (n := (v :: r).length) (h2.rd 2 rfl) hll).2 0 0 ([(D ((v.kind : Int))), (D ((v.tag : Int))), (iV .u64 ((v.n : Int))), (lV B v.b.length d), (lV A2 v.l.length c2)]) hxi 3 (.tmp 18) (D ((v.kind : Int)))) (wq_p 1 [(20, (D ((k : Int))))] (wV 21 V (eqI (bV (((v.kind : Int)) != ((k : Int)))) (ieq hk)) (wq_p 5 [(26, (pt tb 0)), (25, (pt tb 0)), (24, (pt tb 0)), (23, V), (22, V)] ?_)))
 refine wV 27 (lV A ((v :: r).length) c) (eL (h2.at_ 1 rfl) 104 (.tmp 26) 0 _) (wV 28 (eAt A (0 * 5 + 0)) (eIx (RV.lenIs (n := (v :: r).length) (h2.rd 2 rfl) hll).2 0 ((v :: r).length) (RV.lenIs (n := (v :: r).length) (h2.rd 2 rfl) hll).1 (by simp) 104 (.tmp 27) (.const O) .i64 106) (wV 29 (eAt A (0 * 5 + 1)) (e_fldN (RV.lenIs (n := (v :: r).length) (h2.rd 2 rfl) hll).2 0 0 1 ([(D ((v.kind : Int))), (D ((v.tag : Int))), (iV .u64 ((v.n : Int))), (lV B v.b.length d), (lV A2 v.l.length c2)]) hxi (.tmp 28) (by kernel_rfl) (fun _ _ => by kernel_rfl) (fun _ => rfl) _) (wV 30 (D ((v.tag : Int))) (eEl (RV.lenIs (n := (v :: r).length) (h2.rd 2 rfl) hll).2 0 1 ([(D ((v.kind : Int))), (D ((v.tag : Int))), (iV .u64 ((v.n : Int))), (lV B v.b.length d), (lV A2 v.l.length c2)]) hxi 3 (.tmp 29) (D ((v.tag : Int)))) ?_)))
 refine wV 31 V (eqI (bV (((v.tag : Int)) != 0)) (ieq (b := 0) ht)) (wq_p 1 [(32, V)] ?_)
 refine wE hK4 (cF (wp_skip (seq_n hK3 (wR fun K5 hK5 => ?_))))
 refine wq_p 3 [(42, (pt tb 0)), (41, (pt tb 0)), (40, (pt tb 0))] (wV 43 (lV A ((v :: r).length) c) (eL (h2.at_ 1 rfl) 104 (.tmp 42) 0 _) (wV 44 (eAt A (0 * 5 + 0)) (eIx (RV.lenIs (n := (v :: r).length) (h2.rd 2 rfl) hll).2 0 ((v :: r).length) (RV.lenIs (n := (v :: r).length) (h2.rd 2 rfl) hll).1 (by simp) 104 (.tmp 43) (.const O) .i64 106) (wV 45 (aV ([(D ((v.kind : Int))), (D ((v.tag : Int))), (iV .u64 ((v.n : Int))), (lV B v.b.length d), (lV A2 v.l.length c2)]).toArray) (e_elemsN (RV.lenIs (n := (v :: r).length) (h2.rd 2 rfl) hll).2 0 0 ([(D ((v.kind : Int))), (D ((v.tag : Int))), (iV .u64 ((v.n : Int))), (lV B v.b.length d), (lV A2 v.l.length c2)]) hxi 106 (.tmp 44) (by kernel_rfl) ([(D ((v.kind : Int))), (D ((v.tag : Int))), (iV .u64 ((v.n : Int))), (lV B v.b.length d), (lV A2 v.l.length c2)]) (by kernel_rfl) (by kernel_rfl) (by kernel_rfl)) ?_)))
 refine wT 5 (xN h2 106 ([O, O, (iV .u64 0), nS, nS])) ?_
 rintro _ w6 ⟨g6, rfl, h6⟩
 refine wq_to none (xSs h6 0 106 (.tmp 5) (.tmp 45) 0 ([(D ((v.kind : Int))), (D ((v.tag : Int))), (iV .u64 ((v.n : Int))), (lV B v.b.length d), (lV A2 v.l.length c2)]) ([(D ((v.kind : Int))), (D ((v.tag : Int))), (iV .u64 ((v.n : Int))), (lV B v.b.length d), (lV A2 v.l.length c2)])) ?_
 rintro _ w7 h7
 refine wE hK5 (wR fun K8 hK8 => ?_)
 refine wq_p 4 [(49, (pt tb 0)), (48, (pt tb 0)), (47, (pt tb 0)), (46, (pt tb 0))] (wV 50 (lV A ((v :: r).length) c) (eL (h7.at_ 2 rfl) 104 (.tmp 49) 0 _) (wV 51 (lV (tlA 5 A c) r.length ((c - 1))) (e_tailA (n := (v :: r).length) (by simp) 104 (.tmp 50) (.const (D 1)) (by kernel_rfl) (by kernel_rfl) .i64 (by kernel_rfl) (by kernel_rfl) (by kernel_rfl) _) (wq_p 2 [(53, (pt tb 0)), (52, (pt tb 0))] ?_)))
 refine wq_to none (xSt h7 2 104 (.tmp 53) (.tmp 51) 0 (lV (tlA 5 A c) r.length ((c - 1))) ([(lV (tlA 5 A c) r.length ((c - 1))), (bV bad)])) ?_
 rintro _ w9 h9
 refine wE hK8 (wp_seq_k fun K10 hK10 => ?_)
 refine wp_reset 55 [(0, (pt tb 0)), (1, (D ((k : Int)))), (4, (pt g2 0)), (5, (pt g6 0)), (32, V)] (fun x11 => ?_)
 refine reg_lit ?_
 refine wV 54 (aV ([(D ((v.kind : Int))), (D ((v.tag : Int))), (iV .u64 ((v.n : Int))), (lV B v.b.length d), (lV A2 v.l.length c2)]).toArray) (eLs (h9.at_ 0 rfl) 106 (.tmp 5) 0 ([(D ((v.kind : Int))), (D ((v.tag : Int))), (iV .u64 ((v.n : Int))), (lV B v.b.length d), (lV A2 v.l.length c2)])) ?_
 refine wq_to none (xSs h9 1 106 (.tmp 4) (.tmp 54) 0 ([(D ((v.kind : Int))), (D ((v.tag : Int))), (iV .u64 ((v.n : Int))), (lV B v.b.length d), (lV A2 v.l.length c2)]) ([(D ((v.kind : Int))), (D ((v.tag : Int))), (iV .u64 ((v.n : Int))), (lV B v.b.length d), (lV A2 v.l.length c2)])) ?_
 rintro _ w12 h12
 refine wE hK10 (wp_ret ?_)
 refine post_1 rfl (by kernel_rfl) (rce (h12.at_ 1 rfl)) ?_
 exact ⟨_, _, _, _, _, _, r, bad, rfl, rfl, rfl, hn, (h12.sel [2] [0, 1] rfl rfl rfl).addR (rLst G (tlA 5 A c) (c - 1) r) (lst_tail (h12.rd 3 rfl)) (fun j s hj q h1 h2 => h12.rdis 3 2 _ s rfl (sel1 hj) q h1 h2)⟩
theorem next_any {tb : Nat} {G : Nat -> Prop} {A : Option Addr} {c : Nat} {bad : Bool} {ts : List DVal} (k : Nat) {w : World} (hL : (rLst G A c ts).Φ w) (hb : Blk w tb 175 [.slice A ts.length c, .bool bad]) (hd : ¬ G tb) :
   Calls Try.prog 82 #[pt tb 0, .int .i64 (k : Int)] w (NxPost w tb G (nxT k (ts, bad)) (nxV k ts)) := by
 cases ts with
 | nil => exact next_nil k hL hb hd
 | cons v r =>
   by_cases hk : v.kind = k
   · by_cases ht : v.tag = 0
     · rw [(nx_good (r := r) hk ht bad).1, (nx_good hk ht bad).2]; exact next_good k v r hk ht hL hb hd
     · rw [(nx_bad (r := r) (.inr ht : v.kind ≠ k ∨ v.tag ≠ 0) bad).1, (nx_bad (.inr ht : v.kind ≠ k ∨ v.tag ≠ 0) bad).2]; exact next_tag k v r hk ht hL hb hd
   · rw [(nx_bad (r := r) (.inl hk : v.kind ≠ k ∨ v.tag ≠ 0) bad).1, (nx_bad (.inl hk : v.kind ≠ k ∨ v.tag ≠ 0) bad).2]; exact next_kind k v r hk hL hb hd
end
section
open Go.RowKit Go.QT
theorem truth_eq (ts : List DVal) (b : Bool) : (((nxV 0 ts).n : Int) == 1) = truthO (ts, b) := by
 show _ = decide ((nxV 0 ts).n = 1)
 rw [Bool.eq_iff_iff, beq_iff_eq, decide_eq_true_iff]; omega
theorem len_eq0 (ts : List DVal) : ((ts.length : Int) == 0) = decide (ts.length = 0) := by
 rw [Bool.eq_iff_iff, beq_iff_eq, decide_eq_true_iff]; omega
theorem i64_nat'' {n : Nat} (h : n <= 1099511627776) : IntKind.i64.wrap ((n : Nat) : Int) = (n : Int) := by have := i64_nat (m := n) (by omega); injection this
theorem kl_keyO (T : TkSt) : kl (keyO T) = keyF (nxV 1 T.1).b := by
 have h : (keyF (nxV 1 T.1).b).length = 16 := by
   unfold keyF
   split
   · assumption
   · rfl
 obtain ⟨K, hK⟩ := kl_of _ h
 unfold keyO
 rw [hK]
 congr 1
 funext i
 revert i; intro ⟨i, hi⟩
 unfold gb kl
 simp [-List.ofFn_succ, hi]
theorem tk_okey {w : World} {v : Value} {ts : List DVal} {bad : Bool} (h : SB w v (nxV 1 ts).b) : Calls Try.prog 67 #[v] w (DPost w (.tuple #[.agg (vb (kl (keyO (ts, bad)))).toArray, .bool (decide ((nxV 1 ts).b.length = 16))])) := by
 rw [kl_keyO]
 exact okey_any v _ w h
theorem name_sz {T : TkSt} (h : Sm T.1) : (nameO T).size <= 1000000000 := by
 have := h.nxV 1
 show (nxV 1 T.1).b.toArray.size <= _
 rw [List.size_toArray]; omega
theorem tkNum_any {tb : Nat} {G : Nat -> Prop} {A : Option Addr} {c : Nat} {bad : Bool} {ts : List DVal} {w : World} (hL : (rLst G A c ts).Φ w) (hb : Blk w tb 175 [.slice A ts.length c, .bool bad]) (hd : ¬ G tb) : Calls Try.prog 63 #[pt tb 0] w (TkPost w tb G (numT (ts, bad)) (.int .i64 (numO (ts, bad)))) := by
 have hdd : ∀ (j : Nat) (s : Res), [rBlk tb 175 [.slice A ts.length c, .bool bad]][j]? = some s -> (rLst G A c ts).dj s := fun j s hj q h1 h2 => by
   have h3 := sel1 hj
   injection h3 with h3
   subst h3
   exact hd (by rw [show q = tb from h2] at h1; exact h1)
 have h0 := ((Hp.one (rBlk tb 175 [.slice A ts.length c, .bool bad]) hb).weaken (F := fun q => q = tb) (fun q hq => hq)).addR (rLst G A c ts) hL hdd
 refine enter 13 Try.func63 rfl rfl ?_
 refine wp_reset 14 [(0, (pt tb 0))] (fun x0 => ?_)
 refine wR fun K1 hK1 => ?_
 refine wq_p 1 [(2, O)] ?_
 refine wE hK1 (wR fun K2 hK2 => ?_)
 refine wq_p 1 [(4, (pt tb 0))] ?_
 refine wT 5 (x_nx h0 0 rfl 0 rfl 82 [(pt tb 0), O] (by kernel_rfl) (next_any 0 (h0.rd 0 rfl) (h0.at_ 0 rfl) hd)) ?_
 rintro _ w3 ⟨A3, c3, B3, d3, C3, e3, ts3, b3, hts3, hb3, rfl, hn3, h3⟩
 refine wV 6 (Value.int .u64 (((nxV 0 ts).n : Int))) (eqI (Value.int .u64 (((nxV 0 ts).n : Int))) rfl) (wq_p 1 [(3, (Value.int .u64 (((nxV 0 ts).n : Int))))] ?_)
 refine wE hK2 (wp_seq_k fun K4 hK4 => wR fun K5 hK5 => ?_)
 refine wq_p 2 [(8, (Value.bool (decide (((nxV 0 ts).n : Int) > 1099511627776)))), (7, (Value.int .u64 (((nxV 0 ts).n : Int))))] ?_
 refine wE hK5 ?_
 refine wp_if (((nxV 0 ts).n : Int) > 1099511627776) (by kernel_rfl) (fun b6 => ?_) (fun b6 => ?_)
 ·
  refine wR fun K7 hK7 => ?_
  refine wq_p 3 [(11, (pt tb 1)), (10, (pt tb 0)), (9, (pt tb 0))] ?_
  refine wq_to none (xSt h3 0 4 (.tmp 11) (.const I) 1 I ([(Value.slice A3 ts3.length c3), I])) ?_
  rintro _ w8 h8
  refine wE hK7 (wR fun K9 hK9 => ?_)
  refine wq_p 1 [(2, O)] ?_
  refine wE hK9 (wp_ret (seq_r ?_))
  refine post_1 rfl (by kernel_rfl) (rtm O) ?_
  exact ⟨A3, c3, ts3, true, hts3, (by simp [numT, show (nxV 0 ts).n > 1099511627776 from by omega]), (by rw [numO, if_pos (show (nxV 0 ts).n > 1099511627776 from by omega)]), h8.sel [0] [0] rfl rfl rfl⟩
 ·
  refine wp_skip (seq_n hK4 (wR fun K10 hK10 => ?_))
  refine wq_p 1 [(12, (Value.int .u64 (((nxV 0 ts).n : Int))))] (wV 13 (D (((nxV 0 ts).n : Int))) (eqI (D (IntKind.i64.wrap ((nxV 0 ts).n : Int))) (congrArg (Value.int .i64) (i64_nat'' (by omega)))) (wq_p 1 [(2, (D (((nxV 0 ts).n : Int))))] ?_))
  refine wE hK10 (wp_ret ?_)
  refine post_1 rfl (by kernel_rfl) (rtm (D (((nxV 0 ts).n : Int)))) ?_
  exact ⟨A3, c3, ts3, b3, hts3, (by rw [hb3]; simp [numT, show ¬ (nxV 0 ts).n > 1099511627776 from by omega]), (by rw [numO, if_neg (show ¬ (nxV 0 ts).n > 1099511627776 from by omega)]), h3.sel [0] [0] rfl rfl rfl⟩
theorem tkTruth_any {tb : Nat} {G : Nat -> Prop} {A : Option Addr} {c : Nat} {bad : Bool} {ts : List DVal} {w : World} (hL : (rLst G A c ts).Φ w) (hb : Blk w tb 175 [.slice A ts.length c, .bool bad]) (hd : ¬ G tb) : Calls Try.prog 65 #[pt tb 0] w (TkPost w tb G (truthT (ts, bad)) (.bool (truthO (ts, bad)))) := by
 have hdd : ∀ (j : Nat) (s : Res), [rBlk tb 175 [.slice A ts.length c, .bool bad]][j]? = some s -> (rLst G A c ts).dj s := fun j s hj q h1 h2 => by
   have h3 := sel1 hj
   injection h3 with h3
   subst h3
   exact hd (by rw [show q = tb from h2] at h1; exact h1)
 have h0 := ((Hp.one (rBlk tb 175 [.slice A ts.length c, .bool bad]) hb).weaken (F := fun q => q = tb) (fun q hq => hq)).addR (rLst G A c ts) hL hdd
 refine enter 13 Try.func65 rfl rfl ?_
 refine wp_reset 14 [(0, (pt tb 0))] (fun x0 => ?_)
 refine wR fun K1 hK1 => ?_
 refine wq_p 1 [(2, V)] ?_
 refine wE hK1 (wR fun K2 hK2 => ?_)
 refine wq_p 1 [(4, (pt tb 0))] ?_
 refine wT 5 (x_nx h0 0 rfl 0 rfl 82 [(pt tb 0), O] (by kernel_rfl) (next_any 0 (h0.rd 0 rfl) (h0.at_ 0 rfl) hd)) ?_
 rintro _ w3 ⟨A3, c3, B3, d3, C3, e3, ts3, b3, hts3, hb3, rfl, hn3, h3⟩
 refine wV 6 (Value.int .u64 (((nxV 0 ts).n : Int))) (eqI (Value.int .u64 (((nxV 0 ts).n : Int))) rfl) (wq_p 1 [(3, (Value.int .u64 (((nxV 0 ts).n : Int))))] ?_)
 refine wE hK2 (wp_seq_k fun K4 hK4 => wR fun K5 hK5 => ?_)
 refine wq_p 2 [(8, (Value.bool (decide (((nxV 0 ts).n : Int) > 1)))), (7, (Value.int .u64 (((nxV 0 ts).n : Int))))] ?_
 refine wE hK5 ?_
 refine wp_if (((nxV 0 ts).n : Int) > 1) (by kernel_rfl) (fun b6 => ?_) (fun b6 => ?_)
 ·
  refine reg_lit ?_
  refine wq_p 3 [(11, (pt tb 1)), (10, (pt tb 0)), (9, (pt tb 0))] ?_
  refine wq_to none (xSt h3 0 4 (.tmp 11) (.const I) 1 I ([(Value.slice A3 ts3.length c3), I])) ?_
  rintro _ w7 h7
  refine wE hK4 (wR fun K8 hK8 => ?_)
  refine wq_p 1 [(12, (Value.int .u64 (((nxV 0 ts).n : Int))))] (wV 13 (Value.bool (truthO (ts, bad))) (eqI (Value.bool (((nxV 0 ts).n : Int) == 1)) (congrArg Value.bool (truth_eq _ _))) (wq_p 1 [(2, (Value.bool (truthO (ts, bad))))] ?_))
  refine wE hK8 (wp_ret ?_)
  refine post_1 rfl (by kernel_rfl) (rtm (Value.bool (truthO (ts, bad)))) ?_
  exact ⟨A3, c3, ts3, true, hts3, (by simp [truthT, show (nxV 0 ts).n > 1 from by omega]), rfl, h7.sel [0] [0] rfl rfl rfl⟩
 ·
  refine wp_skip (seq_n hK4 (wR fun K9 hK9 => ?_))
  refine wq_p 1 [(12, (Value.int .u64 (((nxV 0 ts).n : Int))))] (wV 13 (Value.bool (truthO (ts, bad))) (eqI (Value.bool (((nxV 0 ts).n : Int) == 1)) (congrArg Value.bool (truth_eq _ _))) (wq_p 1 [(2, (Value.bool (truthO (ts, bad))))] ?_))
  refine wE hK9 (wp_ret ?_)
  refine post_1 rfl (by kernel_rfl) (rtm (Value.bool (truthO (ts, bad)))) ?_
  exact ⟨A3, c3, ts3, b3, hts3, (by rw [hb3]; simp [truthT, show ¬ (nxV 0 ts).n > 1 from by omega]), rfl, h3.sel [0] [0] rfl rfl rfl⟩
theorem tkName_any {tb : Nat} {G : Nat -> Prop} {A : Option Addr} {c : Nat} {bad : Bool} {ts : List DVal} {w : World} (hL : (rLst G A c ts).Φ w) (hb : Blk w tb 175 [.slice A ts.length c, .bool bad]) (hd : ¬ G tb) (hsm : Sm ts) : Calls Try.prog 61 #[pt tb 0] w (TkPost w tb G (nameT (ts, bad)) (.string (nameO (ts, bad)))) := by
 have hdd : ∀ (j : Nat) (s : Res), [rBlk tb 175 [.slice A ts.length c, .bool bad]][j]? = some s -> (rLst G A c ts).dj s := fun j s hj q h1 h2 => by
   have h3 := sel1 hj
   injection h3 with h3
   subst h3
   exact hd (by rw [show q = tb from h2] at h1; exact h1)
 have h0 := ((Hp.one (rBlk tb 175 [.slice A ts.length c, .bool bad]) hb).weaken (F := fun q => q = tb) (fun q hq => hq)).addR (rLst G A c ts) hL hdd
 refine enter 14 Try.func61 rfl rfl ?_
 refine wp_reset 15 [(0, (pt tb 0))] (fun x0 => ?_)
 refine wR fun K1 hK1 => ?_
 refine wq_p 1 [(2, (Value.string (⟨#[]⟩)))] ?_
 refine wE hK1 (wR fun K2 hK2 => ?_)
 refine wq_p 1 [(4, (pt tb 0))] ?_
 refine wT 5 (x_nx h0 0 rfl 0 rfl 82 [(pt tb 0), (D 1)] (by kernel_rfl) (next_any 1 (h0.rd 0 rfl) (h0.at_ 0 rfl) hd)) ?_
 rintro _ w3 ⟨A3, c3, B3, d3, C3, e3, ts3, b3, hts3, hb3, rfl, hn3, h3⟩
 refine wV 6 (Value.slice B3 ((nxV 1 ts).b.length) d3) (eqI (Value.slice B3 ((nxV 1 ts).b.length) d3) rfl) ?_
 have h4 := h3.sub 1 rfl (rSB (Value.slice B3 ((nxV 1 ts).b.length) d3) (nxV 1 ts).b) (h3.rd 1 rfl).2.1 (fun q hq => (h3.rd 1 rfl).2.2 hq.1 q hq.2)
 refine wV 7 (Value.string (nameO (ts, bad))) (exec_sb_conv (.tmp 6) (by kernel_rfl) _ (nxV 1 ts).b (by kernel_rfl) (h4.rd 0 rfl)) (wq_p 1 [(3, (Value.string (nameO (ts, bad))))] ?_)
 refine wE hK2 (wp_seq_k fun K5 hK5 => wR fun K6 hK6 => ?_)
 refine wq_p 1 [(8, (Value.string (nameO (ts, bad))))] ?_
 refine wT 9 (x_nright h4 (nameO (ts, bad)) (name_sz (T := (ts, bad)) hsm) (by kernel_rfl)) ?_
 rintro _ w7 ⟨rfl, h7⟩
 refine wq_p 1 [(10, (Value.bool (!(rightN (nameO (ts, bad))))))] ?_
 refine wE hK6 ?_
 refine wp_cond_split (t := !(rightN (nameO (ts, bad)))) (by kernel_rfl) (fun b8 => ?_) (fun b8 => ?_)
 ·
  refine reg_lit ?_
  refine wq_p 3 [(13, (pt tb 1)), (12, (pt tb 0)), (11, (pt tb 0))] ?_
  refine wq_to none (xSt h7 0 4 (.tmp 13) (.const I) 1 I ([(Value.slice A3 ts3.length c3), I])) ?_
  rintro _ w9 h9
  refine wE hK5 (wR fun K10 hK10 => ?_)
  refine wq_p 2 [(2, (Value.string (nameO (ts, bad)))), (14, (Value.string (nameO (ts, bad))))] ?_
  refine wE hK10 (wp_ret ?_)
  refine post_1 rfl (by kernel_rfl) (rtm (Value.string (nameO (ts, bad)))) ?_
  exact ⟨A3, c3, ts3, true, hts3, (by simp [nameT, show rightN (nameO (ts, bad)) = false from by simpa using b8]), rfl, h9.sel [0] [1] rfl rfl rfl⟩
 ·
  refine wp_skip (seq_n hK5 (wR fun K11 hK11 => ?_))
  refine wq_p 2 [(2, (Value.string (nameO (ts, bad)))), (14, (Value.string (nameO (ts, bad))))] ?_
  refine wE hK11 (wp_ret ?_)
  refine post_1 rfl (by kernel_rfl) (rtm (Value.string (nameO (ts, bad)))) ?_
  exact ⟨A3, c3, ts3, b3, hts3, (by rw [hb3]; simp [nameT, show rightN (nameO (ts, bad)) = true from by simpa using b8]), rfl, h7.sel [0] [1] rfl rfl rfl⟩
theorem tkKey_any {tb : Nat} {G : Nat -> Prop} {A : Option Addr} {c : Nat} {bad : Bool} {ts : List DVal} {w : World} (hL : (rLst G A c ts).Φ w) (hb : Blk w tb 175 [.slice A ts.length c, .bool bad]) (hd : ¬ G tb) : Calls Try.prog 64 #[pt tb 0] w (TkPost w tb G (keyT (ts, bad)) (.agg (vb (kl (keyO (ts, bad)))).toArray)) := by
 have hdd : ∀ (j : Nat) (s : Res), [rBlk tb 175 [.slice A ts.length c, .bool bad]][j]? = some s -> (rLst G A c ts).dj s := fun j s hj q h1 h2 => by
   have h3 := sel1 hj
   injection h3 with h3
   subst h3
   exact hd (by rw [show q = tb from h2] at h1; exact h1)
 have h0 := ((Hp.one (rBlk tb 175 [.slice A ts.length c, .bool bad]) hb).weaken (F := fun q => q = tb) (fun q hq => hq)).addR (rLst G A c ts) hL hdd
 refine enter 17 Try.func64 rfl rfl ?_
 refine wp_reset 18 [(0, (pt tb 0))] (fun x0 => ?_)
 refine wR fun K1 hK1 => ?_
 refine wT 2 (xN h0 32 (vb (List.replicate 16 0))) ?_
 rintro _ w2 ⟨g2, rfl, h2⟩
 refine wE hK1 (wR fun K3 hK3 => ?_)
 refine wq_p 1 [(6, (pt tb 0))] ?_
 refine wT 7 (x_nx h2 1 rfl 0 rfl 82 [(pt tb 0), (D 1)] (by kernel_rfl) (next_any 1 (h2.rd 0 rfl) (h2.at_ 1 rfl) hd)) ?_
 rintro _ w4 ⟨A4, c4, B4, d4, C4, e4, ts4, b4, hts4, hb4, rfl, hn4, h4⟩
 refine wV 8 (Value.slice B4 ((nxV 1 ts).b.length) d4) (eqI (Value.slice B4 ((nxV 1 ts).b.length) d4) rfl) ?_
 have h5 := h4.sub 1 rfl (rSB (Value.slice B4 ((nxV 1 ts).b.length) d4) (nxV 1 ts).b) (h4.rd 1 rfl).2.1 (fun q hq => (h4.rd 1 rfl).2.2 hq.1 q hq.2)
 refine wT 9 (x_dp h5 67 [(Value.slice B4 ((nxV 1 ts).b.length) d4)] (by kernel_rfl) (tk_okey (bad := bad) (h5.rd 0 rfl))) ?_
 rintro _ w6 ⟨rfl, h6⟩
 refine wq_p 3 [(11, (Value.bool (decide ((nxV 1 ts).b.length = 16)))), (10, (Value.agg (vb (kl (keyO (ts, bad)))).toArray)), (5, (Value.tuple #[(Value.agg (vb (kl (keyO (ts, bad)))).toArray), (Value.bool (decide ((nxV 1 ts).b.length = 16)))]))] ?_
 refine wT 3 (xN h6 32 (vb (List.replicate 16 0))) ?_
 rintro _ w7 ⟨g7, rfl, h7⟩
 refine wq_to none (xSs h7 0 32 (.tmp 3) (.tmp 10) 0 (vb (kl (keyO (ts, bad)))) (vb (kl (keyO (ts, bad))))) ?_
 rintro _ w8 h8
 refine wq_p 1 [(4, (Value.bool (decide ((nxV 1 ts).b.length = 16))))] ?_
 refine wE hK3 (wp_seq_k fun K9 hK9 => wR fun K10 hK10 => ?_)
 refine wq_p 2 [(13, (Value.bool (!(decide ((nxV 1 ts).b.length = 16))))), (12, (Value.bool (decide ((nxV 1 ts).b.length = 16))))] ?_
 refine wE hK10 ?_
 refine wp_cond_split (t := !(decide ((nxV 1 ts).b.length = 16))) (by kernel_rfl) (fun b11 => ?_) (fun b11 => ?_)
 ·
  refine reg_lit ?_
  refine wq_p 3 [(16, (pt tb 1)), (15, (pt tb 0)), (14, (pt tb 0))] ?_
  refine wq_to none (xSt h8 2 4 (.tmp 16) (.const I) 1 I ([(Value.slice A4 ts4.length c4), I])) ?_
  rintro _ w12 h12
  refine wE hK9 (wR fun K13 hK13 => ?_)
  refine wV 17 (Value.agg (vb (kl (keyO (ts, bad)))).toArray) (eLs (h12.at_ 0 rfl) 32 (.tmp 3) 0 (vb (kl (keyO (ts, bad))))) ?_
  refine wq_to none (xSs h12 1 32 (.tmp 2) (.tmp 17) 0 (vb (kl (keyO (ts, bad)))) (vb (kl (keyO (ts, bad))))) ?_
  rintro _ w14 h14
  refine wE hK13 (wp_ret ?_)
  refine post_1 rfl (by kernel_rfl) (rce (h14.at_ 1 rfl)) ?_
  exact ⟨A4, c4, ts4, true, hts4, (by simp [keyT, show ¬ (nxV 1 ts).b.length = 16 from by simpa using b11]), rfl, h14.sel [2] [1] rfl rfl rfl⟩
 ·
  refine wp_skip (seq_n hK9 (wR fun K15 hK15 => ?_))
  refine wV 17 (Value.agg (vb (kl (keyO (ts, bad)))).toArray) (eLs (h8.at_ 0 rfl) 32 (.tmp 3) 0 (vb (kl (keyO (ts, bad))))) ?_
  refine wq_to none (xSs h8 1 32 (.tmp 2) (.tmp 17) 0 (vb (kl (keyO (ts, bad)))) (vb (kl (keyO (ts, bad))))) ?_
  rintro _ w16 h16
  refine wE hK15 (wp_ret ?_)
  refine post_1 rfl (by kernel_rfl) (rce (h16.at_ 1 rfl)) ?_
  exact ⟨A4, c4, ts4, b4, hts4, (by rw [hb4]; simp [keyT, show (nxV 1 ts).b.length = 16 from by simpa using b11]), rfl, h16.sel [2] [1] rfl rfl rfl⟩
theorem tkBytes_any {tb : Nat} {G : Nat -> Prop} {A : Option Addr} {c : Nat} {bad : Bool} {ts : List DVal} {w : World} (hL : (rLst G A c ts).Φ w) (hb : Blk w tb 175 [.slice A ts.length c, .bool bad]) (hd : ¬ G tb) : Calls Try.prog 62 #[pt tb 0] w (BkPost w tb G (bytesT (ts, bad)) (bytesO (ts, bad))) := by
 have hdd : ∀ (j : Nat) (s : Res), [rBlk tb 175 [.slice A ts.length c, .bool bad]][j]? = some s -> (rLst G A c ts).dj s := fun j s hj q h1 h2 => by
   have h3 := sel1 hj
   injection h3 with h3
   subst h3
   exact hd (by rw [show q = tb from h2] at h1; exact h1)
 have h0 := ((Hp.one (rBlk tb 175 [.slice A ts.length c, .bool bad]) hb).weaken (F := fun q => q = tb) (fun q hq => hq)).addR (rLst G A c ts) hL hdd
 refine enter 5 Try.func62 rfl rfl ?_
 refine wp_reset 6 [(0, (pt tb 0))] (fun x0 => ?_)
 refine wR fun K1 hK1 => ?_
 refine wq_p 1 [(2, nS)] ?_
 refine wE hK1 (wR fun K2 hK2 => ?_)
 refine wq_p 1 [(3, (pt tb 0))] ?_
 refine wT 4 (x_nx h0 0 rfl 0 rfl 82 [(pt tb 0), (D 1)] (by kernel_rfl) (next_any 1 (h0.rd 0 rfl) (h0.at_ 0 rfl) hd)) ?_
 rintro _ w3 ⟨A3, c3, B3, d3, C3, e3, ts3, b3, hts3, hb3, rfl, hn3, h3⟩
 refine wV 5 (Value.slice B3 ((nxV 1 ts).b.length) d3) (eqI (Value.slice B3 ((nxV 1 ts).b.length) d3) rfl) (wq_p 1 [(2, (Value.slice B3 ((nxV 1 ts).b.length) d3))] ?_)
 refine wE hK2 (wp_ret ?_)
 refine post_1 rfl (by kernel_rfl) (rtm (Value.slice B3 ((nxV 1 ts).b.length) d3)) ?_
 exact ⟨A3, c3, ts3, b3, B3, d3, hts3, hb3, rfl, h3.sel [0] [0, 1] rfl rfl rfl⟩
theorem tkDone_any {tb : Nat} {A : Option Addr} {c : Nat} {bad : Bool} {ts : List DVal} {w : World} (hb : Blk w tb 175 [.slice A ts.length c, .bool bad]) : Calls Try.prog 66 #[pt tb 0] w (DPost w (.bool (doneO (ts, bad)))) := by
 have h0 := Hp.ro1 (rBlk tb 175 [.slice A ts.length c, .bool bad]) hb
 refine enter 15 Try.func66 rfl rfl ?_
 refine wp_reset 16 [(0, (pt tb 0))] (fun x0 => ?_)
 refine wR fun K1 hK1 => ?_
 refine wq_p 1 [(2, V)] ?_
 refine wE hK1 (wp_seq_k fun K2 hK2 => ?_)
 by_cases b3 : bad = true
 ·
  refine reg_lit ?_
  refine wq_p 3 [(5, (pt tb 1)), (4, (pt tb 0)), (3, (pt tb 0))] (wV 6 (Value.bool bad) (eL (h0.rd 0 rfl) 4 (.tmp 5) 1 _) (wV 7 V (eqI (Value.bool (!bad)) (congrArg Value.bool (by simp [b3]))) (wq_p 6 [(13, undef), (12, undef), (11, undef), (10, undef), (9, undef), (8, V)] ?_)))
  refine wq_p 1 [(14, undef)] (wq_p 2 [(2, V), (15, V)] ?_)
  refine wE hK2 (wp_ret ?_)
  refine post_1 rfl (by kernel_rfl) (rtm V) ?_
  exact ⟨by simp [doneO, b3] , h0.below0⟩
 ·
  refine reg_lit ?_
  refine wq_p 3 [(5, (pt tb 1)), (4, (pt tb 0)), (3, (pt tb 0))] (wV 6 (Value.bool bad) (eL (h0.rd 0 rfl) 4 (.tmp 5) 1 _) (wV 7 I (eqI (Value.bool (!bad)) (congrArg Value.bool (by simp [b3]))) (wq_p 4 [(11, (pt tb 0)), (10, (pt tb 0)), (9, (pt tb 0)), (8, I)] ?_)))
  refine wV 12 (Value.slice A ts.length c) (eL (h0.rd 0 rfl) 104 (.tmp 11) 0 _) (wq_p 1 [(13, (D ((ts.length : Int))))] (wV 14 (Value.bool (decide (ts.length = 0))) (eqI (Value.bool ((ts.length : Int) == 0)) (congrArg Value.bool (len_eq0 _))) (wq_p 2 [(2, (Value.bool (decide (ts.length = 0)))), (15, (Value.bool (decide (ts.length = 0))))] ?_)))
  refine wE hK2 (wp_ret ?_)
  refine post_1 rfl (by kernel_rfl) (rtm (Value.bool (decide (ts.length = 0)))) ?_
  exact ⟨by simp [doneO, b3] , h0.below0⟩
end
section
open Go.RowKit Go.QT
/-- What stands in boxes. -/
inductive Thing
 | ticket (s : ByteArray) (b : Bytes)
 | inside (f : Int) (K : Fin 16 -> UInt8) (s : ByteArray) (a u r : Int)
 | reply (f : Int) (K : Fin 16 -> UInt8) (n : Int) (s : ByteArray) (a u r : Int)
 | authent (s : ByteArray) (t q : Int) (K : Fin 16 -> UInt8) (b : Bytes)
 | stamp (t q : Int)
 | fact (n : Int) (s : ByteArray) (f : Bool) (t : Int)
 | plain (b : Bytes)
/-- Its cells. -/
def ThR (G : Nat -> Prop) (w : World) (u : Value) : Thing -> Prop
 | .ticket s b => ∃ A c, u = .iface 39 (.agg #[.string s, .slice A b.length c]) /\ (rSG G (.slice A b.length c) b).Φ w
 | .inside f K s a e r => u = .iface 55 (.agg ([Value.int .i64 f] ++ vb (kl K) ++ [Value.string s, .int .i64 a, .int .i64 e, .int .i64 r]).toArray)
 | .reply f K n s a e r => u = .iface 60 (.agg ([Value.int .i64 f] ++ vb (kl K) ++ [Value.int .i64 n, .string s, .int .i64 a, .int .i64 e, .int .i64 r]).toArray)
 | .authent s t q K b => ∃ A c, u = .iface 141 (.agg ([Value.string s, .int .i64 t, .int .i64 q] ++ vb (kl K) ++ [Value.slice A b.length c]).toArray) /\ (rSG G (.slice A b.length c) b).Φ w
 | .stamp t q => u = .iface 49 (.agg #[.int .i64 t, .int .i64 q])
 | .fact n s f t => u = .iface 143 (.agg #[.int .i64 n, .string s, .bool f, .int .i64 t])
 | .plain b => ∃ A c, u = .iface 37 (.agg #[.slice A b.length c]) /\ (rSG G (.slice A b.length c) b).Φ w
def ofTicket (T : TkSt) : Thing × TkSt := (.ticket (nameO T) (bytesO (nameT T)), bytesT (nameT T))
def ofInside (T : TkSt) : Thing × TkSt :=
 (.inside (numO T) (keyO (numT T)) (nameO (keyT (numT T))) (numO (nameT (keyT (numT T)))) (numO (numT (nameT (keyT (numT T))))) (numO (numT (numT (nameT (keyT (numT T)))))), numT (numT (numT (nameT (keyT (numT T))))))
def ofReply (T : TkSt) : Thing × TkSt :=
 (.reply (numO T) (keyO (numT T)) (numO (keyT (numT T))) (nameO (numT (keyT (numT T)))) (numO (nameT (numT (keyT (numT T))))) (numO (numT (nameT (numT (keyT (numT T)))))) (numO (numT (numT (nameT (numT (keyT (numT T))))))), numT (numT (numT (nameT (numT (keyT (numT T)))))))
def ofAuthent (T : TkSt) : Thing × TkSt :=
 (.authent (nameO T) (numO (nameT T)) (numO (numT (nameT T))) (keyO (numT (numT (nameT T)))) (bytesO (keyT (numT (numT (nameT T))))), bytesT (keyT (numT (numT (nameT T)))))
def ofStamp (T : TkSt) : Thing × TkSt := (.stamp (numO T) (numO (numT T)), numT (numT T))
def ofFact (T : TkSt) : Thing × TkSt := (.fact (numO T) (nameO (numT T)) (truthO (nameT (numT T))) (numO (truthT (nameT (numT T)))), numT (truthT (nameT (numT T))))
def ofPlain (T : TkSt) : Thing × TkSt := (.plain (bytesO T), bytesT T)
/-- What a list of a tag would be, and what is left then. -/
def ofTag (t : Nat) (T : TkSt) : Option (Thing × TkSt) :=
 match t with
 | 1 => some (ofTicket T)
 | 2 => some (ofInside T)
 | 3 => some (ofReply T)
 | 4 => some (ofAuthent T)
 | 5 => some (ofStamp T)
 | 6 => some (ofFact T)
 | 7 => some (ofPlain T)
 | _ => none
def ofEnd (k : Nat) (r : Option (Thing × TkSt)) : Option Thing :=
 match r with
 | some (t, T) => if k = 2 /\ doneO T = true then some t else none
 | none => none
def ofF (v : DVal) : Option Thing := ofEnd v.kind (ofTag v.tag (v.l, false))
def OfPost (w : World) (G : Nat -> Prop) (r : Option Thing) (e : Ending) (w' : World) : Prop :=
 Below w.heap.size w w' /\ match r with
 | some t => ∃ u, e = .returned (.tuple #[u, .bool true]) /\ ThR G w' u t
 | none => e = .returned (.tuple #[.nilIface, .bool false])
section
variable {o : Oper} {a : Act} {F0 : Nat -> Prop} {w0 w w' : World} {ro rs : List Res} {tb : Nat} {G : Nat -> Prop} {A : Option Addr} {c : Nat} {T : TkSt}
theorem Hp.offTk (h : Hp F0 w0 w ro rs) (i k : Nat) {cs : List Value} (hi : rs[i]? = some (rBlk tb 175 cs)) {ts : List DVal} (hk : ro[k]? = some (rLst G A c ts)) : ¬ G tb := fun hg => h.rdis k i _ _ hk hi tb hg rfl
theorem x_tkT (h : Hp F0 w0 w ro rs) (i : Nat) (hi : rs[i]? = some (rBlk tb 175 [.slice A T.1.length c, .bool T.2])) (k : Nat) (hk : ro[k]? = some (rLst G A c T.1)) {T1 : TkSt} {u : Value} (fn : FuncId) (al : List Value) (hp : pureVal Try.prog (execOp a.eval o) = some (.enter fn al.toArray))
   (hc : Calls Try.prog fn al.toArray w (TkPost w tb G T1 u)) :
   OpTo Try.prog o a w (fun u' w' => ∃ A c T', T' = T1 /\ u' = u /\ Hp F0 w0 w' (rLst G A c T'.1 :: ro) (rs.set i (rBlk tb 175 [.slice A T'.1.length c, .bool T'.2]))) := by
 have := x_tk h i hi k hk fn al hp hc
 refine ⟨fun next Q hh => this.goes next Q fun v w' ⟨A, c, ts, b, h1, h2, h3, h4⟩ => hh v w' ⟨A, c, (ts, b), by rw [h1, h2], h3, h4⟩⟩
theorem x_bkT (h : Hp F0 w0 w ro rs) (i : Nat) (hi : rs[i]? = some (rBlk tb 175 [.slice A T.1.length c, .bool T.2])) (k : Nat) (hk : ro[k]? = some (rLst G A c T.1)) {T1 : TkSt} {l : Bytes} (fn : FuncId) (al : List Value) (hp : pureVal Try.prog (execOp a.eval o) = some (.enter fn al.toArray))
   (hc : Calls Try.prog fn al.toArray w (BkPost w tb G T1 l)) :
   OpTo Try.prog o a w (fun u' w' => ∃ A c T' B d, T' = T1 /\ u' = .slice B l.length d /\ Hp F0 w0 w' (rLst G A c T'.1 :: rSG G (.slice B l.length d) l :: ro) (rs.set i (rBlk tb 175 [.slice A T'.1.length c, .bool T'.2]))) := by
 have := x_bk h i hi k hk fn al hp hc
 refine ⟨fun next Q hh => this.goes next Q fun v w' ⟨A, c, ts, b, B, d, h1, h2, h3, h4⟩ => hh v w' ⟨A, c, (ts, b), B, d, by rw [h1, h2], h3, h4⟩⟩
def TakePost (w : World) (A : Option Addr) (n c : Nat) (e : Ending) (w' : World) : Prop := ∃ tb, e = .returned (pt tb 0) /\ Hp (fun _ => False) w w' [] [rBlk tb 175 [.slice A n c, .bool false]]
theorem x_take {n : Nat} (h : Hp F0 w0 w ro rs) (al : List Value) (hp : pureVal Try.prog (execOp a.eval o) = some (.enter 60 al.toArray)) (hc : Calls Try.prog 60 al.toArray w (TakePost w A n c)) :
   OpTo Try.prog o a w (fun u w' => ∃ tb, u = pt tb 0 /\ Hp F0 w0 w' ro (rBlk tb 175 [.slice A n c, .bool false] :: rs)) :=
 OpTo.enter 60 al hp hc fun _ _ ⟨tb, he, hh⟩ => ⟨_, he, tb, rfl, h.call0 hh⟩
end
end
end Go.Proofs.Ytecomegocafocaa
