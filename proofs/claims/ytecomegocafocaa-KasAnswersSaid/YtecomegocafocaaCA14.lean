/- The walks of tick.Seal, tick.Open. -/
import Derived.Test.YtecomegocafocaaCA13
set_option maxRecDepth 100000
set_option maxHeartbeats 4000000
namespace Go.Proofs.Ytecomegocafocaa
section
open Go.RowKit Go.QT
theorem wrV_leT (v : DVal) : (wrV v).length <= 10 + (bodyV v).length := by
 rw [wrV_eq, List.length_append]; have := headB_len v.kind v.tag (bodyV v).length; omega
theorem wr_nD (n : Int) : (wrV (nD n)).length <= 18 := by
 have h := wrV_leT (nD n)
 have := shortB_len n.toNat
 have e : bodyV (nD n) = shortB n.toNat := rfl
 rw [e] at h; omega
theorem wr_bD (b : Bytes) : (wrV (bD b)).length <= 10 + b.length := wrV_leT (bD b)
theorem val_len {t : Thing} (h : limTh t) : (wrV (valD t)).length <= 1000000 := by
 have h0 := wrV_leT (valD t)
 have e : bodyV (valD t) = wrL (valL t) := rfl
 rw [e] at h0
 refine Nat.le_trans h0 ?_
 cases t with
 | ticket s b =>
   have := wr_bD s.data.toList; have := wr_bD b
   rw [size_toList] at *
   simp only [valL, wrL, List.length_append, List.length_nil]; have := h.1; have := h.2; omega
 | inside f K s a u r =>
   have h1 := wr_bD s.data.toList; have h2 := wr_bD (kl K); have := wr_nD f; have := wr_nD a; have := wr_nD u; have := wr_nD r
   rw [size_toList] at h1; rw [kl_len] at h2
   simp only [valL, wrL, List.length_append, List.length_nil]; have h : s.size <= 100000 := h; omega
 | reply f K n s a u r =>
   have h1 := wr_bD s.data.toList; have h2 := wr_bD (kl K); have := wr_nD f; have := wr_nD a; have := wr_nD u; have := wr_nD r; have := wr_nD n
   rw [size_toList] at h1; rw [kl_len] at h2
   simp only [valL, wrL, List.length_append, List.length_nil]; have h : s.size <= 100000 := h; omega
 | authent s t q K b =>
   have h1 := wr_bD s.data.toList; have h2 := wr_bD (kl K); have := wr_nD t; have := wr_nD q; have := wr_bD b
   rw [size_toList] at h1; rw [kl_len] at h2
   simp only [valL, wrL, List.length_append, List.length_nil]; have := h.1; have := h.2; omega
 | stamp t q =>
   have := wr_nD t; have := wr_nD q
   simp only [valL, wrL, List.length_append, List.length_nil]; omega
 | fact n s b t =>
   have h1 := wr_bD s.data.toList; have := wr_nD n; have := wr_nD t; have := wr_nD (b.toNat : Int)
   rw [size_toList] at h1
   simp only [valL, wrL, List.length_append, List.length_nil]; have h : s.size <= 100000 := h; omega
 | plain b =>
   have := wr_bD b
   simp only [valL, wrL, List.length_append, List.length_nil]; have h : b.length <= 100000 := h; omega
theorem ThR.keep {G : Nat -> Prop} {w w' : World} {u : Value} {t : Thing} (h : ThR G w u t) (hs : w.heap.size <= w'.heap.size) (hk : ∀ q, G q -> w'.heap[q]? = w.heap[q]?) : ThR G w' u t := by
 cases t with
 | ticket s b => obtain ⟨A, c, h1, h2⟩ := h; exact ⟨A, c, h1, (rSG G _ _).keep h2 hs hk⟩
 | authent s t q K b => obtain ⟨A, c, h1, h2⟩ := h; exact ⟨A, c, h1, (rSG G _ _).keep h2 hs hk⟩
 | plain b => obtain ⟨A, c, h1, h2⟩ := h; exact ⟨A, c, h1, (rSG G _ _).keep h2 hs hk⟩
 | inside => exact h
 | reply => exact h
 | stamp => exact h
 | fact => exact h
/-- A thing in memory, all of it in the blocks G. -/
def rTh (G : Nat -> Prop) (u : Value) (t : Thing) : Res where
 F := G
 Φ := fun w => (∀ q, G q -> q < w.heap.size) /\ ThR G w u t
 lt := fun h => h.1
 keep := fun h hs hk => ⟨fun q hq => Nat.lt_of_lt_of_le (h.1 q hq) hs, h.2.keep hs hk⟩
def WrT (w : World) (l : Bytes) (e : Ending) (w' : World) : Prop := ∃ A c, e = .returned (.tuple #[.slice A l.length c, .int .i64 0]) /\ Hp (fun _ => False) w w' [] [rOB (.slice A l.length c) l]
/-- What tick.Pack leaves. -/
def PackPost (w : World) (r : Nat ⊕ Bytes) (e : Ending) (w' : World) : Prop :=
 match r with
 | .inr b => WrT w b e w'
 | .inl c => DPost w (.tuple #[.slice none 0 0, .int .i64 (c : Int)]) e w'
/-- What tick.Unpack leaves. -/
def UnpPost (w : World) (r : Nat ⊕ Thing) (e : Ending) (w' : World) : Prop :=
 match r with
 | .inr t => ∃ G u, e = .returned (.tuple #[u, .int .i64 0]) /\ Hp (fun _ => False) w w' [] [rTh G u t]
 | .inl c => DPost w (.tuple #[.nilIface, .int .i64 (c : Int)]) e w'
section
variable {o : Oper} {a : Act} {F0 : Nat -> Prop} {w0 w w' : World} {ro rs : List Res}
theorem x_wrT (h : Hp F0 w0 w ro rs) {l : Bytes} (fn : FuncId) (al : List Value) (hp : pureVal Try.prog (execOp a.eval o) = some (.enter fn al.toArray)) (hc : Calls Try.prog fn al.toArray w (WrT w l)) :
   OpTo Try.prog o a w (fun u w' => ∃ A c, u = .tuple #[.slice A l.length c, .int .i64 0] /\ Hp F0 w0 w' ro (rOB (.slice A l.length c) l :: rs)) :=
 OpTo.enter fn al hp hc fun e w' hq => by
   obtain ⟨A, c, he, h2⟩ := hq
   exact ⟨_, he, A, c, rfl, h.call0 h2⟩
theorem x_ReadT (h : Hp F0 w0 w ro rs) {v : DVal} (fn : FuncId) (al : List Value) (hp : pureVal Try.prog (execOp a.eval o) = some (.enter fn al.toArray)) (hc : Calls Try.prog fn al.toArray w (ReadOk w v)) :
   OpTo Try.prog o a w (fun u w' => ∃ F B d A c, u = .tuple #[.agg #[.int .i64 (v.kind : Int), .int .i64 (v.tag : Int), .int .u64 (v.n : Int), .slice B v.b.length d, .slice A v.l.length c], .int .i64 0] /\
     Hp F0 w0 w' ro (rDV F [.int .i64 (v.kind : Int), .int .i64 (v.tag : Int), .int .u64 (v.n : Int), .slice B v.b.length d, .slice A v.l.length c] v :: rs)) :=
 OpTo.enter fn al hp hc fun e w' hq => by
   obtain ⟨F, cs, he, h2⟩ := hq
   obtain ⟨B, d, A, c, rfl, _⟩ := dv_lst (h2.at_ 0 rfl)
   exact ⟨_, he, F, B, d, A, c, rfl, h.call0 h2⟩
theorem x_val (h : Hp F0 w0 w ro rs) {t : Thing} (al : List Value) (hp : pureVal Try.prog (execOp a.eval o) = some (.enter 36 al.toArray)) (hc : Calls Try.prog 36 al.toArray w (ValPost w t)) :
   OpTo Try.prog o a w (fun u w' => ∃ g n, u = .tuple #[.agg #[.int .i64 2, .int .i64 (tagTh t : Int), .int .u64 0, .slice none 0 0, .slice (some ⟨g, 0, none⟩) n n], .bool (rightTh t)] /\
     (rightTh t = true -> ∃ F, Hp F0 w0 w' (rDV F [.int .i64 2, .int .i64 (tagTh t : Int), .int .u64 0, .slice none 0 0, .slice (some ⟨g, 0, none⟩) n n] (valD t) :: ro) rs) /\ Hp F0 w0 w' ro rs) :=
 OpTo.enter 36 al hp hc fun e w' hq => by
   obtain ⟨hB, g, n, he, hr⟩ := hq
   refine ⟨_, he, g, n, rfl, fun hh => ?_, h.below hB⟩
   obtain ⟨F, hF, hn⟩ := hr hh
   exact ⟨F, h.newR hB _ hF hn⟩
/-- A value that was read, and what it is. -/
theorem x_of (h : Hp F0 w0 w ro rs) (i : Nat) {F : Nat -> Prop} {cs : List Value} {v : DVal} (hi : rs[i]? = some (rDV F cs v)) (hsm : Sm v.l) (al : List Value) (hp : pureVal Try.prog (execOp a.eval o) = some (.enter 42 al.toArray)) (hal : al.toArray = #[.agg cs.toArray]) {r : Option Thing} (hr : ofF v = r) :
   OpTo Try.prog o a w (fun u w' => match r with
     | some t => ∃ x, u = .tuple #[x, .bool true] /\ Hp F0 w0 w' ro (rs.set i (rTh F x t))
     | none => u = .tuple #[.nilIface, .bool false] /\ Hp F0 w0 w' ro rs) := by
 have hv := h.own i _ hi
 refine OpTo.enter 42 al hp (hal ▸ of_any hsm hv) fun e w' hq => ?_
 rw [hr] at hq
 obtain ⟨hB, hq⟩ := hq
 cases r with
 | none => exact ⟨_, hq, rfl, h.below hB⟩
 | some t =>
   obtain ⟨x, he, hx⟩ := hq
   exact ⟨_, he, x, rfl, (h.below hB).upd i hi (Fr.refl _ _) (rTh F x t) ⟨fun q hq => Nat.lt_of_lt_of_le (hv.1 q hq) hB.size, hx⟩ (fun q hq => .inl hq)⟩
theorem pk_b {fn : FuncId} {al : Array Value} {w : World} {r : Nat ⊕ Bytes} {b : Bytes} (h : r = .inr b) (hd : Calls Try.prog fn al w (PackPost w r)) : Calls Try.prog fn al w (WrT w b) := by subst h; exact hd
theorem pk_e {fn : FuncId} {al : Array Value} {w : World} {r : Nat ⊕ Bytes} {c : Nat} (h : r = .inl c) (hd : Calls Try.prog fn al w (PackPost w r)) : Calls Try.prog fn al w (DPost w (.tuple #[.slice none 0 0, .int .i64 (c : Int)])) := by subst h; exact hd
theorem up_e {fn : FuncId} {al : Array Value} {w : World} {r : Nat ⊕ Thing} {c : Nat} (h : r = .inl c) (hd : Calls Try.prog fn al w (UnpPost w r)) : Calls Try.prog fn al w (DPost w (.tuple #[.nilIface, .int .i64 (c : Int)])) := by subst h; exact hd
theorem x_unp (h : Hp F0 w0 w ro rs) {r : Nat ⊕ Thing} {t : Thing} (hr : r = .inr t) (al : List Value) (hp : pureVal Try.prog (execOp a.eval o) = some (.enter 15 al.toArray)) (hc : Calls Try.prog 15 al.toArray w (UnpPost w r)) :
   OpTo Try.prog o a w (fun u w' => ∃ G x, u = .tuple #[x, .int .i64 0] /\ Hp F0 w0 w' ro (rTh G x t :: rs)) := by
 subst hr
 exact OpTo.enter 15 al hp hc fun e w' ⟨G, x, he, h2⟩ => ⟨_, he, G, x, rfl, h.call0 h2⟩
theorem rg_b {fn : FuncId} {al : Array Value} {w : World} {r : Nat ⊕ DVal} {c : Nat} (h : r = .inl c) (hd : Calls Try.prog fn al w (ReadGOk w r)) : Calls Try.prog fn al w (DPost w (.tuple #[.agg #[.int .i64 0, .int .i64 0, .int .u64 0, .slice none 0 0, .slice none 0 0], .int .i64 (c : Int)])) := by subst h; exact hd
theorem rg_o {fn : FuncId} {al : Array Value} {w : World} {r : Nat ⊕ DVal} {v : DVal} (h : r = .inr v) (hd : Calls Try.prog fn al w (ReadGOk w r)) : Calls Try.prog fn al w (ReadOk w v) := by subst h; exact hd
theorem RdB_er {L : Bytes} {e : Nat} (h : RdB L = .inl e) : e ≠ 0 := by
 unfold RdB at h
 split at h
 · injection h with h; omega
 split at h
 · rename_i hr; injection h with h; subst h; exact rdB_er 8 _ _ hr
 split at h
 · injection h with h; omega
 · cases h
end
end
section
open Go.Value renaming int -> iV, slice -> lV, string -> sV, bool -> bV, agg -> aV
open Go.RowKit Go.QT
theorem Write_long (F : Nat -> Prop) (cs : List Value) (v : DVal) (w : World) (hv : (rDV F cs v).Φ w) (hr : rightV v 1 = true) (hn : 4096 < (wrV v).length) (hn2 : (wrV v).length <= 1000000) : Calls Try.prog 37 #[.agg cs.toArray] w (DPost w (.tuple #[.slice none 0 0, .int .i64 20])) := by
 obtain ⟨k, t, n, b, ts⟩ := v
 obtain ⟨B, dd, A, c, xs, rfl, hbb, hxx, hll, hn6, hbF, hLL⟩ := dv_open hv
 simp only [DVal.kind, DVal.tag, DVal.n, DVal.b, DVal.l] at *
 have hcap : ts.length <= 9223372036854775807 := by have h1 := hxx.le; have h2 := hxx.cap; unfold maxLen at h2; omega
 have h0 := Hp.ro1 (rDV F _ _) hv
 refine enter 13 Try.func37 rfl rfl ?_
 refine wp_reset 14 [(0, (aV ([(D ((k : Int))), (D ((t : Int))), (iV .u64 ((n : Int))), (lV B b.length dd), (lV A ts.length c)]).toArray))] (fun x0 => ?_)
 refine wR fun K1 hK1 => ?_
 refine wT 1 (xN h0 106 ([(D ((k : Int))), (D ((t : Int))), (iV .u64 ((n : Int))), (lV B b.length dd), (lV A ts.length c)])) ?_
 rintro _ w2 ⟨g2, rfl, h2⟩
 refine wq_p 2 [(3, O), (2, nS)] ?_
 refine wE hK1 (wp_seq_k fun K3 hK3 => wR fun K4 hK4 => ?_)
 refine wV 5 (aV ([(D ((k : Int))), (D ((t : Int))), (iV .u64 ((n : Int))), (lV B b.length dd), (lV A ts.length c)]).toArray) (eLs (h2.at_ 0 rfl) 106 (.tmp 1) 0 ([(D ((k : Int))), (D ((t : Int))), (iV .u64 ((n : Int))), (lV B b.length dd), (lV A ts.length c)])) ?_
 refine wT 6 (x_dp (v := .bool true) h2 57 [(aV ([(D ((k : Int))), (D ((t : Int))), (iV .u64 ((n : Int))), (lV B b.length dd), (lV A ts.length c)]).toArray)] (by kernel_rfl) (by have hz := Right_any F _ (DVal.mk k t n b ts) _ (h2.rd 0 rfl); rw [hr] at hz; exact hz)) ?_
 rintro _ w5 ⟨rfl, h5⟩
 refine wq_p 1 [(7, V)] ?_
 refine wE hK4 (cF (wp_skip (seq_n hK3 (wR fun K6 hK6 => ?_))))
 refine wV 8 (aV ([(D ((k : Int))), (D ((t : Int))), (iV .u64 ((n : Int))), (lV B b.length dd), (lV A ts.length c)]).toArray) (eLs (h5.at_ 0 rfl) 106 (.tmp 1) 0 ([(D ((k : Int))), (D ((t : Int))), (iV .u64 ((n : Int))), (lV B b.length dd), (lV A ts.length c)])) ?_
 refine wT 9 (x_bytesE h5 58 [(aV ([(D ((k : Int))), (D ((t : Int))), (iV .u64 ((n : Int))), (lV B b.length dd), (lV A ts.length c)]).toArray)] (by kernel_rfl) (write_any 8 1 (by omega) F _ (DVal.mk k t n b ts) _ (h5.rd 0 rfl) hr (by omega)) (wrV (DVal.mk k t n b ts)) ((wrV (DVal.mk k t n b ts)).length) rfl rfl) ?_
 rintro _ w7 ⟨A7, c7, rfl, h7⟩
 refine wq_p 1 [(4, (lV A7 ((wrV (DVal.mk k t n b ts)).length) c7))] ?_
 refine wE hK6 (wp_seq_k fun K8 hK8 => wR fun K9 hK9 => ?_)
 refine wq_p 2 [(11, (D (((wrV (DVal.mk k t n b ts)).length : Int)))), (10, (lV A7 ((wrV (DVal.mk k t n b ts)).length) c7))] (wV 12 (.bool true) (eqI (bV (decide (((wrV (DVal.mk k t n b ts)).length : Int) > 4096))) (by simp; omega)) ?_)
 refine wE hK9 (cT (wR fun K10 hK10 => ?_))
 refine wq_p 2 [(3, (D 20)), (2, nS)] ?_
 refine wE hK10 (wp_ret (seq_r ?_))
 refine post_2 rfl (by kernel_rfl) (rtm nS) (rtm (D 20)) ?_
 exact ⟨rfl, h7.below0⟩
theorem pack_no {G : Nat -> Prop} {u : Value} {t : Thing} {w : World} (hu : (rTh G u t).Φ w) (hl : limTh t) (hr : rightTh t = false) : Calls Try.prog 13 #[u] w (DPost w (.tuple #[.slice none 0 0, .int .i64 7])) := by
 have h0 := Hp.ro1 (rTh G u t) hu
 refine enter 16 Try.func13 rfl rfl ?_
 refine wp_reset 17 [(0, u)] (fun x0 => ?_)
 refine wR fun K1 hK1 => ?_
 refine wq_p 2 [(3, O), (2, nS)] ?_
 refine wE hK1 (wR fun K2 hK2 => ?_)
 refine wq_p 1 [(7, u)] ?_
 refine wT 8 (x_val h0 [u] (by kernel_rfl) (val_any t (h0.rd 0 rfl).2 hl)) ?_
 rintro _ w3 ⟨g3, n3, rfl, hf3, h3⟩
 refine wq_p 3 [(10, (bV ((rightTh t)))), (9, (aV ([(D 2), (D ((tagTh t : Int))), (iV .u64 0), nS, (lV (some ⟨g3, 0, none⟩) n3 n3)]).toArray)), (6, (Value.tuple #[(aV ([(D 2), (D ((tagTh t : Int))), (iV .u64 0), nS, (lV (some ⟨g3, 0, none⟩) n3 n3)]).toArray), (bV ((rightTh t)))]))] ?_
 refine wT 4 (xN h3 106 ([O, O, (iV .u64 0), nS, nS])) ?_
 rintro _ w4 ⟨g4, rfl, h4⟩
 refine wq_to none (xSs h4 0 106 (.tmp 4) (.tmp 9) 0 ([(D 2), (D ((tagTh t : Int))), (iV .u64 0), nS, (lV (some ⟨g3, 0, none⟩) n3 n3)]) ([(D 2), (D ((tagTh t : Int))), (iV .u64 0), nS, (lV (some ⟨g3, 0, none⟩) n3 n3)])) ?_
 rintro _ w5 h5
 refine wq_p 1 [(5, (bV ((rightTh t))))] ?_
 refine wE hK2 (wp_seq_k fun K6 hK6 => wR fun K7 hK7 => ?_)
 refine wq_p 1 [(11, (bV ((rightTh t))))] (wV 12 I (eqI (bV (!((rightTh t)))) (congrArg bV (by rw [hr]; rfl))) ?_)
 refine wE hK7 (cT (wR fun K8 hK8 => ?_))
 refine wq_p 2 [(3, (D 7)), (2, nS)] ?_
 refine wE hK8 (wp_ret (seq_r ?_))
 refine post_2 rfl (by kernel_rfl) (rtm nS) (rtm (D 7)) ?_
 exact ⟨rfl, h5.below0⟩
theorem pack_long {G : Nat -> Prop} {u : Value} {t : Thing} {w : World} (hu : (rTh G u t).Φ w) (hl : limTh t) (hr : rightTh t = true) (hn : 4096 < (wrV (valD t)).length) : Calls Try.prog 13 #[u] w (DPost w (.tuple #[.slice none 0 0, .int .i64 20])) := by
 have h0 := Hp.ro1 (rTh G u t) hu
 refine enter 16 Try.func13 rfl rfl ?_
 refine wp_reset 17 [(0, u)] (fun x0 => ?_)
 refine wR fun K1 hK1 => ?_
 refine wq_p 2 [(3, O), (2, nS)] ?_
 refine wE hK1 (wR fun K2 hK2 => ?_)
 refine wq_p 1 [(7, u)] ?_
 refine wT 8 (x_val h0 [u] (by kernel_rfl) (val_any t (h0.rd 0 rfl).2 hl)) ?_
 rintro _ w3 ⟨g3, n3, rfl, hf3, h3⟩
 obtain ⟨F4, h4⟩ := hf3 hr
 refine wq_p 3 [(10, (bV ((rightTh t)))), (9, (aV ([(D 2), (D ((tagTh t : Int))), (iV .u64 0), nS, (lV (some ⟨g3, 0, none⟩) n3 n3)]).toArray)), (6, (Value.tuple #[(aV ([(D 2), (D ((tagTh t : Int))), (iV .u64 0), nS, (lV (some ⟨g3, 0, none⟩) n3 n3)]).toArray), (bV ((rightTh t)))]))] ?_
 refine wT 4 (xN h4 106 ([O, O, (iV .u64 0), nS, nS])) ?_
 rintro _ w5 ⟨g5, rfl, h5⟩
 refine wq_to none (xSs h5 0 106 (.tmp 4) (.tmp 9) 0 ([(D 2), (D ((tagTh t : Int))), (iV .u64 0), nS, (lV (some ⟨g3, 0, none⟩) n3 n3)]) ([(D 2), (D ((tagTh t : Int))), (iV .u64 0), nS, (lV (some ⟨g3, 0, none⟩) n3 n3)])) ?_
 rintro _ w6 h6
 refine wq_p 1 [(5, (bV ((rightTh t))))] ?_
 refine wE hK2 (wp_seq_k fun K7 hK7 => wR fun K8 hK8 => ?_)
 refine wq_p 1 [(11, (bV ((rightTh t))))] (wV 12 V (eqI (bV (!((rightTh t)))) (congrArg bV (by rw [hr]; rfl))) ?_)
 refine wE hK8 (cF (wp_skip (seq_n hK7 (wR fun K9 hK9 => ?_))))
 refine wV 13 (aV ([(D 2), (D ((tagTh t : Int))), (iV .u64 0), nS, (lV (some ⟨g3, 0, none⟩) n3 n3)]).toArray) (eLs (h6.at_ 0 rfl) 106 (.tmp 4) 0 ([(D 2), (D ((tagTh t : Int))), (iV .u64 0), nS, (lV (some ⟨g3, 0, none⟩) n3 n3)])) ?_
 refine wT 14 (x_dp h6 37 [(aV ([(D 2), (D ((tagTh t : Int))), (iV .u64 0), nS, (lV (some ⟨g3, 0, none⟩) n3 n3)]).toArray)] (by kernel_rfl) (Write_long _ _ _ _ (h6.rd 0 rfl) (rightV_val t) hn (val_len hl))) ?_
 rintro _ w10 ⟨rfl, h10⟩
 refine wq_p 4 [(3, (D 20)), (2, nS), (16, (D 20)), (15, nS)] ?_
 refine wE hK9 (wp_ret ?_)
 refine post_2 rfl (by kernel_rfl) (rtm nS) (rtm (D 20)) ?_
 exact ⟨rfl, h10.below0⟩
theorem pack_ok {G : Nat -> Prop} {u : Value} {t : Thing} {w : World} (hu : (rTh G u t).Φ w) (hl : limTh t) (hr : rightTh t = true) (hn : (wrV (valD t)).length <= 4096) : Calls Try.prog 13 #[u] w (WrT w (wrV (valD t))) := by
 have h0 := Hp.ro1 (rTh G u t) hu
 refine enter 16 Try.func13 rfl rfl ?_
 refine wp_reset 17 [(0, u)] (fun x0 => ?_)
 refine wR fun K1 hK1 => ?_
 refine wq_p 2 [(3, O), (2, nS)] ?_
 refine wE hK1 (wR fun K2 hK2 => ?_)
 refine wq_p 1 [(7, u)] ?_
 refine wT 8 (x_val h0 [u] (by kernel_rfl) (val_any t (h0.rd 0 rfl).2 hl)) ?_
 rintro _ w3 ⟨g3, n3, rfl, hf3, h3⟩
 obtain ⟨F4, h4⟩ := hf3 hr
 refine wq_p 3 [(10, (bV ((rightTh t)))), (9, (aV ([(D 2), (D ((tagTh t : Int))), (iV .u64 0), nS, (lV (some ⟨g3, 0, none⟩) n3 n3)]).toArray)), (6, (Value.tuple #[(aV ([(D 2), (D ((tagTh t : Int))), (iV .u64 0), nS, (lV (some ⟨g3, 0, none⟩) n3 n3)]).toArray), (bV ((rightTh t)))]))] ?_
 refine wT 4 (xN h4 106 ([O, O, (iV .u64 0), nS, nS])) ?_
 rintro _ w5 ⟨g5, rfl, h5⟩
 refine wq_to none (xSs h5 0 106 (.tmp 4) (.tmp 9) 0 ([(D 2), (D ((tagTh t : Int))), (iV .u64 0), nS, (lV (some ⟨g3, 0, none⟩) n3 n3)]) ([(D 2), (D ((tagTh t : Int))), (iV .u64 0), nS, (lV (some ⟨g3, 0, none⟩) n3 n3)])) ?_
 rintro _ w6 h6
 refine wq_p 1 [(5, (bV ((rightTh t))))] ?_
 refine wE hK2 (wp_seq_k fun K7 hK7 => wR fun K8 hK8 => ?_)
 refine wq_p 1 [(11, (bV ((rightTh t))))] (wV 12 V (eqI (bV (!((rightTh t)))) (congrArg bV (by rw [hr]; rfl))) ?_)
 refine wE hK8 (cF (wp_skip (seq_n hK7 (wR fun K9 hK9 => ?_))))
 refine wV 13 (aV ([(D 2), (D ((tagTh t : Int))), (iV .u64 0), nS, (lV (some ⟨g3, 0, none⟩) n3 n3)]).toArray) (eLs (h6.at_ 0 rfl) 106 (.tmp 4) 0 ([(D 2), (D ((tagTh t : Int))), (iV .u64 0), nS, (lV (some ⟨g3, 0, none⟩) n3 n3)])) ?_
 refine wT 14 (x_wrT h6 37 [(aV ([(D 2), (D ((tagTh t : Int))), (iV .u64 0), nS, (lV (some ⟨g3, 0, none⟩) n3 n3)]).toArray)] (by kernel_rfl) (Write_any _ _ _ _ (h6.rd 0 rfl) (rightV_val t) hn)) ?_
 rintro _ w10 ⟨A10, c10, rfl, h10⟩
 refine wq_p 4 [(3, O), (2, (lV A10 ((wrV (valD t)).length) c10)), (16, O), (15, (lV A10 ((wrV (valD t)).length) c10))] ?_
 refine wE hK9 (wp_ret ?_)
 refine post_2 rfl (by kernel_rfl) (rtm (lV A10 ((wrV (valD t)).length) c10)) (rtm O) ?_
 exact ⟨_, _, rfl, h10.sel [0] [] rfl rfl rfl⟩
/-- tick.Pack. -/
theorem pack_any {G : Nat -> Prop} {u : Value} {t : Thing} {w : World} (hu : (rTh G u t).Φ w) (hl : limTh t) : Calls Try.prog 13 #[u] w (PackPost w (packB t)) := by
 unfold packB
 split
 · rename_i hr
   split
   · rename_i hn; exact pack_ok hu hl hr hn
   · rename_i hn; exact pack_long hu hl hr (by omega)
 · rename_i hr; exact pack_no hu hl (by simpa using hr)
theorem unp_err {L : Bytes} {A : Option Addr} {c : Nat} {w : World} (hv : SB w (.slice A L.length c) L) {ee : Nat} (hr : RdB L = .inl ee) : Calls Try.prog 15 #[.slice A L.length c] w (DPost w (.tuple #[.nilIface, .int .i64 (ee : Int)])) := by
 have h0 := Hp.ro1 (rSB (.slice A L.length c) L) hv
 refine enter 23 Try.func15 rfl rfl ?_
 refine wp_reset 24 [(0, (lV A L.length c))] (fun x0 => ?_)
 refine wR fun K1 hK1 => ?_
 refine wq_p 2 [(3, O), (2, Value.nilIface)] ?_
 refine wE hK1 (wR fun K2 hK2 => ?_)
 refine wq_p 1 [(9, (lV A L.length c))] ?_
 refine wT 10 (x_dp h0 41 [(lV A L.length c)] (by kernel_rfl) (rg_b hr (Rd_all L _ _ (h0.rd 0 rfl)))) ?_
 rintro _ w3 ⟨rfl, h3⟩
 refine wq_p 3 [(12, (D ((ee : Int)))), (11, (aV ([O, O, (iV .u64 0), nS, nS]).toArray)), (8, (Value.tuple #[(aV ([O, O, (iV .u64 0), nS, nS]).toArray), (D ((ee : Int)))]))] ?_
 refine wT 4 (xN h3 106 ([O, O, (iV .u64 0), nS, nS])) ?_
 rintro _ w4 ⟨g4, rfl, h4⟩
 refine wq_to none (xSs h4 0 106 (.tmp 4) (.tmp 11) 0 ([O, O, (iV .u64 0), nS, nS]) ([O, O, (iV .u64 0), nS, nS])) ?_
 rintro _ w5 h5
 refine wq_p 1 [(5, (D ((ee : Int))))] ?_
 refine wE hK2 (wp_seq_k fun K6 hK6 => wR fun K7 hK7 => ?_)
 refine wq_p 1 [(13, (D ((ee : Int))))] (wV 14 (.bool true) (eqI (bV (((ee : Int)) != 0)) (ine (b := 0) (RdB_er hr))) ?_)
 refine wE hK7 (cT (wR fun K8 hK8 => ?_))
 refine wq_p 3 [(3, (D ((ee : Int)))), (2, Value.nilIface), (15, (D ((ee : Int))))] ?_
 refine wE hK8 (wp_ret (seq_r ?_))
 refine post_2 rfl (by kernel_rfl) (rtm Value.nilIface) (rtm (D ((ee : Int)))) ?_
 exact ⟨rfl, h5.below0⟩
theorem unp_no {L : Bytes} {A : Option Addr} {c : Nat} {w : World} (hv : SB w (.slice A L.length c) L) {v : DVal} (hr : RdB L = .inr v) (ho : ofF v = none) : Calls Try.prog 15 #[.slice A L.length c] w (DPost w (.tuple #[.nilIface, .int .i64 4])) := by
 have h0 := Hp.ro1 (rSB (.slice A L.length c) L) hv
 refine enter 23 Try.func15 rfl rfl ?_
 refine wp_reset 24 [(0, (lV A L.length c))] (fun x0 => ?_)
 refine wR fun K1 hK1 => ?_
 refine wq_p 2 [(3, O), (2, Value.nilIface)] ?_
 refine wE hK1 (wR fun K2 hK2 => ?_)
 refine wq_p 1 [(9, (lV A L.length c))] ?_
 refine wT 10 (x_ReadT h0 41 [(lV A L.length c)] (by kernel_rfl) (rg_o hr (Rd_all L _ _ (h0.rd 0 rfl)))) ?_
 rintro _ w3 ⟨F3, B3, d3, A3, c3, rfl, h3⟩
 refine wq_p 3 [(12, O), (11, (aV ([(D ((v.kind : Int))), (D ((v.tag : Int))), (iV .u64 ((v.n : Int))), (lV B3 v.b.length d3), (lV A3 v.l.length c3)]).toArray)), (8, (Value.tuple #[(aV ([(D ((v.kind : Int))), (D ((v.tag : Int))), (iV .u64 ((v.n : Int))), (lV B3 v.b.length d3), (lV A3 v.l.length c3)]).toArray), O]))] ?_
 refine wT 4 (xN h3 106 ([O, O, (iV .u64 0), nS, nS])) ?_
 rintro _ w4 ⟨g4, rfl, h4⟩
 refine wq_to none (xSs h4 0 106 (.tmp 4) (.tmp 11) 0 ([(D ((v.kind : Int))), (D ((v.tag : Int))), (iV .u64 ((v.n : Int))), (lV B3 v.b.length d3), (lV A3 v.l.length c3)]) ([(D ((v.kind : Int))), (D ((v.tag : Int))), (iV .u64 ((v.n : Int))), (lV B3 v.b.length d3), (lV A3 v.l.length c3)])) ?_
 rintro _ w5 h5
 refine wq_p 1 [(5, O)] ?_
 refine wE hK2 (wp_seq_k fun K6 hK6 => wR fun K7 hK7 => ?_)
 refine wq_p 2 [(14, V), (13, O)] ?_
 refine wE hK7 (cF (wp_skip (seq_n hK6 (wR fun K8 hK8 => ?_))))
 refine wV 17 (aV ([(D ((v.kind : Int))), (D ((v.tag : Int))), (iV .u64 ((v.n : Int))), (lV B3 v.b.length d3), (lV A3 v.l.length c3)]).toArray) (eLs (h5.at_ 0 rfl) 106 (.tmp 4) 0 ([(D ((v.kind : Int))), (D ((v.tag : Int))), (iV .u64 ((v.n : Int))), (lV B3 v.b.length d3), (lV A3 v.l.length c3)])) ?_
 refine wT 18 (x_of h5 1 rfl (RdB_sm hr) [(aV ([(D ((v.kind : Int))), (D ((v.tag : Int))), (iV .u64 ((v.n : Int))), (lV B3 v.b.length d3), (lV A3 v.l.length c3)]).toArray)] (by kernel_rfl) rfl ho) ?_
 rintro _ w9 ⟨rfl, h9⟩
 refine wq_p 5 [(7, V), (6, Value.nilIface), (20, V), (19, Value.nilIface), (16, (Value.tuple #[Value.nilIface, V]))] ?_
 refine wE hK8 (wp_seq_k fun K10 hK10 => wR fun K11 hK11 => ?_)
 refine wq_p 2 [(22, I), (21, V)] ?_
 refine wE hK11 (cT (wR fun K12 hK12 => ?_))
 refine wq_p 2 [(3, (D 4)), (2, Value.nilIface)] ?_
 refine wE hK12 (wp_ret (seq_r ?_))
 refine post_2 rfl (by kernel_rfl) (rtm Value.nilIface) (rtm (D 4)) ?_
 exact ⟨rfl, h9.below0⟩
theorem unp_yes {L : Bytes} {A : Option Addr} {c : Nat} {w : World} (hv : SB w (.slice A L.length c) L) {v : DVal} {t : Thing} (hr : RdB L = .inr v) (ho : ofF v = some t) : Calls Try.prog 15 #[.slice A L.length c] w (UnpPost w (.inr t)) := by
 have h0 := Hp.ro1 (rSB (.slice A L.length c) L) hv
 refine enter 23 Try.func15 rfl rfl ?_
 refine wp_reset 24 [(0, (lV A L.length c))] (fun x0 => ?_)
 refine wR fun K1 hK1 => ?_
 refine wq_p 2 [(3, O), (2, Value.nilIface)] ?_
 refine wE hK1 (wR fun K2 hK2 => ?_)
 refine wq_p 1 [(9, (lV A L.length c))] ?_
 refine wT 10 (x_ReadT h0 41 [(lV A L.length c)] (by kernel_rfl) (rg_o hr (Rd_all L _ _ (h0.rd 0 rfl)))) ?_
 rintro _ w3 ⟨F3, B3, d3, A3, c3, rfl, h3⟩
 refine wq_p 3 [(12, O), (11, (aV ([(D ((v.kind : Int))), (D ((v.tag : Int))), (iV .u64 ((v.n : Int))), (lV B3 v.b.length d3), (lV A3 v.l.length c3)]).toArray)), (8, (Value.tuple #[(aV ([(D ((v.kind : Int))), (D ((v.tag : Int))), (iV .u64 ((v.n : Int))), (lV B3 v.b.length d3), (lV A3 v.l.length c3)]).toArray), O]))] ?_
 refine wT 4 (xN h3 106 ([O, O, (iV .u64 0), nS, nS])) ?_
 rintro _ w4 ⟨g4, rfl, h4⟩
 refine wq_to none (xSs h4 0 106 (.tmp 4) (.tmp 11) 0 ([(D ((v.kind : Int))), (D ((v.tag : Int))), (iV .u64 ((v.n : Int))), (lV B3 v.b.length d3), (lV A3 v.l.length c3)]) ([(D ((v.kind : Int))), (D ((v.tag : Int))), (iV .u64 ((v.n : Int))), (lV B3 v.b.length d3), (lV A3 v.l.length c3)])) ?_
 rintro _ w5 h5
 refine wq_p 1 [(5, O)] ?_
 refine wE hK2 (wp_seq_k fun K6 hK6 => wR fun K7 hK7 => ?_)
 refine wq_p 2 [(14, V), (13, O)] ?_
 refine wE hK7 (cF (wp_skip (seq_n hK6 (wR fun K8 hK8 => ?_))))
 refine wV 17 (aV ([(D ((v.kind : Int))), (D ((v.tag : Int))), (iV .u64 ((v.n : Int))), (lV B3 v.b.length d3), (lV A3 v.l.length c3)]).toArray) (eLs (h5.at_ 0 rfl) 106 (.tmp 4) 0 ([(D ((v.kind : Int))), (D ((v.tag : Int))), (iV .u64 ((v.n : Int))), (lV B3 v.b.length d3), (lV A3 v.l.length c3)])) ?_
 refine wT 18 (x_of h5 1 rfl (RdB_sm hr) [(aV ([(D ((v.kind : Int))), (D ((v.tag : Int))), (iV .u64 ((v.n : Int))), (lV B3 v.b.length d3), (lV A3 v.l.length c3)]).toArray)] (by kernel_rfl) rfl ho) ?_
 rintro _ w9 ⟨x9, rfl, h9⟩
 refine wq_p 5 [(7, I), (6, x9), (20, I), (19, x9), (16, (Value.tuple #[x9, I]))] ?_
 refine wE hK8 (wp_seq_k fun K10 hK10 => wR fun K11 hK11 => ?_)
 refine wq_p 2 [(22, V), (21, I)] ?_
 refine wE hK11 (cF (wp_skip (seq_n hK10 (wR fun K12 hK12 => ?_))))
 refine wq_p 3 [(3, O), (2, x9), (23, x9)] ?_
 refine wE hK12 (wp_ret ?_)
 refine post_2 rfl (by kernel_rfl) (rtm x9) (rtm O) ?_
 exact ⟨_, _, rfl, h9.sel [1] [] rfl rfl rfl⟩
/-- tick.Unpack. -/
theorem unp_any {L : Bytes} {x : Value} {w : World} (hv : SB w x L) : Calls Try.prog 15 #[x] w (UnpPost w (unpB L)) := by
 obtain ⟨A, c, rfl, _⟩ := id hv
 unfold unpB
 split
 · rename_i hr; exact unp_err hv hr
 · rename_i v hr
   split
   · rename_i ho; exact unp_yes hv hr ho
   · rename_i ho; exact unp_no hv hr ho
end
section
open Go.RowKit Go.QT
theorem tab16 {w : World} {F : Nat -> Prop} {tb : Nat} {s : STab} (h : TabAt w F tb s) : ∀ b ∈ s.boxes, b.by_.length = 16 := by
 obtain ⟨mb, vk, vx, vs, bodies, sums, es, clock, hR⟩ := h
 exact hR.xl
/-- What a box is: tick.Open, ahead of the type. -/
def openTh (s : STab) (k : Bytes) (u : Int) (l : Bytes) : Nat ⊕ Thing :=
 match s.open_ k u l with
 | none => .inl 13
 | some b => unpB b
/-- Boxes that may be opened. -/
def TabOk (s : STab) : Prop := (∀ b ∈ s.boxes, b.body.length <= 1000000) /\ s.boxes.length < 1000000
def tyTh : Thing -> TypeId
 | .ticket .. => 39
 | .inside .. => 55
 | .reply .. => 60
 | .authent .. => 141
 | .stamp .. => 49
 | .fact .. => 143
 | .plain .. => 37
theorem ThR.ty {G : Nat -> Prop} {w : World} {u : Value} {t : Thing} (h : ThR G w u t) : ∃ v, u = .iface (tyTh t) v := by
 cases t with
 | ticket => obtain ⟨A, c, rfl, _⟩ := h; exact ⟨_, rfl⟩
 | authent => obtain ⟨A, c, rfl, _⟩ := h; exact ⟨_, rfl⟩
 | plain => obtain ⟨A, c, rfl, _⟩ := h; exact ⟨_, rfl⟩
 | inside => exact ⟨_, h⟩
 | reply => exact ⟨_, h⟩
 | stamp => exact ⟨_, h⟩
 | fact => exact ⟨_, h⟩
def structB (P : Program) (t : TypeId) : Bool := match P.underlying t with
 | some (.struct _) => true
 | _ => false
section
variable {P : Program} {o : Oper} {a : Act} {F0 F : Nat -> Prop} {w0 w w' : World} {ro rs : List Res} {tb : Nat} {s : STab}
/-- x.(T), of another type. -/
theorem e_asNo {T' ta xt : TypeId} {v z : Value} (x : Operand) (ho : o.op = .typeAssert x xt ta true) (hx : a.eval x = .iface T' v) (hne : T' ≠ ta) (hu : structB P ta = true) (hz : pureVal P (zeroValue ta) = some z) (W : World) :
   (execOp a.eval o).run P W = .ok (.value (.tuple #[z, .bool false])) W := by
 unfold structB at hu
 split at hu
 · rename_i fs hf
   have h1 : (Instr.typeAssert (.iface T' v) xt ta true).run P W = .ok (.tuple #[z, .bool false]) W := by
     simp [Instr.typeAssert, run_underlying hf, hne, pureVal_run hz]
   unfold execOp
   simp only [ho, hx, Sem.run_bind, h1, Result.andThen_ok, Sem.run_pure]
 · cases hu
theorem x_openR (h : Hp F0 w0 w ro rs) (k : Nat) (hk : ro[k]? = some (rTab F tb s)) (hs : TabOk s) (K : Fin 16 -> UInt8) (u : Int) (l : Bytes) (bv : Value) (r : Option Bytes) (hp : pureVal Try.prog (execOp a.eval o) = some (.enter 104 #[pt tb 0, .agg (vb (kl K)).toArray, .int .i64 u, bv])) (hb : SB w bv l) (hr : s.open_ (kl K) u l = r) :
   OpTo Try.prog o a w (fun u' w' => ∃ A cc, u' = .tuple #[.slice A (r.getD []).length cc, .bool r.isSome] /\ Hp F0 w0 w' ro (rOB (.slice A (r.getD []).length cc) (r.getD []) :: rs)) :=
 OpTo.enter 104 [pt tb 0, .agg (vb (kl K)).toArray, .int .i64 u, bv] hp (open_any F tb s (kl K) u l bv w (h.rd k hk) (kl_len K) hb hs.1 (tab16 (h.rd k hk)) hs.2) fun e w' hq => by
   subst hr
   obtain ⟨v, he, ho, hb⟩ := hq
   obtain ⟨A, cc, rfl, _⟩ := ho.sb
   exact ⟨_, he, A, cc, rfl, h.newS hb _ (ho.mono (Nat.zero_le _)) (fun q hq => (ho.own q hq).1)⟩
/-- Seal: the box's mark is the call's own. -/
theorem x_sealS (h : Hp F0 w0 w ro rs) (i : Nat) (hi : rs[i]? = some (rTab F tb s)) (K : Fin 16 -> UInt8) (u : Int) (l : Bytes) (bv : Value) (hp : pureVal Try.prog (execOp a.eval o) = some (.enter 11 #[pt tb 0, .agg (vb (kl K)).toArray, .int .i64 u, bv])) (hb : SB w bv l) (hl : l.length <= 1000000) (hn : s.boxes.length < 1000000) :
   OpTo Try.prog o a w (fun u' w' => ∃ A cc F', u' = .slice A 16 cc /\ Hp F0 w0 w' ro (rSB (.slice A 16 cc) (mkB 98 (s.boxes.length + 1)) :: rs.set i (rTab F' tb (s.seal (kl K) u l)))) :=
 OpTo.enter 11 [pt tb 0, .agg (vb (kl K)).toArray, .int .i64 u, bv] hp (seal_any F tb s (kl K) u l bv w (h.own i _ hi) (kl_len K) hb hl hn) fun e w' hq => by
   obtain ⟨v, F', he, hsb, hT, h1, h2, hf, hn⟩ := hq
   obtain ⟨A, cc, rfl, hc1, hc2, hcell⟩ := hsb
   have hil : i < rs.length := (List.getElem?_eq_some_iff.1 hi).1
   have hs : SB w' (.slice A (mkB 98 (s.boxes.length + 1)).length cc) (mkB 98 (s.boxes.length + 1)) := ⟨A, cc, rfl, hc1, hc2, hcell⟩
   rw [mkB_len] at hs he hn
   refine ⟨_, he, A, cc, F', rfl, (h.upd i hi hf (rTab F' tb (s.seal (kl K) u l)) hT h1).addS (rSB (.slice A 16 cc) (mkB 98 (s.boxes.length + 1))) hs (fun q hq => .inr (Nat.le_trans h.fr.size (hn q hq.2).1)) (fun j t ht q h3 h4 => ?_) (fun j t ht q h3 h4 => ?_)⟩
   · by_cases e : j = i
     · subst e
       rw [List.getElem?_set_self hil] at ht
       injection ht with ht
       subst ht
       exact (hn q h3.2).2 h4
     · rw [List.getElem?_set_ne (Ne.symm e)] at ht
       exact absurd (t.lt (h.own j t ht) q h4) (Nat.not_lt.2 (hn q h3.2).1)
   · exact absurd (t.lt (h.red j t ht) q h4) (Nat.not_lt.2 (hn q h3.2).1)
end
/-- What tick.Seal leaves. -/
def TSealPost (w : World) (F : Nat -> Prop) (tb : Nat) (s : STab) (K : Fin 16 -> UInt8) (u : Int) (r : Nat ⊕ Bytes) (e : Ending) (w' : World) : Prop :=
 match r with
 | .inr b => ∃ A c F', e = .returned (.tuple #[.slice A 16 c, .int .i64 0]) /\ Hp F w w' [] [rTab F' tb (s.seal (kl K) u b), rSB (.slice A 16 c) (mkB 98 (s.boxes.length + 1))]
 | .inl c => DPost w (.tuple #[.slice none 0 0, .int .i64 (c : Int)]) e w'
end
section
open Go.RowKit Go.QT
theorem pack_er {t : Thing} {c : Nat} (h : packB t = .inl c) : c ≠ 0 := by
 unfold packB at h
 split at h
 · split at h
   · cases h
   · injection h with h; omega
 · injection h with h; omega
theorem pack_le {t : Thing} {b : Bytes} (h : packB t = .inr b) : b.length <= 4096 := by
 unfold packB at h
 split at h
 · split at h
   · rename_i hl; injection h with h; subst h; exact hl
   · cases h
 · cases h
theorem tseal_no {G : Nat -> Prop} {x : Value} {t : Thing} {tb : Nat} {K : Fin 16 -> UInt8} {us : Int} {w : World} (hu : (rTh G x t).Φ w) (hl : limTh t) {cc : Nat} (hp : packB t = .inl cc) : Calls Try.prog 23 #[(Value.iface 24 (pt tb 0)), (Value.agg (vb (kl K)).toArray), .int .i64 us, x] w (DPost w (.tuple #[.slice none 0 0, .int .i64 (cc : Int)])) := by
 have h0 := Hp.ro1 (rTh G x t) hu
 refine enter 21 Try.func23 rfl rfl ?_
 refine wp_reset 25 [(0, (Value.iface 24 (pt tb 0))), (1, (Value.agg (vb (kl K)).toArray)), (2, (D us)), (3, x)] (fun x0 => ?_)
 refine wR fun K1 hK1 => ?_
 refine wT 5 (xN h0 32 (vb (kl K))) ?_
 rintro _ w2 ⟨g2, rfl, h2⟩
 refine wq_p 2 [(9, O), (8, nS)] ?_
 refine wE hK1 (wR fun K3 hK3 => ?_)
 refine wq_p 1 [(13, x)] ?_
 refine wT 14 (x_dp h2 13 [x] (by kernel_rfl) (pk_e hp (pack_any (h2.rd 0 rfl) hl))) ?_
 rintro _ w4 ⟨rfl, h4⟩
 refine wq_p 5 [(11, (D ((cc : Int)))), (10, nS), (16, (D ((cc : Int)))), (15, nS), (12, (Value.tuple #[nS, (D ((cc : Int)))]))] ?_
 refine wE hK3 (wp_seq_k fun K5 hK5 => wR fun K6 hK6 => ?_)
 refine wq_p 1 [(17, (D ((cc : Int))))] (wV 18 (.bool true) (eqI (Value.bool (((cc : Int)) != 0)) (ine (b := 0) (pack_er hp))) ?_)
 refine wE hK6 (cT (wR fun K7 hK7 => ?_))
 refine wq_p 3 [(9, (D ((cc : Int)))), (8, nS), (19, (D ((cc : Int))))] ?_
 refine wE hK7 (wp_ret (seq_r ?_))
 refine post_2 rfl (by kernel_rfl) (rtm nS) (rtm (D ((cc : Int)))) ?_
 exact ⟨rfl, h4.below0⟩
theorem tseal_ok {G F : Nat -> Prop} {x : Value} {t : Thing} {tb : Nat} {s : STab} {K : Fin 16 -> UInt8} {us : Int} {w : World} (hT : (rTab F tb s).Φ w) (hs : TabOk s) (hu : (rTh G x t).Φ w) (hd : ∀ q, G q -> ¬ F q) (hl : limTh t) {b : Bytes} (hp : packB t = .inr b) (hbl : b.length <= 1000000) : Calls Try.prog 23 #[(Value.iface 24 (pt tb 0)), (Value.agg (vb (kl K)).toArray), .int .i64 us, x] w (TSealPost w F tb s K us (.inr b)) := by
 have h0 := (Hp.one (rTab F tb s) hT).addR (rTh G x t) hu (fun j r hj => by have := sel1 hj; injection this with this; subst this; exact hd)
 refine enter 21 Try.func23 rfl rfl ?_
 refine wp_reset 25 [(0, (Value.iface 24 (pt tb 0))), (1, (Value.agg (vb (kl K)).toArray)), (2, (D us)), (3, x)] (fun x0 => ?_)
 refine wR fun K1 hK1 => ?_
 refine wT 5 (xN h0 32 (vb (kl K))) ?_
 rintro _ w2 ⟨g2, rfl, h2⟩
 refine wq_p 2 [(9, O), (8, nS)] ?_
 refine wE hK1 (wR fun K3 hK3 => ?_)
 refine wq_p 1 [(13, x)] ?_
 refine wT 14 (x_wrT h2 13 [x] (by kernel_rfl) (pk_b hp (pack_any (h2.rd 0 rfl) hl))) ?_
 rintro _ w4 ⟨A4, c4, rfl, h4⟩
 refine wq_p 5 [(11, O), (10, (Value.slice A4 b.length c4)), (16, O), (15, (Value.slice A4 b.length c4)), (12, (Value.tuple #[(Value.slice A4 b.length c4), O]))] ?_
 refine wE hK3 (wp_seq_k fun K5 hK5 => wR fun K6 hK6 => ?_)
 refine wq_p 2 [(18, V), (17, O)] ?_
 refine wE hK6 (cF (wp_skip (seq_n hK5 (wR fun K7 hK7 => ?_))))
 refine wq_p 1 [(20, (Value.iface 24 (pt tb 0)))] (wV 21 (Value.agg (vb (kl K)).toArray) (eLs (h4.at_ 1 rfl) 32 (.tmp 5) 0 (vb (kl K))) (wq_p 2 [(23, (Value.slice A4 b.length c4)), (22, (D us))] ?_))
 refine wT 24 (x_sealS h4 2 rfl K us b (Value.slice A4 b.length c4) (by kernel_rfl) (OB.sb (h4.at_ 0 rfl)) hbl hs.2) ?_
 rintro _ w8 ⟨A8, c8, F8, rfl, h8⟩
 refine wq_p 2 [(9, O), (8, (Value.slice A8 16 c8))] ?_
 refine wE hK7 (wp_ret ?_)
 refine post_2 rfl (by kernel_rfl) (rtm (Value.slice A8 16 c8)) (rtm O) ?_
 exact ⟨_, _, _, rfl, h8.sel [3, 0] [] rfl rfl rfl⟩
/-- tick.Seal. -/
theorem tseal_any {G F : Nat -> Prop} {x : Value} {t : Thing} {tb : Nat} {s : STab} {K : Fin 16 -> UInt8} {us : Int} {w : World} (hT : (rTab F tb s).Φ w) (hs : TabOk s) (hu : (rTh G x t).Φ w) (hd : ∀ q, G q -> ¬ F q) (hl : limTh t) : Calls Try.prog 23 #[(Value.iface 24 (pt tb 0)), (Value.agg (vb (kl K)).toArray), .int .i64 us, x] w (TSealPost w F tb s K us (packB t)) := by
 rcases hp : packB t with c | b
 · exact tseal_no hu hl hp
 · exact tseal_ok hT hs hu hd hl hp (by have := pack_le hp; omega)
/-- .. at a caller, when it is sealed. -/
theorem x_tseal {o : Oper} {a : Act} {F0 F G : Nat -> Prop} {w0 w : World} {ro rs : List Res} {tb : Nat} {s : STab} (h : Hp F0 w0 w ro rs) (i : Nat) (hi : rs[i]? = some (rTab F tb s)) (K : Fin 16 -> UInt8) (us : Int) {x : Value} {t : Thing} {b : Bytes} (hpk : packB t = .inr b) (hp : pureVal Try.prog (execOp a.eval o) = some (.enter 23 #[(Value.iface 24 (pt tb 0)), (Value.agg (vb (kl K)).toArray), .int .i64 us, x])) (hs : TabOk s) (hu : (rTh G x t).Φ w) (hd : ∀ q, G q -> ¬ F q) (hl : limTh t) :
   OpTo Try.prog o a w (fun u w' => ∃ A c F' s', u = .tuple #[.slice A 16 c, .int .i64 0] /\ s' = s.seal (kl K) us b /\ Hp F0 w0 w' ro (rTab F' tb s' :: rSB (.slice A 16 c) (mkB 98 (s.boxes.length + 1)) :: rs.eraseIdx i)) := by
 have hT := h.own i _ hi
 have hc := tseal_any (K := K) (us := us) hT hs hu hd hl
 rw [hpk] at hc
 refine OpTo.enter 23 [(Value.iface 24 (pt tb 0)), (Value.agg (vb (kl K)).toArray), .int .i64 us, x] hp hc fun e w' hq => ?_
 obtain ⟨A, c, F', he, h2⟩ := hq
 exact ⟨_, he, A, c, F', _, rfl, rfl, h.call1 i hi h2⟩
/-- .. when it is not. -/
theorem x_tsealN {o : Oper} {a : Act} {F0 G : Nat -> Prop} {w0 w : World} {ro rs : List Res} {tb : Nat} (h : Hp F0 w0 w ro rs) (K : Fin 16 -> UInt8) (us : Int) {x : Value} {t : Thing} {c : Nat} (hpk : packB t = .inl c) (hp : pureVal Try.prog (execOp a.eval o) = some (.enter 23 #[(Value.iface 24 (pt tb 0)), (Value.agg (vb (kl K)).toArray), .int .i64 us, x])) (hu : (rTh G x t).Φ w) (hl : limTh t) :
   OpTo Try.prog o a w (fun u w' => u = .tuple #[.slice none 0 0, .int .i64 (c : Int)] /\ Hp F0 w0 w' ro rs) :=
 x_dp h 23 [(Value.iface 24 (pt tb 0)), (Value.agg (vb (kl K)).toArray), .int .i64 us, x] hp (tseal_no hu hl hpk)
end
end Go.Proofs.Ytecomegocafocaa
