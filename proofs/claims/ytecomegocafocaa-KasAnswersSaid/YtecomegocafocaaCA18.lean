/- compeerref09: runes by bytes; that names are the same: plain. Strings, byte by byte. -/
import Derived.Laws.StructEq
import Derived.Test.YtecomegocafocaaCA17
set_option maxRecDepth 100000
set_option maxHeartbeats 4000000
namespace Go.Proofs.Ytecomegocafocaa
section
theorem mkB_inj {k : UInt8} {m n : Nat} (hm : m < 18446744073709551616) (hn : n < 18446744073709551616) (h : mkB k m = mkB k n) : m = n := by
 have h1 : (mkB k m).drop 8 = (mkB k n).drop 8 := by rw [h]
 have h2 : put8 m = put8 n := h1
 rw [← getN_put8 m hm, ← getN_put8 n hn, h2]
section
variable {s s' : STab} {f g : SFrom} {n : Nat}
end
end
section
open Go.RowKit
theorem markOf_mkB {k : UInt8} {n : Nat} (hk : k = 107 ∨ k = 98 ∨ k = 100) (hn : n <= 1099511627776) : markOf (mkB k n) = some (k, n) := by
 have h2 : gb (mkB k n) 2 = k := rfl
 have h8 : getN ((mkB k n).drop 8) = n := getN_put8 n (by omega)
 unfold markOf
 rw [h2, h8, if_pos ⟨rfl, hk, hn, rfl⟩]
/-! ### Tables -/
section
variable {s s' : STab} {f g : SFrom} {n : Nat} {k l : Bytes} {u : Int} {b : Bytes}
theorem box_at {x : SSealed} (h : s.boxes[n]? = some x) (hn : n < 1000000) : s.box (mkB 98 (n + 1)) = some x := by
 unfold STab.box
 rw [markOf_mkB (by decide) (by omega)]
 simp [h]
theorem open_at (h : s.boxes[n]? = some ⟨k, u, b⟩) (hn : n < 1000000) : s.open_ k u (mkB 98 (n + 1)) = some b := by
 unfold STab.open_
 rw [box_at h hn]
 simp
end
end
section
open Go.RowKit Go.QT
theorem eqFields_self {P : Program} (d : Nat) (xs : Array Value) (w : World) : ∀ (fs : List Field), (∀ f ∈ fs, ∃ x, (∀ W, (part f.type xs f.offset).run P W = .ok x W) /\ ∀ W, (Op.equalIn d f.type x x).run P W = .ok true W) -> (Op.eqFields d xs xs fs).run P w = .ok true w
 | [], _ => by simp [Op.eqFields]
 | f :: fs, h => by
   obtain ⟨x, h1, h2⟩ := h f (by simp)
   have ih := eqFields_self d xs w fs (fun g hg => h g (by simp [hg]))
   unfold Op.eqFields
   split
   · simp only [Sem.run_bind, h1, h2, Result.andThen_ok, ih, Bool.not_true, Bool.false_eq_true, if_false]
   · exact ih
theorem part_at {P : Program} (t : TypeId) (cs : List Value) (k : Nat) (v : Value) (ht : ∀ W, (isAgg t).run P W = .ok false W) (hv : cs[k]? = some v) (W : World) : (part t cs.toArray k).run P W = .ok v W := by
 have e : cs.toArray[k]? = some v := by simpa using hv
 simp only [part, Sem.run_bind, ht, Result.andThen_ok, Bool.false_eq_true, if_false, e, Sem.run_pure]
theorem part_ar {P : Program} (t : TypeId) (n : Nat) (cs : List Value) (k : Nat) (m : List Value) (ht : ∀ W, (isAgg t).run P W = .ok true W) (hs : ∀ W, (sizeOf t).run P W = .ok n W) (hm : (cs.drop k).take n = m) (W : World) : (part t cs.toArray k).run P W = .ok (.agg m.toArray) W := by
 have e : cs.toArray.extract k (k + n) = m.toArray := by
   apply Array.ext'
   rw [Array.toList_extract, ← hm]
   simp [List.extract_eq_take_drop]
 simp only [part, Sem.run_bind, ht, hs, Result.andThen_ok, if_true, Sem.run_pure]
 rw [e]
theorem self_struct {P : Program} (d : Nat) (t : TypeId) (cs : List Value) (tl : List (TypeId × Nat)) (ht : P.underlying t = some (.struct (P.fieldsOf t))) (hp : P.stoodInHeld t = false) (hf : (P.fieldsOf t).toList.map (fun f => (f.type, f.offset)) = tl)
   (h : ∀ p ∈ tl, ∃ x, (∀ W, (part p.1 cs.toArray p.2).run P W = .ok x W) /\ ∀ W, (Op.equalIn d p.1 x x).run P W = .ok true W) (w : World) : (Op.equalIn (d + 1) t (.agg cs.toArray) (.agg cs.toArray)).run P w = .ok true w := by
 rw [run_equalIn_struct w d t _ _ ht hp]
 refine eqFields_self d _ w _ fun f hm => ?_
 exact h (f.type, f.offset) (by rw [← hf]; exact List.mem_map_of_mem hm)
theorem e_selfB {P : Program} {o : Oper} {a : Act} (t : TypeId) (cs : List Value) (x y : Operand) (t' : TypeId) (ho : o.op = .binOp .eql t x y t') (hx : a.eval x = .agg cs.toArray) (hy : a.eval y = .agg cs.toArray) (hg : P.eqGuardType P.depth t = false) (hs : ∀ W, (Op.equalIn 10000 t (.agg cs.toArray) (.agg cs.toArray)).run P W = .ok true W) (W : World) :
   (execOp a.eval o).run P W = .ok (.value (.bool true)) W := by
 unfold execOp
 simp only [ho, hx, hy, Sem.run_bind, run_eqGuard_agg W _ t _ _ _ _ hg, Result.andThen_ok, run_eql_struct, hs, Sem.run_pure]
section
theorem seq_int (t : TypeId) (ht : Try.prog.underlying t = some (.int .i64)) (n : Int) (W : World) : (Op.equalIn 9999 t (.int .i64 n) (.int .i64 n)).run Try.prog W = .ok true W := by
 rw [run_equalIn_int W 9998 t .i64 .i64 _ _ ht]; simp
theorem seq_str (s : ByteArray) (W : World) : (Op.equalIn 9999 9 (.string s) (.string s)).run Try.prog W = .ok true W := by
 rw [run_equalIn_string W 9998 9 _ _ (by kernel_rfl)]; simp
theorem seq_key (K : Bytes) (hK : K.length = 16) (W : World) : (Op.equalIn 9999 32 (.agg (vb K).toArray) (.agg (vb K).toArray)).run Try.prog W = .ok true W := by
 rw [run_equalIn16 9997 32 K K W (by kernel_rfl) hK hK]; simp
theorem self_inside (f : Int) (K : Fin 16 -> UInt8) (s : ByteArray) (a u r : Int) (W : World) : (Op.equalIn 10000 55 (.agg ([Value.int .i64 f] ++ vb (kl K) ++ [Value.string s, .int .i64 a, .int .i64 u, .int .i64 r]).toArray) (.agg ([Value.int .i64 f] ++ vb (kl K) ++ [Value.string s, .int .i64 a, .int .i64 u, .int .i64 r]).toArray)).run Try.prog W = .ok true W := by
 refine self_struct 9999 55 _ [(3, 0), (32, 1), (9, 17), (2, 18), (2, 19), (2, 20)] (by kernel_rfl) (by kernel_rfl) (by kernel_rfl) ?_ W
 intro p hp
 simp only [List.mem_cons, List.not_mem_nil, or_false] at hp
 rcases hp with rfl | rfl | rfl | rfl | rfl | rfl
 · exact ⟨_, part_at _ _ _ (.int .i64 f) (by intro W; kernel_rfl) (by kernel_rfl), seq_int _ (by kernel_rfl) _⟩
 · exact ⟨_, part_ar _ 16 _ _ (vb (kl K)) (by intro W; kernel_rfl) (by intro W; kernel_rfl) (by kernel_rfl), seq_key _ (kl_len K)⟩
 · exact ⟨_, part_at _ _ _ (.string s) (by intro W; kernel_rfl) (by kernel_rfl), seq_str _⟩
 · exact ⟨_, part_at _ _ _ (.int .i64 a) (by intro W; kernel_rfl) (by kernel_rfl), seq_int _ (by kernel_rfl) _⟩
 · exact ⟨_, part_at _ _ _ (.int .i64 u) (by intro W; kernel_rfl) (by kernel_rfl), seq_int _ (by kernel_rfl) _⟩
 · exact ⟨_, part_at _ _ _ (.int .i64 r) (by intro W; kernel_rfl) (by kernel_rfl), seq_int _ (by kernel_rfl) _⟩
theorem self_reply (f : Int) (K : Fin 16 -> UInt8) (n : Int) (s : ByteArray) (a u r : Int) (W : World) : (Op.equalIn 10000 60 (.agg ([Value.int .i64 f] ++ vb (kl K) ++ [Value.int .i64 n, .string s, .int .i64 a, .int .i64 u, .int .i64 r]).toArray) (.agg ([Value.int .i64 f] ++ vb (kl K) ++ [Value.int .i64 n, .string s, .int .i64 a, .int .i64 u, .int .i64 r]).toArray)).run Try.prog W = .ok true W := by
 refine self_struct 9999 60 _ [(3, 0), (32, 1), (2, 17), (9, 18), (2, 19), (2, 20), (2, 21)] (by kernel_rfl) (by kernel_rfl) (by kernel_rfl) ?_ W
 intro p hp
 simp only [List.mem_cons, List.not_mem_nil, or_false] at hp
 rcases hp with rfl | rfl | rfl | rfl | rfl | rfl | rfl
 · exact ⟨_, part_at _ _ _ (.int .i64 f) (by intro W; kernel_rfl) (by kernel_rfl), seq_int _ (by kernel_rfl) _⟩
 · exact ⟨_, part_ar _ 16 _ _ (vb (kl K)) (by intro W; kernel_rfl) (by intro W; kernel_rfl) (by kernel_rfl), seq_key _ (kl_len K)⟩
 · exact ⟨_, part_at _ _ _ (.int .i64 n) (by intro W; kernel_rfl) (by kernel_rfl), seq_int _ (by kernel_rfl) _⟩
 · exact ⟨_, part_at _ _ _ (.string s) (by intro W; kernel_rfl) (by kernel_rfl), seq_str _⟩
 · exact ⟨_, part_at _ _ _ (.int .i64 a) (by intro W; kernel_rfl) (by kernel_rfl), seq_int _ (by kernel_rfl) _⟩
 · exact ⟨_, part_at _ _ _ (.int .i64 u) (by intro W; kernel_rfl) (by kernel_rfl), seq_int _ (by kernel_rfl) _⟩
 · exact ⟨_, part_at _ _ _ (.int .i64 r) (by intro W; kernel_rfl) (by kernel_rfl), seq_int _ (by kernel_rfl) _⟩
end
end
section
open Go.RowKit Go.QT
/-- A table: how many keys, which boxes, which keys are known to come how. -/
structure TS (s : STab) (n : Nat) (bx : List SSealed) (kn : List (SFrom × Nat)) : Prop where
 keys : s.keys.length = n
 boxes : s.boxes = bx
 known : s.known = kn
 body : ∀ x ∈ bx, x.body.length <= 1000000
section
variable {s s' : STab} {n m : Nat} {bx : List SSealed} {kn : List (SFrom × Nat)} {f : SFrom} {k : Bytes} {u : Int} {b : Bytes}
theorem TS.empty : TS STab.empty 0 [] [] := ⟨rfl, rfl, rfl, fun _ hx => absurd hx List.not_mem_nil⟩
theorem TS.add (h : TS s n bx kn) (e : s' = s.add f) : TS s' (n + 1) bx kn := by
 subst e
 exact ⟨by show (s.keys ++ [f]).length = _; rw [List.length_append, h.keys]; rfl, h.boxes, h.known, h.body⟩
theorem TS.seal (h : TS s n bx kn) (e : s' = s.seal k u b) (hb : b.length <= 1000000) : TS s' n (bx ++ [⟨k, u, b⟩]) kn := by
 subst e
 exact ⟨h.keys, by show s.boxes ++ _ = _; rw [h.boxes], h.known, fun x hx => (List.mem_append.1 hx).elim (fun hx => h.body x hx) (fun hx => by rw [List.mem_singleton.1 hx]; exact hb)⟩
theorem TS.at_none (h : TS s n bx kn) (hf : ∀ p ∈ kn, p.1 ≠ f) : s.at_ f = none := by
 unfold STab.at_
 rw [h.known, List.find?_eq_none.2 (fun p hp => by simpa using hf p hp)]; rfl
theorem TS.made_new (h : TS s n bx kn) (e : s' = s.made f) (hf : ∀ p ∈ kn, p.1 ≠ f) : TS s' (n + 1) bx (kn ++ [(f, n + 1)]) /\ s.num f = n + 1 := by
 subst e
 have h0 := h.at_none hf
 unfold STab.made STab.num
 rw [h0]
 refine ⟨⟨?_, h.boxes, ?_, h.body⟩, ?_⟩
 · show (s.keys ++ [f]).length = _; rw [List.length_append, h.keys]; rfl
 · show s.known ++ _ = _; rw [h.known, h.keys]
 · show s.keys.length + 1 = _; rw [h.keys]
theorem TS.made_old (h : TS s n bx kn) (e : s' = s.made f) (hf : kn.find? (fun p => decide (p.1 = f)) = some (f, m)) : TS s' n bx kn /\ s.num f = m := by
 subst e
 have h0 : s.at_ f = some m := by unfold STab.at_; rw [h.known, hf]; rfl
 unfold STab.made STab.num
 rw [h0]
 exact ⟨h, rfl⟩
theorem TS.room (h : TS s n bx kn) (r : Nat) (hn : n + r < 1000000) (hb : bx.length + r < 1000000) : Room r s :=
 ⟨by rw [h.boxes]; exact h.body, by rw [h.boxes]; exact hb, by rw [h.keys]; exact hn⟩
theorem TS.opn (h : TS s n bx kn) {i : Nat} {t : Thing} (hi : bx[i]? = some ⟨k, u, b⟩) (hp : packB t = .inr b) (hl : i < 1000000) : openTh s k u (mkB 98 (i + 1)) = .inr t := by
 unfold openTh
 rw [open_at (by rw [h.boxes]; exact hi) hl]
 exact unp_pack hp
theorem TS.opnNo (h : TS s n bx kn) {i : Nat} {k' : Bytes} {u' : Int} (hi : bx[i]? = some ⟨k', u', b⟩) (hne : ¬ (k' = k /\ u' = u)) (hl : i < 1000000) : openTh s k u (mkB 98 (i + 1)) = .inl 13 := by
 unfold openTh STab.open_
 rw [box_at (by rw [h.boxes]; exact hi) hl]
 simp only [Option.bind_some]
 rw [if_neg hne]
theorem openTh_nomark (s : STab) (k : Bytes) (u : Int) {l : Bytes} (hl : markOf l = none) : openTh s k u l = .inl 13 := by
 unfold openTh STab.open_ STab.box
 rw [hl]; rfl
theorem markOf_short {l : Bytes} (h : l.length ≠ 16) : markOf l = none := by
 unfold markOf; rw [if_neg (fun hh => h hh.1)]
end
theorem placeI_one (u : User) (s : ByteArray) : placeI [u] s = if cmpS u.name s < 0 then 1 else 0 := by
 show bsGo [u] s 1 0 1 = _
 unfold bsGo
 rw [if_pos (by decide), bsGo_done _ _ (by decide), bsGo_done _ _ (by decide)]
 rfl
theorem place_self {u : User} {s : ByteArray} (h : u.name = s) : placeB [u] s = true /\ [u][placeI [u] s]? = some u := by
 subst h
 have e : placeI [u] u.name = 0 := by rw [placeI_one, cmpS_self]; rfl
 unfold placeB
 rw [e]
 refine ⟨?_, rfl⟩
 show (decide (0 < 1) && decide (cmpS u.name u.name = 0)) = true
 rw [cmpS_self]; rfl
theorem place_other {u : User} {s : ByteArray} (h : u.name ≠ s) : placeB [u] s = false := by
 unfold placeB
 rw [placeI_one]
 split
 · rfl
 · show (decide (0 < 1) && decide (cmpS u.name s = 0)) = false
   rw [decide_eq_false (fun hh => h (cmpS_eq hh))]; rfl
/-- What is right, and not long, is packed. -/
theorem pack_is {t : Thing} (hr : rightTh t = true) (hl : (wrV (valD t)).length <= 4096) : packB t = .inr (wrV (valD t)) := by
 unfold packB; rw [if_pos hr, if_pos hl]
theorem pack_not {t : Thing} (hr : rightTh t = false) : packB t = .inl 7 := by
 unfold packB; rw [if_neg (by simp [hr])]
theorem val_small {t : Thing} {n : Nat} (h : ∀ v ∈ valL t, (wrV v).length <= n) (hn : (valL t).length <= 7) : (wrV (valD t)).length <= 10 + 7 * n := by
 have h0 := wrV_leT (valD t)
 have e : bodyV (valD t) = wrL (valL t) := rfl
 rw [e] at h0
 have key : ∀ (l : List DVal), (∀ v ∈ l, (wrV v).length <= n) -> (wrL l).length <= l.length * n := by
   intro l
   induction l with
   | nil => intro _; rw [wrL]; simp
   | cons v l ih =>
     intro hh
     rw [wrL, List.length_append, List.length_cons, Nat.add_mul]
     have := hh v (by simp)
     have := ih (fun x hx => hh x (by simp [hx]))
     omega
 have := key _ h
 have : (valL t).length * n <= 7 * n := Nat.mul_le_mul_right _ hn
 omega
theorem pack_stamp {t q : Int} (h1 : inN t = true) (h2 : inN q = true) : ∃ b, packB (.stamp t q) = .inr b := by
 refine ⟨_, pack_is ?_ ?_⟩
 · show rightM _ _ = true
   unfold rightM
   rw [List.all_cons, List.all_cons, List.all_nil, h1, h2]
   decide
 · refine Nat.le_trans (val_small (n := 18) ?_ (by simp [valL])) (by decide)
   intro v hv
   simp only [valL, List.mem_cons, List.not_mem_nil, or_false] at hv
   rcases hv with rfl | rfl <;> exact wr_nD _
theorem pack_inside {f a u r : Int} {K : Fin 16 -> UInt8} {s : ByteArray} (hr : rightM s [f, a, u, r] = true) (hs : s.size <= 300) : ∃ b, packB (.inside f K s a u r) = .inr b := by
 refine ⟨_, pack_is hr ?_⟩
 refine Nat.le_trans (val_small (n := 310) ?_ (by simp [valL])) (by decide)
 intro v hv
 simp only [valL, List.mem_cons, List.not_mem_nil, or_false] at hv
 have h1 := wr_bD (kl K)
 have h2 := wr_bD s.data.toList
 rw [kl_len] at h1
 rw [size_toList] at h2
 rcases hv with rfl | rfl | rfl | rfl | rfl | rfl
 · have := wr_nD f; omega
 · omega
 · omega
 · have := wr_nD a; omega
 · have := wr_nD u; omega
 · have := wr_nD r; omega
theorem pack_reply {f n a u r : Int} {K : Fin 16 -> UInt8} {s : ByteArray} (hr : rightM s [f, n, a, u, r] = true) (hs : s.size <= 300) : ∃ b, packB (.reply f K n s a u r) = .inr b := by
 refine ⟨_, pack_is hr ?_⟩
 refine Nat.le_trans (val_small (n := 310) ?_ (by simp [valL])) (by decide)
 intro v hv
 simp only [valL, List.mem_cons, List.not_mem_nil, or_false] at hv
 have h1 := wr_bD (kl K)
 have h2 := wr_bD s.data.toList
 rw [kl_len] at h1
 rw [size_toList] at h2
 rcases hv with rfl | rfl | rfl | rfl | rfl | rfl | rfl
 · have := wr_nD f; omega
 · omega
 · have := wr_nD n; omega
 · omega
 · have := wr_nD a; omega
 · have := wr_nD u; omega
 · have := wr_nD r; omega
theorem rightM_is {s : ByteArray} {l : List Int} (h : rightN s = true) (hl : ∀ x ∈ l, inN x = true) : rightM s l = true := by
 unfold rightM; rw [h, List.all_eq_true.2 hl]; rfl
theorem inN_is {x : Int} (h1 : 0 <= x) (h2 : x <= 1099511627776) : inN x = true := inN_in (by omega) (by omega)
theorem ex_key (n : Nat) : ∃ K, kl K = mkB 107 n := by
 obtain ⟨K, hK⟩ := kl_of (mkB 107 n) (mkB_len _ _)
 exact ⟨K, hK.symm⟩
theorem pack_le6 {t : Thing} {b : Bytes} (h : packB t = .inr b) : b.length <= 1000000 := Nat.le_trans (pack_le h) (by decide)
/-- Marks of other numbers are other keys. -/
theorem key_ne {K L : Fin 16 -> UInt8} {i j : Nat} (hK : kl K = mkB 107 i) (hL : kl L = mkB 107 j) (hij : i ≠ j) (hi : i < 1000000) (hj : j < 1000000) : kl K ≠ kl L := by
 rw [hK, hL]; exact fun e => hij (mkB_inj (by omega) (by omega) e)
end
section
open Go.RowKit Go.QT
section
variable {P : Program} {o : Oper} {a : Act}
theorem gb_str (s : ByteArray) (i : Nat) (h : i < s.size) : (s[i]'h) = gb s.data.toList i := by
 have h2 : i < s.data.toList.length := by simpa using h
 unfold gb
 rw [List.getD_eq_getElem?_getD, List.getElem?_eq_getElem h2]
 simp
 rfl
theorem e_sidx (t : TypeId) (x y : Operand) (ho : o.op = .index t x y) (s : ByteArray) (k : IntKind) (i : Nat) (hx : a.eval x = .string s) (hy : a.eval y = .int k (i : Int)) (ht : P.underlying t = some .string) (hi : i < s.size) (W : World) :
   (execOp a.eval o).run P W = .ok (.value (.int .u8 (ub (gb s.data.toList i)))) W := by
 have h1 : (Instr.index t (.string s) (.int k (i : Int))).run P W = .ok (.int .u8 (ub (gb s.data.toList i))) W := by
   rw [run_index_string W t s k i ht, dif_pos ⟨by omega, by omega⟩]
   have := gb_str s i hi
   unfold ub
   rw [← this]
   rfl
 unfold execOp
 simp only [ho, hx, hy, Sem.run_bind, h1, Result.andThen_ok, Sem.run_pure]
/-- A string from a byte on. -/
def tlS (s : ByteArray) (i : Nat) : ByteArray := s.extract i s.size
theorem tlS_list (s : ByteArray) (i : Nat) : (tlS s i).data.toList = s.data.toList.drop i := by
 unfold tlS
 rw [ByteArray.data_extract]
 simp
 apply List.take_of_length_le
 simp
theorem tlS_size (s : ByteArray) (i : Nat) : (tlS s i).size = s.size - i := by
 have := congrArg List.length (tlS_list s i)
 simpa using this
theorem tlS_gb (s : ByteArray) (i j : Nat) : gb (tlS s i).data.toList j = gb s.data.toList (i + j) := by
 rw [tlS_list]
 unfold gb
 rw [List.getD_eq_getElem?_getD, List.getD_eq_getElem?_getD, List.getElem?_drop]
theorem e_scut (t : TypeId) (x lo : Operand) (ho : o.op = .slice t x (some lo) none none) (s : ByteArray) (k : IntKind) (i : Nat) (hx : a.eval x = .string s) (hlo : a.eval lo = .int k (i : Int)) (ht : P.underlying t = some .string) (hi : i <= s.size) (W : World) :
   (execOp a.eval o).run P W = .ok (.value (.string (tlS s i))) W := by
 have hr : (Instr.sliceAt t (.string s) (some (.int k (i : Int))) none none).run P W = .ok (.string (tlS s i)) W := by
   rw [run_sliceAt_string W t _ _ _ _ ht, run_slice_string_l W t s ht k i (by omega) (by omega)]
   rfl
 unfold execOp
 simp only [ho, hx, hlo, Option.map_some, Option.map_none, Sem.run_bind, hr, Result.andThen_ok, Sem.run_pure]
end
/-- The rune at the beginning, where it is one of one or of two bytes. -/
def runeL (l : Bytes) : Option (Nat × Nat) :=
 if nb (gb l 0) < 128 then some (nb (gb l 0), 1)
 else if 194 <= nb (gb l 0) /\ nb (gb l 0) <= 223 /\ 2 <= l.length /\ 128 <= nb (gb l 1) /\ nb (gb l 1) <= 191 then some ((nb (gb l 0) - 192) * 64 + (nb (gb l 1) - 128), 2) else none
/-- What Rune answers. -/
def RnP (l : Bytes) (r k : Int) : Prop :=
 match runeL l with
 | some (c, m) => r = c /\ k = m
 | none => (r = -1 ∨ 2048 <= r) /\ r <= 5000000 /\ 1 <= k /\ k <= 4
def RnPost (w : World) (l : Bytes) (e : Ending) (w' : World) : Prop := ∃ r k, e = .returned (.tuple #[.int .i64 r, .int .i64 k]) /\ RnP l r k /\ Below w.heap.size w w'
theorem get_bang (s : ByteArray) (i : Nat) : s.get! i = s[i]! := by
 obtain ⟨bs⟩ := s
 show bs[i]! = _
 by_cases h : i < bs.size
 · rw [getElem!_pos (ByteArray.mk bs) i h, getElem!_pos bs i h]; rfl
 · rw [getElem!_neg (ByteArray.mk bs) i h, getElem!_neg bs i h]
theorem get_nb (s : ByteArray) (i : Nat) : (s.get! i).toNat = nb (gb s.data.toList i) := by
 unfold nb
 rw [get_bang]
 congr 1
 by_cases h : i < s.size
 · rw [← gb_str s i h]
   exact getElem!_pos s i h
 · have h2 : gb s.data.toList i = 0 := by
     unfold gb
     rw [List.getD_eq_getElem?_getD, List.getElem?_eq_none (by simp; exact Nat.le_of_not_lt h)]; rfl
   rw [h2]
   exact getElem!_neg s i h
/-- The model's decoding, by it. -/
theorem decode_is (s : ByteArray) (i : Nat) (hi : i < s.size) : match runeL (s.data.toList.drop i) with
   | some p => Utf8.decode s i = p
   | none => 2048 <= (Utf8.decode s i).1 := by
 have h0 : nb (gb (s.data.toList.drop i) 0) = nb (gb s.data.toList i) := by rw [← tlS_list, tlS_gb]; rfl
 have h1 : nb (gb (s.data.toList.drop i) 1) = nb (gb s.data.toList (i + 1)) := by rw [← tlS_list, tlS_gb]
 have hl : (s.data.toList.drop i).length = s.size - i := by simp
 have hb0 := nb_lt (gb s.data.toList i)
 have hb1 := nb_lt (gb s.data.toList (i + 1))
 unfold runeL Utf8.decode
 simp only [get_nb, h0, h1, hl, Nat.add_zero]
 generalize nb (gb s.data.toList i) = x at *
 generalize nb (gb s.data.toList (i + 1)) = y at *
 generalize nb (gb s.data.toList (i + 2)) = z at *
 generalize nb (gb s.data.toList (i + 3)) = u at *
 by_cases hx : x < 128
 · simp [hx]
 · simp only [hx, if_false]
   by_cases h2 : 194 <= x /\ x <= 223 /\ 2 <= s.size - i /\ 128 <= y /\ y <= 191
   · rw [if_pos h2]
     have e1 : (x / 32 == 6 && (decide (i + 1 < s.size) && y / 64 == 2)) = true := by simp; omega
     simp only [e1, if_true]
     rw [if_pos (by omega)]
     have : x % 32 * 64 + y % 64 = (x - 192) * 64 + (y - 128) := by omega
     rw [this]
   · rw [if_neg h2]
     show 2048 <= _
     repeat' split
     all_goals first | (show 2048 <= Utf8.runeError; decide) | skip
     all_goals simp_all
     all_goals omega
end
end Go.Proofs.Ytecomegocafocaa
