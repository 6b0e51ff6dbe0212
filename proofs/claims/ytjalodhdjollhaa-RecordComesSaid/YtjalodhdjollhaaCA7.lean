/- Plain facts of marks, and of the marks that stand in bytes. -/
import Derived.Deep.Upon
import Derived.Deep.MidRow
import Derived.Test.YtjalodhdjollhaaCA6
set_option maxRecDepth 100000
set_option maxHeartbeats 4000000
namespace Go.Proofs.Ytjalodhdjollhaa
section
open Go.RowKit Go.QT
theorem Fr.setCellsQ (g : Nat) : ∀ (vs : List Value) (o : Nat) (w : World), Fr (fun q => q = g) w (w.setCells g o vs)
 | [], _, w => Fr.refl _ w
 | v :: r, o, w => (Fr.setCell w g o v).trans (Fr.setCellsQ g r (o + 1) _) (fun _ hq => .inl hq)
structure QV (w : World) (sz : Nat) (v : Value) (xs : List (List Value)) : Prop where
 ex : ∃ A g off cap, v = .slice A xs.length cap /\ xs.length <= cap /\ cap <= maxLen /\ (0 < cap -> A = some ⟨g, off, none⟩ /\ g < w.heap.size) /\ (∀ j u, xs.flatten[j]? = some u -> w.cell? ⟨g, off + j, none⟩ = some u) /\
   (∀ j, j < cap * sz -> (w.cell? ⟨g, off + j, none⟩).isSome = true /\ w.frozen? ⟨g, off + j, none⟩ = false)
 len : ∀ x ∈ xs, x.length = sz
 one : ∀ x ∈ xs, ∀ u ∈ x, u.oneCell' = true
def ownQ : Value -> Option Nat
 | .slice (some a) _ (_ + 1) => some a.block
 | _ => none
theorem ownQ_pos {A : Option Addr} {n cap q : Nat} (h : ownQ (.slice A n cap) = some q) : 0 < cap /\ ∃ a, A = some a /\ a.block = q := by
 cases A with
 | none => simp [ownQ] at h
 | some a => cases cap with
   | zero => simp [ownQ] at h
   | succ c => exact ⟨by omega, a, rfl, by simpa [ownQ] using h⟩
theorem ownQ_some {g off n cap : Nat} (h : 0 < cap) : ownQ (.slice (some ⟨g, off, none⟩) n cap) = some g := by
 cases cap with
 | zero => omega
 | succ c => rfl
section
variable {w w' : World} {sz : Nat} {v : Value} {xs : List (List Value)}
theorem flat_len (sz : Nat) : ∀ (xs : List (List Value)), (∀ x ∈ xs, x.length = sz) -> xs.flatten.length = xs.length * sz
 | [], _ => by simp
 | x :: r, h => by
   rw [List.flatten_cons, List.length_append, flat_len sz r (fun y hy => h y (by simp [hy])), h x (by simp), List.length_cons, Nat.add_mul]; omega
theorem QV.nil (w : World) (sz : Nat) : QV w sz (.slice none 0 0) [] :=
 ⟨⟨none, 0, 0, 0, rfl, by simp, by unfold maxLen; omega, fun h => absurd h (by omega), by simp, fun j h => absurd h (by simp)⟩, by simp, by simp⟩
theorem QV.keep (h : QV w sz v xs) (hs : w.heap.size <= w'.heap.size) (hk : ∀ k, ownQ v = some k -> w'.heap[k]? = w.heap[k]?) : QV w' sz v xs := by
 obtain ⟨⟨A, g, off, cap, rfl, h1, h2, h3, h4, h5⟩, hl, ho⟩ := h
 refine ⟨⟨A, g, off, cap, rfl, h1, h2, fun hc => ⟨(h3 hc).1, by have := (h3 hc).2; omega⟩, fun j u hu => ?_, fun j hj => ?_⟩, hl, ho⟩
 · have hc : 0 < cap := by
     rcases Nat.eq_zero_or_pos cap with h0 | h0
     · have h6 := (List.getElem?_eq_some_iff.1 hu).1
       rw [flat_len sz xs hl, show xs.length = 0 by omega] at h6; simp at h6
     · exact h0
   have e := hk g (by rw [(h3 hc).1]; exact ownQ_some hc)
   exact (World.cell?_of_block (a := ⟨g, off + j, none⟩) e).trans (h4 j u hu)
 · have hc : 0 < cap := by
     rcases Nat.eq_zero_or_pos cap with h0 | h0
     · subst h0; simp at hj
     · exact h0
   have e := hk g (by rw [(h3 hc).1]; exact ownQ_some hc)
   exact ⟨by rw [World.cell?_of_block (a := ⟨g, off + j, none⟩) e]; exact (h5 j hj).1, (World.frozen?_of_block (a := ⟨g, off + j, none⟩) e).trans (h5 j hj).2⟩
/-- A queue. -/
def rQ (sz : Nat) (v : Value) (xs : List (List Value)) : Res where
 F := fun q => ownQ v = some q
 Φ := fun w => QV w sz v xs
 lt := fun h q hq => by
   obtain ⟨⟨A, g, off, cap, rfl, h1, h2, h3, h4, h5⟩, hl, ho⟩ := h
   obtain ⟨hc, a, e, hb⟩ := ownQ_pos hq
   rw [(h3 hc).1] at e
   injection e with e; subst e; subst hb
   exact (h3 hc).2
 keep := fun h hs hk => h.keep hs hk
theorem QV.rv {A : Option Addr} {n c : Nat} (h : QV w sz (.slice A n c) xs) : xs.length = n /\ RV w sz A c xs := by
 obtain ⟨⟨A', g, off, cap, e, h1, h2, h3, h4, h5⟩, hl, ho⟩ := h
 injection e with e1 e2 e3
 subst e1; subst e2; subst e3
 refine ⟨rfl, h1, h2, hl, fun hne => ?_⟩
 have hc : 0 < c := Nat.lt_of_lt_of_le (List.length_pos_iff.2 hne) h1
 refine ⟨g, off, (h3 hc).1, (h3 hc).2, fun i x hx j u hu => ?_⟩
 have hi := (List.getElem?_eq_some_iff.1 hx).1
 have hj := (List.getElem?_eq_some_iff.1 hu).1
 have hm : x ∈ xs := List.mem_of_getElem? hx
 rw [hl x hm] at hj
 have hf := flat_at sz xs hl i j hi hj
 rw [Nat.add_assoc]
 refine h4 _ u ?_
 rw [hf, ← hu]
 have : xs[i] = x := (List.getElem?_eq_some_iff.1 hx).2
 rw [this]
/-- v[1:], of elements of sz cells. -/
def tailQ (sz : Nat) (v : Value) : Value :=
 match v with
 | .slice A n c => .slice (if c = 1 then A else A.map (·.add (1 * sz))) (n - 1) (c - 1)
 | _ => undef
theorem QV.tail {x : List Value} (h : QV w sz v (x :: xs)) : QV w sz (tailQ sz v) xs := by
 obtain ⟨⟨A, g, off, cap, rfl, h1, h2, h3, h4, h5⟩, hl, ho⟩ := h
 have hx : x.length = sz := hl x (by simp)
 rw [List.length_cons] at h1
 refine ⟨⟨if cap = 1 then A else A.map (·.add (1 * sz)), g, off + sz, cap - 1, rfl, by omega, by omega, fun hc => ?_, fun j u hu => ?_, fun j hj => ?_⟩, fun y hy => hl y (by simp [hy]), fun y hy => ho y (by simp [hy])⟩
 · obtain ⟨rfl, hg⟩ := h3 (by omega)
   rw [if_neg (by omega)]
   exact ⟨by simp [Addr.add], hg⟩
 · rw [Nat.add_assoc]
   refine h4 (sz + j) u ?_
   rw [List.flatten_cons, List.getElem?_append_right (by omega), hx, Nat.add_sub_cancel_left]; exact hu
 · rw [Nat.add_assoc]
   refine h5 (sz + j) ?_
   have : (cap - 1 + 1) * sz = cap * sz := by rw [Nat.sub_add_cancel (by omega)]
   rw [Nat.add_mul] at this
   omega
theorem tailQ_own {x : List Value} (h : QV w sz v (x :: xs)) (q : Nat) (hq : ownQ (tailQ sz v) = some q) : ownQ v = some q := by
 obtain ⟨⟨A, g, off, cap, rfl, h1, h2, h3, h4, h5⟩, hl, ho⟩ := h
 obtain ⟨hc, a, e, hb⟩ := ownQ_pos hq
 obtain ⟨rfl, _⟩ := h3 (by omega)
 rw [if_neg (by omega)] at e
 have e : (⟨g, off, none⟩ : Addr).add (1 * sz) = a := by simpa using e
 rw [ownQ_some (by omega), ← hb, ← e, block_of_add]
end
section
variable {P : Program} {w : World} {sz : Nat} {v : Value} {xs : List (List Value)}
/-- append of one element, which lies in a block of its own. -/
theorem QV.push (t ty E : TypeId) (i : TypeInfo) (z : Value) (bytes : Nat) (ht : P.underlying t = some (.slice E)) (hi : P.info? E = some i) (hz : i.zero = some z) (hsz : i.size = sz) (hby : i.bytes = bytes) (hzs : z.cells.size = sz) (hs0 : 0 < sz)
   (hv : QV w sz v xs) (b : Nat) (T : TypeId) (news : List Value) (c : Nat) (hb : Blk w b T news) (hn : news.length = sz) (h1 : ∀ u ∈ news, u.oneCell' = true) (hlen : (xs.length + 1) * bytes <= 140737488355328) (hlen2 : xs.length < maxLen) :
   ∃ v' w', (Builtin.append_ #[t, t] ty #[v, .slice (some ⟨b, 0, none⟩) 1 c]).run P w = .ok v' w' /\ QV w' sz v' (xs ++ [news]) /\ Fr (fun q => ownQ v = some q) w w' /\ ∀ q, ownQ v' = some q -> ownQ v = some q ∨ w.heap.size <= q := by
 subst hsz; subst hby
 have hfl := flat_len i.size xs hv.len
 have hl2 : ∀ x ∈ xs ++ [news], x.length = i.size := fun x hx => by
   rcases List.mem_append.1 hx with hx | hx
   · exact hv.len x hx
   · rw [List.mem_singleton.1 hx]; exact hn
 have ho2 : ∀ x ∈ xs ++ [news], ∀ u ∈ x, u.oneCell' = true := fun x hx => by
   rcases List.mem_append.1 hx with hx | hx
   · exact hv.one x hx
   · rw [List.mem_singleton.1 hx]; exact h1
 have hfe : (xs ++ [news]).flatten = xs.flatten ++ news := by simp
 have hle : (xs ++ [news]).length = xs.length + 1 := by simp
 have hsrc : Src P i.size t (.slice (some ⟨b, 0, none⟩) 1 c) 1 news w := Src.ofSlice w ht ⟨b, 0, none⟩ 1 c news (by omega) (fun j u hu => by rw [Addr.add_mid, Nat.zero_add, hb.cell, hu]) h1
 obtain ⟨⟨A, g, off, cap, rfl, k1, k2, k3, k4, k5⟩, kl, ko⟩ := id hv
 by_cases hroom : xs.length + 1 <= cap
 · obtain ⟨rfl, hg⟩ := k3 (by omega)
   have hmul : (xs.length + 1) * i.size <= cap * i.size := Nat.mul_le_mul_right _ hroom
   rw [Nat.add_mul, Nat.one_mul] at hmul
   have hsome : ∀ j, j < news.length -> (w.cell? ⟨g, off + xs.length * i.size + j, none⟩).isSome = true := fun j hj => by
     rw [Nat.add_assoc]; exact (k5 _ (by omega)).1
   have hrun := run_append_room_src (P := P) (w := w) t t ty E i ht hi g off xs.length cap _ 1 news hsrc hroom hsome (fun j hj => by rw [Nat.add_assoc]; exact (k5 _ (by omega)).2)
   have hfr := Fr.setCellsQ g news (off + xs.length * i.size) w
   refine ⟨_, _, hrun, ⟨⟨_, g, off, cap, by rw [hle], by omega, k2, fun _ => ⟨rfl, by have := hfr.size; omega⟩, fun j u hu => ?_, fun j hj => ⟨?_, ?_⟩⟩, hl2, ho2⟩, ⟨hfr.os, hfr.tape, hfr.output, hfr.size, fun q hq hne => hfr.block q hq (fun e => hne (by rw [e]; exact ownQ_some (by omega)))⟩, fun q hq => .inl (by rw [← hq, ownQ_some (by omega), ownQ_some (by omega)])⟩
   · rw [hfe] at hu
     by_cases hj : j < xs.flatten.length
     · rw [List.getElem?_append_left hj] at hu
       rw [World.cell?_setCells_out g _ _ _ _ (fun _ _ => Or.inl (by show off + j < off + xs.length * i.size; omega))]
       exact k4 j u hu
     · rw [List.getElem?_append_right (by omega)] at hu
       have hj2 := (List.getElem?_eq_some_iff.1 hu).1
       have := World.cell?_setCells_in g news (off + xs.length * i.size) w hsome (j - xs.flatten.length) hj2
       rw [show off + xs.length * i.size + (j - xs.flatten.length) = off + j by omega] at this
       rw [this, ← hu, List.getElem?_eq_getElem hj2]
   · exact World.isSome_setCells g _ _ _ _ (k5 j hj).1
   · rw [World.frozen?_setCells]; exact (k5 j hj).2
 · have hold : (Builtin.firstCells i.size xs.length (.slice A xs.length cap)).run P w.drew = .ok xs.flatten.toArray w.drew := by
     rcases Nat.eq_zero_or_pos cap with h0 | h0
     · have hx0 : xs = [] := List.eq_nil_of_length_eq_zero (by omega)
       subst hx0
       cases A with
       | none => simp [Builtin.firstCells]
       | some ad => exact run_firstCells_some w.drew i.size 0 ad 0 cap [] (by simp) (by simp)
     · obtain ⟨rfl, hg⟩ := k3 h0
       exact run_firstCells_some w.drew i.size xs.length _ _ _ _ hfl (fun j u hu => by rw [Addr.add_mid]; exact k4 j u hu)
   have hml : xs.length + 1 <= maxLen := hlen2
   have hrun := run_append_grow_src (P := P) w t t ty E i z ht hi hz A xs.length cap xs.flatten hold _ 1 news hsrc (by omega) (by unfold maxLen at hml; omega) (growslice_fits (by omega) hlen)
   have hge := grownCap_ge w (xs.length + 1) cap E
   have hcm := grownCap_le_maxLen w (xs.length + 1) cap E hml
   have hL : (xs.flatten ++ news).length = (xs.length + 1) * i.size := by rw [List.length_append, hfl, hn, Nat.add_mul]; omega
   have hblk : ∀ k, k < w.heap.size -> (w.drew.alloc (.cells ((xs.flatten ++ news).toArray ++ Builtin.zeroCells z.cells (grownCap w (xs.length + 1) cap E - (xs.length + 1))) E)).heap[k]? = w.heap[k]? := fun k hk => Below.heap_alloc w.drew _ k hk
   have e1 := fun j => World.cell?_alloc_new w.drew ((xs.flatten ++ news).toArray ++ Builtin.zeroCells z.cells (grownCap w (xs.length + 1) cap E - (xs.length + 1))) E j
   have hfr : Fr (fun q => ownQ (.slice A xs.length cap) = some q) w (w.drew.alloc (.cells ((xs.flatten ++ news).toArray ++ Builtin.zeroCells z.cells (grownCap w (xs.length + 1) cap E - (xs.length + 1))) E)) :=
     Fr.of_below _ ((below_drewN (Below.refl _ _) 1).alloc (Nat.le_refl _) _)
   refine ⟨_, _, hrun, ⟨⟨_, w.heap.size, 0, _, by rw [hle], by omega, hcm, fun _ => ⟨rfl, ?_⟩, fun j u hu => ?_, fun j hj => ⟨?_, ?_⟩⟩, hl2, ho2⟩, hfr, fun q hq => .inr ?_⟩
   · show w.heap.size < (w.heap.push _).size
     simp
   · rw [hfe] at hu
     have hj := (List.getElem?_eq_some_iff.1 hu).1
     rw [Nat.zero_add]
     refine (e1 j).trans ?_
     rw [Array.getElem?_append_left (by simpa using hj), List.getElem?_toArray]; exact hu
   · rw [Nat.zero_add]
     have hsz : ((xs.flatten ++ news).toArray ++ Builtin.zeroCells z.cells (grownCap w (xs.length + 1) cap E - (xs.length + 1))).size = grownCap w (xs.length + 1) cap E * i.size := by
       rw [Array.size_append, List.size_toArray, hL, size_zeroCells, hzs, ← Nat.add_mul]
       congr 1
       omega
     have e2 := e1 j
     rw [Array.getElem?_eq_getElem (by rw [hsz]; exact hj)] at e2
     exact Option.isSome_iff_exists.2 ⟨_, e2⟩
   · rw [Nat.zero_add]
     exact World.frozen?_alloc_new w.drew _ _ j
   · rw [ownQ_some (by omega)] at hq
     injection hq with hq; omega
variable {o : Oper} {a : Act} {F0 : Nat -> Prop} {w0 : World} {ro rs : List Res}
theorem x_pushQ (h : Hp F0 w0 w ro rs) (i j : Nat) {E : TypeId} {g : Nat} {T : TypeId} {news : List Value} (hi : rs[i]? = some (rQ sz v xs)) (hj : rs[j]? = some (rBlk g T news))
   (s x : Operand) (t : TypeId) (ho : o.op = .call { callee := .builtin .append, args := #[s, x], argTypes := #[t, t] }) (bytes : Nat) (z : Value) (ht : P.underlying t = some (.slice E)) (hinf : (P.info? E).map (fun i => (i.zero, i.size, i.bytes)) = some (some z, sz, bytes))
   (hzs : z.cells.size = sz) (hsz : decide (0 < sz) = true) (hs : a.eval s = v) (c : Nat) (hx : a.eval x = .slice (some ⟨g, 0, none⟩) 1 c) (hn : news.length = sz) (h1 : news.all (·.oneCell') = true)
   (hlen : (xs.length + 1) * bytes <= 140737488355328) (hlen2 : xs.length < maxLen) (ys : List (List Value)) (n : Nat) (hys : ys = xs ++ [news]) (hyn : ys.length = n) :
   OpTo P o a w (fun u w' => ∃ A cc, u = .slice A n cc /\ Hp F0 w0 w' ro (rs.set i (rQ sz (.slice A n cc) ys))) := by
 subst hys; subst hyn
 have hv : QV w sz v xs := h.own i _ hi
 have hb : Blk w g T news := h.own j _ hj
 obtain ⟨i0, hi0, hz0, hz1, hz2⟩ := info_parts hinf
 obtain ⟨v', w', hrun, h2, h3, h4⟩ := QV.push (P := P) t o.type E i0 z bytes ht hi0 hz0 hz1 hz2 hzs (of_decide_eq_true hsz) hv g T news c hb hn (by simpa using h1) hlen hlen2
 obtain ⟨A, g', off', cc, e, _⟩ := h2.ex
 have hrun2 : (execOp a.eval o).run P w = .ok (.value v') w' := by
   unfold execOp
   simp only [ho, resolve, invoke, builtin, Sem.run_bind, Sem.run_pure, Result.andThen_ok, List.map_toArray, List.map_cons, List.map_nil, hs, hx, hrun]
 exact OpTo.run v' hrun2 ⟨A, cc, e, e ▸ h.upd i hi h3 (rQ sz v' (xs ++ [news])) h2 h4⟩
/-- v[1:]. -/
theorem e_tailQ (hv : QV w sz v xs) (hne : xs ≠ []) (t : TypeId) (x lo : Operand) (ho : o.op = .slice t x (some lo) none none) (hx : a.eval x = v) (k : IntKind) (hlo : a.eval lo = .int k 1) (ht : P.underlying t = some (.slice (P.elem t))) (hE : pureVal P (sizeOf (P.elem t)) = some sz) (W : World) :
   (execOp a.eval o).run P W = .ok (.value (tailQ sz v)) W := by
 obtain ⟨⟨A, g, off, cap, rfl, k1, k2, k3, k4, k5⟩, kl, ko⟩ := hv
 have hp := List.length_pos_iff.2 hne
 have hsz := pureVal_run hE W
 have hr : (Instr.sliceAt t (.slice A xs.length cap) (some (.int k 1)) none none).run P W = .ok (tailQ sz (.slice A xs.length cap)) W := by
   rw [run_sliceAt_slice W t _ _ _ _ ht, run_slice_l W t A _ cap ht k 1 (by omega) (by omega), hsz]
   rfl
 unfold execOp
 simp only [ho, hx, hlo, Option.map_some, Option.map_none, Sem.run_bind, hr, Result.andThen_ok, Sem.run_pure]
/-- The first one is cut off. -/
theorem Hp.tailQ {x : List Value} (h : Hp F0 w0 w ro rs) (i : Nat) (hi : rs[i]? = some (rQ sz v (x :: xs))) : Hp F0 w0 w ro (rs.set i (rQ sz (tailQ sz v) xs)) :=
 h.upd i hi (Fr.refl _ _) _ (QV.tail (h.own i _ hi)) (fun q hq => .inl (tailQ_own (h.own i _ hi) q hq))
end
end
section
open Go.RowKit Go.QT
/-- What a call leaves that answers a derived key, and may turn the table. -/
def RKPost (w : World) (F : Nat -> Prop) (tb : Nat) (s : STab) (f : SFrom) (mk : (Fin 16 -> UInt8) -> Value) (e : Ending) (w' : World) : Prop :=
 ∃ K' F' s', e = .returned (mk K') /\ kl K' = mkB 107 (s.num f) /\ s' = s.made f /\ Hp F w w' [] [rTab F' tb s']
theorem dj_tab {F : Nat -> Prop} {tb g T : Nat} {s : STab} {cs : List Value} (hd : ¬ F g) : ∀ (j : Nat) (t : Res), [rTab F tb s][j]? = some t -> (rBlk g T cs).dj t := fun j t hs q h1 h2 => by
 cases j with
 | zero => injection hs with hs; subst hs; subst h1; exact hd h2
 | succ j => simp at hs
theorem repoch_any (cb tb : Nat) (K : Fin 16 -> UInt8) (e : Int) (o : Bool) (w : World) (hc : Blk w cb 106 ([(Value.iface 28 (pt tb 0))] ++ vb (kl K) ++ [(Value.int .i64 e), (Value.bool o)])) :
   Calls Try.prog 31 #[pt cb 0] w (VPost w (.int .i64 e)) := by
 have h0 := Hp.ro1 (rBlk cb 106 ([(Value.iface 28 (pt tb 0))] ++ vb (kl K) ++ [(Value.int .i64 e), (Value.bool o)])) hc
 refine enter 6 Try.func31 rfl rfl ?_
 refine wp_reset 7 [(0, (pt cb 0))] (fun x0 => ?_)
 refine wp_seq_k fun K1 hK1 => reg_lit ?_
 refine wq_p 1 [(2, (Value.int .i64 0))] ?_
 refine wl_end rfl (seq_n hK1 (wp_seq_k fun K2 hK2 => reg_lit ?_))
 refine wq_p 3 [(5, (pt cb 17)), (4, (pt cb 0)), (3, (pt cb 0))] (wq_v (some 6) (Value.int .i64 e) (eL (h0.rd 0 rfl) 2 (.tmp 5) 17 _) (wq_p 1 [(2, (Value.int .i64 e))] ?_))
 refine wl_end rfl (seq_n hK2 (wp_ret ?_))
 refine post_1 rfl (by kernel_rfl) (rtm (Value.int .i64 e)) ?_
 exact ⟨rfl, rfl⟩
theorem rkey_any (F : Nat -> Prop) (tb : Nat) (s : STab) (cb : Nat) (K : Fin 16 -> UInt8) (e : Int) (w : World) (hc : Blk w cb 106 ([(Value.iface 28 (pt tb 0))] ++ vb (kl K) ++ [(Value.int .i64 e), (Value.bool false)])) (hT : TabAt w F tb s) (hd : ¬ F cb) (hn : s.keys.length < 1000000) :
   Calls Try.prog 40 #[pt cb 0] w (RKPost w F tb s (deriveF (kl K) ⟨#[117, 115, 101]⟩) fun K' => .tuple #[.agg (vb (kl K')).toArray, .int .i64 0]) := by
 have h0 := ((Hp.one (rTab F tb s) hT).addR (rBlk cb 106 ([(Value.iface 28 (pt tb 0))] ++ vb (kl K) ++ [(Value.int .i64 e), (Value.bool false)])) hc (dj_tab hd))
 refine enter 19 Try.func40 rfl rfl ?_
 refine wp_reset 20 [(0, (pt cb 0))] (fun x0 => ?_)
 refine wp_seq_k fun K1 hK1 => reg_lit ?_
 refine wq_to (some 2) (xN h0 59 (vb (List.replicate 16 0))) ?_
 rintro _ w2 ⟨g2, rfl, h2⟩
 refine wq_p 1 [(3, (Value.int .i64 0))] ?_
 refine wl_end rfl (seq_n hK1 (wp_seq_k fun K3 hK3 => wp_seq_k fun K4 hK4 => reg_lit ?_))
 refine wq_p 3 [(6, (pt cb 18)), (5, (pt cb 0)), (4, (pt cb 0))] (wq_v (some 7) (Value.bool false) (eL (h2.rd 0 rfl) 4 (.tmp 6) 18 _) ?_)
 refine wl_end rfl (seq_n hK4 (cF (wp_skip (seq_n hK3 (wp_seq_k fun K5 hK5 => ?_)))))
 refine pR_go h2 11 (fun W => (rBlk cb 106 ([(Value.iface 28 (pt tb 0))] ++ vb (kl K) ++ [(Value.int .i64 e), (Value.bool false)])).Φ W /\ True) [(10, [0], 0), (11, [9], 1), (12, [10], 2), (13, [11], 4), (14, [0], 0), (15, [13], 16), (16, [14], 32), (17, [15], 64), (18, [12], 8), (19, [12], 264), (20, [18, 16], 640), (0, [2, 19], 2047), (4, [], 4095)] rfl (fun _ d _ _ _ h => by cases d <;> exact h) ?_
 intro hs6 w6 h6
 refine pR_p 7 [0, 1, 2, 4, 5, 6] [(15, (pt cb 1)), (14, (pt cb 0)), (13, (pt cb 0)), (11, (pt cb 0)), (10, (pt cb 0)), (9, (pt cb 0))] 119 hs6 ⟨h6.rd 0 rfl, trivial⟩ ?_
 refine pR_v 3 (some 12) (Value.iface 28 (pt tb 0)) 127 rfl hs6 ⟨h6.rd 0 rfl, trivial⟩ (fun W hW => eL hW.1 72 (.tmp 11) 0 _) ?_
 refine pR_p 4 [8, 9] [(18, (Value.iface 28 (pt tb 0))), (17, (Value.iface 28 (pt tb 0)))] 895 hs6 ⟨h6.rd 0 rfl, trivial⟩ ?_
 refine pR_v 7 (some 16) (Value.agg (vb (kl K)).toArray) 1023 rfl hs6 ⟨h6.rd 0 rfl, trivial⟩ (fun W hW => eLs hW.1 59 (.tmp 15) 1 (vb (kl K))) ?_
 refine pR_to 10 (some 19) 2047 rfl hs6 (x_derive h6 1 rfl K (⟨#[117, 115, 101]⟩) (by kernel_rfl) (by omega)) ?_
 rintro _ w7 ⟨K7, F7, s7, rfl, hK7, hs7, h7⟩
 refine ⟨fun _ => ⟨h7.rd 0 rfl, trivial⟩, ?_⟩
 refine pR_to 11 none 4095 rfl hs6 (xSs h7 0 59 (.tmp 2) (.tmp 19) 0 (vb (kl K7)) (vb (kl K7))) ?_
 rintro _ w8 h8
 refine ⟨fun h => absurd h (by decide), ?_⟩
 refine pR_to 12 (some 3) 8191 rfl hs6 (OpTo.run (Value.int .i64 0) (pureOp_run (by kernel_rfl) _) (R := fun v w => v = (Value.int .i64 0) /\ w = w8) ⟨rfl, rfl⟩) ?_
 rintro _ _ ⟨rfl, rfl⟩
 refine ⟨fun h => absurd h (by decide), ?_⟩
 refine pR_done hs6 ?_ _
 refine seq_n hK5 (wp_ret ?_)
 refine post_2 rfl (by kernel_rfl) (rce (h8.at_ 0 rfl)) (rtm (Value.int .i64 0)) ?_
 exact ⟨_, _, _, rfl, hK7, hs7, h8.sel [1] [] (by kernel_rfl) rfl rfl⟩
theorem rnew_any (F : Nat -> Prop) (tb : Nat) (s : STab) (K : Fin 16 -> UInt8) (l : ByteArray) (w : World) (hT : TabAt w F tb s) (hn : s.keys.length < 1000000) :
   Calls Try.prog 39 #[Value.iface 28 (pt tb 0), Value.agg (vb (kl K)).toArray, Value.string l] w (fun e w' => ∃ cb K' F' s', e = .returned (pt cb 0) /\ kl K' = mkB 107 (s.num (deriveF (kl K) l)) /\ s' = s.made (deriveF (kl K) l) /\ Hp F w w' [] [rBlk cb 106 ([(Value.iface 28 (pt tb 0))] ++ vb (kl K') ++ [(Value.int .i64 0), (Value.bool false)]), rTab F' tb s']) := by
 have h0 := Hp.one (rTab F tb s) hT
 refine enter 11 Try.func39 rfl rfl ?_
 refine wp_reset 14 [(0, (Value.iface 28 (pt tb 0))), (1, (Value.agg (vb (kl K)).toArray)), (2, (Value.string l))] (fun x0 => ?_)
 refine wp_seq_k fun K1 hK1 => reg_lit ?_
 refine wq_to (some 4) (xN h0 59 (vb (kl K))) ?_
 rintro _ w2 ⟨g2, rfl, h2⟩
 refine wq_p 1 [(6, (Value.pointer none))] ?_
 refine wl_end rfl (seq_n hK1 (wp_seq_k fun K3 hK3 => reg_lit ?_))
 refine wq_p 2 [(8, (Value.iface 28 (pt tb 0))), (7, (Value.iface 28 (pt tb 0)))] (wq_v (some 9) (Value.agg (vb (kl K)).toArray) (eLs (h2.at_ 0 rfl) 59 (.tmp 4) 0 (vb (kl K))) (wq_p 1 [(10, (Value.string l))] ?_))
 refine wq_to (some 11) (x_derive h2 1 rfl K l (by kernel_rfl) (by omega)) ?_
 rintro _ w4 ⟨K4, F4, s4, rfl, hK4, hs4, h4⟩
 refine wq_p 1 [(12, (Value.agg ([(Value.iface 28 (pt tb 0))] ++ vb (kl K4) ++ [(Value.int .i64 0), (Value.bool false)]).toArray))] ?_
 refine wq_to (some 13) (xN h4 106 ([(Value.iface 28 (pt tb 0))] ++ vb (kl K4) ++ [(Value.int .i64 0), (Value.bool false)])) ?_
 rintro _ w5 ⟨g5, rfl, h5⟩
 refine wq_p 1 [(6, (pt g5 0))] ?_
 refine wl_end rfl (seq_n hK3 (wp_ret ?_))
 refine post_1 rfl (by kernel_rfl) (rtm (pt g5 0)) ?_
 exact ⟨_, _, _, _, rfl, hK4, hs4, h5.sel [0, 2] [] (by kernel_rfl) rfl rfl⟩
theorem rnext_any (F : Nat -> Prop) (tb : Nat) (s : STab) (cb : Nat) (K : Fin 16 -> UInt8) (e : Int) (w : World) (hc : Blk w cb 106 ([(Value.iface 28 (pt tb 0))] ++ vb (kl K) ++ [(Value.int .i64 e), (Value.bool false)])) (hT : TabAt w F tb s) (hd : ¬ F cb) (hn : s.keys.length < 1000000) (he0 : 0 <= e) (he : e < 64) :
   Calls Try.prog 30 #[pt cb 0] w (fun e' w' => e' = .returned (Value.int .i64 0) /\ ∃ K' F' s', kl K' = mkB 107 (s.num (deriveF (kl K) ⟨#[110, 101, 120, 116]⟩)) /\ s' = s.made (deriveF (kl K) ⟨#[110, 101, 120, 116]⟩) /\ Hp (fun q => q = cb ∨ F q) w w' [] [rBlk cb 106 ([(Value.iface 28 (pt tb 0))] ++ vb (kl K') ++ [(Value.int .i64 (e + 1)), (Value.bool false)]), rTab F' tb s']) := by
 have h0 := (Hp.two (rBlk cb 106 ([(Value.iface 28 (pt tb 0))] ++ vb (kl K) ++ [(Value.int .i64 e), (Value.bool false)])) (rTab F tb s) hc hT (fun q h1 h2 => hd (h1 ▸ h2)))
 refine enter 40 Try.func30 rfl rfl ?_
 refine wp_reset 41 [(0, (pt cb 0))] (fun x0 => ?_)
 refine wp_seq_k fun K1 hK1 => reg_lit ?_
 refine wq_p 1 [(2, (Value.int .i64 0))] ?_
 refine wl_end rfl (seq_n hK1 (wp_seq_k fun K2 hK2 => wp_block (wp_seq_k fun K3 hK3 => reg_lit ?_)))
 refine wq_p 3 [(7, (pt cb 18)), (6, (pt cb 0)), (5, (pt cb 0))] (wq_v (some 8) (Value.bool false) (eL (h0.at_ 0 rfl) 4 (.tmp 7) 18 _) (wq_p 1 [(4, (Value.bool false))] ?_))
 refine wl_end rfl (seq_n hK3 (cF (wp_seq_k fun K4 hK4 => reg_lit ?_)))
 refine wq_p 3 [(12, (pt cb 17)), (11, (pt cb 0)), (10, (pt cb 0))] (wq_v (some 13) (Value.int .i64 e) (eL (h0.at_ 0 rfl) 2 (.tmp 12) 17 _) (wq_v (some 14) (.bool false) (eqI (Value.bool (decide (e ≥ 64))) (by simp; omega)) (wq_p 1 [(9, (Value.bool false))] ?_)))
 refine wl_end rfl (seq_n hK4 (cF (wp_skip (blk_n (seq_n hK2 (wp_seq_k fun K5 hK5 => ?_))))))
 refine pR_go h0 12 (fun W => (rBlk cb 106 ([(Value.iface 28 (pt tb 0))] ++ vb (kl K) ++ [(Value.int .i64 e), (Value.bool false)])).Φ W /\ True) [(16, [0], 0), (17, [15], 1), (18, [16], 2), (19, [17], 4), (20, [0], 0), (21, [19], 16), (22, [20], 32), (23, [21], 64), (24, [18], 8), (25, [18], 264), (26, [24, 22], 640), (4, [], 0), (0, [3, 25], 4095)] rfl (fun _ d _ _ _ h => by cases d <;> exact h) ?_
 intro hs6 w6 h6
 refine pR_p 7 [0, 1, 2, 4, 5, 6] [(21, (pt cb 1)), (20, (pt cb 0)), (19, (pt cb 0)), (17, (pt cb 0)), (16, (pt cb 0)), (15, (pt cb 0))] 119 hs6 ⟨h6.at_ 0 rfl, trivial⟩ ?_
 refine pR_v 3 (some 18) (Value.iface 28 (pt tb 0)) 127 rfl hs6 ⟨h6.at_ 0 rfl, trivial⟩ (fun W hW => eL hW.1 72 (.tmp 17) 0 _) ?_
 refine pR_p 4 [8, 9] [(24, (Value.iface 28 (pt tb 0))), (23, (Value.iface 28 (pt tb 0)))] 895 hs6 ⟨h6.at_ 0 rfl, trivial⟩ ?_
 refine pR_v 7 (some 22) (Value.agg (vb (kl K)).toArray) 1023 rfl hs6 ⟨h6.at_ 0 rfl, trivial⟩ (fun W hW => eLs hW.1 59 (.tmp 21) 1 (vb (kl K))) ?_
 refine pR_or 10 11 hs6 ?_ ?_
 ·
  refine pR_op 10 (some 25) 2047 rfl (x_derive h6 1 rfl K (⟨#[110, 101, 120, 116]⟩) (by kernel_rfl) (by omega)) ?_
  rintro _ w7 ⟨K7, F7, s7, rfl, hK7, hs7, h7⟩
  refine ⟨fun _ => ⟨h7.at_ 0 rfl, trivial⟩, ?_⟩
  refine pR_to 11 (some 3) 4095 rfl hs6 (xN h7 59 (vb (List.replicate 16 0))) ?_
  rintro _ w8 ⟨g8, rfl, h8⟩
  refine ⟨fun _ => ⟨h8.at_ 1 rfl, trivial⟩, ?_⟩
  refine pR_to 12 none 8191 rfl hs6 (xSs h8 0 59 (.tmp 3) (.tmp 25) 0 (vb (kl K7)) (vb (kl K7))) ?_
  rintro _ w9 h9
  refine ⟨fun h => absurd h (by decide), ?_⟩
  refine pR_done hs6 ?_ _
  refine seq_n hK5 (wp_seq_k fun K10 hK10 => reg_lit ?_)
  refine wq_p 4 [(29, (Value.slice (some ⟨cb, 1, none⟩) 16 16)), (28, (pt cb 1)), (27, (pt cb 0)), (26, (pt cb 0))] ?_
  refine wq_to none (x_clear h9 1 rfl (.tmp 29) 26 5 (by kernel_rfl) 1 15 16 (by kernel_rfl) (by kernel_rfl) (Value.int .u8 0) (by kernel_rfl) (vb zKey) (by kernel_rfl) (by kernel_rfl) (by kernel_rfl) ([(Value.iface 28 (pt tb 0))] ++ vb zKey ++ [(Value.int .i64 e), (Value.bool false)]) (by kernel_rfl)) ?_
  rintro _ w11 h11
  refine wl_end rfl (seq_n hK10 (wp_seq_k fun K12 hK12 => reg_lit ?_))
  refine wq_p 1 [(30, (pt cb 0))] (wq_v (some 31) (Value.agg (vb (kl K7)).toArray) (eLs (h11.at_ 0 rfl) 59 (.tmp 3) 0 (vb (kl K7))) (wq_p 2 [(33, (pt cb 1)), (32, (pt cb 0))] ?_))
  refine wq_to none (xSs h11 1 59 (.tmp 33) (.tmp 31) 1 (vb (kl K7)) ([(Value.iface 28 (pt tb 0))] ++ vb (kl K7) ++ [(Value.int .i64 e), (Value.bool false)])) ?_
  rintro _ w13 h13
  refine wl_end rfl (seq_n hK12 (wp_seq_k fun K14 hK14 => ?_))
  refine wp_reset 41 [(0, (pt cb 0)), (2, (Value.int .i64 0)), (3, (pt g8 0)), (4, (Value.bool false)), (9, (Value.bool false))] (fun x15 => ?_)
  refine reg_lit ?_
  refine wq_p 3 [(36, (pt cb 17)), (35, (pt cb 0)), (34, (pt cb 0))] (wq_v (some 37) (Value.int .i64 e) (eL (h13.at_ 1 rfl) 2 (.tmp 36) 17 _) (wq_v (some 38) (Value.int .i64 (e + 1)) (exec_add _ _ _ _ rfl e 1 (by kernel_rfl) (by kernel_rfl) (e + 1) rfl (by omega) (by omega) _) (wq_p 2 [(40, (pt cb 17)), (39, (pt cb 0))] ?_)))
  refine wq_to none (xSt h13 1 2 (.tmp 40) (.tmp 38) 17 (Value.int .i64 (e + 1)) ([(Value.iface 28 (pt tb 0))] ++ vb (kl K7) ++ [(Value.int .i64 (e + 1)), (Value.bool false)])) ?_
  rintro _ w16 h16
  refine wl_end rfl (seq_n hK14 (wp_seq_k fun K17 hK17 => reg_lit ?_))
  refine wq_p 1 [(2, (Value.int .i64 0))] ?_
  refine wl_end rfl (seq_n hK17 (wp_ret ?_))
  refine post_1 rfl (by kernel_rfl) (rtm (Value.int .i64 0)) ?_
  exact ⟨rfl, _, _, _, hK7, hs7, h16.sel [1, 2] [] (by kernel_rfl) rfl rfl⟩
 ·
  refine pR_op 11 (some 3) 3071 rfl (xN h6 59 (vb (List.replicate 16 0))) ?_
  rintro _ w18 ⟨g18, rfl, h18⟩
  refine ⟨fun _ => ⟨h18.at_ 1 rfl, trivial⟩, ?_⟩
  refine pR_to 10 (some 25) 4095 rfl hs6 (x_derive h18 2 rfl K (⟨#[110, 101, 120, 116]⟩) (by kernel_rfl) (by omega)) ?_
  rintro _ w19 ⟨K19, F19, s19, rfl, hK19, hs19, h19⟩
  refine ⟨fun _ => ⟨h19.at_ 1 rfl, trivial⟩, ?_⟩
  refine pR_to 12 none 8191 rfl hs6 (xSs h19 0 59 (.tmp 3) (.tmp 25) 0 (vb (kl K19)) (vb (kl K19))) ?_
  rintro _ w20 h20
  refine ⟨fun h => absurd h (by decide), ?_⟩
  refine pR_done hs6 ?_ _
  refine seq_n hK5 (wp_seq_k fun K21 hK21 => reg_lit ?_)
  refine wq_p 4 [(29, (Value.slice (some ⟨cb, 1, none⟩) 16 16)), (28, (pt cb 1)), (27, (pt cb 0)), (26, (pt cb 0))] ?_
  refine wq_to none (x_clear h20 1 rfl (.tmp 29) 26 5 (by kernel_rfl) 1 15 16 (by kernel_rfl) (by kernel_rfl) (Value.int .u8 0) (by kernel_rfl) (vb zKey) (by kernel_rfl) (by kernel_rfl) (by kernel_rfl) ([(Value.iface 28 (pt tb 0))] ++ vb zKey ++ [(Value.int .i64 e), (Value.bool false)]) (by kernel_rfl)) ?_
  rintro _ w22 h22
  refine wl_end rfl (seq_n hK21 (wp_seq_k fun K23 hK23 => reg_lit ?_))
  refine wq_p 1 [(30, (pt cb 0))] (wq_v (some 31) (Value.agg (vb (kl K19)).toArray) (eLs (h22.at_ 0 rfl) 59 (.tmp 3) 0 (vb (kl K19))) (wq_p 2 [(33, (pt cb 1)), (32, (pt cb 0))] ?_))
  refine wq_to none (xSs h22 1 59 (.tmp 33) (.tmp 31) 1 (vb (kl K19)) ([(Value.iface 28 (pt tb 0))] ++ vb (kl K19) ++ [(Value.int .i64 e), (Value.bool false)])) ?_
  rintro _ w24 h24
  refine wl_end rfl (seq_n hK23 (wp_seq_k fun K25 hK25 => ?_))
  refine wp_reset 41 [(0, (pt cb 0)), (2, (Value.int .i64 0)), (3, (pt g18 0)), (4, (Value.bool false)), (9, (Value.bool false))] (fun x26 => ?_)
  refine reg_lit ?_
  refine wq_p 3 [(36, (pt cb 17)), (35, (pt cb 0)), (34, (pt cb 0))] (wq_v (some 37) (Value.int .i64 e) (eL (h24.at_ 1 rfl) 2 (.tmp 36) 17 _) (wq_v (some 38) (Value.int .i64 (e + 1)) (exec_add _ _ _ _ rfl e 1 (by kernel_rfl) (by kernel_rfl) (e + 1) rfl (by omega) (by omega) _) (wq_p 2 [(40, (pt cb 17)), (39, (pt cb 0))] ?_)))
  refine wq_to none (xSt h24 1 2 (.tmp 40) (.tmp 38) 17 (Value.int .i64 (e + 1)) ([(Value.iface 28 (pt tb 0))] ++ vb (kl K19) ++ [(Value.int .i64 (e + 1)), (Value.bool false)])) ?_
  rintro _ w27 h27
  refine wl_end rfl (seq_n hK25 (wp_seq_k fun K28 hK28 => reg_lit ?_))
  refine wq_p 1 [(2, (Value.int .i64 0))] ?_
  refine wl_end rfl (seq_n hK28 (wp_ret ?_))
  refine post_1 rfl (by kernel_rfl) (rtm (Value.int .i64 0)) ?_
  exact ⟨rfl, _, _, _, hK19, hs19, h27.sel [1, 2] [] (by kernel_rfl) rfl rfl⟩
end
section
theorem mkB_inj {k : UInt8} {m n : Nat} (hm : m < 18446744073709551616) (hn : n < 18446744073709551616) (h : mkB k m = mkB k n) : m = n := by
 have h1 : (mkB k m).drop 8 = (mkB k n).drop 8 := by rw [h]
 have h2 : put8 m = put8 n := h1
 rw [← getN_put8 m hm, ← getN_put8 n hn, h2]
structure STab.WF (s : STab) : Prop where
 le : ∀ p ∈ s.known, 1 <= p.2 /\ p.2 <= s.keys.length
 inj : ∀ p ∈ s.known, ∀ q ∈ s.known, p.2 = q.2 -> p.1 = q.1
theorem STab.WF.empty : STab.empty.WF := ⟨by simp [STab.empty], by simp [STab.empty]⟩
theorem STab.WF.add {s : STab} (h : s.WF) (f : SFrom) : (s.add f).WF :=
 ⟨fun p hp => by have := h.le p hp; simp only [STab.add, List.length_append, List.length_cons, List.length_nil]; omega, fun p hp q hq => h.inj p hp q hq⟩
theorem STab.WF.made {s : STab} (h : s.WF) (f : SFrom) : (s.made f).WF := by
 unfold STab.made
 split
 · exact h
 · refine ⟨fun p hp => ?_, fun p hp q hq e => ?_⟩
   · simp only [List.mem_append, List.mem_singleton] at hp
     simp only [List.length_append, List.length_cons, List.length_nil]
     rcases hp with hp | rfl
     · have := h.le p hp; omega
     · simp
   · simp only [List.mem_append, List.mem_singleton] at hp hq
     rcases hp with hp | rfl
     · rcases hq with hq | rfl
       · exact h.inj p hp q hq e
       · have := h.le p hp; simp only at e; omega
     · rcases hq with hq | rfl
       · have := h.le q hq; simp only at e; omega
       · rfl
theorem STab.at_mem {s : STab} {f : SFrom} {n : Nat} (h : s.at_ f = some n) : (f, n) ∈ s.known := by
 unfold STab.at_ at h
 rw [Option.map_eq_some_iff] at h
 obtain ⟨p, hp, rfl⟩ := h
 have h1 := List.find?_some hp
 have h2 := List.mem_of_find?_eq_some hp
 have : p.1 = f := by simpa using h1
 subst this
 exact h2
theorem STab.num_le {s : STab} (h : s.WF) (f : SFrom) : 1 <= s.num f /\ s.num f <= s.keys.length + 1 := by
 unfold STab.num
 cases hc : s.at_ f with
 | none => simp
 | some n => have := h.le _ (STab.at_mem hc); simp at this ⊢; omega
theorem STab.num_iff {s : STab} (h : s.WF) {f : SFrom} {n : Nat} (hf : s.at_ f = some n) (g : SFrom) : n = s.num g ↔ f = g := by
 have hm := STab.at_mem hf
 constructor
 · intro e
   cases hc : s.at_ g with
   | none =>
     have := h.le _ hm
     rw [e, STab.num, hc] at this
     simp at this
     omega
   | some k =>
     have hk := STab.at_mem hc
     rw [STab.num, hc] at e
     exact h.inj _ hm _ hk (by simpa using e)
 · rintro rfl
   rw [STab.num, hf]; rfl
theorem STab.made_keys (s : STab) (f : SFrom) : (s.made f).keys.length <= s.keys.length + 1 := by
 unfold STab.made; split <;> simp
theorem STab.made_mono (s : STab) (f : SFrom) : s.keys.length <= (s.made f).keys.length := by
 unfold STab.made; split <;> simp
theorem STab.at_made (s : STab) (f : SFrom) : (s.made f).at_ f = some (s.num f) := by
 unfold STab.made STab.num
 cases h : s.at_ f with
 | some n => simp only [h]; rfl
 | none =>
   unfold STab.at_ at h ⊢
   rw [Option.map_eq_none_iff] at h
   simp [List.find?_append, h]
/-- What is known stays. -/
theorem STab.at_made_of (s : STab) (f g : SFrom) (n : Nat) (h : s.at_ f = some n) : (s.made g).at_ f = some n := by
 unfold STab.made
 cases hg : s.at_ g with
 | some m => exact h
 | none =>
   unfold STab.at_ at h ⊢
   simp only [List.find?_append]
   cases hf : s.known.find? (fun p => decide (p.1 = f)) with
   | none => rw [hf] at h; cases h
   | some p => rw [hf] at h; simpa using h
theorem STab.num_of (s : STab) (f : SFrom) (n : Nat) (h : s.at_ f = some n) : s.num f = n := by unfold STab.num; rw [h]; rfl
section
variable {s s' : STab} {f g : SFrom} {n : Nat}
theorem keys_made (h : s' = s.made f) : s'.keys.length <= s.keys.length + 1 := h ▸ STab.made_keys s f
/-- Keys of two that are known. -/
theorem mk_iff (hw : s.WF) (hf : s.at_ f = some n) (hl : s.keys.length < 1000000) (g : SFrom) : mkB 107 n = mkB 107 (s.num g) ↔ f = g := by
 have h1 := hw.le _ (STab.at_mem hf)
 have h2 := STab.num_le hw g
 simp only at h1
 constructor
 · intro h; exact (STab.num_iff hw hf g).1 (mkB_inj (by omega) (by omega) h)
 · rintro rfl; rw [STab.num_of _ _ _ hf]
theorem derive_inj {k l : Bytes} {a b : ByteArray} : deriveF k a = deriveF l b ↔ k = l /\ a = b := by
 simp [deriveF]
end
end
section
open Go.RowKit Go.QT
section
variable {F0 F : Nat -> Prop} {w0 w w' : World} {ro rs : List Res} {tb cb : Nat} {s : STab} {o : Oper} {a : Act} {K : Fin 16 -> UInt8} {e : Int} {v : Value}
theorem x_rnew (h : Hp F0 w0 w ro rs) (i : Nat) (hi : rs[i]? = some (rTab F tb s)) (K : Fin 16 -> UInt8) (l : ByteArray) (hp : pureVal Try.prog (execOp a.eval o) = some (.enter 39 #[Value.iface 28 (pt tb 0), Value.agg (vb (kl K)).toArray, Value.string l])) (hn : s.keys.length < 1000000) :
   OpTo Try.prog o a w (fun u w' => ∃ cb K' F' s', u = pt cb 0 /\ kl K' = mkB 107 (s.num (deriveF (kl K) l)) /\ s' = s.made (deriveF (kl K) l) /\ Hp F0 w0 w' ro ([rBlk cb 106 ([Value.iface 28 (pt tb 0)] ++ vb (kl K') ++ [Value.int .i64 0, Value.bool false]), rTab F' tb s'] ++ rs.eraseIdx i)) :=
 OpTo.enter 39 [Value.iface 28 (pt tb 0), Value.agg (vb (kl K)).toArray, Value.string l] hp (rnew_any F tb s K l w (h.own i _ hi) hn) fun e w' hq => by
   obtain ⟨cb, K', F', s', he, h1, h2, h3⟩ := hq
   exact ⟨_, he, cb, K', F', s', rfl, h1, h2, h.call1 i hi h3⟩
theorem x_repoch (h : Hp F0 w0 w ro rs) (j : Nat) {o' : Bool} (hj : rs[j]? = some (rBlk cb 106 ([Value.iface 28 (pt tb 0)] ++ vb (kl K) ++ [Value.int .i64 e, Value.bool o']))) (hp : pureVal Try.prog (execOp a.eval o) = some (.enter 31 #[pt cb 0])) :
   OpTo Try.prog o a w (fun u w' => u = .int .i64 e /\ Hp F0 w0 w' ro rs) :=
 x_vpost h 31 [pt cb 0] hp (repoch_any cb tb K e o' w (h.own j _ hj))
theorem Hp.ntab (h : Hp F0 w0 w ro rs) (i j : Nat) (hi : rs[i]? = some (rTab F tb s)) {T : Nat} {cs : List Value} (hj : rs[j]? = some (rBlk cb T cs)) (hij : decide (i ≠ j) = true) : ¬ F cb := fun hF =>
 h.dis i j _ _ hi hj (of_decide_eq_true hij) cb hF rfl
theorem x_rkey (h : Hp F0 w0 w ro rs) (i j : Nat) (hi : rs[i]? = some (rTab F tb s)) (hj : rs[j]? = some (rBlk cb 106 ([Value.iface 28 (pt tb 0)] ++ vb (kl K) ++ [Value.int .i64 e, Value.bool false]))) (hij : decide (i ≠ j) = true) (hp : pureVal Try.prog (execOp a.eval o) = some (.enter 40 #[pt cb 0])) (hn : s.keys.length < 1000000) :
   OpTo Try.prog o a w (fun u w' => ∃ K' F' s', u = .tuple #[.agg (vb (kl K')).toArray, .int .i64 0] /\ kl K' = mkB 107 (s.num (deriveF (kl K) ⟨#[117, 115, 101]⟩)) /\ s' = s.made (deriveF (kl K) ⟨#[117, 115, 101]⟩) /\ Hp F0 w0 w' ro (rs.set i (rTab F' tb s'))) :=
 OpTo.enter 40 [pt cb 0] hp (rkey_any F tb s cb K e w (h.own j _ hj) (h.own i _ hi) (h.ntab i j hi hj hij) hn) fun e w' hq => by
   obtain ⟨K', F', s', he, h1, h2, h3⟩ := hq
   exact ⟨_, he, K', F', s', rfl, h1, h2, h.upd i hi h3.fr (rTab F' tb s') (h3.own 0 _ rfl) (h3.mine 0 _ rfl)⟩
theorem x_rnext (h : Hp F0 w0 w ro rs) (i j : Nat) (hi : rs[i]? = some (rTab F tb s)) (hj : rs[j]? = some (rBlk cb 106 ([Value.iface 28 (pt tb 0)] ++ vb (kl K) ++ [Value.int .i64 e, Value.bool false]))) (hij : decide (i ≠ j) = true) (hp : pureVal Try.prog (execOp a.eval o) = some (.enter 30 #[pt cb 0])) (hn : s.keys.length < 1000000) (he0 : 0 <= e) (he : e < 64) :
   OpTo Try.prog o a w (fun u w' => ∃ K' F' s', u = .int .i64 0 /\ kl K' = mkB 107 (s.num (deriveF (kl K) ⟨#[110, 101, 120, 116]⟩)) /\ s' = s.made (deriveF (kl K) ⟨#[110, 101, 120, 116]⟩) /\ Hp F0 w0 w' ro ((rs.set j (rBlk cb 106 ([Value.iface 28 (pt tb 0)] ++ vb (kl K') ++ [Value.int .i64 (e + 1), Value.bool false]))).set i (rTab F' tb s'))) :=
 OpTo.enter 30 [pt cb 0] hp (rnext_any F tb s cb K e w (h.own j _ hj) (h.own i _ hi) (h.ntab i j hi hj hij) hn he0 he) fun e w' hq => by
   obtain ⟨he, K', F', s', h1, h2, h3⟩ := hq
   exact ⟨_, he, K', F', s', rfl, h1, h2, h.upd2 j i hj hi (fun e => of_decide_eq_true hij e.symm) h3⟩
end
end
section
open Go.RowKit Go.QT
/-- Several things, as one. -/
def rStar (l : List Res) : Res where
 F := fun q => ∃ i r, l[i]? = some r /\ r.F q
 Φ := fun w => (∀ (i : Nat) (r : Res), l[i]? = some r -> r.Φ w) /\ ∀ (i j : Nat) (r s : Res), l[i]? = some r -> l[j]? = some s -> i ≠ j -> r.dj s
 lt := fun h q ⟨i, r, hi, hq⟩ => r.lt (h.1 i r hi) q hq
 keep := fun h hs hk => ⟨fun i r hi => r.keep (h.1 i r hi) hs fun q hq => hk q ⟨i, r, hi, hq⟩, h.2⟩
/-- Bytes that nobody turns any more. -/
def rF (L : List (Value × Bytes)) : Res where
 F := fun q => ∃ p, p ∈ L /\ (rSB p.1 p.2).F q
 Φ := fun w => ∀ p, p ∈ L -> SB w p.1 p.2
 lt := fun h q ⟨p, hp, hq⟩ => (rSB p.1 p.2).lt (h p hp) q hq
 keep := fun h hs hk p hp => (rSB p.1 p.2).keep (h p hp) hs fun q hq => hk q ⟨p, hp, hq⟩
/-- More of them, all new ones or of the call's own. -/
structure LExt (F0 : Nat -> Prop) (w : World) (L L' : List (Value × Bytes)) : Prop where
 sub : ∀ p, p ∈ L -> p ∈ L'
 new : ∀ q, (rF L').F q -> (rF L).F q ∨ F0 q ∨ w.heap.size <= q
theorem LExt.refl (F0 : Nat -> Prop) (w : World) (L : List (Value × Bytes)) : LExt F0 w L L := ⟨fun _ h => h, fun _ h => .inl h⟩
theorem LExt.cons {F0 : Nat -> Prop} {w : World} {L L' : List (Value × Bytes)} {v : Value} {b : Bytes} (h : LExt F0 w L L') (hn : ∀ q, (rSB v b).F q -> F0 q ∨ w.heap.size <= q) : LExt F0 w L ((v, b) :: L') :=
 ⟨fun p hp => List.mem_cons_of_mem _ (h.sub p hp), fun q ⟨p, hp, hq⟩ => by
   rcases List.mem_cons.1 hp with rfl | hp
   · exact .inr (hn q hq)
   · exact h.new q ⟨p, hp, hq⟩⟩
section
variable {F0 : Nat -> Prop} {w0 w w' : World} {ro rs l : List Res}
theorem Hp.oneStar {w : World} (h : (rStar l).Φ w) : Hp (rStar l).F w w [] l :=
 ⟨Fr.refl _ _, h.1, fun i r hr q hq => .inl ⟨i, r, hr, hq⟩, h.2, by simp, by simp⟩
theorem Hp.closeStar (h : Hp F0 w0 w ro (l ++ rs)) : Hp F0 w0 w ro (rStar l :: rs) := by
 have e1 : ∀ {i : Nat} {r : Res}, l[i]? = some r -> (l ++ rs)[i]? = some r := fun {i r} hi => by
   rw [List.getElem?_append_left (List.getElem?_eq_some_iff.1 hi).1]; exact hi
 have e2 : ∀ {i : Nat} {r : Res}, rs[i]? = some r -> (l ++ rs)[l.length + i]? = some r := fun {i r} hi => by
   rw [List.getElem?_append_right (by omega), Nat.add_sub_cancel_left]; exact hi
 have lt : ∀ {i : Nat} {r : Res}, l[i]? = some r -> i < l.length := fun hi => (List.getElem?_eq_some_iff.1 hi).1
 refine ⟨h.fr, fun i r hi => ?_, fun i r hi q hq => ?_, fun i j r s hi hj hij => ?_, h.red, fun i j r s hi hj => ?_⟩
 · cases i with
   | zero => injection hi with hi; subst hi; exact ⟨fun i r hr => h.own i r (e1 hr), fun i j r s hr hs hij => h.dis i j r s (e1 hr) (e1 hs) hij⟩
   | succ i => exact h.own _ r (e2 hi)
 · cases i with
   | zero => injection hi with hi; subst hi; obtain ⟨k, t, hk, ht⟩ := hq; exact h.mine k t (e1 hk) q ht
   | succ i => exact h.mine _ r (e2 hi) q hq
 · cases i with
   | zero =>
     injection hi with hi; subst hi
     cases j with
     | zero => exact absurd rfl hij
     | succ j => exact fun q ⟨k, t, hk, ht⟩ h2 => h.dis k _ t s (e1 hk) (e2 hj) (by have := lt hk; omega) q ht h2
   | succ i =>
     cases j with
     | zero => injection hj with hj; subst hj; exact fun q h2 ⟨k, t, hk, ht⟩ => h.dis _ k r t (e2 hi) (e1 hk) (by have := lt hk; omega) q h2 ht
     | succ j => exact h.dis _ _ r s (e2 hi) (e2 hj) (by omega)
 · cases j with
   | zero => injection hj with hj; subst hj; exact fun q h2 ⟨k, t, hk, ht⟩ => h.rdis i k r t hi (e1 hk) q h2 ht
   | succ j => exact h.rdis i _ r s hi (e2 hj)
variable {L L' : List (Value × Bytes)} {v : Value} {b : Bytes}
/-- What is read anyway is one of them. -/
theorem Hp.roF (h : Hp F0 w0 w ro rs) (k : Nat) (hk : ro[k]? = some (rF L)) (hp : (v, b) ∈ L) : Hp F0 w0 w (rSB v b :: ro) rs :=
 h.sub k hk (rSB v b) (h.red k _ hk _ hp) (fun _ hq => ⟨_, hp, hq⟩)
/-- Bytes of the call's own become such. -/
theorem Hp.freeze (h : Hp F0 w0 w ro rs) (k : Nat) (hk : ro[k]? = some (rF L)) (i : Nat) {r : Res} (hi : rs[i]? = some r) (hr : r.Φ w -> SB w v b) (hF : ∀ q, (rSB v b).F q -> r.F q) : Hp F0 w0 w (rF ((v, b) :: L) :: ro) (rs.eraseIdx i) := by
 have h1 := h.share i hi
 refine (h.drop i).addR (rF ((v, b) :: L)) (fun p hp => ?_) (fun j s hj q hq h2 => ?_)
 · rcases List.mem_cons.1 hp with rfl | hp
   · exact hr (h.own i _ hi)
   · exact h.red k _ hk p hp
 · obtain ⟨p, hp, hq⟩ := hq
   rcases List.mem_cons.1 hp with rfl | hp
   · exact h1.rdis 0 j r s rfl hj q (hF q hq) h2
   · exact h1.rdis (k + 1) j (rF L) s (by simpa using hk) hj q ⟨p, hp, hq⟩ h2
theorem Hp.lext {L0 : List (Value × Bytes)} (h : Hp F0 w0 w ro rs) (hL : LExt F0 w0 L0 L) (i : Nat) {r : Res} (hi : rs[i]? = some r) (hF : ∀ q, (rSB v b).F q -> r.F q) : LExt F0 w0 L0 ((v, b) :: L) :=
 hL.cons fun q hq => h.mine i r hi q (hF q hq)
/-- A call that holds one thing, and such bytes. -/
theorem Hp.callF (h : Hp F0 w0 w ro rs) (i : Nat) {r r' : Res} (hi : rs[i]? = some r) (k : Nat) (hk : ro[k]? = some (rF L)) (hc : Hp r.F w w' [rF L'] [r']) (hL : LExt r.F w L L') : Hp F0 w0 w' (rF L' :: ro) (rs.set i r') := by
 have hu := h.upd i hi hc.fr r' (hc.own 0 _ rfl) (hc.mine 0 _ rfl)
 refine hu.addR (rF L') (hc.red 0 _ rfl) fun j s hj q h1 h2 => ?_
 by_cases hij : j = i
 · subst hij
   rw [List.getElem?_set_self (List.getElem?_eq_some_iff.1 hi).1] at hj
   injection hj with hj; subst hj
   exact hc.rdis 0 0 _ _ rfl rfl q h1 h2
 · rw [List.getElem?_set_ne (by omega)] at hj
   rcases hL.new q h1 with h3 | h3 | h3
   · exact h.rdis k j _ s hk hj q h3 h2
   · exact h.dis i j r s hi hj (by omega) q h3 h2
   · exact absurd (s.lt (h.own j s hj) q h2) (by omega)
/-- A call that holds two things, and such bytes. -/
theorem Hp.callF2 (h : Hp F0 w0 w ro rs) (i j : Nat) {r s r' s' : Res} (hi : rs[i]? = some r) (hj : rs[j]? = some s) (hij : i ≠ j) (k : Nat) (hk : ro[k]? = some (rF L)) (hc : Hp (fun q => r.F q ∨ s.F q) w w' [rF L'] [r', s']) (hL : LExt (fun q => r.F q ∨ s.F q) w L L') :
   Hp F0 w0 w' (rF L' :: ro) ((rs.set i r').set j s') := by
 have hu := h.upd2 i j hi hj hij (hc.dropR 0)
 refine hu.addR (rF L') (hc.red 0 _ rfl) fun m t hm q h1 h2 => ?_
 have li := (List.getElem?_eq_some_iff.1 hi).1
 have lj := (List.getElem?_eq_some_iff.1 hj).1
 by_cases hmj : m = j
 · subst hmj
   rw [List.getElem?_set_self (by simpa using lj)] at hm
   injection hm with hm; subst hm
   exact hc.rdis 0 1 _ _ rfl rfl q h1 h2
 · rw [List.getElem?_set_ne (by omega)] at hm
   by_cases hmi : m = i
   · subst hmi
     rw [List.getElem?_set_self li] at hm
     injection hm with hm; subst hm
     exact hc.rdis 0 0 _ _ rfl rfl q h1 h2
   · rw [List.getElem?_set_ne (by omega)] at hm
     rcases hL.new q h1 with h3 | (h3 | h3) | h3
     · exact h.rdis k m _ t hk hm q h3 h2
     · exact h.dis i m r t hi hm (by omega) q h3 h2
     · exact h.dis j m s t hj hm (by omega) q h3 h2
     · exact absurd (t.lt (h.own m t hm) q h2) (by omega)
end
end
section
open Go.RowKit Go.QT
section
variable {F0 F : Nat -> Prop} {w0 w w' : World} {ro rs : List Res} {tb : Nat} {s : STab} {o : Oper} {a : Act}
/-- A box is sealed: its name is the call's own. -/
theorem x_sealS (h : Hp F0 w0 w ro rs) (i : Nat) (hi : rs[i]? = some (rTab F tb s)) (K : Fin 16 -> UInt8) (u : Int) (l : Bytes) (bv : Value) (hp : pureVal Try.prog (execOp a.eval o) = some (.enter 76 #[pt tb 0, .agg (vb (kl K)).toArray, .int .i64 u, bv])) (hb : SB w bv l) (hl : l.length <= 1000000) (hn : s.boxes.length < 1000000) :
   OpTo Try.prog o a w (fun u' w' => ∃ A cc F' s', u' = .slice A 16 cc /\ s' = s.seal (kl K) u l /\ Hp F0 w0 w' ro (rSB (.slice A 16 cc) (mkB 98 (s.boxes.length + 1)) :: rs.set i (rTab F' tb s'))) :=
 OpTo.enter 76 [pt tb 0, .agg (vb (kl K)).toArray, .int .i64 u, bv] hp (seal_any F tb s (kl K) u l bv w (h.own i _ hi) (kl_len K) hb hl hn) fun e w' hq => by
   obtain ⟨v, F', he, hsb, hT, h1, _, hf, hn⟩ := hq
   obtain ⟨A, cc, rfl, _⟩ := id hsb
   rw [mkB_len] at *
   refine ⟨_, he, A, cc, F', _, rfl, rfl, ?_⟩
   have li := (List.getElem?_eq_some_iff.1 hi).1
   refine (h.upd i hi hf (rTab F' tb (s.seal (kl K) u l)) hT h1).addS (rSB _ _) hsb (fun q hq => .inr (Nat.le_trans h.size (hn q hq.2).1)) (fun j t hj q hq h2 => ?_) (fun j t hj q hq h2 => ?_)
   · by_cases e : j = i
     · subst e
       rw [List.getElem?_set_self li] at hj
       injection hj with hj; subst hj
       exact (hn q hq.2).2 h2
     · rw [List.getElem?_set_ne (by omega)] at hj
       exact absurd (t.lt (h.own j t hj) q h2) (Nat.not_lt.2 (hn q hq.2).1)
   · exact absurd (t.lt (h.red j t hj) q h2) (Nat.not_lt.2 (hn q hq.2).1)
end
/-- A frame. -/
structure Frm where
 src : ByteArray
 dst : ByteArray
 sid : Int
 epoch : Int
 seq : Int
 box : Bytes
/-- Its cells, the box being v. -/
def Frm.cells (f : Frm) (v : Value) : List Value := [.string f.src, .string f.dst, .int .i64 f.sid, .int .i64 f.epoch, .int .i64 f.seq, v]
/-- A session: whose, with whom, its number, both ways' keys and how often they went on, what waits, how many were sent and came, the frame that is out, and whether it is over. -/
structure Ses where
 me : ByteArray
 peer : ByteArray
 sid : Int
 ko : Bytes
 eo : Nat
 ki : Bytes
 ei : Nat
 queue : List (Nat × Bytes)
 sent : Nat
 got : Nat
 frame : Option Frm
 over : Bool
/-- The parts that wait, in memory: their bytes stand in L. -/
def QR (L : List (Value × Bytes)) (xs : List (List Value)) (q : List (Nat × Bytes)) : Prop :=
 xs.length = q.length /\ ∀ (i : Nat) (x : List Value) (p : Nat × Bytes), xs[i]? = some x -> q[i]? = some p -> ∃ A c, x = [.int .u64 (p.1 : Int), .slice A p.2.length c] /\ (Value.slice A p.2.length c, p.2) ∈ L
theorem QR.mono {L L' : List (Value × Bytes)} {xs : List (List Value)} {q : List (Nat × Bytes)} (h : QR L xs q) (hL : ∀ p, p ∈ L -> p ∈ L') : QR L' xs q :=
 ⟨h.1, fun i x p hx hp => by obtain ⟨A, c, e, hm⟩ := h.2 i x p hx hp; exact ⟨A, c, e, hL _ hm⟩⟩
theorem QR.nil (L : List (Value × Bytes)) : QR L [] [] := ⟨rfl, by simp⟩
theorem QR.push {L : List (Value × Bytes)} {xs : List (List Value)} {q : List (Nat × Bytes)} (h : QR L xs q) {k : Nat} {b : Bytes} {A : Option Addr} {c : Nat} (hm : (Value.slice A b.length c, b) ∈ L) : QR L (xs ++ [[.int .u64 (k : Int), .slice A b.length c]]) (q ++ [(k, b)]) := by
 refine ⟨by simp [h.1], fun i x p hx hp => ?_⟩
 by_cases hi : i < xs.length
 · rw [List.getElem?_append_left hi] at hx
   rw [List.getElem?_append_left (by rw [← h.1]; exact hi)] at hp
   exact h.2 i x p hx hp
 · have e : i = xs.length := by
     have := (List.getElem?_eq_some_iff.1 hx).1
     simp at this; omega
   subst e
   rw [List.getElem?_append_right (Nat.le_refl _), Nat.sub_self] at hx
   rw [h.1, List.getElem?_append_right (Nat.le_refl _), Nat.sub_self] at hp
   have hx : [Value.int .u64 (k : Int), .slice A b.length c] = x := by simpa using hx
   have hp : (k, b) = p := by simpa using hp
   subst hx; subst hp
   exact ⟨A, c, rfl, hm⟩
theorem QR.tail {L : List (Value × Bytes)} {x : List Value} {xs : List (List Value)} {p : Nat × Bytes} {q : List (Nat × Bytes)} (h : QR L (x :: xs) (p :: q)) : QR L xs q :=
 ⟨by simpa using h.1, fun i y r hy hr => h.2 (i + 1) y r (by simpa using hy) (by simpa using hr)⟩
theorem QR.cons {L : List (Value × Bytes)} {xs : List (List Value)} {p : Nat × Bytes} {q : List (Nat × Bytes)} (h : QR L xs (p :: q)) : ∃ A c ys, xs = [.int .u64 (p.1 : Int), .slice A p.2.length c] :: ys /\ (Value.slice A p.2.length c, p.2) ∈ L := by
 cases xs with
 | nil => exact absurd h.1 (by simp)
 | cons x xs =>
   obtain ⟨A, c, e, hm⟩ := h.2 0 x p rfl rfl
   subst e
   exact ⟨A, c, xs, rfl, hm⟩
/-- The frame that is out: none, or a block. -/
def rFr : Option Nat -> List Value -> Res
 | none, _ => { F := fun _ => False, Φ := fun _ => True, lt := fun _ _ h => h.elim, keep := fun h _ _ => h }
 | some g, cs => rBlk g 38 cs
def frV : Option Nat -> Value
 | none => .pointer none
 | some g => pt g 0
/-- The frame and its block; its box stands in L. -/
def FrOk (L : List (Value × Bytes)) : Option Frm -> Option Nat -> Value -> Prop
 | none, none, _ => True
 | some f, some _, v => (∃ A c, v = .slice A f.box.length c) /\ (v, f.box) ∈ L
 | _, _, _ => False
def frC (f : Option Frm) (v : Value) : List Value :=
 match f with
 | none => []
 | some f => f.cells v
/-- A session's things. -/
def lSes (tb sb c1 c2 : Nat) (A : Option Addr) (cap : Nat) (xs : List (List Value)) (fb : Option Nat) (bx : Value) (S : Ses) : List Res :=
 [rBlk sb 77 [.iface 28 (pt tb 0), .string S.me, .string S.peer, .int .i64 S.sid, pt c1 0, pt c2 0, .slice A S.queue.length cap, .int .i64 (S.sent : Int), .int .i64 (S.got : Int), frV fb, .bool S.over],
  rBlk c1 106 ([Value.iface 28 (pt tb 0)] ++ vb S.ko ++ [Value.int .i64 (S.eo : Int), Value.bool S.over]),
  rBlk c2 106 ([Value.iface 28 (pt tb 0)] ++ vb S.ki ++ [Value.int .i64 (S.ei : Int), Value.bool S.over]),
  rQ 2 (.slice A S.queue.length cap) xs, rFr fb (frC S.frame bx)]
structure SOk (L : List (Value × Bytes)) (xs : List (List Value)) (fb : Option Nat) (bx : Value) (S : Ses) : Prop where
 q : QR L xs S.queue
 f : FrOk L S.frame fb bx
 ko : S.ko.length = 16
 ki : S.ki.length = 16
/-- A session in memory. -/
def rS (G : Nat -> Prop) (tb sb : Nat) (L : List (Value × Bytes)) (S : Ses) : Res where
 F := G
 Φ := fun w => ∃ c1 c2 A cap xs fb bx, SOk L xs fb bx S /\ G = (rStar (lSes tb sb c1 c2 A cap xs fb bx S)).F /\ (rStar (lSes tb sb c1 c2 A cap xs fb bx S)).Φ w
 lt := fun ⟨c1, c2, A, cap, xs, fb, bx, _, e, h⟩ q hq => (rStar (lSes tb sb c1 c2 A cap xs fb bx _)).lt h q (e ▸ hq)
 keep := fun ⟨c1, c2, A, cap, xs, fb, bx, h1, e, h⟩ hs hk => ⟨c1, c2, A, cap, xs, fb, bx, h1, e, (rStar (lSes tb sb c1 c2 A cap xs fb bx _)).keep h hs fun q hq => hk q (e ▸ hq)⟩
section
variable {F0 G : Nat -> Prop} {w0 w : World} {ro rs : List Res} {tb sb : Nat} {L : List (Value × Bytes)} {S : Ses}
/-- A session's things are laid open. -/
theorem Hp.openS (h : Hp F0 w0 w ro rs) (i : Nat) (hi : rs[i]? = some (rS G tb sb L S)) : ∃ c1 c2 A cap xs fb bx, SOk L xs fb bx S /\ G = (rStar (lSes tb sb c1 c2 A cap xs fb bx S)).F /\ Hp F0 w0 w ro (lSes tb sb c1 c2 A cap xs fb bx S ++ rs.eraseIdx i) := by
 obtain ⟨c1, c2, A, cap, xs, fb, bx, h1, e, h2⟩ := h.own i _ hi
 refine ⟨c1, c2, A, cap, xs, fb, bx, h1, e, ?_⟩
 refine h.call1 i hi (r := rS G tb sb L S) ⟨Fr.refl _ _, h2.1, fun k r hr q hq => .inl ?_, h2.2, by simp, by simp⟩
 show G q
 rw [e]; exact ⟨k, r, hr, hq⟩
/-- .. and put together. -/
theorem Hp.closeS {c1 c2 : Nat} {A : Option Addr} {cap : Nat} {xs : List (List Value)} {fb : Option Nat} {bx : Value} (h : Hp F0 w0 w ro (lSes tb sb c1 c2 A cap xs fb bx S ++ rs)) (hk : SOk L xs fb bx S) : Hp F0 w0 w ro (rS (rStar (lSes tb sb c1 c2 A cap xs fb bx S)).F tb sb L S :: rs) := by
 have h1 := h.closeStar
 have h2 := h1.upd 0 rfl (Fr.refl _ _) (rS (rStar (lSes tb sb c1 c2 A cap xs fb bx S)).F tb sb L S) ⟨c1, c2, A, cap, xs, fb, bx, hk, rfl, h1.own 0 _ rfl⟩ (fun q hq => .inl hq)
 exact h2
end
end
section
open Go.RowKit Go.QT
section
variable {F0 : Nat -> Prop} {w0 w : World} {ro rs : List Res} {tb cb : Nat} {o : Oper} {a : Act}
theorem x_repR (h : Hp F0 w0 w ro rs) (i : Nat) (k : Bytes) (hk : k.length = 16) {e : Int} {o' : Bool} (hi : ro[i]? = some (rBlk cb 106 ([Value.iface 28 (pt tb 0)] ++ vb k ++ [Value.int .i64 e, Value.bool o']))) (hp : pureVal Try.prog (execOp a.eval o) = some (.enter 31 #[pt cb 0])) :
   OpTo Try.prog o a w (fun u w' => u = .int .i64 e /\ Hp F0 w0 w' ro rs) := by
 obtain ⟨K, rfl⟩ := kl_of k hk
 exact x_vpost h 31 [pt cb 0] hp (repoch_any cb tb K e o' w (h.rd i hi))
end
theorem waits_any {G : Nat -> Prop} {tb sb : Nat} {L : List (Value × Bytes)} {S : Ses} {w : World} (hv : (rS G tb sb L S).Φ w)  : Calls Try.prog 10 #[pt sb 0] w (DPost w (.int .i64 (S.queue.length : Int))) := by
 obtain ⟨c1, c2, A, cap, xs, fb, bx, hS, hG, h2⟩ := hv
 have h0 := ((Hp.ro1 _ (h2.1 2 _ rfl)).addR _ (h2.1 1 _ rfl) (by simp)).addR _ (h2.1 0 _ rfl) (by simp)
 refine enter 7 Try.func10 rfl rfl ?_
 refine wp_reset 8 [(0, (pt sb 0))] (fun x0 => ?_)
 refine wp_seq_k fun K1 hK1 => reg_lit ?_
 refine wq_p 1 [(2, (Value.int .i64 0))] ?_
 refine wl_end rfl (seq_n hK1 (wp_seq_k fun K2 hK2 => reg_lit ?_))
 refine wq_p 3 [(5, (pt sb 6)), (4, (pt sb 0)), (3, (pt sb 0))] (wq_v (some 6) (Value.slice A S.queue.length cap) (eL (h0.rd 0 rfl) 74 (.tmp 5) 6 _) (wq_p 2 [(2, (Value.int .i64 ((S.queue.length : Int)))), (7, (Value.int .i64 ((S.queue.length : Int))))] ?_))
 refine wl_end rfl (seq_n hK2 (wp_ret ?_))
 refine post_1 rfl (by kernel_rfl) (rtm (Value.int .i64 ((S.queue.length : Int)))) ?_
 exact ⟨rfl, h0.below0⟩
theorem over_any {G : Nat -> Prop} {tb sb : Nat} {L : List (Value × Bytes)} {S : Ses} {w : World} (hv : (rS G tb sb L S).Φ w)  : Calls Try.prog 19 #[pt sb 0] w (DPost w (.bool S.over)) := by
 obtain ⟨c1, c2, A, cap, xs, fb, bx, hS, hG, h2⟩ := hv
 have h0 := ((Hp.ro1 _ (h2.1 2 _ rfl)).addR _ (h2.1 1 _ rfl) (by simp)).addR _ (h2.1 0 _ rfl) (by simp)
 refine enter 6 Try.func19 rfl rfl ?_
 refine wp_reset 7 [(0, (pt sb 0))] (fun x0 => ?_)
 refine wp_seq_k fun K1 hK1 => reg_lit ?_
 refine wq_p 1 [(2, (Value.bool false))] ?_
 refine wl_end rfl (seq_n hK1 (wp_seq_k fun K2 hK2 => reg_lit ?_))
 refine wq_p 3 [(5, (pt sb 10)), (4, (pt sb 0)), (3, (pt sb 0))] (wq_v (some 6) (Value.bool S.over) (eL (h0.rd 0 rfl) 4 (.tmp 5) 10 _) (wq_p 1 [(2, (Value.bool S.over))] ?_))
 refine wl_end rfl (seq_n hK2 (wp_ret ?_))
 refine post_1 rfl (by kernel_rfl) (rtm (Value.bool S.over)) ?_
 exact ⟨rfl, h0.below0⟩
theorem sid_any {G : Nat -> Prop} {tb sb : Nat} {L : List (Value × Bytes)} {S : Ses} {w : World} (hv : (rS G tb sb L S).Φ w)  : Calls Try.prog 27 #[pt sb 0] w (DPost w (.int .i64 S.sid)) := by
 obtain ⟨c1, c2, A, cap, xs, fb, bx, hS, hG, h2⟩ := hv
 have h0 := ((Hp.ro1 _ (h2.1 2 _ rfl)).addR _ (h2.1 1 _ rfl) (by simp)).addR _ (h2.1 0 _ rfl) (by simp)
 refine enter 6 Try.func27 rfl rfl ?_
 refine wp_reset 7 [(0, (pt sb 0))] (fun x0 => ?_)
 refine wp_seq_k fun K1 hK1 => reg_lit ?_
 refine wq_p 1 [(2, (Value.int .i64 0))] ?_
 refine wl_end rfl (seq_n hK1 (wp_seq_k fun K2 hK2 => reg_lit ?_))
 refine wq_p 3 [(5, (pt sb 3)), (4, (pt sb 0)), (3, (pt sb 0))] (wq_v (some 6) (Value.int .i64 S.sid) (eL (h0.rd 0 rfl) 2 (.tmp 5) 3 _) (wq_p 1 [(2, (Value.int .i64 S.sid))] ?_))
 refine wl_end rfl (seq_n hK2 (wp_ret ?_))
 refine post_1 rfl (by kernel_rfl) (rtm (Value.int .i64 S.sid)) ?_
 exact ⟨rfl, h0.below0⟩
theorem peer_any {G : Nat -> Prop} {tb sb : Nat} {L : List (Value × Bytes)} {S : Ses} {w : World} (hv : (rS G tb sb L S).Φ w)  : Calls Try.prog 26 #[pt sb 0] w (DPost w (.string S.peer)) := by
 obtain ⟨c1, c2, A, cap, xs, fb, bx, hS, hG, h2⟩ := hv
 have h0 := ((Hp.ro1 _ (h2.1 2 _ rfl)).addR _ (h2.1 1 _ rfl) (by simp)).addR _ (h2.1 0 _ rfl) (by simp)
 refine enter 6 Try.func26 rfl rfl ?_
 refine wp_reset 7 [(0, (pt sb 0))] (fun x0 => ?_)
 refine wp_seq_k fun K1 hK1 => reg_lit ?_
 refine wq_p 1 [(2, (Value.string (⟨#[]⟩)))] ?_
 refine wl_end rfl (seq_n hK1 (wp_seq_k fun K2 hK2 => reg_lit ?_))
 refine wq_p 3 [(5, (pt sb 2)), (4, (pt sb 0)), (3, (pt sb 0))] (wq_v (some 6) (Value.string S.peer) (eL (h0.rd 0 rfl) 9 (.tmp 5) 2 _) (wq_p 1 [(2, (Value.string S.peer))] ?_))
 refine wl_end rfl (seq_n hK2 (wp_ret ?_))
 refine post_1 rfl (by kernel_rfl) (rtm (Value.string S.peer)) ?_
 exact ⟨rfl, h0.below0⟩
theorem epochs_any {G : Nat -> Prop} {tb sb : Nat} {L : List (Value × Bytes)} {S : Ses} {w : World} (hv : (rS G tb sb L S).Φ w)  : Calls Try.prog 17 #[pt sb 0] w (DPost w (.tuple #[.int .i64 (S.eo : Int), .int .i64 (S.ei : Int)])) := by
 obtain ⟨c1, c2, A, cap, xs, fb, bx, hS, hG, h2⟩ := hv
 have h0 := ((Hp.ro1 _ (h2.1 2 _ rfl)).addR _ (h2.1 1 _ rfl) (by simp)).addR _ (h2.1 0 _ rfl) (by simp)
 refine enter 13 Try.func17 rfl rfl ?_
 refine wp_reset 14 [(0, (pt sb 0))] (fun x0 => ?_)
 refine wp_seq_k fun K1 hK1 => reg_lit ?_
 refine wq_p 2 [(3, (Value.int .i64 0)), (2, (Value.int .i64 0))] ?_
 refine wl_end rfl (seq_n hK1 (wp_seq_k fun K2 hK2 => ?_))
 refine pR_go h0 11 (fun W => (rBlk sb 77 ([(Value.iface 28 (pt tb 0)), (Value.string S.me), (Value.string S.peer), (Value.int .i64 S.sid), (pt c1 0), (pt c2 0), (Value.slice A S.queue.length cap), (Value.int .i64 ((S.sent : Int))), (Value.int .i64 ((S.got : Int))), (frV fb), (Value.bool S.over)])).Φ W /\ True) [(5, [0], 0), (6, [4], 1), (7, [5], 2), (8, [6], 4), (9, [7], 8), (10, [0], 0), (11, [9], 32), (12, [10], 64), (13, [11], 128), (14, [12], 272), (3, [8], 543), (4, [13], 2047)] rfl (fun _ d _ _ _ h => by cases d <;> exact h) ?_
 intro hs3 w3 h3
 refine pR_p 6 [0, 1, 2, 5, 6, 7] [(11, (pt sb 5)), (10, (pt sb 0)), (9, (pt sb 0)), (6, (pt sb 4)), (5, (pt sb 0)), (4, (pt sb 0))] 231 hs3 ⟨h3.rd 0 rfl, trivial⟩ ?_
 refine pR_v 3 (some 7) (pt c1 0) 239 rfl hs3 ⟨h3.rd 0 rfl, trivial⟩ (fun W hW => eL hW.1 73 (.tmp 6) 4 _) ?_
 refine pR_v 8 (some 12) (pt c2 0) 495 rfl hs3 ⟨h3.rd 0 rfl, trivial⟩ (fun W hW => eL hW.1 73 (.tmp 11) 5 _) ?_
 refine pR_to 4 (some 8) 511 rfl hs3 (x_repR h3 1 S.ko hS.ko rfl (by kernel_rfl)) ?_
 rintro _ w4 ⟨rfl, h4⟩
 refine ⟨fun _ => ⟨h4.rd 0 rfl, trivial⟩, ?_⟩
 refine pR_to 9 (some 13) 1023 rfl hs3 (x_repR h4 2 S.ki hS.ki rfl (by kernel_rfl)) ?_
 rintro _ w5 ⟨rfl, h5⟩
 refine ⟨fun _ => ⟨h5.rd 0 rfl, trivial⟩, ?_⟩
 refine pR_p 1 [10] [(2, (Value.int .i64 ((S.eo : Int))))] 2047 hs3 ⟨h5.rd 0 rfl, trivial⟩ ?_
 refine pR_to 11 (some 3) 4095 rfl hs3 (OpTo.run (Value.int .i64 ((S.ei : Int))) (pureOp_run (by kernel_rfl) _) (R := fun v w => v = (Value.int .i64 ((S.ei : Int))) /\ w5 = w) ⟨rfl, rfl⟩) ?_
 rintro _ _ ⟨rfl, rfl⟩
 refine ⟨fun h => absurd h (by decide), ?_⟩
 refine pR_done hs3 ?_ _
 refine seq_n hK2 (wp_ret ?_)
 refine post_2 rfl (by kernel_rfl) (rtm (Value.int .i64 ((S.eo : Int)))) (rtm (Value.int .i64 ((S.ei : Int)))) ?_
 exact ⟨rfl, h5.below0⟩
end
section
open Go.RowKit Go.QT
/-- A session's own call: what it answers, and what the session is then. -/
def SPostR (G : Nat -> Prop) (tb sb : Nat) (w : World) (L : List (Value × Bytes)) (v : Value) (S' : Ses) (e : Ending) (w' : World) : Prop :=
 e = .returned v /\ ∃ G' L', LExt G w L L' /\ Hp G w w' [rF L'] [rS G' tb sb L' S']
theorem spush_over {G : Nat -> Prop} {tb sb : Nat} {L : List (Value × Bytes)} {S : Ses} {w : World} (hv : (rS G tb sb L S).Φ w) (hL : (rF L).Φ w) (hd : (rF L).dj (rS G tb sb L S)) (k : Nat) (b : Bytes) (Ab : Option Addr) (cb : Nat) (ho : S.over = true) : Calls Try.prog 28 #[pt sb 0, .agg #[.int .u64 (k : Int), .slice Ab b.length cb]] w (SPostR G tb sb w L (.int .i64 21) S) := by
 obtain ⟨c1, c2, A, cap, xs, fb, bx, hS, hG, h2⟩ := hv
 subst hG
 obtain ⟨me, peer, sid, ko, eo, ki, ei, qu, sent, got, fr, ov⟩ := S
 simp only at *
 subst ho
 have hk_ko := hS.ko
 have hk_ki := hS.ki
 have hxl : xs.length = qu.length := hS.q.1
 have hdd : ∀ (j : Nat) (s : Res), (lSes tb sb c1 c2 A cap xs fb bx (Ses.mk me peer sid ko eo ki ei qu sent got fr true))[j]? = some s -> (rF L).dj s := fun j s hj q h1 h2 => hd q h1 ⟨j, s, hj, h2⟩
 have h0 := (Hp.oneStar h2).addR (rF L) hL hdd
 refine enter 25 Try.func28 rfl rfl ?_
 refine wp_reset 27 [(0, (pt sb 0)), (1, (Value.agg ([(Value.int .u64 ((k : Int))), (Value.slice Ab b.length cb)]).toArray))] (fun x0 => ?_)
 refine wp_seq_k fun K1 hK1 => reg_lit ?_
 refine wq_to (some 3) (xN h0 70 ([(Value.int .u64 ((k : Int))), (Value.slice Ab b.length cb)])) ?_
 rintro _ w2 ⟨g2, rfl, h2⟩
 refine wq_p 1 [(4, (Value.int .i64 0))] ?_
 refine wl_end rfl (seq_n hK1 (wp_seq_k fun K3 hK3 => wp_block (wp_seq_k fun K4 hK4 => reg_lit ?_)))
 refine wq_p 3 [(8, (pt sb 10)), (7, (pt sb 0)), (6, (pt sb 0))] (wq_v (some 9) (Value.bool true) (eL (h2.at_ 1 rfl) 4 (.tmp 8) 10 _) (wq_p 1 [(5, (Value.bool true))] ?_))
 refine wl_end rfl (seq_n hK4 (cT (wp_seq_k fun K5 hK5 => reg_lit ?_)))
 refine wq_p 1 [(4, (Value.int .i64 21))] ?_
 refine wl_end rfl (seq_n hK5 (wp_ret (blk_r (seq_r ?_))))
 refine post_1 rfl (by kernel_rfl) (rtm (Value.int .i64 21)) ?_
 exact ⟨rfl, _, L, LExt.refl _ _ _, (show Hp _ _ _ [rF L] (lSes tb sb c1 c2 A cap (xs) fb bx (Ses.mk me peer sid ko eo ki ei qu sent got fr true) ++ []) from h2.sel [1, 2, 3, 4, 5] [0] rfl rfl rfl).closeS hS⟩
theorem spush_full {G : Nat -> Prop} {tb sb : Nat} {L : List (Value × Bytes)} {S : Ses} {w : World} (hv : (rS G tb sb L S).Φ w) (hL : (rF L).Φ w) (hd : (rF L).dj (rS G tb sb L S)) (k : Nat) (b : Bytes) (Ab : Option Addr) (cb : Nat) (ho : S.over = false) (hl : S.queue.length = 8) : Calls Try.prog 28 #[pt sb 0, .agg #[.int .u64 (k : Int), .slice Ab b.length cb]] w (SPostR G tb sb w L (.int .i64 8) S) := by
 obtain ⟨c1, c2, A, cap, xs, fb, bx, hS, hG, h2⟩ := hv
 subst hG
 obtain ⟨me, peer, sid, ko, eo, ki, ei, qu, sent, got, fr, ov⟩ := S
 simp only at *
 subst ho
 have hk_ko := hS.ko
 have hk_ki := hS.ki
 have hxl : xs.length = qu.length := hS.q.1
 have hdd : ∀ (j : Nat) (s : Res), (lSes tb sb c1 c2 A cap xs fb bx (Ses.mk me peer sid ko eo ki ei qu sent got fr false))[j]? = some s -> (rF L).dj s := fun j s hj q h1 h2 => hd q h1 ⟨j, s, hj, h2⟩
 have h0 := (Hp.oneStar h2).addR (rF L) hL hdd
 refine enter 25 Try.func28 rfl rfl ?_
 refine wp_reset 27 [(0, (pt sb 0)), (1, (Value.agg ([(Value.int .u64 ((k : Int))), (Value.slice Ab b.length cb)]).toArray))] (fun x0 => ?_)
 refine wp_seq_k fun K1 hK1 => reg_lit ?_
 refine wq_to (some 3) (xN h0 70 ([(Value.int .u64 ((k : Int))), (Value.slice Ab b.length cb)])) ?_
 rintro _ w2 ⟨g2, rfl, h2⟩
 refine wq_p 1 [(4, (Value.int .i64 0))] ?_
 refine wl_end rfl (seq_n hK1 (wp_seq_k fun K3 hK3 => wp_block (wp_seq_k fun K4 hK4 => reg_lit ?_)))
 refine wq_p 3 [(8, (pt sb 10)), (7, (pt sb 0)), (6, (pt sb 0))] (wq_v (some 9) (Value.bool false) (eL (h2.at_ 1 rfl) 4 (.tmp 8) 10 _) (wq_p 1 [(5, (Value.bool false))] ?_))
 refine wl_end rfl (seq_n hK4 (cF (wp_seq_k fun K5 hK5 => reg_lit ?_)))
 refine wq_p 3 [(13, (pt sb 6)), (12, (pt sb 0)), (11, (pt sb 0))] (wq_v (some 14) (Value.slice A qu.length cap) (eL (h2.at_ 1 rfl) 74 (.tmp 13) 6 _) (wq_p 1 [(15, (Value.int .i64 ((qu.length : Int))))] (wq_v (some 16) (.bool true) (eqI (Value.bool (((qu.length : Int)) == 8)) (by rw [hl]; rfl)) ?_)))
 refine wq_p 1 [(10, (Value.bool true))] ?_
 refine wl_end rfl (seq_n hK5 (cT (wp_seq_k fun K6 hK6 => reg_lit ?_)))
 refine wq_p 1 [(4, (Value.int .i64 8))] ?_
 refine wl_end rfl (seq_n hK6 (wp_ret (blk_r (seq_r ?_))))
 refine post_1 rfl (by kernel_rfl) (rtm (Value.int .i64 8)) ?_
 exact ⟨rfl, _, L, LExt.refl _ _ _, (show Hp _ _ _ [rF L] (lSes tb sb c1 c2 A cap (xs) fb bx (Ses.mk me peer sid ko eo ki ei qu sent got fr false) ++ []) from h2.sel [1, 2, 3, 4, 5] [0] rfl rfl rfl).closeS hS⟩
theorem spush_ok {G : Nat -> Prop} {tb sb : Nat} {L : List (Value × Bytes)} {S : Ses} {w : World} (hv : (rS G tb sb L S).Φ w) (hL : (rF L).Φ w) (hd : (rF L).dj (rS G tb sb L S)) (k : Nat) (b : Bytes) (Ab : Option Addr) (cb : Nat) (hm : (Value.slice Ab b.length cb, b) ∈ L) (ho : S.over = false) (hl : S.queue.length < 8) : Calls Try.prog 28 #[pt sb 0, .agg #[.int .u64 (k : Int), .slice Ab b.length cb]] w (SPostR G tb sb w L (.int .i64 0) { S with queue := S.queue ++ [(k, b)] }) := by
 obtain ⟨c1, c2, A, cap, xs, fb, bx, hS, hG, h2⟩ := hv
 subst hG
 obtain ⟨me, peer, sid, ko, eo, ki, ei, qu, sent, got, fr, ov⟩ := S
 simp only at *
 subst ho
 have hk_ko := hS.ko
 have hk_ki := hS.ki
 have hxl : xs.length = qu.length := hS.q.1
 have hdd : ∀ (j : Nat) (s : Res), (lSes tb sb c1 c2 A cap xs fb bx (Ses.mk me peer sid ko eo ki ei qu sent got fr false))[j]? = some s -> (rF L).dj s := fun j s hj q h1 h2 => hd q h1 ⟨j, s, hj, h2⟩
 have h0 := (Hp.oneStar h2).addR (rF L) hL hdd
 refine enter 25 Try.func28 rfl rfl ?_
 refine wp_reset 27 [(0, (pt sb 0)), (1, (Value.agg ([(Value.int .u64 ((k : Int))), (Value.slice Ab b.length cb)]).toArray))] (fun x0 => ?_)
 refine wp_seq_k fun K1 hK1 => reg_lit ?_
 refine wq_to (some 3) (xN h0 70 ([(Value.int .u64 ((k : Int))), (Value.slice Ab b.length cb)])) ?_
 rintro _ w2 ⟨g2, rfl, h2⟩
 refine wq_p 1 [(4, (Value.int .i64 0))] ?_
 refine wl_end rfl (seq_n hK1 (wp_seq_k fun K3 hK3 => wp_block (wp_seq_k fun K4 hK4 => reg_lit ?_)))
 refine wq_p 3 [(8, (pt sb 10)), (7, (pt sb 0)), (6, (pt sb 0))] (wq_v (some 9) (Value.bool false) (eL (h2.at_ 1 rfl) 4 (.tmp 8) 10 _) (wq_p 1 [(5, (Value.bool false))] ?_))
 refine wl_end rfl (seq_n hK4 (cF (wp_seq_k fun K5 hK5 => reg_lit ?_)))
 refine wq_p 3 [(13, (pt sb 6)), (12, (pt sb 0)), (11, (pt sb 0))] (wq_v (some 14) (Value.slice A qu.length cap) (eL (h2.at_ 1 rfl) 74 (.tmp 13) 6 _) (wq_p 1 [(15, (Value.int .i64 ((qu.length : Int))))] (wq_v (some 16) (.bool false) (eqI (Value.bool (((qu.length : Int)) == 8)) (congrArg Value.bool (by simp; omega))) ?_)))
 refine wq_p 1 [(10, (Value.bool false))] ?_
 refine wl_end rfl (seq_n hK5 (cF (wp_skip (blk_n (seq_n hK3 (wp_seq_k fun K6 hK6 => ?_))))))
 refine pR_go h2 8 (fun W => (rBlk sb 77 ([(Value.iface 28 (pt tb 0)), (Value.string me), (Value.string peer), (Value.int .i64 sid), (pt c1 0), (pt c2 0), (Value.slice A qu.length cap), (Value.int .i64 ((sent : Int))), (Value.int .i64 ((got : Int))), (frV fb), (Value.bool false)])).Φ W /\ (rBlk g2 70 ([(Value.int .u64 ((k : Int))), (Value.slice Ab b.length cb)])).Φ W /\ True) [(18, [0], 0), (19, [0], 0), (20, [18], 2), (21, [19], 4), (22, [20], 8), (23, [3], 0), (24, [22], 32), (25, [21, 23], 80), (26, [17], 255), (27, [25], 511), (0, [26, 24], 767)] rfl (fun _ d _ _ _ h => by cases d <;> exact h) ?_
 intro hs7 w7 h7
 refine pR_p 7 [0, 1, 2, 3] [(20, (pt sb 6)), (19, (pt sb 0)), (18, (pt sb 0)), (17, (pt sb 0))] 15 hs7 ⟨h7.at_ 1 rfl, h7.at_ 0 rfl, trivial⟩ ?_
 refine pR_v 4 (some 21) (Value.slice A qu.length cap) 31 rfl hs7 ⟨h7.at_ 1 rfl, h7.at_ 0 rfl, trivial⟩ (fun W hW => eL hW.1 74 (.tmp 20) 6 _) ?_
 refine pR_v 5 (some 22) (Value.agg ([(Value.int .u64 ((k : Int))), (Value.slice Ab b.length cb)]).toArray) 63 rfl hs7 ⟨h7.at_ 1 rfl, h7.at_ 0 rfl, trivial⟩ (fun W hW => eLs hW.2.1 70 (.tmp 3) 0 ([(Value.int .u64 ((k : Int))), (Value.slice Ab b.length cb)])) ?_
 refine pR_to 6 (some 23) 127 rfl hs7 (x_bs h7 70 ([(Value.int .u64 ((k : Int))), (Value.slice Ab b.length cb)]) 1 (by kernel_rfl)) ?_
 rintro _ w8 ⟨g8, rfl, h8⟩
 refine ⟨fun _ => ⟨h8.at_ 2 rfl, h8.at_ 1 rfl, trivial⟩, ?_⟩
 refine pR_to 7 (some 24) 255 rfl hs7 (x_pushQ (E := 70) h8 5 0 rfl rfl (.tmp 21) (.tmp 23) 74 (by kernel_rfl) 32 (Value.agg ([(Value.int .u64 0), (Value.slice none 0 0)]).toArray) (by kernel_rfl) (by kernel_rfl) (by kernel_rfl) (by kernel_rfl) (by kernel_rfl) 1 (by kernel_rfl) (by kernel_rfl) (by kernel_rfl) (by omega) (by unfold maxLen; omega) (xs ++ [[(Value.int .u64 ((k : Int))), (Value.slice Ab b.length cb)]]) ((qu ++ [(k, b)]).length) rfl (by simp [hxl])) ?_
 rintro _ w9 ⟨A9, c9, rfl, h9⟩
 refine ⟨fun _ => ⟨h9.at_ 2 rfl, h9.at_ 1 rfl, trivial⟩, ?_⟩
 refine pR_to 8 (some 25) 511 rfl hs7 (OpTo.run (pt sb 0) (pureOp_run (by kernel_rfl) _) (R := fun v w => v = (pt sb 0) /\ w9 = w) ⟨rfl, rfl⟩) ?_
 rintro _ _ ⟨rfl, rfl⟩
 refine ⟨fun h => absurd h (by decide), ?_⟩
 refine pR_to 9 (some 26) 1023 rfl hs7 (OpTo.run (pt sb 6) (pureOp_run (by kernel_rfl) _) (R := fun v w => v = (pt sb 6) /\ w9 = w) ⟨rfl, rfl⟩) ?_
 rintro _ _ ⟨rfl, rfl⟩
 refine ⟨fun h => absurd h (by decide), ?_⟩
 refine pR_to 10 none 2047 rfl hs7 (xSt h9 2 74 (.tmp 26) (.tmp 24) 6 (Value.slice A9 ((qu ++ [(k, b)]).length) c9) ([(Value.iface 28 (pt tb 0)), (Value.string me), (Value.string peer), (Value.int .i64 sid), (pt c1 0), (pt c2 0), (Value.slice A9 ((qu ++ [(k, b)]).length) c9), (Value.int .i64 ((sent : Int))), (Value.int .i64 ((got : Int))), (frV fb), (Value.bool false)])) ?_
 rintro _ w10 h10
 refine ⟨fun h => absurd h (by decide), ?_⟩
 refine pR_done hs7 ?_ _
 refine seq_n hK6 (wp_seq_k fun K11 hK11 => ?_)
 refine wp_reset 27 [(0, (pt sb 0)), (1, (Value.agg ([(Value.int .u64 ((k : Int))), (Value.slice Ab b.length cb)]).toArray)), (3, (pt g2 0)), (4, (Value.int .i64 0)), (5, (Value.bool false)), (10, (Value.bool false))] (fun x12 => ?_)
 refine reg_lit ?_
 refine wq_p 1 [(4, (Value.int .i64 0))] ?_
 refine wl_end rfl (seq_n hK11 (wp_ret ?_))
 refine post_1 rfl (by kernel_rfl) (rtm (Value.int .i64 0)) ?_
 exact ⟨rfl, _, L, LExt.refl _ _ _, (show Hp _ _ _ [rF L] (lSes tb sb c1 c2 A9 c9 (xs ++ [[(Value.int .u64 ((k : Int))), (Value.slice Ab b.length cb)]]) fb bx (Ses.mk me peer sid ko eo ki ei (qu ++ [(k, b)]) sent got fr false) ++ []) from h10.sel [2, 3, 4, 5, 6] [0] rfl rfl rfl).closeS ⟨hS.q.push hm, hS.f, hS.ko, hS.ki⟩⟩
end
section
open Go.RowKit Go.QT
section
variable {F0 G : Nat → Prop} {w0 w w' : World} {ro rs : List Res} {tb sb : Nat} {L L' : List (Value × Bytes)} {S S' : Ses} {o : Oper} {a : Act} {v : Value} {P : Program}
theorem LExt.then (h : Hp F0 w0 w ro rs) (i : Nat) {r : Res} (hi : rs[i]? = some r) (hL : LExt r.F w L L') {L0 : List (Value × Bytes)} (h0 : LExt F0 w0 L0 L) : LExt F0 w0 L0 L' :=
 ⟨fun p hp => hL.sub p (h0.sub p hp), fun q hq => by
   rcases hL.new q hq with h1 | h1 | h1
   · exact h0.new q h1
   · exact .inr (h.mine i r hi q h1)
   · exact .inr (.inr (Nat.le_trans h.size h1))⟩
theorem rS_mono (h : (rS G tb sb L S).Φ w) (hL : ∀ p, p ∈ L → p ∈ L') : (rS G tb sb L' S).Φ w := by
 obtain ⟨c1, c2, A, cap, xs, fb, bx, hS, e, h2⟩ := h
 refine ⟨c1, c2, A, cap, xs, fb, bx, ⟨hS.q.mono hL, ?_, hS.ko, hS.ki⟩, e, h2⟩
 have hf := hS.f
 revert hf
 cases S.frame <;> cases fb <;> intro hf
 · exact hf
 · exact hf
 · exact hf
 · exact ⟨hf.1, hL _ hf.2⟩
theorem Hp.monoS (h : Hp F0 w0 w ro rs) (i : Nat) (hi : rs[i]? = some (rS G tb sb L S)) (hL : ∀ p, p ∈ L → p ∈ L') : Hp F0 w0 w ro (rs.set i (rS G tb sb L' S)) :=
 h.upd i hi (Fr.refl _ _) _ (rS_mono (h.own i _ hi) hL) (fun _ hq => .inl hq)
/-- A call of a session's own. -/
theorem x_ses (h : Hp F0 w0 w ro rs) (i : Nat) (hi : rs[i]? = some (rS G tb sb L S)) (k : Nat) (hk : ro[k]? = some (rF L)) (fn : FuncId) (al : List Value) (hp : pureVal P (execOp a.eval o) = some (.enter fn al.toArray)) (hc : Calls P fn al.toArray w (SPostR G tb sb w L v S')) :
   OpTo P o a w (fun u w' => ∃ G' L', u = v ∧ (∀ p, p ∈ L → p ∈ L') ∧ (∀ L0, LExt F0 w0 L0 L → LExt F0 w0 L0 L') ∧ Hp F0 w0 w' (rF L' :: ro) (rs.set i (rS G' tb sb L' S'))) :=
 OpTo.enter fn al hp hc fun e w' hq => by
   obtain ⟨he, G', L', hL, h2⟩ := hq
   exact ⟨_, he, G', L', rfl, hL.sub, fun L0 h0 => LExt.then h i hi hL h0, h.callF i hi k hk h2 hL⟩
end
/-- push: the number that it answers, and the session. -/
def pushR (S : Ses) (k : Nat) (b : Bytes) : Int × Ses :=
 if S.over = true then (21, S) else if S.queue.length = 8 then (8, S) else (0, { S with queue := S.queue ++ [(k, b)] })
theorem spush_any {G : Nat → Prop} {tb sb : Nat} {L : List (Value × Bytes)} {S : Ses} {w : World} (hv : (rS G tb sb L S).Φ w) (hL : (rF L).Φ w) (hd : (rF L).dj (rS G tb sb L S)) (k : Nat) (b : Bytes) (Ab : Option Addr) (cb : Nat) (hm : (Value.slice Ab b.length cb, b) ∈ L) (h8 : S.queue.length ≤ 8) :
   Calls Try.prog 28 #[pt sb 0, .agg #[.int .u64 (k : Int), .slice Ab b.length cb]] w (SPostR G tb sb w L (.int .i64 (pushR S k b).1) (pushR S k b).2) := by
 by_cases ho : S.over = true
 · have e : pushR S k b = (21, S) := if_pos ho
   rw [e]; exact spush_over hv hL hd k b Ab cb ho
 · have ho2 : S.over = false := by simpa using ho
   by_cases hl : S.queue.length = 8
   · have e : pushR S k b = (8, S) := (if_neg ho).trans (if_pos hl)
     rw [e]; exact spush_full hv hL hd k b Ab cb ho2 hl
   · have e : pushR S k b = (0, { S with queue := S.queue ++ [(k, b)] }) := (if_neg ho).trans (if_neg hl)
     rw [e]; exact spush_ok hv hL hd k b Ab cb hm ho2 (by omega)
theorem twoF {F G : Nat → Prop} {tb sb : Nat} {s : STab} {L : List (Value × Bytes)} {S : Ses} {w : World} (hT : (rTab F tb s).Φ w) (hv : (rS G tb sb L S).Φ w) (hL : (rF L).Φ w) (hts : (rTab F tb s).dj (rS G tb sb L S)) (hdt : (rF L).dj (rTab F tb s)) (hd : (rF L).dj (rS G tb sb L S)) : Hp (fun q => F q ∨ G q) w w [rF L] [rTab F tb s, rS G tb sb L S] := (Hp.two (rTab F tb s) (rS G tb sb L S) hT hv hts).addR (rF L) hL (fun j t hj => by
 match j, hj with
 | 0, hj => injection hj with hj; subst hj; exact hdt
 | 1, hj => injection hj with hj; subst hj; exact hd)
theorem rS_ko {G : Nat → Prop} {tb sb : Nat} {L : List (Value × Bytes)} {S : Ses} {w : World} (hv : (rS G tb sb L S).Φ w) : S.ko.length = 16 := by obtain ⟨_, _, _, _, _, _, _, hS, _⟩ := hv; exact hS.ko
theorem rS_ki {G : Nat → Prop} {tb sb : Nat} {L : List (Value × Bytes)} {S : Ses} {w : World} (hv : (rS G tb sb L S).Φ w) : S.ki.length = 16 := by obtain ⟨_, _, _, _, _, _, _, hS, _⟩ := hv; exact hS.ki
end
section
open Go.RowKit Go.QT
theorem sPush_in {G : Nat -> Prop} {tb sb : Nat} {L : List (Value × Bytes)} {S : Ses} {w : World} (hv : (rS G tb sb L S).Φ w) (hL : (rF L).Φ w) (hd : (rF L).dj (rS G tb sb L S)) (b : Bytes) (A : Option Addr) (c : Nat) (hb : SB w (.slice A b.length c) b) (hbd : (rSB (.slice A b.length c) b).dj (rS G tb sb L S)) (h : ¬ 2048 < b.length) (h8 : S.queue.length <= 8) : Calls Try.prog 9 #[pt sb 0, .slice A b.length c] w (SPostR G tb sb w L (.int .i64 (pushR S 1 b).1) (pushR S 1 b).2) := by
 have h0 := ((Hp.one (rS G tb sb L S) hv).addR (rSB (.slice A b.length c) b) hb (fun j s hj => by cases j with | zero => injection hj with hj; subst hj; exact hbd | succ j => cases hj)).addR (rF L) hL (fun j s hj => by cases j with | zero => injection hj with hj; subst hj; exact hd | succ j => cases hj)
 refine enter 11 Try.func9 rfl rfl ?_
 refine wp_reset 13 [(0, (pt sb 0)), (1, (Value.slice A b.length c))] (fun x0 => ?_)
 refine wp_seq_k fun K1 hK1 => reg_lit ?_
 refine wq_p 1 [(4, (Value.int .i64 0))] ?_
 refine wl_end rfl (seq_n hK1 (wp_seq_k fun K2 hK2 => wp_seq_k fun K3 hK3 => reg_lit ?_))
 refine wq_p 2 [(6, (Value.int .i64 ((b.length : Int)))), (5, (Value.slice A b.length c))] (wq_v (some 7) (.bool false) (eqI (Value.bool (decide ((b.length : Int) > 2048))) (by simp; omega)) ?_)
 refine wl_end rfl (seq_n hK3 (cF (wp_skip (seq_n hK2 (wp_seq_k fun K4 hK4 => ?_)))))
 have h5 := h0.obNil
 refine reg_lit ?_
 refine wq_p 2 [(9, (Value.slice A b.length c)), (8, (pt sb 0))] ?_
 refine wq_to (some 10) (x_appG h5 0 rfl (.const (Value.slice none 0 0)) (.tmp 9) (by kernel_rfl) (Value.slice A b.length c) (by kernel_rfl) (by kernel_rfl) (h5.rd 1 rfl) (by simp; omega) (b) (b.length) rfl rfl) ?_
 rintro _ w6 ⟨A6, c6, rfl, h6⟩
 refine wq_p 1 [(11, (Value.agg ([(Value.int .u64 1), (Value.slice A6 b.length c6)]).toArray))] ?_
 have hx7 := h6.lext (LExt.refl G w L) 0 (v := (Value.slice A6 b.length c6)) (b := b) rfl (fun _ hq => hq.2)
 have hf7 := h6.freeze 0 rfl 0 (v := (Value.slice A6 b.length c6)) (b := b) rfl (fun hb => OB.sb hb) (fun _ hq => hq.2)
 have hm7 : ((Value.slice A6 b.length c6), b) ∈ (((Value.slice A6 b.length c6), b) :: L) := List.mem_cons_self
 have hs7 : ∀ p, p ∈ L -> p ∈ (((Value.slice A6 b.length c6), b) :: L) := fun p hp => List.mem_cons_of_mem _ hp
 have h7 := hf7.monoS 0 rfl hs7
 generalize hL7 : ((Value.slice A6 b.length c6), b) :: L = L7 at *
 refine wq_to (some 12) (x_ses h7 0 rfl 0 rfl 28 [(pt sb 0), (Value.agg ([(Value.int .u64 1), (Value.slice A6 b.length c6)]).toArray)] (by kernel_rfl) (spush_any (h7.at_ 0 rfl) (h7.rd 0 rfl) (h7.rdis 0 0 _ _ rfl rfl) 1 b A6 c6 hm7 h8)) ?_
 rintro _ w8 ⟨G8, L8, rfl, hs8, hx8, h8⟩
 refine wq_p 1 [(4, (Value.int .i64 ((pushR S 1 b).1)))] ?_
 refine wl_end rfl (seq_n hK4 (wp_ret ?_))
 refine post_1 rfl (by kernel_rfl) (rtm (Value.int .i64 ((pushR S 1 b).1))) ?_
 exact ⟨rfl, _, _, (hx8 _ hx7), h8.sel [0] [0] rfl rfl rfl⟩
theorem sRekey_any {G : Nat -> Prop} {tb sb : Nat} {L : List (Value × Bytes)} {S : Ses} {w : World} (hv : (rS G tb sb L S).Φ w) (hL : (rF L).Φ w) (hd : (rF L).dj (rS G tb sb L S)) (hn : (Value.slice none 0 0, ([] : Bytes)) ∈ L) (h8 : S.queue.length <= 8) : Calls Try.prog 22 #[pt sb 0] w (SPostR G tb sb w L (.int .i64 (pushR S 3 []).1) (pushR S 3 []).2) := by
 have h0 := (Hp.one (rS G tb sb L S) hv).addR (rF L) hL (fun j s hj => by cases j with | zero => injection hj with hj; subst hj; exact hd | succ j => cases hj)
 refine enter 5 Try.func22 rfl rfl ?_
 refine wp_reset 6 [(0, (pt sb 0))] (fun x0 => ?_)
 refine wp_seq_k fun K1 hK1 => reg_lit ?_
 refine wq_p 1 [(2, (Value.int .i64 0))] ?_
 refine wl_end rfl (seq_n hK1 (wp_seq_k fun K2 hK2 => reg_lit ?_))
 refine wq_p 2 [(4, (Value.agg ([(Value.int .u64 3), (Value.slice none 0 0)]).toArray)), (3, (pt sb 0))] ?_
 refine wq_to (some 5) (x_ses h0 0 rfl 0 rfl 28 [(pt sb 0), (Value.agg ([(Value.int .u64 3), (Value.slice none 0 0)]).toArray)] (by kernel_rfl) (spush_any (h0.at_ 0 rfl) (h0.rd 0 rfl) (h0.rdis 0 0 _ _ rfl rfl) 3 [] none 0 hn h8)) ?_
 rintro _ w3 ⟨G3, L3, rfl, hs3, hx3, h3⟩
 refine wq_p 1 [(2, (Value.int .i64 ((pushR S 3 []).1)))] ?_
 refine wl_end rfl (seq_n hK2 (wp_ret ?_))
 refine post_1 rfl (by kernel_rfl) (rtm (Value.int .i64 ((pushR S 3 []).1))) ?_
 exact ⟨rfl, _, _, (hx3 _ (LExt.refl G w L)), h3.sel [0] [0] rfl rfl rfl⟩
end
section
open Go.RowKit Go.QT
end
section
open Go.RowKit Go.QT
theorem smarked_none {G : Nat -> Prop} {tb sb : Nat} {L : List (Value × Bytes)} {S : Ses} {w : World} (hv : (rS G tb sb L S).Φ w) (hL : (rF L).Φ w) (hd : (rF L).dj (rS G tb sb L S)) (n : Int) (hf : S.frame = none) : Calls Try.prog 34 #[pt sb 0, .int .i64 n] w (SPostR G tb sb w L (.tuple #[]) S) := by
 obtain ⟨c1, c2, A, cap, xs, fb, bx, hS, hG, h2⟩ := hv
 subst hG
 obtain ⟨me, peer, sid, ko, eo, ki, ei, qu, sent, got, fr, ov⟩ := S
 try simp only at *
 obtain rfl : fr = none := hf
 obtain rfl : fb = none := by cases fb with | none => rfl | some g => exact hS.f.elim
 have hk_ko := hS.ko
 have hk_ki := hS.ki
 have hxl : (xs : List (List Value)).length = (qu).length := hS.q.1
 have hdd : ∀ (j : Nat) (s : Res), (lSes tb sb c1 c2 A cap xs none bx (Ses.mk me peer sid ko eo ki ei qu sent got none ov))[j]? = some s -> (rF L).dj s := fun j s hj q h1 h2 => hd q h1 ⟨j, s, hj, h2⟩
 have h0 := (Hp.oneStar h2).addR (rF L) hL hdd
 refine enter 31 Try.func34 rfl rfl ?_
 refine wp_reset 33 [(0, (pt sb 0)), (1, (Value.int .i64 n))] (fun x0 => ?_)
 refine wp_seq_k fun K1 hK1 => wp_seq_k fun K2 hK2 => reg_lit ?_
 refine wq_p 3 [(6, (pt sb 9)), (5, (pt sb 0)), (4, (pt sb 0))] (wq_v (some 7) (Value.pointer none) (eL (h0.at_ 0 rfl) 75 (.tmp 6) 9 _) (wq_p 10 [(17, (Value.bool true)), (16, undef), (15, undef), (14, undef), (13, undef), (12, undef), (11, undef), (10, undef), (9, (Value.bool true)), (8, (Value.bool true))] ?_))
 refine wl_end rfl (seq_n hK2 (cT (wp_ret (seq_r ?_))))
 refine post_0 rfl (by kernel_rfl)  ?_
 exact ⟨rfl, _, L, LExt.refl _ _ _, (show Hp _ _ _ [rF L] (lSes tb sb c1 c2 A cap (xs) none bx (Ses.mk me peer sid ko eo ki ei qu sent got none ov) ++ []) from h0.sel [0, 1, 2, 3, 4] [0] rfl rfl rfl).closeS hS⟩
theorem smarked_other {G : Nat -> Prop} {tb sb : Nat} {L : List (Value × Bytes)} {S : Ses} {w : World} (hv : (rS G tb sb L S).Φ w) (hL : (rF L).Φ w) (hd : (rF L).dj (rS G tb sb L S)) (n : Int) (f : Frm) (hf : S.frame = some f) (hn : n ≠ ((S.sent + 1 : Nat) : Int)) (hs : S.sent < 1000000) : Calls Try.prog 34 #[pt sb 0, .int .i64 n] w (SPostR G tb sb w L (.tuple #[]) S) := by
 obtain ⟨c1, c2, A, cap, xs, fb, bx, hS, hG, h2⟩ := hv
 subst hG
 obtain ⟨me, peer, sid, ko, eo, ki, ei, qu, sent, got, fr, ov⟩ := S
 try simp only at *
 obtain rfl : fr = some f := hf
 obtain ⟨g, rfl⟩ : ∃ g, fb = some g := by cases fb with | none => exact hS.f.elim | some g => exact ⟨g, rfl⟩
 have hk_ko := hS.ko
 have hk_ki := hS.ki
 have hxl : (xs : List (List Value)).length = (qu).length := hS.q.1
 have hdd : ∀ (j : Nat) (s : Res), (lSes tb sb c1 c2 A cap xs (some g) bx (Ses.mk me peer sid ko eo ki ei qu sent got (some f) ov))[j]? = some s -> (rF L).dj s := fun j s hj q h1 h2 => hd q h1 ⟨j, s, hj, h2⟩
 have h0 := (Hp.oneStar h2).addR (rF L) hL hdd
 refine enter 31 Try.func34 rfl rfl ?_
 refine wp_reset 33 [(0, (pt sb 0)), (1, (Value.int .i64 n))] (fun x0 => ?_)
 refine wp_seq_k fun K1 hK1 => wp_seq_k fun K2 hK2 => reg_lit ?_
 refine wq_p 3 [(6, (pt sb 9)), (5, (pt sb 0)), (4, (pt sb 0))] (wq_v (some 7) (pt g 0) (eL (h0.at_ 0 rfl) 75 (.tmp 6) 9 _) (wq_p 6 [(13, (pt sb 7)), (12, (pt sb 0)), (11, (pt sb 0)), (10, (Value.int .i64 n)), (9, (Value.bool false)), (8, (Value.bool false))] (wq_v (some 14) (Value.int .i64 ((sent : Int))) (eL (h0.at_ 0 rfl) 2 (.tmp 13) 7 _) ?_)))
 refine wq_v (some 15) (Value.int .i64 (((sent + 1 : Nat) : Int))) (exec_add _ _ _ _ rfl ((sent : Int)) 1 (by kernel_rfl) (by kernel_rfl) (((sent + 1 : Nat) : Int)) (by omega) (by omega) (by omega) _) (wq_v (some 16) (.bool true) (eqI (Value.bool (n != (((sent + 1 : Nat) : Int)))) (congrArg Value.bool (by simpa using hn))) (wq_p 1 [(17, (Value.bool true))] ?_))
 refine wl_end rfl (seq_n hK2 (cT (wp_ret (seq_r ?_))))
 refine post_0 rfl (by kernel_rfl)  ?_
 exact ⟨rfl, _, L, LExt.refl _ _ _, (show Hp _ _ _ [rF L] (lSes tb sb c1 c2 A cap (xs) (some g) bx (Ses.mk me peer sid ko eo ki ei qu sent got (some f) ov) ++ []) from h0.sel [0, 1, 2, 3, 4] [0] rfl rfl rfl).closeS hS⟩
theorem smarked_yes {G : Nat -> Prop} {tb sb : Nat} {L : List (Value × Bytes)} {S : Ses} {w : World} (hv : (rS G tb sb L S).Φ w) (hL : (rF L).Φ w) (hd : (rF L).dj (rS G tb sb L S)) (f : Frm) (p : Nat × Bytes) (qs : List (Nat × Bytes)) (hf : S.frame = some f) (hqu : S.queue = p :: qs) (hs : S.sent < 1000000) : Calls Try.prog 34 #[pt sb 0, .int .i64 ((S.sent + 1 : Nat) : Int)] w (SPostR G tb sb w L (.tuple #[]) { S with queue := qs, frame := none, sent := S.sent + 1 }) := by
 obtain ⟨c1, c2, A, cap, xs, fb, bx, hS, hG, h2⟩ := hv
 subst hG
 obtain ⟨me, peer, sid, ko, eo, ki, ei, qu, sent, got, fr, ov⟩ := S
 try simp only at *
 obtain rfl : fr = some f := hf
 obtain ⟨g, rfl⟩ : ∃ g, fb = some g := by cases fb with | none => exact hS.f.elim | some g => exact ⟨g, rfl⟩
 obtain rfl : qu = p :: qs := hqu
 obtain ⟨Ap, cp, ys, rfl, hpm⟩ := hS.q.cons
 have hk_ko := hS.ko
 have hk_ki := hS.ki
 have hxl : (([.int .u64 (p.1 : Int), .slice Ap p.2.length cp] :: ys) : List (List Value)).length = ((p :: qs)).length := hS.q.1
 have hdd : ∀ (j : Nat) (s : Res), (lSes tb sb c1 c2 A cap ([.int .u64 (p.1 : Int), .slice Ap p.2.length cp] :: ys) (some g) bx (Ses.mk me peer sid ko eo ki ei (p :: qs) sent got (some f) ov))[j]? = some s -> (rF L).dj s := fun j s hj q h1 h2 => hd q h1 ⟨j, s, hj, h2⟩
 have h0 := (Hp.oneStar h2).addR (rF L) hL hdd
 refine enter 31 Try.func34 rfl rfl ?_
 refine wp_reset 33 [(0, (pt sb 0)), (1, (Value.int .i64 (((sent + 1 : Nat) : Int))))] (fun x0 => ?_)
 refine wp_seq_k fun K1 hK1 => wp_seq_k fun K2 hK2 => reg_lit ?_
 refine wq_p 3 [(6, (pt sb 9)), (5, (pt sb 0)), (4, (pt sb 0))] (wq_v (some 7) (pt g 0) (eL (h0.at_ 0 rfl) 75 (.tmp 6) 9 _) (wq_p 6 [(13, (pt sb 7)), (12, (pt sb 0)), (11, (pt sb 0)), (10, (Value.int .i64 (((sent + 1 : Nat) : Int)))), (9, (Value.bool false)), (8, (Value.bool false))] (wq_v (some 14) (Value.int .i64 ((sent : Int))) (eL (h0.at_ 0 rfl) 2 (.tmp 13) 7 _) ?_)))
 refine wq_v (some 15) (Value.int .i64 (((sent + 1 : Nat) : Int))) (exec_add _ _ _ _ rfl ((sent : Int)) 1 (by kernel_rfl) (by kernel_rfl) (((sent + 1 : Nat) : Int)) (by omega) (by omega) (by omega) _) (wq_v (some 16) (.bool false) (eqI (Value.bool ((((sent + 1 : Nat) : Int)) != (((sent + 1 : Nat) : Int)))) (congrArg Value.bool (by simp))) (wq_p 1 [(17, (Value.bool false))] ?_))
 refine wl_end rfl (seq_n hK2 (cF (wp_skip (seq_n hK1 (reg_lit ?_)))))
 refine wq_p 6 [(23, (pt sb 6)), (22, (pt sb 0)), (21, (pt sb 0)), (20, (pt sb 0)), (19, (pt sb 0)), (18, (pt sb 0))] (wq_v (some 24) (Value.slice A ((p :: qs).length) cap) (eL (h0.at_ 0 rfl) 74 (.tmp 23) 6 _) (wq_v (some 25) (Value.slice (if cap = 1 then A else A.map (·.add (1 * 2))) qs.length ((cap - 1))) (e_tailQ (h0.at_ 3 rfl) (by simp) 74 (.tmp 24) (.const (Value.int .i64 1)) (by kernel_rfl) (by kernel_rfl) .i64 (by kernel_rfl) (by kernel_rfl) (by kernel_rfl) _) ?_))
 have h3 := h0.tailQ 3 rfl
 refine wq_p 3 [(28, (pt sb 6)), (27, (pt sb 0)), (26, (Value.int .i64 (((sent + 1 : Nat) : Int))))] ?_
 refine wq_to none (xSt h3 0 74 (.tmp 28) (.tmp 25) 6 (Value.slice (if cap = 1 then A else A.map (·.add (1 * 2))) qs.length ((cap - 1))) ([(Value.iface 28 (pt tb 0)), (Value.string me), (Value.string peer), (Value.int .i64 sid), (pt c1 0), (pt c2 0), (Value.slice (if cap = 1 then A else A.map (·.add (1 * 2))) qs.length ((cap - 1))), (Value.int .i64 ((sent : Int))), (Value.int .i64 ((got : Int))), (pt g 0), (Value.bool ov)])) ?_
 rintro _ w4 h4
 refine wq_p 2 [(30, (pt sb 9)), (29, (pt sb 0))] ?_
 refine wq_to none (xSt h4 0 75 (.tmp 30) (.const (Value.pointer none)) 9 (Value.pointer none) ([(Value.iface 28 (pt tb 0)), (Value.string me), (Value.string peer), (Value.int .i64 sid), (pt c1 0), (pt c2 0), (Value.slice (if cap = 1 then A else A.map (·.add (1 * 2))) qs.length ((cap - 1))), (Value.int .i64 ((sent : Int))), (Value.int .i64 ((got : Int))), (Value.pointer none), (Value.bool ov)])) ?_
 rintro _ w5 h5
 refine wq_p 2 [(32, (pt sb 7)), (31, (pt sb 0))] ?_
 refine wq_to none (xSt h5 0 2 (.tmp 32) (.tmp 26) 7 (Value.int .i64 (((sent + 1 : Nat) : Int))) ([(Value.iface 28 (pt tb 0)), (Value.string me), (Value.string peer), (Value.int .i64 sid), (pt c1 0), (pt c2 0), (Value.slice (if cap = 1 then A else A.map (·.add (1 * 2))) qs.length ((cap - 1))), (Value.int .i64 (((sent + 1 : Nat) : Int))), (Value.int .i64 ((got : Int))), (Value.pointer none), (Value.bool ov)])) ?_
 rintro _ w6 h6
 refine wl_end rfl ?_
 refine post_n ?_
 refine post_0 rfl (by kernel_rfl)  ?_
 have hz := h6.addS (rFr none []) trivial (fun q hq => hq.elim) (fun _ _ _ q hq => hq.elim) (fun _ _ _ q hq => hq.elim)
 exact ⟨rfl, _, L, LExt.refl _ _ _, (show Hp _ _ _ [rF L] (lSes tb sb c1 c2 (if cap = 1 then A else A.map (·.add (1 * 2))) (cap - 1) (ys) none bx (Ses.mk me peer sid ko eo ki ei qs (sent + 1) got none ov) ++ []) from hz.sel [1, 2, 3, 4, 0] [0] rfl rfl rfl).closeS ⟨hS.q.tail, trivial, hS.ko, hS.ki⟩⟩
end
section
open Go.RowKit Go.QT
end
section
open Go.RowKit Go.QT
def lOne : ByteArray := ⟨#[111, 110, 101]⟩
def lTwo : ByteArray := ⟨#[116, 119, 111]⟩
/-- A new session's keys, and the table. -/
def newKeys (s : STab) (k : Bytes) : Bytes × Bytes × STab :=
 let s1 := s.made (deriveF k lOne)
 (mkB 107 (s.num (deriveF k lOne)), mkB 107 (s1.num (deriveF k lTwo)), s1.made (deriveF k lTwo))
/-- What New leaves. -/
def NewPost (F : Nat -> Prop) (tb : Nat) (w : World) (s' : STab) (S : Ses) (e : Ending) (w' : World) : Prop := ∃ sb G F', e = .returned (pt sb 0) /\ ∀ L, Hp F w w' [] [rTab F' tb s', rS G tb sb L S]
theorem sNew_true (F : Nat -> Prop) (tb : Nat) (s : STab) (K : Fin 16 -> UInt8) (me peer : ByteArray) (sid : Int) (w : World) (hT : (rTab F tb s).Φ w) (hn : s.keys.length < 900000) : Calls Try.prog 25 #[Value.iface 28 (pt tb 0), .string me, .string peer, .int .i64 sid, .agg (vb (kl K)).toArray, .bool true] w (NewPost F tb w (newKeys s (kl K)).2.2 (Ses.mk me peer sid (newKeys s (kl K)).1 0 (newKeys s (kl K)).2.1 0 [] 0 0 none false)) := by
 have h0 := Hp.one (rTab F tb s) hT
 refine enter 27 Try.func25 rfl rfl ?_
 refine wp_reset 33 [(0, (Value.iface 28 (pt tb 0))), (1, (Value.string me)), (2, (Value.string peer)), (3, (Value.int .i64 sid)), (4, (Value.agg (vb (kl K)).toArray)), (5, (Value.bool true))] (fun x0 => ?_)
 refine wp_seq_k fun K1 hK1 => reg_lit ?_
 refine wq_to (some 10) (xN h0 59 (vb (kl K))) ?_
 rintro _ w2 ⟨g2, rfl, h2⟩
 refine wq_p 1 [(12, (Value.pointer none))] ?_
 refine wl_end rfl (seq_n hK1 (wp_seq_k fun K3 hK3 => ?_))
 refine pR_go h2 7 (fun W => (rBlk g2 59 (vb (kl K))).Φ W /\ True) [(16, [0], 0), (17, [10], 0), (18, [15, 16], 3), (19, [0], 0), (20, [10], 0), (21, [18, 19], 28), (14, [17], 39), (15, [20], 127)] rfl (fun _ d _ _ _ h => by cases d <;> exact h) ?_
 intro hs4 w4 h4
 refine pR_p 6 [0, 3] [(18, (Value.iface 28 (pt tb 0))), (15, (Value.iface 28 (pt tb 0)))] 9 hs4 ⟨h4.at_ 0 rfl, trivial⟩ ?_
 refine pR_v 1 (some 16) (Value.agg (vb (kl K)).toArray) 11 rfl hs4 ⟨h4.at_ 0 rfl, trivial⟩ (fun W hW => eLs hW.1 59 (.tmp 10) 0 (vb (kl K))) ?_
 refine pR_v 4 (some 19) (Value.agg (vb (kl K)).toArray) 27 rfl hs4 ⟨h4.at_ 0 rfl, trivial⟩ (fun W hW => eLs hW.1 59 (.tmp 10) 0 (vb (kl K))) ?_
 refine pR_to 2 (some 17) 31 rfl hs4 (x_rnew h4 1 rfl K (⟨#[111, 110, 101]⟩) (by kernel_rfl) (by omega)) ?_
 rintro _ w5 ⟨cb5, K5, F5, s5, rfl, hK5, hs5, h5⟩
 refine ⟨fun _ => ⟨h5.at_ 2 rfl, trivial⟩, ?_⟩
 have e5 := keys_made hs5
 refine pR_to 5 (some 20) 63 rfl hs4 (x_rnew h5 1 rfl K (⟨#[116, 119, 111]⟩) (by kernel_rfl) (by omega)) ?_
 rintro _ w6 ⟨cb6, K6, F6, s6, rfl, hK6, hs6, h6⟩
 refine ⟨fun _ => ⟨h6.at_ 3 rfl, trivial⟩, ?_⟩
 have e6 := keys_made hs6
 refine pR_p 1 [6] [(13, (pt cb5 0))] 127 hs4 ⟨h6.at_ 3 rfl, trivial⟩ ?_
 refine pR_to 7 (some 14) 255 rfl hs4 (OpTo.run (pt cb6 0) (pureOp_run (by kernel_rfl) _) (R := fun v w => v = (pt cb6 0) /\ w6 = w) ⟨rfl, rfl⟩) ?_
 rintro _ _ ⟨rfl, rfl⟩
 refine ⟨fun h => absurd h (by decide), ?_⟩
 refine pR_done hs4 ?_ _
 refine seq_n hK3 (wp_seq_k fun K7 hK7 => wp_seq_k fun K8 hK8 => reg_lit ?_)
 refine wq_p 2 [(22, (Value.bool false)), (21, (Value.bool true))] ?_
 refine wl_end rfl (seq_n hK8 (cF (wp_skip (seq_n hK7 (wp_seq_k fun K9 hK9 => reg_lit ?_)))))
 refine wq_p 7 [(31, (Value.agg ([(Value.iface 28 (pt tb 0)), (Value.string me), (Value.string peer), (Value.int .i64 sid), (pt cb5 0), (pt cb6 0), (Value.slice none 0 0), (Value.int .i64 0), (Value.int .i64 0), (Value.pointer none), (Value.bool false)]).toArray)), (30, (pt cb6 0)), (29, (pt cb5 0)), (28, (Value.int .i64 sid)), (27, (Value.string peer)), (26, (Value.string me)), (25, (Value.iface 28 (pt tb 0)))] ?_
 refine wq_to (some 32) (xN h6 77 ([(Value.iface 28 (pt tb 0)), (Value.string me), (Value.string peer), (Value.int .i64 sid), (pt cb5 0), (pt cb6 0), (Value.slice none 0 0), (Value.int .i64 0), (Value.int .i64 0), (Value.pointer none), (Value.bool false)])) ?_
 rintro _ w10 ⟨g10, rfl, h10⟩
 refine wq_p 1 [(12, (pt g10 0))] ?_
 refine wl_end rfl (seq_n hK9 (wp_ret ?_))
 refine post_1 rfl (by kernel_rfl) (rtm (pt g10 0)) ?_
 have hz1 := h10.addS (rQ 2 (.slice none 0 0) []) (QV.nil _ 2) (fun q hq => by cases hq) (fun _ _ _ q hq => by cases hq) (fun _ _ _ q hq => by cases hq)
 have hz2 := hz1.addS (rFr none []) trivial (fun q hq => hq.elim) (fun _ _ _ q hq => hq.elim) (fun _ _ _ q hq => hq.elim)
 subst hs6; subst hs5
 have hk1 : kl K5 = (newKeys s (kl K)).1 := hK5
 have hk2 : kl K6 = (newKeys s (kl K)).2.1 := hK6
 rw [hk1, hk2] at hz2
 refine ⟨g10, (rStar (lSes tb g10 cb5 cb6 none 0 [] none (.pointer none) (Ses.mk me peer sid (newKeys s (kl K)).1 0 (newKeys s (kl K)).2.1 0 [] 0 0 none false))).F, F6, rfl, fun L => ?_⟩
 have hz3 := (show Hp _ _ _ [] (lSes tb g10 cb5 cb6 none 0 [] none (.pointer none) (Ses.mk me peer sid (newKeys s (kl K)).1 0 (newKeys s (kl K)).2.1 0 [] 0 0 none false) ++ [rTab F6 tb (newKeys s (kl K)).2.2]) from hz2.sel [2, 5, 3, 1, 0, 4] [] rfl rfl rfl).closeS (L := L) ⟨QR.nil L, trivial, (by rw [← hk1]; exact kl_len _), (by rw [← hk2]; exact kl_len _)⟩
 exact hz3.sel [1, 0] [] rfl rfl rfl
theorem sNew_false (F : Nat -> Prop) (tb : Nat) (s : STab) (K : Fin 16 -> UInt8) (me peer : ByteArray) (sid : Int) (w : World) (hT : (rTab F tb s).Φ w) (hn : s.keys.length < 900000) : Calls Try.prog 25 #[Value.iface 28 (pt tb 0), .string me, .string peer, .int .i64 sid, .agg (vb (kl K)).toArray, .bool false] w (NewPost F tb w (newKeys s (kl K)).2.2 (Ses.mk me peer sid (newKeys s (kl K)).2.1 0 (newKeys s (kl K)).1 0 [] 0 0 none false)) := by
 have h0 := Hp.one (rTab F tb s) hT
 refine enter 27 Try.func25 rfl rfl ?_
 refine wp_reset 33 [(0, (Value.iface 28 (pt tb 0))), (1, (Value.string me)), (2, (Value.string peer)), (3, (Value.int .i64 sid)), (4, (Value.agg (vb (kl K)).toArray)), (5, (Value.bool false))] (fun x0 => ?_)
 refine wp_seq_k fun K1 hK1 => reg_lit ?_
 refine wq_to (some 10) (xN h0 59 (vb (kl K))) ?_
 rintro _ w2 ⟨g2, rfl, h2⟩
 refine wq_p 1 [(12, (Value.pointer none))] ?_
 refine wl_end rfl (seq_n hK1 (wp_seq_k fun K3 hK3 => ?_))
 refine pR_go h2 7 (fun W => (rBlk g2 59 (vb (kl K))).Φ W /\ True) [(16, [0], 0), (17, [10], 0), (18, [15, 16], 3), (19, [0], 0), (20, [10], 0), (21, [18, 19], 28), (14, [17], 39), (15, [20], 127)] rfl (fun _ d _ _ _ h => by cases d <;> exact h) ?_
 intro hs4 w4 h4
 refine pR_p 6 [0, 3] [(18, (Value.iface 28 (pt tb 0))), (15, (Value.iface 28 (pt tb 0)))] 9 hs4 ⟨h4.at_ 0 rfl, trivial⟩ ?_
 refine pR_v 1 (some 16) (Value.agg (vb (kl K)).toArray) 11 rfl hs4 ⟨h4.at_ 0 rfl, trivial⟩ (fun W hW => eLs hW.1 59 (.tmp 10) 0 (vb (kl K))) ?_
 refine pR_v 4 (some 19) (Value.agg (vb (kl K)).toArray) 27 rfl hs4 ⟨h4.at_ 0 rfl, trivial⟩ (fun W hW => eLs hW.1 59 (.tmp 10) 0 (vb (kl K))) ?_
 refine pR_to 2 (some 17) 31 rfl hs4 (x_rnew h4 1 rfl K (⟨#[111, 110, 101]⟩) (by kernel_rfl) (by omega)) ?_
 rintro _ w5 ⟨cb5, K5, F5, s5, rfl, hK5, hs5, h5⟩
 refine ⟨fun _ => ⟨h5.at_ 2 rfl, trivial⟩, ?_⟩
 have e5 := keys_made hs5
 refine pR_to 5 (some 20) 63 rfl hs4 (x_rnew h5 1 rfl K (⟨#[116, 119, 111]⟩) (by kernel_rfl) (by omega)) ?_
 rintro _ w6 ⟨cb6, K6, F6, s6, rfl, hK6, hs6, h6⟩
 refine ⟨fun _ => ⟨h6.at_ 3 rfl, trivial⟩, ?_⟩
 have e6 := keys_made hs6
 refine pR_p 1 [6] [(13, (pt cb5 0))] 127 hs4 ⟨h6.at_ 3 rfl, trivial⟩ ?_
 refine pR_to 7 (some 14) 255 rfl hs4 (OpTo.run (pt cb6 0) (pureOp_run (by kernel_rfl) _) (R := fun v w => v = (pt cb6 0) /\ w6 = w) ⟨rfl, rfl⟩) ?_
 rintro _ _ ⟨rfl, rfl⟩
 refine ⟨fun h => absurd h (by decide), ?_⟩
 refine pR_done hs4 ?_ _
 refine seq_n hK3 (wp_seq_k fun K7 hK7 => wp_seq_k fun K8 hK8 => reg_lit ?_)
 refine wq_p 2 [(22, (Value.bool true)), (21, (Value.bool false))] ?_
 refine wl_end rfl (seq_n hK8 (cT (reg_lit ?_)))
 refine wq_p 4 [(14, (pt cb5 0)), (13, (pt cb6 0)), (24, (pt cb5 0)), (23, (pt cb6 0))] ?_
 refine wl_end rfl (seq_n hK7 (wp_seq_k fun K9 hK9 => reg_lit ?_))
 refine wq_p 7 [(31, (Value.agg ([(Value.iface 28 (pt tb 0)), (Value.string me), (Value.string peer), (Value.int .i64 sid), (pt cb6 0), (pt cb5 0), (Value.slice none 0 0), (Value.int .i64 0), (Value.int .i64 0), (Value.pointer none), (Value.bool false)]).toArray)), (30, (pt cb5 0)), (29, (pt cb6 0)), (28, (Value.int .i64 sid)), (27, (Value.string peer)), (26, (Value.string me)), (25, (Value.iface 28 (pt tb 0)))] ?_
 refine wq_to (some 32) (xN h6 77 ([(Value.iface 28 (pt tb 0)), (Value.string me), (Value.string peer), (Value.int .i64 sid), (pt cb6 0), (pt cb5 0), (Value.slice none 0 0), (Value.int .i64 0), (Value.int .i64 0), (Value.pointer none), (Value.bool false)])) ?_
 rintro _ w10 ⟨g10, rfl, h10⟩
 refine wq_p 1 [(12, (pt g10 0))] ?_
 refine wl_end rfl (seq_n hK9 (wp_ret ?_))
 refine post_1 rfl (by kernel_rfl) (rtm (pt g10 0)) ?_
 have hz1 := h10.addS (rQ 2 (.slice none 0 0) []) (QV.nil _ 2) (fun q hq => by cases hq) (fun _ _ _ q hq => by cases hq) (fun _ _ _ q hq => by cases hq)
 have hz2 := hz1.addS (rFr none []) trivial (fun q hq => hq.elim) (fun _ _ _ q hq => hq.elim) (fun _ _ _ q hq => hq.elim)
 subst hs6; subst hs5
 have hk1 : kl K5 = (newKeys s (kl K)).1 := hK5
 have hk2 : kl K6 = (newKeys s (kl K)).2.1 := hK6
 rw [hk1, hk2] at hz2
 refine ⟨g10, (rStar (lSes tb g10 cb6 cb5 none 0 [] none (.pointer none) (Ses.mk me peer sid (newKeys s (kl K)).2.1 0 (newKeys s (kl K)).1 0 [] 0 0 none false))).F, F6, rfl, fun L => ?_⟩
 have hz3 := (show Hp _ _ _ [] (lSes tb g10 cb6 cb5 none 0 [] none (.pointer none) (Ses.mk me peer sid (newKeys s (kl K)).2.1 0 (newKeys s (kl K)).1 0 [] 0 0 none false) ++ [rTab F6 tb (newKeys s (kl K)).2.2]) from hz2.sel [2, 3, 5, 1, 0, 4] [] rfl rfl rfl).closeS (L := L) ⟨QR.nil L, trivial, (by rw [← hk2]; exact kl_len _), (by rw [← hk1]; exact kl_len _)⟩
 exact hz3.sel [1, 0] [] rfl rfl rfl
end
section
open Go.RowKit
theorem markOf_mkB {k : UInt8} {n : Nat} (hk : k = 107 ∨ k = 98 ∨ k = 100) (hn : n <= 1099511627776) : markOf (mkB k n) = some (k, n) := by
 have h2 : gb (mkB k n) 2 = k := rfl
 have h8 : getN ((mkB k n).drop 8) = n := getN_put8 n (by omega)
 unfold markOf
 rw [h2, h8, if_pos ⟨rfl, hk, hn, rfl⟩]
/-! ### Tables -/
section
variable {s s' : STab} {f g : SFrom} {n : Nat} {k l : Bytes} {u : Int} {b : Bytes}
theorem box_at {x : SSealed} (h : s.boxes[n]? = some x) (hn : n < 1000000) : s.box (mkB 98 (n + 1)) = some x := by
 unfold STab.box
 rw [markOf_mkB (by decide) (by omega)]
 simp [h]
theorem open_at (h : s.boxes[n]? = some ⟨k, u, b⟩) (hn : n < 1000000) : s.open_ k u (mkB 98 (n + 1)) = some b := by
 unfold STab.open_
 rw [box_at h hn]
 simp
theorem made_boxes (h : s' = s.made f) : s'.boxes = s.boxes /\ s'.sums = s.sums := by
 subst h; unfold STab.made; split <;> exact ⟨rfl, rfl⟩
end
end
end Go.Proofs.Ytjalodhdjollhaa
