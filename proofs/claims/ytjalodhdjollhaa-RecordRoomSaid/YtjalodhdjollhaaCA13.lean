/- What the laws of record are asked, as it comes in: opened. -/
import Derived.Carry
import Derived.ChangeShapes
import Derived.Deep.Slices
import Derived.ChangeMaps5
import Derived.Test.YtjalodhdjollhaaCA12
set_option maxRecDepth 100000
set_option maxHeartbeats 4000000
namespace Go.Proofs.Ytjalodhdjollhaa
section
open Go.ChangeShapes Go.WideShapes Go.ChangeAt Go.RowKit
theorem Try.own : ownKnob Try.prog.godebug = none := by kernel_rfl
theorem Try.laidOut : laidOutB Try.prog = true := by kernel_rfl
section
variable {H : Type} {enc : TypeId × Value -> H} {P : Program}
theorem trodAll_stays {W W' : World} {sp' : Nat -> Bool} (hl : laidOutB P = true) : ∀ (ts : List TypeId) (vs : List Value) (ds : List (DataW H)) (ps : List MemPlace),
   (ts.all fun t => P.readableRec t && decide (t < P.types.size)) = true -> DataW.TrodAll enc P W 0 (fun _ => true) true ts vs ds ps ->
   (∀ p ∈ ps, W.sameAt W' p) -> (∀ p ∈ ps, sp' p.block = true) -> DataW.TrodAll enc P W' 0 sp' true ts vs ds ps
 | [], _, _, _, _, h, _, _ => by
   obtain ⟨rfl, rfl, rfl⟩ := trodAll_nil h
   exact rfl
 | t :: ts, _, _, _, ht, h, hs, hsp => by
   obtain ⟨v, vs, d, ds, a, b, rfl, rfl, rfl, h1, h2⟩ := trodAll_cons h
   rw [List.all_cons, Bool.and_eq_true, Bool.and_eq_true, decide_eq_true_eq] at ht
   exact ⟨a, b, WideElems.Trod_stays hl ht.1.1 ht.1.2 h1 (fun p hp => hs p (by simp [hp])) (fun p hp => hsp p (by simp [hp])),
     trodAll_stays hl ts vs ds b ht.2 h2 (fun p hp => hs p (by simp [hp])) (fun p hp => hsp p (by simp [hp])), rfl⟩
theorem post_of_below {f : Func} {s : ChangeSpec} {apart fresh handsOn again : Bool} {W W' : World} {args : Array Value} {v : Value} {ds gs : List (DataW H)} {before pa pv : List MemPlace}
   (hW : DataW.Whole enc P f.params.toList s.vars apart W args.toList ds gs before)
   (hres : ∀ (b : Nat) (sp : Nat -> Bool) (hd : Bool), DataW.TrodAll enc P W' b sp hd f.resultTypes.toList (v.resultList f.resultTypes.size) (s.fn H (ds ++ gs)).results [])
   (hargs : ∀ sp : Nat -> Bool, (∀ p ∈ before, sp p.block = true) -> DataW.TrodAll enc P W' 0 sp true f.params.toList args.toList (s.fn H (ds ++ gs)).args pa)
   (hvars : ∀ sp : Nat -> Bool, (∀ p ∈ before, sp p.block = true) -> DataW.TrodVars enc P W' sp s.vars (s.fn H (ds ++ gs)).vars pv)
   (hps : before = pa ++ pv) (hb : Below W.heap.size W W')
   (hok : ∀ (j : Nat) (t : TypeId) (r : Value), f.resultTypes[j]? = some t -> (v.resultList f.resultTypes.size)[j]? = some r -> Value.okWide P W' .any 0 t r) :
   s.post enc P f apart fresh handsOn again W args v W' := by
 have hlt : ∀ p ∈ before, p.block < W.heap.size := fun p hp => hW.lt p hp
 have hold : ∀ p ∈ before, (fun b => decide (b < W.heap.size)) p.block = true := fun p hp => by simpa using hlt p hp
 refine ⟨ds, gs, before, [], pa, pv, hW, hres _ _ _, hargs _ hold, hvars _ hold, World.keptBut_mono (fun p hp => ⟨hp, ?_⟩) (hb.frame (· ∈ before)), fun _ => ?_⟩
 · rw [hps, List.mem_append] at hp
   exact Or.inr hp
 · obtain ⟨_, _, _, _, _, hz, hn⟩ := hW
   refine ⟨hok, _, _, ([] ++ pa) ++ pv, ⟨[] ++ pa, pv, trodAll_append (hargs _ (fun _ _ => rfl)) (hres _ _ _), hvars _ (fun _ _ => rfl), rfl, ?_, ?_⟩, ?_⟩
   · intro b off hp
     have hin : MemPlace.cell b off ∈ before := by rw [hps]; simpa using hp
     rw [hb.frozen (hlt _ hin)]
     exact hz b off hin
   · intro ha
     have := hn ha
     rw [hps] at this
     simpa using this
   · intro p hp _
     rw [hps]
     simpa using hp
/-- A law's post: it returned true, and what was there is as it was. -/
theorem law_post {f : Func} {s : ChangeSpec} {apart fresh handsOn again : Bool} {W W' : World} {args : Array Value} {ds gs : List (DataW H)} {before : List MemPlace} {tb : TypeId}
   (hl : laidOutB P = true) (hts : (f.params.toList.all fun t => P.readableRec t && decide (t < P.types.size)) = true) (htb : P.underlying tb = some .bool) (hr : f.resultTypes = #[tb]) (hv : s.vars = [])
   (hfn : ∀ ds : List (DataW H), ds.length = f.params.size -> s.fn H ds = ⟨[.lit (.bool true)], ds, []⟩)
   (hW : DataW.Whole enc P f.params.toList s.vars apart W args.toList ds gs before) (hb : Below W.heap.size W W') :
   s.post enc P f apart fresh handsOn again W args (.bool true) W' := by
 have hW' := hW
 have hlt : ∀ p ∈ before, p.block < W.heap.size := fun p hp => hW.lt p hp
 obtain ⟨p, q, hA, hV, rfl, hfz, hnd⟩ := hW
 rw [hv] at hV
 obtain ⟨rfl, rfl⟩ := trodVars_none hV
 have hlen : ds.length = f.params.size := by
   have : ∀ (ts : List TypeId) (vs : List Value) (ds : List (DataW H)) (p : List MemPlace), DataW.TrodAll enc P W 0 (fun _ => true) true ts vs ds p -> ds.length = ts.length := by
     intro ts
     induction ts with
     | nil => intro vs ds p h; obtain ⟨rfl, rfl, rfl⟩ := trodAll_nil h; rfl
     | cons t ts ih =>
       intro vs ds p h
       obtain ⟨v, vs, d, ds, a, b, rfl, rfl, rfl, h1, h2⟩ := trodAll_cons h
       simp [ih _ _ _ h2]
   simpa using this _ _ _ _ hA
 simp only [List.append_nil] at hW' hlt
 have hds : s.fn H (ds ++ []) = ⟨[.lit (.bool true)], ds, []⟩ := by rw [List.append_nil]; exact hfn ds hlen
 refine post_of_below (pa := p) (pv := []) (gs := []) hW' ?_ ?_ ?_ (by simp) hb ?_
 · intro b sp hd
   rw [hds, hr]
   exact trodAll_mk1 (shut_bool htb true)
 · intro sp hsp
   rw [hds]
   exact trodAll_stays hl _ _ _ _ hts hA (fun x hx => hb.same (hlt x hx)) hsp
 · intro sp _
   rw [hds, hv]
   exact rfl
 · exact ok_one hr rfl (okWide_bool_mk htb true)
end
section
variable {H : Type} {enc : TypeId × Value -> H} {w : World} {base : Nat}
end
end
section
open Go.ChangeShapes
variable {H : Type} {enc : TypeId × Value -> H} {P : Program} {w : World} {base : Nat} {spare : Nat -> Bool} {held : Bool}
end
section
open Go.ChangeShapes Go.WideShapes Go.ChangeAt Go.RowKit Go.QT
set_option maxRecDepth 100000
theorem c20B : Try.prog.cellsOf 5 = 1 := by kernel_rfl
theorem list_of {α : Type} (n : Nat) (p : Nat -> α -> Prop) (h : ∀ i, i < n -> ∃ z, p i z) : ∃ st : List α, st.length = n /\ ∀ i z, st[i]? = some z -> p i z := by
 induction n with
 | zero => exact ⟨[], rfl, by simp⟩
 | succ n ih =>
   obtain ⟨st, hl, hst⟩ := ih fun i hi => h i (by omega)
   obtain ⟨z, hz⟩ := h n (by omega)
   refine ⟨st ++ [z], by simp [hl], fun i y hy => ?_⟩
   by_cases hi : i < st.length
   · rw [List.getElem?_append_left hi] at hy; exact hst i y hy
   · have e : i = st.length := by
       have := (List.getElem?_eq_some_iff.1 hy).1
       simp at this; omega
     subst e
     rw [List.getElem?_append_right (Nat.le_refl _), Nat.sub_self] at hy
     have hy : z = y := by simpa using hy
     subst hy; rw [hl]; exact hz
section
variable {H : Type} {enc : TypeId × Value -> H} {w : World} {base : Nat}
theorem sb_of_trod' {fuel : Nat} {c : Value} {x : DataW H × List MemPlace} {sp : Nat -> Bool} (hf : DataW.trod enc Try.prog w base sp true fuel 26 [c] = some x) : ∃ l : Bytes, SB w c l := by
 rcases open_ints Try.underlying26 Try.underlying5 c20B hf with ⟨hcs, hx⟩ | ⟨a, len, cap, zs, hcs, _, hl, hm, hz, hx, hcell, hwz⟩
 · have : c = .slice none 0 0 := by simpa using hcs
   subst this
   exact ⟨[], SB.nil _ _ (Nat.zero_le _) _⟩
 · have : c = .slice (some a) len cap := by simpa using hcs
   subst this
   have hzl : len <= zs.length := by rw [hz]; split <;> omega
   refine ⟨(zs.take len).map toB, some a, cap, ?_, ?_, hm, ?_⟩
   · simp; omega
   · simp; omega
   intro hne
   have hlen : 0 < len := by
     rcases Nat.eq_zero_or_pos len with h0 | h0
     · subst h0; simp at hne
     · exact h0
   obtain ⟨ab, ao, spot⟩ := a
   have h0 := hcell 0 (by omega)
   have hspot : spot = none := by simpa [Addr.add] using World.cell?_spot h0
   subst hspot
   refine ⟨ab, ao, rfl, ?_, fun i hi => ?_⟩
   · rcases Nat.lt_or_ge ab w.heap.size with h' | h'
     · exact h'
     · rw [Addr.add_lit] at h0
       simp [World.cell?, Array.getElem?_eq_none h'] at h0
   · have hi' : i < len := by simpa [Nat.min_eq_left hzl] using hi
     have hc := hcell i (by omega)
     rw [Addr.add_lit] at hc
     rw [hc]
     have e : zs.getD i 0 = zs[i]'(by omega) := by simp [List.getD, List.getElem?_eq_getElem (show i < zs.length by omega)]
     have hb : 0 <= zs.getD i 0 /\ zs.getD i 0 <= 255 := by rw [List.getD_eq_getElem?_getD]; exact range_u8 hwz i
     have e2 : gb ((zs.take len).map toB) i = toB (zs.getD i 0) := by
       rw [e]
       simp [gb, hi', show i < zs.length by omega]
     rw [e2, ub_u8 (by omega) (by omega)]
theorem c20S : Try.prog.cellsOf 26 = 1 := by kernel_rfl
theorem u20Bs : Try.prog.underlying 22 = some (.slice 26) := by kernel_rfl
/-- A row of elements of some cells each, as it comes in. -/
theorem open_row {α : Type} {E S sz : Nat} (cells : α -> List Value) (Q : α -> Prop) (hu : Try.prog.underlying S = some (.slice E)) (hsz : Try.prog.cellsOf E = sz) (hpos : 0 < sz) (hlen : ∀ z, (cells z).length = sz)
   (hel : ∀ {fuel : Nat} {cs : List Value} {x : DataW H × List MemPlace} {sp : Nat -> Bool}, cs.length = sz -> DataW.trod enc Try.prog w base sp true fuel E cs = some x -> ∃ z, cs = cells z /\ Q z)
   {b0 : Nat} {v : Value} {d : DataW H} {p : List MemPlace} {sp : Nat -> Bool} (hv : Value.okWide Try.prog w .any b0 S v) (h : DataW.Trod enc Try.prog w base sp true S v d p) :
   ∃ A c st, v = .slice A (List.length st) c /\ RV w sz A c (st.map cells) /\ ∀ z ∈ st, Q z := by
 obtain ⟨a1, len, cap, rfl⟩ := okWide_slice hu hv
 obtain ⟨fuel, hf⟩ := h
 rcases Go.Deep.open_slice hu hf with ⟨hcs, _⟩ | ⟨a, len', cap', m, n, D, Pl, hcs, _, hl, hm, hmm, _, hx⟩
 · simp [Value.cells] at hcs
   obtain ⟨rfl, rfl, rfl⟩ := hcs
   exact ⟨none, 0, [], rfl, ⟨by simp, Nat.zero_le _, by simp, by simp⟩, by simp⟩
 · simp [Value.cells] at hcs
   obtain ⟨rfl, rfl, rfl⟩ := hcs
   have hml : len <= m := by rw [hmm]; split <;> omega
   obtain ⟨st, hlen2, hst⟩ := list_of len (fun i z => w.cells? base (a.add (i * sz)) sz = some (cells z) /\ Q z) fun i hi => by
     obtain ⟨cs', h1, h2⟩ := hx i (by omega)
     rw [hsz] at h1
     obtain ⟨z, rfl, hs⟩ := hel (World.cells?_some h1).2.1 h2
     exact ⟨z, h1, hs⟩
   subst hlen2
   refine ⟨some a, cap, st, rfl, ⟨by simpa using hl, hm, ?_, ?_⟩, fun z hz => ?_⟩
   · intro y hy
     rw [List.mem_map] at hy
     obtain ⟨z, _, rfl⟩ := hy
     exact hlen z
   · intro hne
     have hpos2 : 0 < st.length := by
       rcases Nat.eq_zero_or_pos st.length with h0 | h0
       · exact absurd (by rw [List.eq_nil_of_length_eq_zero h0]; rfl) hne
       · exact h0
     have hz0 := (hst 0 _ (List.getElem?_eq_getElem hpos2)).1
     obtain ⟨_, _, hc0⟩ := World.cells?_some hz0
     obtain ⟨ab, ao, spot⟩ := a
     have h00 := hc0 0 (by omega)
     have hl0 := hlen st[0]
     have h01 : w.cell? (((⟨ab, ao, spot⟩ : Addr).add (0 * sz)).add 0) = some ((cells st[0])[0]'(by omega)) := by rw [h00, List.getElem?_eq_getElem (by omega)]
     have hspot : spot = none := by simpa [Addr.add] using World.cell?_spot h01
     subst hspot
     refine ⟨ab, ao, rfl, ?_, fun i y hy j u hu => ?_⟩
     · rcases Nat.lt_or_ge ab w.heap.size with h' | h'
       · exact h'
       · rw [Addr.add_lit, Addr.add_lit] at h01
         simp [World.cell?, Array.getElem?_eq_none h'] at h01
     · rw [List.getElem?_map, Option.map_eq_some_iff] at hy
       obtain ⟨z, hz, rfl⟩ := hy
       obtain ⟨_, _, hc⟩ := World.cells?_some (hst i z hz).1
       have hj : j < sz := by have := (List.getElem?_eq_some_iff.1 hu).1; rw [hlen z] at this; exact this
       have := hc j hj
       rw [Addr.add_lit, Addr.add_lit] at this
       rw [this]; exact hu
   · obtain ⟨i, hi⟩ := List.getElem?_of_mem hz
     exact (hst i z hi).2
theorem open_bss {b0 : Nat} {v : Value} {d : DataW H} {p : List MemPlace} {sp : Nat -> Bool} (hv : Value.okWide Try.prog w .any b0 22 v) (h : DataW.Trod enc Try.prog w base sp true 22 v d p) :
   ∃ A c xs st L, v = .slice A (List.length st) c /\ RV w 1 A c xs /\ RowOk (BAt L) xs st /\ (rF L).Φ w /\ (Value.slice none 0 0, ([] : Bytes)) ∈ L := by
 obtain ⟨A, c, zs, rfl, hr, hq⟩ := open_row (α := Bytes × Value) (fun z => [z.2]) (fun z => SB w z.2 z.1) u20Bs c20S (by omega) (fun _ => rfl) (fun {_ cs _ _} hl hf => by
   match cs, hl with
   | [c], _ =>
     obtain ⟨l, hs⟩ := sb_of_trod' hf; exact ⟨(l, c), rfl, hs⟩) hv h
 refine ⟨A, c, _, zs.map (·.1), (Value.slice none 0 0, []) :: zs.map (fun z => (z.2, z.1)), by rw [List.length_map], hr, ⟨by simp, fun i x a hx ha => ?_⟩, fun p hp => ?_, List.mem_cons_self⟩
 · rw [List.getElem?_map, Option.map_eq_some_iff] at hx ha
   obtain ⟨z, hz, rfl⟩ := hx
   obtain ⟨z', hz', rfl⟩ := ha
   rw [hz] at hz'
   obtain rfl := Option.some.inj hz'
   have hm := List.mem_of_getElem? hz
   obtain ⟨A1, c1, e, _⟩ := hq z hm
   exact ⟨A1, c1, by rw [e], List.mem_cons_of_mem _ (List.mem_map.2 ⟨z, hm, by rw [e]⟩)⟩
 · rcases List.mem_cons.1 hp with rfl | hp
   · exact SB.nil _ _ (Nat.zero_le _) _
   · obtain ⟨z, hz, rfl⟩ := List.mem_map.1 hp
     exact hq z hz
end
end
end Go.Proofs.Ytjalodhdjollhaa
