/- Five parameters. -/
import Derived.Laws.StructEq
import Derived.ProofKit
import Derived.Carry
import Derived.ChangeShapes
import Derived.Test.YtecomegocafocaaCA16
set_option maxRecDepth 100000
set_option maxHeartbeats 4000000
namespace Go.Proofs.Ytecomegocafocaa
section
section
variable {s s' : STab} {f g : SFrom} {n : Nat}
end
end
section
open Go.RowKit
theorem markOf_spec {b : Bytes} {k : UInt8} {n : Nat} (h : markOf b = some (k, n)) : b.length = 16 /\ (k = 107 ∨ k = 98 ∨ k = 100) /\ n <= 1099511627776 /\ b = mkB k n := by
 unfold markOf at h
 split at h
 · rename_i hc
   injection h with h
   injection h with h1 h2
   subst h1; subst h2
   exact hc
 · cases h
theorem markOf_mkB {k : UInt8} {n : Nat} (hk : k = 107 ∨ k = 98 ∨ k = 100) (hn : n <= 1099511627776) : markOf (mkB k n) = some (k, n) := by
 have h2 : gb (mkB k n) 2 = k := rfl
 have h8 : getN ((mkB k n).drop 8) = n := getN_put8 n (by omega)
 unfold markOf
 rw [h2, h8, if_pos ⟨rfl, hk, hn, rfl⟩]
/-! ### Tables -/
section
variable {s s' : STab} {f g : SFrom} {n : Nat} {k l : Bytes} {u : Int} {b : Bytes}
theorem box_at {x : SSealed} (h : s.boxes[n]? = some x) (hn : n < 1000000) : s.box (mkB 98 (n + 1)) = some x := by
 unfold STab.box
 rw [markOf_mkB (by decide) (by omega)]
 simp [h]
theorem open_at (h : s.boxes[n]? = some ⟨k, u, b⟩) (hn : n < 1000000) : s.open_ k u (mkB 98 (n + 1)) = some b := by
 unfold STab.open_
 rw [box_at h hn]
 simp
end
end
section
open Go.RowKit Go.QT
section
end
end
section
open Go.RowKit Go.QT
/-- A table: how many keys, which boxes, which keys are known to come how. -/
structure TS (s : STab) (n : Nat) (bx : List SSealed) (kn : List (SFrom × Nat)) : Prop where
 keys : s.keys.length = n
 boxes : s.boxes = bx
 known : s.known = kn
 body : ∀ x ∈ bx, x.body.length <= 1000000
section
variable {s s' : STab} {n m : Nat} {bx : List SSealed} {kn : List (SFrom × Nat)} {f : SFrom} {k : Bytes} {u : Int} {b : Bytes}
theorem TS.empty : TS STab.empty 0 [] [] := ⟨rfl, rfl, rfl, fun _ hx => absurd hx List.not_mem_nil⟩
theorem TS.add (h : TS s n bx kn) (e : s' = s.add f) : TS s' (n + 1) bx kn := by
 subst e
 exact ⟨by show (s.keys ++ [f]).length = _; rw [List.length_append, h.keys]; rfl, h.boxes, h.known, h.body⟩
theorem TS.seal (h : TS s n bx kn) (e : s' = s.seal k u b) (hb : b.length <= 1000000) : TS s' n (bx ++ [⟨k, u, b⟩]) kn := by
 subst e
 exact ⟨h.keys, by show s.boxes ++ _ = _; rw [h.boxes], h.known, fun x hx => (List.mem_append.1 hx).elim (fun hx => h.body x hx) (fun hx => by rw [List.mem_singleton.1 hx]; exact hb)⟩
theorem TS.at_none (h : TS s n bx kn) (hf : ∀ p ∈ kn, p.1 ≠ f) : s.at_ f = none := by
 unfold STab.at_
 rw [h.known, List.find?_eq_none.2 (fun p hp => by simpa using hf p hp)]; rfl
theorem TS.made_new (h : TS s n bx kn) (e : s' = s.made f) (hf : ∀ p ∈ kn, p.1 ≠ f) : TS s' (n + 1) bx (kn ++ [(f, n + 1)]) /\ s.num f = n + 1 := by
 subst e
 have h0 := h.at_none hf
 unfold STab.made STab.num
 rw [h0]
 refine ⟨⟨?_, h.boxes, ?_, h.body⟩, ?_⟩
 · show (s.keys ++ [f]).length = _; rw [List.length_append, h.keys]; rfl
 · show s.known ++ _ = _; rw [h.known, h.keys]
 · show s.keys.length + 1 = _; rw [h.keys]
theorem TS.made_old (h : TS s n bx kn) (e : s' = s.made f) (hf : kn.find? (fun p => decide (p.1 = f)) = some (f, m)) : TS s' n bx kn /\ s.num f = m := by
 subst e
 have h0 : s.at_ f = some m := by unfold STab.at_; rw [h.known, hf]; rfl
 unfold STab.made STab.num
 rw [h0]
 exact ⟨h, rfl⟩
theorem TS.room (h : TS s n bx kn) (r : Nat) (hn : n + r < 1000000) (hb : bx.length + r < 1000000) : Room r s :=
 ⟨by rw [h.boxes]; exact h.body, by rw [h.boxes]; exact hb, by rw [h.keys]; exact hn⟩
theorem TS.opn (h : TS s n bx kn) {i : Nat} {t : Thing} (hi : bx[i]? = some ⟨k, u, b⟩) (hp : packB t = .inr b) (hl : i < 1000000) : openTh s k u (mkB 98 (i + 1)) = .inr t := by
 unfold openTh
 rw [open_at (by rw [h.boxes]; exact hi) hl]
 exact unp_pack hp
theorem TS.opnRaw (h : TS s n bx kn) {i : Nat} (hi : bx[i]? = some ⟨k, u, b⟩) (hl : i < 1000000) : openTh s k u (mkB 98 (i + 1)) = unpB b := by
 unfold openTh
 rw [open_at (by rw [h.boxes]; exact hi) hl]
end
theorem placeI_one (u : User) (s : ByteArray) : placeI [u] s = if cmpS u.name s < 0 then 1 else 0 := by
 show bsGo [u] s 1 0 1 = _
 unfold bsGo
 rw [if_pos (by decide), bsGo_done _ _ (by decide), bsGo_done _ _ (by decide)]
 rfl
theorem place_self {u : User} {s : ByteArray} (h : u.name = s) : placeB [u] s = true /\ [u][placeI [u] s]? = some u := by
 subst h
 have e : placeI [u] u.name = 0 := by rw [placeI_one, cmpS_self]; rfl
 unfold placeB
 rw [e]
 refine ⟨?_, rfl⟩
 show (decide (0 < 1) && decide (cmpS u.name u.name = 0)) = true
 rw [cmpS_self]; rfl
theorem place_other {u : User} {s : ByteArray} (h : u.name ≠ s) : placeB [u] s = false := by
 unfold placeB
 rw [placeI_one]
 split
 · rfl
 · show (decide (0 < 1) && decide (cmpS u.name s = 0)) = false
   rw [decide_eq_false (fun hh => h (cmpS_eq hh))]; rfl
/-- What is right, and not long, is packed. -/
theorem pack_is {t : Thing} (hr : rightTh t = true) (hl : (wrV (valD t)).length <= 4096) : packB t = .inr (wrV (valD t)) := by
 unfold packB; rw [if_pos hr, if_pos hl]
theorem val_small {t : Thing} {n : Nat} (h : ∀ v ∈ valL t, (wrV v).length <= n) (hn : (valL t).length <= 7) : (wrV (valD t)).length <= 10 + 7 * n := by
 have h0 := wrV_leT (valD t)
 have e : bodyV (valD t) = wrL (valL t) := rfl
 rw [e] at h0
 have key : ∀ (l : List DVal), (∀ v ∈ l, (wrV v).length <= n) -> (wrL l).length <= l.length * n := by
   intro l
   induction l with
   | nil => intro _; rw [wrL]; simp
   | cons v l ih =>
     intro hh
     rw [wrL, List.length_append, List.length_cons, Nat.add_mul]
     have := hh v (by simp)
     have := ih (fun x hx => hh x (by simp [hx]))
     omega
 have := key _ h
 have : (valL t).length * n <= 7 * n := Nat.mul_le_mul_right _ hn
 omega
theorem pack_stamp {t q : Int} (h1 : inN t = true) (h2 : inN q = true) : ∃ b, packB (.stamp t q) = .inr b := by
 refine ⟨_, pack_is ?_ ?_⟩
 · show rightM _ _ = true
   unfold rightM
   rw [List.all_cons, List.all_cons, List.all_nil, h1, h2]
   decide
 · refine Nat.le_trans (val_small (n := 18) ?_ (by simp [valL])) (by decide)
   intro v hv
   simp only [valL, List.mem_cons, List.not_mem_nil, or_false] at hv
   rcases hv with rfl | rfl <;> exact wr_nD _
theorem pack_inside {f a u r : Int} {K : Fin 16 -> UInt8} {s : ByteArray} (hr : rightM s [f, a, u, r] = true) (hs : s.size <= 300) : ∃ b, packB (.inside f K s a u r) = .inr b := by
 refine ⟨_, pack_is hr ?_⟩
 refine Nat.le_trans (val_small (n := 310) ?_ (by simp [valL])) (by decide)
 intro v hv
 simp only [valL, List.mem_cons, List.not_mem_nil, or_false] at hv
 have h1 := wr_bD (kl K)
 have h2 := wr_bD s.data.toList
 rw [kl_len] at h1
 rw [size_toList] at h2
 rcases hv with rfl | rfl | rfl | rfl | rfl | rfl
 · have := wr_nD f; omega
 · omega
 · omega
 · have := wr_nD a; omega
 · have := wr_nD u; omega
 · have := wr_nD r; omega
theorem pack_reply {f n a u r : Int} {K : Fin 16 -> UInt8} {s : ByteArray} (hr : rightM s [f, n, a, u, r] = true) (hs : s.size <= 300) : ∃ b, packB (.reply f K n s a u r) = .inr b := by
 refine ⟨_, pack_is hr ?_⟩
 refine Nat.le_trans (val_small (n := 310) ?_ (by simp [valL])) (by decide)
 intro v hv
 simp only [valL, List.mem_cons, List.not_mem_nil, or_false] at hv
 have h1 := wr_bD (kl K)
 have h2 := wr_bD s.data.toList
 rw [kl_len] at h1
 rw [size_toList] at h2
 rcases hv with rfl | rfl | rfl | rfl | rfl | rfl | rfl
 · have := wr_nD f; omega
 · omega
 · have := wr_nD n; omega
 · omega
 · have := wr_nD a; omega
 · have := wr_nD u; omega
 · have := wr_nD r; omega
theorem rightM_is {s : ByteArray} {l : List Int} (h : rightN s = true) (hl : ∀ x ∈ l, inN x = true) : rightM s l = true := by
 unfold rightM; rw [h, List.all_eq_true.2 hl]; rfl
theorem inN_is {x : Int} (h1 : 0 <= x) (h2 : x <= 1099511627776) : inN x = true := inN_in (by omega) (by omega)
theorem ex_key (n : Nat) : ∃ K, kl K = mkB 107 n := by
 obtain ⟨K, hK⟩ := kl_of (mkB 107 n) (mkB_len _ _)
 exact ⟨K, hK.symm⟩
theorem pack_le6 {t : Thing} {b : Bytes} (h : packB t = .inr b) : b.length <= 1000000 := Nat.le_trans (pack_le h) (by decide)
end
section
open Go.RowKit Go.QT
section
variable {P : Program} {o : Oper} {a : Act}
end
end
section
open Go.RowKit Go.QT
end
section
open Go.Value renaming int -> iV, slice -> lV, string -> sV, bool -> bV, agg -> aV
open Go.RowKit Go.QT
section
variable {s : ByteArray} {f i n : Nat} (hinv : runesN s (s.size + 1) 0 0 = runesN s (f + 1) i n) (hi : i < s.size)
include hinv hi
end
theorem rnear_any (now t : Int) (w : World) : Calls Try.prog 16 #[.int .i64 now, .int .i64 t] w (DPost w (.bool (nearF now t))) := by
 have h0 := Hp.nil (fun _ => False) w
 refine enter 29 Try.func16 rfl rfl ?_
 refine wp_reset 31 [(0, (iV .i64 now)), (1, (iV .i64 t))] (fun x0 => ?_)
 refine wp_seq_k fun K1 hK1 => reg_lit ?_
 refine wq_p 1 [(4, (bV false))] ?_
 refine wl_end rfl (seq_n hK1 (wp_seq_k fun K2 hK2 => ?_))
 rcases (by omega : t < 0 ∨ (0 <= t /\ 1099511627776 < t) ∨ (0 <= t /\ t <= 1099511627776 /\ now < 0) ∨ (0 <= t /\ t <= 1099511627776 /\ 0 <= now /\ 1099511627776 < now) ∨ (0 <= t /\ t <= 1099511627776 /\ 0 <= now /\ now <= 1099511627776 /\ 30 < now - t) ∨ (0 <= t /\ t <= 1099511627776 /\ 0 <= now /\ now <= 1099511627776 /\ now - t <= 30 /\ 30 < t - now) ∨ (0 <= t /\ t <= 1099511627776 /\ 0 <= now /\ now <= 1099511627776 /\ now - t <= 30 /\ t - now <= 30)) with hq | hq | hq | hq | hq | hq | hq
 ·
  refine reg_lit ?_
  refine wq_p 1 [(5, (iV .i64 t))] (wq_v (some 6) (.bool false) (eqI (bV (decide (t ≥ 0))) (by simp; omega)) (wq_p 2 [(8, undef), (7, (bV false))] (wq_p 1 [(9, undef)] ?_)))
  refine wq_p 3 [(12, undef), (11, (bV false)), (10, (bV false))] (wq_p 1 [(13, undef)] (wq_p 3 [(16, undef), (15, (bV false)), (14, (bV false))] (wq_p 1 [(17, undef)] ?_)))
  refine wq_p 4 [(21, undef), (20, undef), (19, (bV false)), (18, (bV false))] (wq_p 1 [(22, undef)] (wq_p 1 [(23, undef)] (wq_p 4 [(27, undef), (26, undef), (25, (bV false)), (24, (bV false))] ?_)))
  refine wq_p 1 [(28, undef)] (wq_p 1 [(29, undef)] (wq_p 2 [(4, (bV false)), (30, (bV false))] ?_))
  refine wl_end rfl (seq_n hK2 (wp_ret ?_))
  refine post_1 rfl (by kernel_rfl) (rtm (bV false)) ?_
  exact ⟨by rw [show nearF now t = false from decide_eq_false (by omega)], h0.below0⟩
 ·
  refine reg_lit ?_
  refine wq_p 1 [(5, (iV .i64 t))] (wq_v (some 6) (.bool true) (eqI (bV (decide (t ≥ 0))) (by simp; omega)) (wq_p 2 [(8, (iV .i64 t)), (7, (bV true))] (wq_v (some 9) (.bool false) (eqI (bV (decide (t <= 1099511627776))) (by simp; omega)) ?_)))
  refine wq_p 3 [(12, undef), (11, (bV false)), (10, (bV false))] (wq_p 1 [(13, undef)] (wq_p 3 [(16, undef), (15, (bV false)), (14, (bV false))] (wq_p 1 [(17, undef)] ?_)))
  refine wq_p 4 [(21, undef), (20, undef), (19, (bV false)), (18, (bV false))] (wq_p 1 [(22, undef)] (wq_p 1 [(23, undef)] (wq_p 4 [(27, undef), (26, undef), (25, (bV false)), (24, (bV false))] ?_)))
  refine wq_p 1 [(28, undef)] (wq_p 1 [(29, undef)] (wq_p 2 [(4, (bV false)), (30, (bV false))] ?_))
  refine wl_end rfl (seq_n hK2 (wp_ret ?_))
  refine post_1 rfl (by kernel_rfl) (rtm (bV false)) ?_
  exact ⟨by rw [show nearF now t = false from decide_eq_false (by omega)], h0.below0⟩
 ·
  refine reg_lit ?_
  refine wq_p 1 [(5, (iV .i64 t))] (wq_v (some 6) (.bool true) (eqI (bV (decide (t ≥ 0))) (by simp; omega)) (wq_p 2 [(8, (iV .i64 t)), (7, (bV true))] (wq_v (some 9) (.bool true) (eqI (bV (decide (t <= 1099511627776))) (by simp; omega)) ?_)))
  refine wq_p 3 [(12, (iV .i64 now)), (11, (bV true)), (10, (bV true))] (wq_v (some 13) (.bool false) (eqI (bV (decide (now ≥ 0))) (by simp; omega)) (wq_p 3 [(16, undef), (15, (bV false)), (14, (bV false))] (wq_p 1 [(17, undef)] ?_)))
  refine wq_p 4 [(21, undef), (20, undef), (19, (bV false)), (18, (bV false))] (wq_p 1 [(22, undef)] (wq_p 1 [(23, undef)] (wq_p 4 [(27, undef), (26, undef), (25, (bV false)), (24, (bV false))] ?_)))
  refine wq_p 1 [(28, undef)] (wq_p 1 [(29, undef)] (wq_p 2 [(4, (bV false)), (30, (bV false))] ?_))
  refine wl_end rfl (seq_n hK2 (wp_ret ?_))
  refine post_1 rfl (by kernel_rfl) (rtm (bV false)) ?_
  exact ⟨by rw [show nearF now t = false from decide_eq_false (by omega)], h0.below0⟩
 ·
  refine reg_lit ?_
  refine wq_p 1 [(5, (iV .i64 t))] (wq_v (some 6) (.bool true) (eqI (bV (decide (t ≥ 0))) (by simp; omega)) (wq_p 2 [(8, (iV .i64 t)), (7, (bV true))] (wq_v (some 9) (.bool true) (eqI (bV (decide (t <= 1099511627776))) (by simp; omega)) ?_)))
  refine wq_p 3 [(12, (iV .i64 now)), (11, (bV true)), (10, (bV true))] (wq_v (some 13) (.bool true) (eqI (bV (decide (now ≥ 0))) (by simp; omega)) (wq_p 3 [(16, (iV .i64 now)), (15, (bV true)), (14, (bV true))] (wq_v (some 17) (.bool false) (eqI (bV (decide (now <= 1099511627776))) (by simp; omega)) ?_)))
  refine wq_p 4 [(21, undef), (20, undef), (19, (bV false)), (18, (bV false))] (wq_p 1 [(22, undef)] (wq_p 1 [(23, undef)] (wq_p 4 [(27, undef), (26, undef), (25, (bV false)), (24, (bV false))] ?_)))
  refine wq_p 1 [(28, undef)] (wq_p 1 [(29, undef)] (wq_p 2 [(4, (bV false)), (30, (bV false))] ?_))
  refine wl_end rfl (seq_n hK2 (wp_ret ?_))
  refine post_1 rfl (by kernel_rfl) (rtm (bV false)) ?_
  exact ⟨by rw [show nearF now t = false from decide_eq_false (by omega)], h0.below0⟩
 ·
  refine reg_lit ?_
  refine wq_p 1 [(5, (iV .i64 t))] (wq_v (some 6) (.bool true) (eqI (bV (decide (t ≥ 0))) (by simp; omega)) (wq_p 2 [(8, (iV .i64 t)), (7, (bV true))] (wq_v (some 9) (.bool true) (eqI (bV (decide (t <= 1099511627776))) (by simp; omega)) ?_)))
  refine wq_p 3 [(12, (iV .i64 now)), (11, (bV true)), (10, (bV true))] (wq_v (some 13) (.bool true) (eqI (bV (decide (now ≥ 0))) (by simp; omega)) (wq_p 3 [(16, (iV .i64 now)), (15, (bV true)), (14, (bV true))] (wq_v (some 17) (.bool true) (eqI (bV (decide (now <= 1099511627776))) (by simp; omega)) ?_)))
  refine wq_p 4 [(21, (iV .i64 t)), (20, (iV .i64 now)), (19, (bV true)), (18, (bV true))] (wq_v (some 22) (iV .i64 (now - t)) (exec_sub _ _ _ _ rfl now t (by kernel_rfl) (by kernel_rfl) (now - t) rfl (by omega) (by omega) _) (wq_v (some 23) (.bool false) (eqI (bV (decide (now - t <= 30))) (by simp; omega)) (wq_p 4 [(27, undef), (26, undef), (25, (bV false)), (24, (bV false))] ?_)))
  refine wq_p 1 [(28, undef)] (wq_p 1 [(29, undef)] (wq_p 2 [(4, (bV false)), (30, (bV false))] ?_))
  refine wl_end rfl (seq_n hK2 (wp_ret ?_))
  refine post_1 rfl (by kernel_rfl) (rtm (bV false)) ?_
  exact ⟨by rw [show nearF now t = false from decide_eq_false (by omega)], h0.below0⟩
 ·
  refine reg_lit ?_
  refine wq_p 1 [(5, (iV .i64 t))] (wq_v (some 6) (.bool true) (eqI (bV (decide (t ≥ 0))) (by simp; omega)) (wq_p 2 [(8, (iV .i64 t)), (7, (bV true))] (wq_v (some 9) (.bool true) (eqI (bV (decide (t <= 1099511627776))) (by simp; omega)) ?_)))
  refine wq_p 3 [(12, (iV .i64 now)), (11, (bV true)), (10, (bV true))] (wq_v (some 13) (.bool true) (eqI (bV (decide (now ≥ 0))) (by simp; omega)) (wq_p 3 [(16, (iV .i64 now)), (15, (bV true)), (14, (bV true))] (wq_v (some 17) (.bool true) (eqI (bV (decide (now <= 1099511627776))) (by simp; omega)) ?_)))
  refine wq_p 4 [(21, (iV .i64 t)), (20, (iV .i64 now)), (19, (bV true)), (18, (bV true))] (wq_v (some 22) (iV .i64 (now - t)) (exec_sub _ _ _ _ rfl now t (by kernel_rfl) (by kernel_rfl) (now - t) rfl (by omega) (by omega) _) (wq_v (some 23) (.bool true) (eqI (bV (decide (now - t <= 30))) (by simp; omega)) (wq_p 4 [(27, (iV .i64 now)), (26, (iV .i64 t)), (25, (bV true)), (24, (bV true))] ?_)))
  refine wq_v (some 28) (iV .i64 (t - now)) (exec_sub _ _ _ _ rfl t now (by kernel_rfl) (by kernel_rfl) (t - now) rfl (by omega) (by omega) _) (wq_v (some 29) (.bool false) (eqI (bV (decide (t - now <= 30))) (by simp; omega)) (wq_p 2 [(4, (bV false)), (30, (bV false))] ?_))
  refine wl_end rfl (seq_n hK2 (wp_ret ?_))
  refine post_1 rfl (by kernel_rfl) (rtm (bV false)) ?_
  exact ⟨by rw [show nearF now t = false from decide_eq_false (by omega)], h0.below0⟩
 ·
  refine reg_lit ?_
  refine wq_p 1 [(5, (iV .i64 t))] (wq_v (some 6) (.bool true) (eqI (bV (decide (t ≥ 0))) (by simp; omega)) (wq_p 2 [(8, (iV .i64 t)), (7, (bV true))] (wq_v (some 9) (.bool true) (eqI (bV (decide (t <= 1099511627776))) (by simp; omega)) ?_)))
  refine wq_p 3 [(12, (iV .i64 now)), (11, (bV true)), (10, (bV true))] (wq_v (some 13) (.bool true) (eqI (bV (decide (now ≥ 0))) (by simp; omega)) (wq_p 3 [(16, (iV .i64 now)), (15, (bV true)), (14, (bV true))] (wq_v (some 17) (.bool true) (eqI (bV (decide (now <= 1099511627776))) (by simp; omega)) ?_)))
  refine wq_p 4 [(21, (iV .i64 t)), (20, (iV .i64 now)), (19, (bV true)), (18, (bV true))] (wq_v (some 22) (iV .i64 (now - t)) (exec_sub _ _ _ _ rfl now t (by kernel_rfl) (by kernel_rfl) (now - t) rfl (by omega) (by omega) _) (wq_v (some 23) (.bool true) (eqI (bV (decide (now - t <= 30))) (by simp; omega)) (wq_p 4 [(27, (iV .i64 now)), (26, (iV .i64 t)), (25, (bV true)), (24, (bV true))] ?_)))
  refine wq_v (some 28) (iV .i64 (t - now)) (exec_sub _ _ _ _ rfl t now (by kernel_rfl) (by kernel_rfl) (t - now) rfl (by omega) (by omega) _) (wq_v (some 29) (.bool true) (eqI (bV (decide (t - now <= 30))) (by simp; omega)) (wq_p 2 [(4, (bV true)), (30, (bV true))] ?_))
  refine wl_end rfl (seq_n hK2 (wp_ret ?_))
  refine post_1 rfl (by kernel_rfl) (rtm (bV true)) ?_
  exact ⟨by rw [show nearF now t = true from decide_eq_true (by omega)], h0.below0⟩
end
section
open Go.RowKit Go.QT
section
variable {o : Oper} {a : Act} {F0 F : Nat -> Prop} {w0 w w' : World} {ro rs : List Res} {tb : Nat} {s : STab}
theorem x_knew (h : Hp F0 w0 w ro rs) (i : Nat) (hi : rs[i]? = some (rTab F tb s)) (hs : Room 5 s) (hp : pureVal Try.prog (execOp a.eval o) = some (.enter 9 #[.iface 24 (pt tb 0)])) :
   OpTo Try.prog o a w (fun u w' => ∃ kb G bb F' K s', u = pt kb 0 /\ kl K = mkB 107 (s.keys.length + 1) /\ s' = s.add SFrom.fresh /\ Hp F0 w0 w' ro (rBlk kb 73 (kdcC tb bb K) :: rBs G bb [] :: rTab F' tb s' :: rs.eraseIdx i)) :=
 OpTo.enter 9 [.iface 24 (pt tb 0)] hp (knew_any (h.at_ i hi) hs) fun _ _ ⟨kb, G, bb, F', K, he, hK, hh⟩ => ⟨_, he, kb, G, bb, F', K, _, rfl, hK, rfl, h.call1 i hi hh⟩
/-- Enrol. -/
theorem x_enrol {G : Nat -> Prop} {bb : Nat} {us us' : List User} {f : SFrom} {er : Int} (h : Hp F0 w0 w ro rs) (i j : Nat) (hi : rs[i]? = some (rTab F tb s)) (hj : rs[j]? = some (rBs G bb us)) (hij : decide (i ≠ j) = true) (al : List Value) (hp : pureVal Try.prog (execOp a.eval o) = some (.enter 10 al.toArray))
   (hc : Calls Try.prog 10 al.toArray w (fun e w' => e = .returned (.int .i64 er) /\ ∃ F' G', Hp (fun q => F q ∨ G q) w w' [] [rTab F' tb (s.made f), rBs G' bb us'])) :
   OpTo Try.prog o a w (fun u w' => ∃ F' G' s', u = .int .i64 er /\ s' = s.made f /\ Hp F0 w0 w' ro ((rs.set i (rTab F' tb s')).set j (rBs G' bb us'))) :=
 OpTo.enter 10 al hp hc fun _ _ ⟨he, F', G', hh⟩ => ⟨_, he, F', G', _, rfl, rfl, h.upd2 i j hi hj (of_decide_eq_true hij) hh⟩
/-- As, where it refuses. -/
theorem x_asN {s2 : STab} {v : Value} (h : Hp F0 w0 w ro rs) (i : Nat) (hi : rs[i]? = some (rTab F tb s)) (al : List Value) (hp : pureVal Try.prog (execOp a.eval o) = some (.enter 14 al.toArray)) (hc : Calls Try.prog 14 al.toArray w (fun e w' => e = .returned v /\ ∃ F', Hp F w w' [] [rTab F' tb s2])) :
   OpTo Try.prog o a w (fun u w' => ∃ F' s', u = v /\ s' = s2 /\ Hp F0 w0 w' ro (rTab F' tb s' :: rs.eraseIdx i)) :=
 OpTo.enter 14 al hp hc fun _ _ ⟨he, F', hh⟩ => ⟨_, he, F', _, rfl, rfl, h.call1 i hi hh⟩
/-- As, where it gives. -/
theorem x_asY {s2 : STab} {nm : ByteArray} {m1 m2 : Bytes} (h : Hp F0 w0 w ro rs) (i : Nat) (hi : rs[i]? = some (rTab F tb s)) (al : List Value) (hp : pureVal Try.prog (execOp a.eval o) = some (.enter 14 al.toArray))
   (hc : Calls Try.prog 14 al.toArray w (fun e w' => ∃ A1 c1 A2 c2 F', e = .returned (.tuple #[.agg #[.string nm, .string ⟨#[107, 100, 99]⟩, .slice A1 16 c1, .slice A2 16 c2], .int .i64 0]) /\ Hp F w w' [] [rTab F' tb s2, rSB (.slice A1 16 c1) m1, rSB (.slice A2 16 c2) m2])) :
   OpTo Try.prog o a w (fun u w' => ∃ A1 c1 A2 c2 F' s', u = .tuple #[.agg #[.string nm, .string ⟨#[107, 100, 99]⟩, .slice A1 16 c1, .slice A2 16 c2], .int .i64 0] /\ s' = s2 /\ Hp F0 w0 w' ro (rTab F' tb s' :: rSB (.slice A1 16 c1) m1 :: rSB (.slice A2 16 c2) m2 :: rs.eraseIdx i)) :=
 OpTo.enter 14 al hp hc fun _ _ ⟨A1, c1, A2, c2, F', he, hh⟩ => ⟨_, he, A1, c1, A2, c2, F', _, rfl, rfl, h.call1 i hi hh⟩
end
end
section
open Go.Value renaming int -> iV, slice -> lV, string -> sV, bool -> bV, agg -> aV
open Go.RowKit Go.QT
theorem right_ann : rightN ⟨#[97, 110, 110]⟩ = true := by decide +kernel
theorem right_kdc : rightN ⟨#[107, 100, 99]⟩ = true := by decide +kernel
theorem alive14_any (w : World) : Calls Try.prog 7 #[] w (DPost w (.bool true)) := by
 have h0 := Hp.nil (fun _ => False) w
 refine enter 104 Try.func7 rfl rfl ?_
 refine wp_reset 104 [] (fun x0 => ?_)
 refine wp_seq_k fun K1 hK1 => reg_lit ?_
 refine wq_p 1 [(0, (bV false))] ?_
 refine wl_end rfl (seq_n hK1 (wp_seq_k fun K2 hK2 => reg_lit ?_))
 refine wq_to (some 11) (x_snew h0 (by kernel_rfl)) ?_
 rintro _ w3 ⟨tb3, F3, rfl, h3⟩
 refine wq_p 1 [(1, (pt tb3 0))] ?_
 refine wl_end rfl (seq_n hK2 (wp_seq_k fun K4 hK4 => reg_lit ?_))
 refine wq_p 2 [(13, (Value.iface 24 (pt tb3 0))), (12, (pt tb3 0))] ?_
 refine wq_to (some 14) (x_knew h3 0 rfl ((TS.empty.room 9 (by first | decide | simp | omega) (by first | decide | simp | omega)).less (by decide)) (by kernel_rfl)) ?_
 rintro _ w5 ⟨kb5, G5, bb5, F5, K5, s5, rfl, hK5, hs5, h5⟩
 rw [TS.empty.keys] at hK5
 have ht5 : TS s5 1 [] [] := TS.empty.add hs5
 refine wq_p 1 [(2, (pt kb5 0))] ?_
 refine wl_end rfl (seq_n hK4 (wp_seq_k fun K6 hK6 => wp_seq_k fun K7 hK7 => reg_lit ?_))
 refine wq_p 6 [(20, (pt kb5 1)), (19, (pt kb5 0)), (18, (pt kb5 0)), (17, (bV false)), (16, (bV false)), (15, (pt kb5 0))] (wq_v (some 21) (pt bb5 0) (eL (h5.at_ 0 rfl) 71 (.tmp 20) 1 _) (wq_p 4 [(25, (pt kb5 0)), (24, (bV false)), (23, (bV false)), (22, (bV false))] ?_))
 have hnum8 := (ht5.made_new (f := textF (⟨#[112, 119]⟩) (⟨#[97, 110, 110]⟩)) rfl (by simp)).2
 obtain ⟨K8, hK8⟩ := ex_key 2
 refine wq_to (some 26) (x_enrol (us' := [(User.mk (⟨#[97, 110, 110]⟩) K8 60 300 true)]) (f := textF (⟨#[112, 119]⟩) (⟨#[97, 110, 110]⟩)) (er := 0) h5 2 1 rfl rfl rfl [(pt kb5 0), (sV (⟨#[97, 110, 110]⟩)), (sV (⟨#[112, 119]⟩)), (iV .i64 60), (iV .i64 300), (bV true)] (by kernel_rfl) (enrol_ok (h5.at_ 2 rfl) (h5.at_ 1 rfl) (h5.dis 2 1 _ _ rfl rfl (by decide)) ((ht5.room 9 (by first | decide | simp | omega) (by first | decide | simp | omega)).less (by decide)) (h5.at_ 0 rfl) (fun hq => h5.dis 2 0 _ _ rfl rfl (by decide) _ hq rfl) (fun hq => h5.dis 1 0 _ _ rfl rfl (by decide) _ hq rfl) (by first | decide | omega) (by first | decide | omega) K8 (hK8.trans (by rw [hnum8])) (by decide) right_ann (by decide) rfl (by decide) rfl)) ?_
 rintro _ w9 ⟨F9, G9, s9, rfl, hs9, h9⟩
 have hq9 := ht5.made_new hs9 (by simp)
 have ht9 : TS s9 2 [] [(textF (⟨#[112, 119]⟩) (⟨#[97, 110, 110]⟩), 2)] := hq9.1
 refine wq_p 2 [(28, (bV false)), (27, (bV false))] ?_
 refine wl_end rfl (seq_n hK7 (cF (wp_skip (seq_n hK6 (wp_seq_k fun K10 hK10 => reg_lit ?_)))))
 refine wq_p 3 [(32, (pt tb3 0)), (31, (Value.iface 24 (pt tb3 0))), (30, (pt tb3 0))] ?_
 refine wq_to (some 33) (x_text h9 2 rfl (⟨#[112, 119]⟩) (⟨#[97, 110, 110]⟩) (by kernel_rfl) (by first | decide | omega) (by first | decide | omega) (by rw [ht9.keys]; decide)) ?_
 rintro _ w11 ⟨K11, F11, s11, rfl, hK11, hs11, h11⟩
 have hq11 := ht9.made_old (m := 2) hs11 (by simp)
 have ht11 : TS s11 2 [] [(textF (⟨#[112, 119]⟩) (⟨#[97, 110, 110]⟩), 2)] := hq11.1
 rw [hq11.2] at hK11
 obtain rfl : K8 = K11 := kl_inj (hK8.trans hK11.symm)
 refine wq_p 2 [(35, (Value.iface 49 (aV ([(iV .i64 100), (iV .i64 0)]).toArray))), (34, (aV ([(iV .i64 100), (iV .i64 0)]).toArray))] ?_
 obtain ⟨b0, hp0⟩ := pack_stamp (t := 100) (q := 0) rfl rfl
 refine wq_to (some 36) (x_tseal h11 2 rfl K8 1 hp0 (by kernel_rfl) ((ht11.room 9 (by first | decide | simp | omega) (by first | decide | simp | omega)).ok) (rTh_stamp _ 100 0) (fun _ hf => hf.elim) True.intro) ?_
 rintro _ w12 ⟨A12, c12, F12, s12, rfl, hs12, h12⟩
 have hbn12 : s11.boxes.length + 1 = 1 := by rw [ht11.boxes]; rfl
 rw [hbn12] at h12
 have ht12 : TS s12 2 [⟨kl K8, 1, b0⟩] [(textF (⟨#[112, 119]⟩) (⟨#[97, 110, 110]⟩), 2)] := ht11.seal hs12 (pack_le6 hp0)
 refine wq_p 5 [(4, (iV .i64 0)), (3, (lV A12 16 c12)), (38, (iV .i64 0)), (37, (lV A12 16 c12)), (29, (Value.tuple #[(lV A12 16 c12), (iV .i64 0)]))] ?_
 refine wl_end rfl (seq_n hK10 (wp_seq_k fun K13 hK13 => ?_))
 refine wp_reset 104 [(0, (bV false)), (1, (pt tb3 0)), (2, (pt kb5 0)), (3, (lV A12 16 c12)), (28, (bV false))] (fun x14 => ?_)
 refine reg_lit ?_
 refine wq_p 3 [(42, (aV ([(sV (⟨#[97, 110, 110]⟩)), (iV .i64 7), (iV .i64 1000), (lV A12 16 c12)]).toArray)), (41, (lV A12 16 c12)), (40, (pt kb5 0))] ?_
 obtain ⟨Kf, hKf⟩ := ex_key 3
 obtain ⟨b1, hp1⟩ := pack_inside (f := 5) (K := Kf) (s := ⟨#[97, 110, 110]⟩) (a := 110) (u := min 1000 (110 + 60)) (r := 110 + 300) (rightM_is right_ann (by decide)) (by decide)
 obtain ⟨b2, hp2⟩ := pack_reply (f := 5) (K := Kf) (n := 7) (s := ⟨#[107, 100, 99]⟩) (a := 110) (u := min 1000 (110 + 60)) (r := 110 + 300) (rightM_is right_kdc (by decide)) (by decide)
 refine wq_to (some 43) (x_asY (s2 := (((s12.add SFrom.fresh).seal (kl K5) 2 b1).seal (kl K8) 3 b2)) (nm := ⟨#[97, 110, 110]⟩) (m1 := mkB 98 (s12.boxes.length + 1)) (m2 := mkB 98 (s12.boxes.length + 2)) h12 0 rfl [(pt kb5 0), (iV .i64 110), (aV ([(sV (⟨#[97, 110, 110]⟩)), (iV .i64 7), (iV .i64 1000), (lV A12 16 c12)]).toArray)] (by kernel_rfl) (as_ok_r (pre := mkB 98 1) (h12.at_ 0 rfl) (h12.at_ 3 rfl) (h12.dis 0 3 _ _ rfl rfl (by decide)) (ht12.room 9 (by first | decide | simp | omega) (by first | decide | simp | omega)) (h12.at_ 2 rfl) (fun hq => h12.dis 0 2 _ _ rfl rfl (by decide) _ hq rfl) (h12.at_ 1 rfl) (h12.dis 1 0 _ _ rfl rfl (by decide)) (by simp) (u := (User.mk (⟨#[97, 110, 110]⟩) K8 60 300 true)) (place_self rfl).1 (place_self rfl).2 (t := 100) (q := 0) (ht12.opn (i := 0) rfl hp0 (by decide)) rfl (by decide) (by decide) (by simp) (by simp) (show (3 : Nat) <= 1000 from by decide) Kf (hKf.trans (by rw [ht12.keys])) hp1 hp2)) ?_
 rintro _ w15 ⟨A15, c15, B15, d15, F15, s15, rfl, hs15, h15⟩
 have hbn15 : s12.boxes.length = 1 := by rw [ht12.boxes]; rfl
 rw [hbn15] at h15
 have ht15 : TS s15 3 [⟨kl K8, 1, b0⟩, ⟨kl K5, 2, b1⟩, ⟨kl K8, 3, b2⟩] [(textF (⟨#[112, 119]⟩) (⟨#[97, 110, 110]⟩), 2)] := ((ht12.add rfl).seal rfl (pack_le6 hp1)).seal hs15 (pack_le6 hp2)
 refine wq_p 3 [(45, (iV .i64 0)), (44, (aV ([(sV (⟨#[97, 110, 110]⟩)), (sV (⟨#[107, 100, 99]⟩)), (lV A15 16 c15), (lV B15 16 d15)]).toArray)), (39, (Value.tuple #[(aV ([(sV (⟨#[97, 110, 110]⟩)), (sV (⟨#[107, 100, 99]⟩)), (lV A15 16 c15), (lV B15 16 d15)]).toArray), (iV .i64 0)]))] ?_
 refine wq_to (some 5) (xN h15 41 ([(sV ByteArray.empty), (sV ByteArray.empty), (lV none 0 0), (lV none 0 0)])) ?_
 rintro _ w16 ⟨g16, rfl, h16⟩
 refine wq_to none (xSs h16 0 41 (.tmp 5) (.tmp 44) 0 ([(sV (⟨#[97, 110, 110]⟩)), (sV (⟨#[107, 100, 99]⟩)), (lV A15 16 c15), (lV B15 16 d15)]) ([(sV (⟨#[97, 110, 110]⟩)), (sV (⟨#[107, 100, 99]⟩)), (lV A15 16 c15), (lV B15 16 d15)])) ?_
 rintro _ w17 h17
 refine wq_p 1 [(6, (iV .i64 0))] ?_
 refine wl_end rfl (seq_n hK13 (wp_seq_k fun K18 hK18 => reg_lit ?_))
 refine wq_p 3 [(49, (aV ([(sV (⟨#[98, 111, 98]⟩)), (iV .i64 7), (iV .i64 1000), (lV A12 16 c12)]).toArray)), (48, (lV A12 16 c12)), (47, (pt kb5 0))] ?_
 refine wq_to (some 50) (x_asN (s2 := s15) (v := .tuple #[(aV ([(sV ByteArray.empty), (sV ByteArray.empty), (lV none 0 0), (lV none 0 0)]).toArray), .int .i64 9]) h17 1 rfl [(pt kb5 0), (iV .i64 110), (aV ([(sV (⟨#[98, 111, 98]⟩)), (iV .i64 7), (iV .i64 1000), (lV A12 16 c12)]).toArray)] (by kernel_rfl) (as_none (pre := mkB 98 1) (h17.at_ 1 rfl) (h17.at_ 6 rfl) (h17.dis 1 6 _ _ rfl rfl (by decide)) (h17.at_ 5 rfl) (fun hq => h17.dis 1 5 _ _ rfl rfl (by decide) _ hq rfl) (h17.at_ 4 rfl) (h17.dis 4 1 _ _ rfl rfl (by decide)) (by simp) (place_other (show (⟨#[97, 110, 110]⟩ : ByteArray) ≠ ⟨#[98, 111, 98]⟩ from by decide)))) ?_
 rintro _ w19 ⟨F19, s19, rfl, hs19, h19⟩
 have ht19 : TS s19 3 [⟨kl K8, 1, b0⟩, ⟨kl K5, 2, b1⟩, ⟨kl K8, 3, b2⟩] [(textF (⟨#[112, 119]⟩) (⟨#[97, 110, 110]⟩), 2)] := hs19 ▸ ht15
 refine wq_p 3 [(52, (iV .i64 9)), (51, (aV ([(sV ByteArray.empty), (sV ByteArray.empty), (lV none 0 0), (lV none 0 0)]).toArray)), (46, (Value.tuple #[(aV ([(sV ByteArray.empty), (sV ByteArray.empty), (lV none 0 0), (lV none 0 0)]).toArray), (iV .i64 9)]))] ?_
 refine wq_to (some 7) (xN h19 41 ([(sV ByteArray.empty), (sV ByteArray.empty), (lV none 0 0), (lV none 0 0)])) ?_
 rintro _ w20 ⟨g20, rfl, h20⟩
 refine wq_to none (xSs h20 0 41 (.tmp 7) (.tmp 51) 0 ([(sV ByteArray.empty), (sV ByteArray.empty), (lV none 0 0), (lV none 0 0)]) ([(sV ByteArray.empty), (sV ByteArray.empty), (lV none 0 0), (lV none 0 0)])) ?_
 rintro _ w21 h21
 refine wq_p 1 [(8, (iV .i64 9))] ?_
 refine wl_end rfl (seq_n hK18 (wp_seq_k fun K22 hK22 => ?_))
 refine pR_go h21 12 (fun W => (rBlk g16 41 ([(sV (⟨#[97, 110, 110]⟩)), (sV (⟨#[107, 100, 99]⟩)), (lV A15 16 c15), (lV B15 16 d15)])).Φ W /\ True) [(55, [1], 0), (56, [54], 1), (57, [1], 0), (58, [56], 4), (59, [5], 0), (60, [58], 16), (61, [55, 57, 59], 42), (54, [60], 64), (62, [53], 128), (63, [53], 128), (10, [], 0), (0, [9, 61], 1535), (11, [62], 4095)] rfl (fun _ d _ _ _ h => by cases d <;> exact h) ?_
 intro hs23 w23 h23
 refine pR_p 9 [0, 1, 2, 4] [(58, (pt g16 3)), (56, (pt tb3 0)), (55, (Value.iface 24 (pt tb3 0))), (54, (pt tb3 0))] 23 hs23 ⟨h23.at_ 2 rfl, trivial⟩ ?_
 refine pR_v 5 (some 59) (lV B15 16 d15) 55 rfl hs23 ⟨h23.at_ 2 rfl, trivial⟩ (fun W hW => eL hW.1 22 (.tmp 58) 3 _) ?_
 refine pR_or 3 10 hs23 ?_ ?_
 ·
  refine pR_op 3 (some 57) 63 rfl (x_text h23 1 rfl (⟨#[112, 119]⟩) (⟨#[97, 110, 110]⟩) (by kernel_rfl) (by first | decide | omega) (by first | decide | omega) (by rw [ht19.keys]; decide)) ?_
  rintro _ w24 ⟨K24, F24, s24, rfl, hK24, hs24, h24⟩
  refine ⟨fun _ => ⟨h24.at_ 2 rfl, trivial⟩, ?_⟩
  have hq24 := ht19.made_old (m := 2) hs24 (by simp)
  have ht24 : TS s24 3 [⟨kl K8, 1, b0⟩, ⟨kl K5, 2, b1⟩, ⟨kl K8, 3, b2⟩] [(textF (⟨#[112, 119]⟩) (⟨#[97, 110, 110]⟩), 2)] := hq24.1
  rw [hq24.2] at hK24
  obtain rfl : K8 = K24 := kl_inj (hK8.trans hK24.symm)
  refine pR_or 6 10 hs23 ?_ ?_
  ·
   refine pR_op 6 (some 60) 127 rfl (x_oReply h24 1 rfl K8 3 (by kernel_rfl) ((ht24.room 9 (by first | decide | simp | omega) (by first | decide | simp | omega)).ok) (h24.at_ 4 rfl) (r := (.inr (.reply 5 Kf 7 ⟨#[107, 100, 99]⟩ 110 (min 1000 (110 + 60)) (110 + 300)))) (ht24.opn (i := 2) rfl hp2 (by decide))) ?_
   rintro _ w25 ⟨rfl, h25⟩
   refine ⟨fun _ => ⟨h25.at_ 2 rfl, trivial⟩, ?_⟩
   refine pR_p 3 [7, 8, 9] [(62, (iV .i64 0)), (61, (aV ([(iV .i64 5)] ++ vb (kl Kf) ++ [(iV .i64 7), (sV (⟨#[107, 100, 99]⟩)), (iV .i64 110), (iV .i64 170), (iV .i64 410)]).toArray)), (53, (Value.tuple #[(aV ([(iV .i64 5)] ++ vb (kl Kf) ++ [(iV .i64 7), (sV (⟨#[107, 100, 99]⟩)), (iV .i64 110), (iV .i64 170), (iV .i64 410)]).toArray), (iV .i64 0)]))] 1023 hs23 ⟨h25.at_ 2 rfl, trivial⟩ ?_
   refine pR_to 10 (some 9) 2047 rfl hs23 (xN h25 60 ([(iV .i64 0)] ++ vb (List.replicate 16 0) ++ [(iV .i64 0), (sV ByteArray.empty), (iV .i64 0), (iV .i64 0), (iV .i64 0)])) ?_
   rintro _ w26 ⟨g26, rfl, h26⟩
   refine ⟨fun _ => ⟨h26.at_ 3 rfl, trivial⟩, ?_⟩
   refine pR_to 11 none 4095 rfl hs23 (xSs h26 0 60 (.tmp 9) (.tmp 61) 0 ([(iV .i64 5)] ++ vb (kl Kf) ++ [(iV .i64 7), (sV (⟨#[107, 100, 99]⟩)), (iV .i64 110), (iV .i64 170), (iV .i64 410)]) ([(iV .i64 5)] ++ vb (kl Kf) ++ [(iV .i64 7), (sV (⟨#[107, 100, 99]⟩)), (iV .i64 110), (iV .i64 170), (iV .i64 410)])) ?_
   rintro _ w27 h27
   refine ⟨fun _ => ⟨h27.at_ 3 rfl, trivial⟩, ?_⟩
   refine pR_to 12 (some 10) 8191 rfl hs23 (OpTo.run (iV .i64 0) (pureOp_run (by kernel_rfl) _) (R := fun v w => v = (iV .i64 0) /\ w27 = w) ⟨rfl, rfl⟩) ?_
   rintro _ _ ⟨rfl, rfl⟩
   refine ⟨fun h => absurd h (by decide), ?_⟩
   refine pR_done hs23 ?_ _
   refine seq_n hK22 (wp_seq_k fun K28 hK28 => reg_lit ?_)
   refine wq_p 12 [(74, (pt g16 0)), (73, (bV true)), (72, (bV true)), (71, (bV true)), (70, (iV .i64 0)), (69, (bV true)), (68, (bV true)), (67, (bV true)), (66, (iV .i64 9)), (65, (bV true)), (64, (bV true)), (63, (iV .i64 0))] (wq_v (some 75) (sV (⟨#[97, 110, 110]⟩)) (eL (h27.at_ 3 rfl) 9 (.tmp 74) 0 _) (wq_v (some 76) (bV true) (eqI (bV ((⟨#[97, 110, 110]⟩ : ByteArray).toList == (⟨#[97, 110, 110]⟩ : ByteArray).toList)) (by simp)) (wq_p 4 [(80, (pt g16 1)), (79, (pt g16 1)), (78, (bV true)), (77, (bV true))] ?_)))
   refine wq_v (some 81) (sV (⟨#[107, 100, 99]⟩)) (eL (h27.at_ 3 rfl) 9 (.tmp 80) 1 _) (wq_v (some 82) (bV true) (eqI (bV ((⟨#[107, 100, 99]⟩ : ByteArray).toList == (⟨#[107, 100, 99]⟩ : ByteArray).toList)) (by simp)) (wq_p 3 [(85, (pt g26 20)), (84, (bV true)), (83, (bV true))] (wq_v (some 86) (iV .i64 170) (eL (h27.at_ 0 rfl) 2 (.tmp 85) 20 _) ?_)))
   refine wq_p 4 [(90, (pt g26 21)), (89, (bV true)), (88, (bV true)), (87, (bV true))] (wq_v (some 91) (iV .i64 410) (eL (h27.at_ 0 rfl) 2 (.tmp 90) 21 _) (wq_p 4 [(95, (pt g26 17)), (94, (bV true)), (93, (bV true)), (92, (bV true))] (wq_v (some 96) (iV .i64 7) (eL (h27.at_ 0 rfl) 2 (.tmp 95) 17 _) ?_)))
   refine wq_p 4 [(100, (pt g26 0)), (99, (bV true)), (98, (bV true)), (97, (bV true))] (wq_v (some 101) (iV .i64 5) (eL (h27.at_ 0 rfl) 3 (.tmp 100) 0 _) (wq_p 3 [(0, (bV true)), (103, (bV true)), (102, (bV true))] ?_))
   refine wl_end rfl (seq_n hK28 (wp_ret ?_))
   refine post_1 rfl (by kernel_rfl) (rtm (bV true)) ?_
   exact ⟨rfl, h27.below0⟩
  ·
   refine pR_op 10 (some 9) 1087 rfl (xN h24 60 ([(iV .i64 0)] ++ vb (List.replicate 16 0) ++ [(iV .i64 0), (sV ByteArray.empty), (iV .i64 0), (iV .i64 0), (iV .i64 0)])) ?_
   rintro _ w29 ⟨g29, rfl, h29⟩
   refine ⟨fun _ => ⟨h29.at_ 3 rfl, trivial⟩, ?_⟩
   refine pR_to 6 (some 60) 1151 rfl hs23 (x_oReply h29 2 rfl K8 3 (by kernel_rfl) ((ht24.room 9 (by first | decide | simp | omega) (by first | decide | simp | omega)).ok) (h29.at_ 5 rfl) (r := (.inr (.reply 5 Kf 7 ⟨#[107, 100, 99]⟩ 110 (min 1000 (110 + 60)) (110 + 300)))) (ht24.opn (i := 2) rfl hp2 (by decide))) ?_
   rintro _ w30 ⟨rfl, h30⟩
   refine ⟨fun _ => ⟨h30.at_ 3 rfl, trivial⟩, ?_⟩
   refine pR_p 2 [7, 8, 9] [(62, (iV .i64 0)), (61, (aV ([(iV .i64 5)] ++ vb (kl Kf) ++ [(iV .i64 7), (sV (⟨#[107, 100, 99]⟩)), (iV .i64 110), (iV .i64 170), (iV .i64 410)]).toArray)), (53, (Value.tuple #[(aV ([(iV .i64 5)] ++ vb (kl Kf) ++ [(iV .i64 7), (sV (⟨#[107, 100, 99]⟩)), (iV .i64 110), (iV .i64 170), (iV .i64 410)]).toArray), (iV .i64 0)]))] 2047 hs23 ⟨h30.at_ 3 rfl, trivial⟩ ?_
   refine pR_to 11 none 4095 rfl hs23 (xSs h30 0 60 (.tmp 9) (.tmp 61) 0 ([(iV .i64 5)] ++ vb (kl Kf) ++ [(iV .i64 7), (sV (⟨#[107, 100, 99]⟩)), (iV .i64 110), (iV .i64 170), (iV .i64 410)]) ([(iV .i64 5)] ++ vb (kl Kf) ++ [(iV .i64 7), (sV (⟨#[107, 100, 99]⟩)), (iV .i64 110), (iV .i64 170), (iV .i64 410)])) ?_
   rintro _ w31 h31
   refine ⟨fun _ => ⟨h31.at_ 3 rfl, trivial⟩, ?_⟩
   refine pR_to 12 (some 10) 8191 rfl hs23 (OpTo.run (iV .i64 0) (pureOp_run (by kernel_rfl) _) (R := fun v w => v = (iV .i64 0) /\ w31 = w) ⟨rfl, rfl⟩) ?_
   rintro _ _ ⟨rfl, rfl⟩
   refine ⟨fun h => absurd h (by decide), ?_⟩
   refine pR_done hs23 ?_ _
   refine seq_n hK22 (wp_seq_k fun K32 hK32 => reg_lit ?_)
   refine wq_p 12 [(74, (pt g16 0)), (73, (bV true)), (72, (bV true)), (71, (bV true)), (70, (iV .i64 0)), (69, (bV true)), (68, (bV true)), (67, (bV true)), (66, (iV .i64 9)), (65, (bV true)), (64, (bV true)), (63, (iV .i64 0))] (wq_v (some 75) (sV (⟨#[97, 110, 110]⟩)) (eL (h31.at_ 3 rfl) 9 (.tmp 74) 0 _) (wq_v (some 76) (bV true) (eqI (bV ((⟨#[97, 110, 110]⟩ : ByteArray).toList == (⟨#[97, 110, 110]⟩ : ByteArray).toList)) (by simp)) (wq_p 4 [(80, (pt g16 1)), (79, (pt g16 1)), (78, (bV true)), (77, (bV true))] ?_)))
   refine wq_v (some 81) (sV (⟨#[107, 100, 99]⟩)) (eL (h31.at_ 3 rfl) 9 (.tmp 80) 1 _) (wq_v (some 82) (bV true) (eqI (bV ((⟨#[107, 100, 99]⟩ : ByteArray).toList == (⟨#[107, 100, 99]⟩ : ByteArray).toList)) (by simp)) (wq_p 3 [(85, (pt g29 20)), (84, (bV true)), (83, (bV true))] (wq_v (some 86) (iV .i64 170) (eL (h31.at_ 0 rfl) 2 (.tmp 85) 20 _) ?_)))
   refine wq_p 4 [(90, (pt g29 21)), (89, (bV true)), (88, (bV true)), (87, (bV true))] (wq_v (some 91) (iV .i64 410) (eL (h31.at_ 0 rfl) 2 (.tmp 90) 21 _) (wq_p 4 [(95, (pt g29 17)), (94, (bV true)), (93, (bV true)), (92, (bV true))] (wq_v (some 96) (iV .i64 7) (eL (h31.at_ 0 rfl) 2 (.tmp 95) 17 _) ?_)))
   refine wq_p 4 [(100, (pt g29 0)), (99, (bV true)), (98, (bV true)), (97, (bV true))] (wq_v (some 101) (iV .i64 5) (eL (h31.at_ 0 rfl) 3 (.tmp 100) 0 _) (wq_p 3 [(0, (bV true)), (103, (bV true)), (102, (bV true))] ?_))
   refine wl_end rfl (seq_n hK32 (wp_ret ?_))
   refine post_1 rfl (by kernel_rfl) (rtm (bV true)) ?_
   exact ⟨rfl, h31.below0⟩
 ·
  refine pR_op 10 (some 9) 1079 rfl (xN h23 60 ([(iV .i64 0)] ++ vb (List.replicate 16 0) ++ [(iV .i64 0), (sV ByteArray.empty), (iV .i64 0), (iV .i64 0), (iV .i64 0)])) ?_
  rintro _ w33 ⟨g33, rfl, h33⟩
  refine ⟨fun _ => ⟨h33.at_ 3 rfl, trivial⟩, ?_⟩
  refine pR_to 3 (some 57) 1087 rfl hs23 (x_text h33 2 rfl (⟨#[112, 119]⟩) (⟨#[97, 110, 110]⟩) (by kernel_rfl) (by first | decide | omega) (by first | decide | omega) (by rw [ht19.keys]; decide)) ?_
  rintro _ w34 ⟨K34, F34, s34, rfl, hK34, hs34, h34⟩
  refine ⟨fun _ => ⟨h34.at_ 3 rfl, trivial⟩, ?_⟩
  have hq34 := ht19.made_old (m := 2) hs34 (by simp)
  have ht34 : TS s34 3 [⟨kl K8, 1, b0⟩, ⟨kl K5, 2, b1⟩, ⟨kl K8, 3, b2⟩] [(textF (⟨#[112, 119]⟩) (⟨#[97, 110, 110]⟩), 2)] := hq34.1
  rw [hq34.2] at hK34
  obtain rfl : K8 = K34 := kl_inj (hK8.trans hK34.symm)
  refine pR_to 6 (some 60) 1151 rfl hs23 (x_oReply h34 2 rfl K8 3 (by kernel_rfl) ((ht34.room 9 (by first | decide | simp | omega) (by first | decide | simp | omega)).ok) (h34.at_ 5 rfl) (r := (.inr (.reply 5 Kf 7 ⟨#[107, 100, 99]⟩ 110 (min 1000 (110 + 60)) (110 + 300)))) (ht34.opn (i := 2) rfl hp2 (by decide))) ?_
  rintro _ w35 ⟨rfl, h35⟩
  refine ⟨fun _ => ⟨h35.at_ 3 rfl, trivial⟩, ?_⟩
  refine pR_p 2 [7, 8, 9] [(62, (iV .i64 0)), (61, (aV ([(iV .i64 5)] ++ vb (kl Kf) ++ [(iV .i64 7), (sV (⟨#[107, 100, 99]⟩)), (iV .i64 110), (iV .i64 170), (iV .i64 410)]).toArray)), (53, (Value.tuple #[(aV ([(iV .i64 5)] ++ vb (kl Kf) ++ [(iV .i64 7), (sV (⟨#[107, 100, 99]⟩)), (iV .i64 110), (iV .i64 170), (iV .i64 410)]).toArray), (iV .i64 0)]))] 2047 hs23 ⟨h35.at_ 3 rfl, trivial⟩ ?_
  refine pR_to 11 none 4095 rfl hs23 (xSs h35 0 60 (.tmp 9) (.tmp 61) 0 ([(iV .i64 5)] ++ vb (kl Kf) ++ [(iV .i64 7), (sV (⟨#[107, 100, 99]⟩)), (iV .i64 110), (iV .i64 170), (iV .i64 410)]) ([(iV .i64 5)] ++ vb (kl Kf) ++ [(iV .i64 7), (sV (⟨#[107, 100, 99]⟩)), (iV .i64 110), (iV .i64 170), (iV .i64 410)])) ?_
  rintro _ w36 h36
  refine ⟨fun _ => ⟨h36.at_ 3 rfl, trivial⟩, ?_⟩
  refine pR_to 12 (some 10) 8191 rfl hs23 (OpTo.run (iV .i64 0) (pureOp_run (by kernel_rfl) _) (R := fun v w => v = (iV .i64 0) /\ w36 = w) ⟨rfl, rfl⟩) ?_
  rintro _ _ ⟨rfl, rfl⟩
  refine ⟨fun h => absurd h (by decide), ?_⟩
  refine pR_done hs23 ?_ _
  refine seq_n hK22 (wp_seq_k fun K37 hK37 => reg_lit ?_)
  refine wq_p 12 [(74, (pt g16 0)), (73, (bV true)), (72, (bV true)), (71, (bV true)), (70, (iV .i64 0)), (69, (bV true)), (68, (bV true)), (67, (bV true)), (66, (iV .i64 9)), (65, (bV true)), (64, (bV true)), (63, (iV .i64 0))] (wq_v (some 75) (sV (⟨#[97, 110, 110]⟩)) (eL (h36.at_ 3 rfl) 9 (.tmp 74) 0 _) (wq_v (some 76) (bV true) (eqI (bV ((⟨#[97, 110, 110]⟩ : ByteArray).toList == (⟨#[97, 110, 110]⟩ : ByteArray).toList)) (by simp)) (wq_p 4 [(80, (pt g16 1)), (79, (pt g16 1)), (78, (bV true)), (77, (bV true))] ?_)))
  refine wq_v (some 81) (sV (⟨#[107, 100, 99]⟩)) (eL (h36.at_ 3 rfl) 9 (.tmp 80) 1 _) (wq_v (some 82) (bV true) (eqI (bV ((⟨#[107, 100, 99]⟩ : ByteArray).toList == (⟨#[107, 100, 99]⟩ : ByteArray).toList)) (by simp)) (wq_p 3 [(85, (pt g33 20)), (84, (bV true)), (83, (bV true))] (wq_v (some 86) (iV .i64 170) (eL (h36.at_ 0 rfl) 2 (.tmp 85) 20 _) ?_)))
  refine wq_p 4 [(90, (pt g33 21)), (89, (bV true)), (88, (bV true)), (87, (bV true))] (wq_v (some 91) (iV .i64 410) (eL (h36.at_ 0 rfl) 2 (.tmp 90) 21 _) (wq_p 4 [(95, (pt g33 17)), (94, (bV true)), (93, (bV true)), (92, (bV true))] (wq_v (some 96) (iV .i64 7) (eL (h36.at_ 0 rfl) 2 (.tmp 95) 17 _) ?_)))
  refine wq_p 4 [(100, (pt g33 0)), (99, (bV true)), (98, (bV true)), (97, (bV true))] (wq_v (some 101) (iV .i64 5) (eL (h36.at_ 0 rfl) 3 (.tmp 100) 0 _) (wq_p 3 [(0, (bV true)), (103, (bV true)), (102, (bV true))] ?_))
  refine wl_end rfl (seq_n hK37 (wp_ret ?_))
  refine post_1 rfl (by kernel_rfl) (rtm (bV true)) ?_
  exact ⟨rfl, h36.below0⟩
end
section
open Go.RowKit Go.QT
theorem box_inv {s : STab} {k : Bytes} {sl : SSealed} (h : s.box k = some sl) : ∃ i, s.boxes[i]? = some sl /\ k = mkB 98 (i + 1) := by
 unfold STab.box at h
 split at h
 · rename_i kk n hm
   split at h
   · rename_i hc
     obtain ⟨rfl, hn⟩ := hc
     exact ⟨n - 1, h, by rw [show n - 1 + 1 = n from by omega]; exact (markOf_spec hm).2.2.2⟩
   · cases h
 · cases h
theorem unp_mark : ∃ c, unpB (mkB 98 1) = .inl c := by
 have h : (unpB (mkB 98 1)).isLeft = true := by kernel_rfl
 rcases e : unpB (mkB 98 1) with c | t
 · exact ⟨c, rfl⟩
 · rw [e] at h; cases h
theorem bad_pre {s : STab} {n : Nat} {k k' : Bytes} {L b1 : Bytes} {kn : List (SFrom × Nat)} (h : TS s n [⟨k, 1, L⟩, ⟨k, 1, b1⟩] kn) (hp : packB (.plain L) = .inr b1) : ∃ cc : Nat, cc ≠ 0 /\ outStamp (openTh s k' 1 L) = .tuple #[.agg #[.int .i64 0, .int .i64 0], .int .i64 (cc : Int)] := by
 unfold openTh
 split
 · exact ⟨13, by decide, rfl⟩
 · rename_i body ho
   unfold STab.open_ at ho
   obtain ⟨sl, hs, hb⟩ := Option.bind_eq_some_iff.1 ho
   obtain ⟨i, hi, hL⟩ := box_inv hs
   rw [h.boxes] at hi
   have hbody : body = sl.body := by
     split at hb
     · injection hb with hb; exact hb.symm
     · cases hb
   rcases i with _ | _ | i
   · injection hi with hi
     have e : body = mkB 98 1 := hbody.trans ((congrArg SSealed.body hi).symm.trans hL)
     obtain ⟨c, hc⟩ := unp_mark
     rw [e, hc]
     exact ⟨c, unp_er hc, rfl⟩
   · injection hi with hi
     have e : body = b1 := hbody.trans (congrArg SSealed.body hi).symm
     rw [e, unp_pack hp]
     exact ⟨4, by decide, rfl⟩
   · cases hi
theorem bad_ways (now : Int) (L : Bytes) : (∃ c, unpB L = .inl c) ∨ (∃ t, unpB L = .inr t /\ tyTh t ≠ 49) ∨ (∃ t q, unpB L = .inr (.stamp t q) /\ nearF now t = false) ∨ (∃ t q, unpB L = .inr (.stamp t q) /\ nearF now t = true) := by
 rcases h : unpB L with c | t
 · exact .inl ⟨c, rfl⟩
 · refine .inr ?_
   by_cases hty : tyTh t = 49
   · cases t with
     | stamp t q =>
       cases hn : nearF now t
       · exact .inr (.inl ⟨t, q, rfl, hn⟩)
       · exact .inr (.inr ⟨t, q, rfl, hn⟩)
     | ticket => exact absurd (show 39 = 49 from hty) (by decide)
     | inside => exact absurd (show 55 = 49 from hty) (by decide)
     | reply => exact absurd (show 60 = 49 from hty) (by decide)
     | authent => exact absurd (show 141 = 49 from hty) (by decide)
     | fact => exact absurd (show 143 = 49 from hty) (by decide)
     | plain => exact absurd (show 37 = 49 from hty) (by decide)
   · exact .inl ⟨t, rfl, hty⟩
theorem pack_plain {L : Bytes} (h : L.length <= 300) : ∃ b, packB (.plain L) = .inr b := by
 refine ⟨_, pack_is rfl (Nat.le_trans (val_small (n := 310) ?_ (by simp [valL])) (by decide))⟩
 intro v hv
 simp only [valL, List.mem_cons, List.not_mem_nil, or_false] at hv
 subst hv
 have := wr_bD L; omega
theorem rTh_plain {A : Option Addr} {c : Nat} {L : Bytes} {w : World} (h : SB w (.slice A L.length c) L) : (rTh (rSB (.slice A L.length c) L).F (.iface 37 (.agg #[.slice A L.length c])) (.plain L)).Φ w :=
 ⟨(rSB (.slice A L.length c) L).lt h, A, c, rfl, (rSB (.slice A L.length c) L).lt h, h, fun hn _ hq => ⟨hn, hq⟩⟩
end
section
open Go.ChangeShapes Go.WideShapes Go.ChangeAt Go.RowKit
set_option maxRecDepth 100000
variable {H : Type} {enc : TypeId × Value -> H} {w : World} {base : Nat} {spare : Nat -> Bool} {held : Bool}
theorem c22 : Try.prog.cellsOf 31 = 16 := by kernel_rfl
theorem c5 : Try.prog.cellsOf 5 = 1 := by kernel_rfl
end
section
open Go.ChangeShapes Go.WideShapes Go.ChangeAt Go.RowKit
theorem Try.own : ownKnob Try.prog.godebug = none := by kernel_rfl
theorem Try.laidOut : laidOutB Try.prog = true := by kernel_rfl
section
variable {H : Type} {enc : TypeId × Value -> H} {P : Program}
theorem trodAll_stays {W W' : World} {sp' : Nat -> Bool} (hl : laidOutB P = true) : ∀ (ts : List TypeId) (vs : List Value) (ds : List (DataW H)) (ps : List MemPlace),
   (ts.all fun t => P.readableRec t && decide (t < P.types.size)) = true -> DataW.TrodAll enc P W 0 (fun _ => true) true ts vs ds ps ->
   (∀ p ∈ ps, W.sameAt W' p) -> (∀ p ∈ ps, sp' p.block = true) -> DataW.TrodAll enc P W' 0 sp' true ts vs ds ps
 | [], _, _, _, _, h, _, _ => by
   obtain ⟨rfl, rfl, rfl⟩ := trodAll_nil h
   exact rfl
 | t :: ts, _, _, _, ht, h, hs, hsp => by
   obtain ⟨v, vs, d, ds, a, b, rfl, rfl, rfl, h1, h2⟩ := trodAll_cons h
   rw [List.all_cons, Bool.and_eq_true, Bool.and_eq_true, decide_eq_true_eq] at ht
   exact ⟨a, b, WideElems.Trod_stays hl ht.1.1 ht.1.2 h1 (fun p hp => hs p (by simp [hp])) (fun p hp => hsp p (by simp [hp])),
     trodAll_stays hl ts vs ds b ht.2 h2 (fun p hp => hs p (by simp [hp])) (fun p hp => hsp p (by simp [hp])), rfl⟩
theorem post_of_below {f : Func} {s : ChangeSpec} {apart fresh handsOn again : Bool} {W W' : World} {args : Array Value} {v : Value} {ds gs : List (DataW H)} {before pa pv : List MemPlace}
   (hW : DataW.Whole enc P f.params.toList s.vars apart W args.toList ds gs before)
   (hres : ∀ (b : Nat) (sp : Nat -> Bool) (hd : Bool), DataW.TrodAll enc P W' b sp hd f.resultTypes.toList (v.resultList f.resultTypes.size) (s.fn H (ds ++ gs)).results [])
   (hargs : ∀ sp : Nat -> Bool, (∀ p ∈ before, sp p.block = true) -> DataW.TrodAll enc P W' 0 sp true f.params.toList args.toList (s.fn H (ds ++ gs)).args pa)
   (hvars : ∀ sp : Nat -> Bool, (∀ p ∈ before, sp p.block = true) -> DataW.TrodVars enc P W' sp s.vars (s.fn H (ds ++ gs)).vars pv)
   (hps : before = pa ++ pv) (hb : Below W.heap.size W W')
   (hok : ∀ (j : Nat) (t : TypeId) (r : Value), f.resultTypes[j]? = some t -> (v.resultList f.resultTypes.size)[j]? = some r -> Value.okWide P W' .any 0 t r) :
   s.post enc P f apart fresh handsOn again W args v W' := by
 have hlt : ∀ p ∈ before, p.block < W.heap.size := fun p hp => hW.lt p hp
 have hold : ∀ p ∈ before, (fun b => decide (b < W.heap.size)) p.block = true := fun p hp => by simpa using hlt p hp
 refine ⟨ds, gs, before, [], pa, pv, hW, hres _ _ _, hargs _ hold, hvars _ hold, World.keptBut_mono (fun p hp => ⟨hp, ?_⟩) (hb.frame (· ∈ before)), fun _ => ?_⟩
 · rw [hps, List.mem_append] at hp
   exact Or.inr hp
 · obtain ⟨_, _, _, _, _, hz, hn⟩ := hW
   refine ⟨hok, _, _, ([] ++ pa) ++ pv, ⟨[] ++ pa, pv, trodAll_append (hargs _ (fun _ _ => rfl)) (hres _ _ _), hvars _ (fun _ _ => rfl), rfl, ?_, ?_⟩, ?_⟩
   · intro b off hp
     have hin : MemPlace.cell b off ∈ before := by rw [hps]; simpa using hp
     rw [hb.frozen (hlt _ hin)]
     exact hz b off hin
   · intro ha
     have := hn ha
     rw [hps] at this
     simpa using this
   · intro p hp _
     rw [hps]
     simpa using hp
/-- A law's post: it returned true, and what was there is as it was. -/
theorem law_post {f : Func} {s : ChangeSpec} {apart fresh handsOn again : Bool} {W W' : World} {args : Array Value} {ds gs : List (DataW H)} {before : List MemPlace} {tb : TypeId}
   (hl : laidOutB P = true) (hts : (f.params.toList.all fun t => P.readableRec t && decide (t < P.types.size)) = true) (htb : P.underlying tb = some .bool) (hr : f.resultTypes = #[tb]) (hv : s.vars = [])
   (hfn : ∀ ds : List (DataW H), ds.length = f.params.size -> s.fn H ds = ⟨[.lit (.bool true)], ds, []⟩)
   (hW : DataW.Whole enc P f.params.toList s.vars apart W args.toList ds gs before) (hb : Below W.heap.size W W') :
   s.post enc P f apart fresh handsOn again W args (.bool true) W' := by
 have hW' := hW
 have hlt : ∀ p ∈ before, p.block < W.heap.size := fun p hp => hW.lt p hp
 obtain ⟨p, q, hA, hV, rfl, hfz, hnd⟩ := hW
 rw [hv] at hV
 obtain ⟨rfl, rfl⟩ := trodVars_none hV
 have hlen : ds.length = f.params.size := by
   have : ∀ (ts : List TypeId) (vs : List Value) (ds : List (DataW H)) (p : List MemPlace), DataW.TrodAll enc P W 0 (fun _ => true) true ts vs ds p -> ds.length = ts.length := by
     intro ts
     induction ts with
     | nil => intro vs ds p h; obtain ⟨rfl, rfl, rfl⟩ := trodAll_nil h; rfl
     | cons t ts ih =>
       intro vs ds p h
       obtain ⟨v, vs, d, ds, a, b, rfl, rfl, rfl, h1, h2⟩ := trodAll_cons h
       simp [ih _ _ _ h2]
   simpa using this _ _ _ _ hA
 simp only [List.append_nil] at hW' hlt
 have hds : s.fn H (ds ++ []) = ⟨[.lit (.bool true)], ds, []⟩ := by rw [List.append_nil]; exact hfn ds hlen
 refine post_of_below (pa := p) (pv := []) (gs := []) hW' ?_ ?_ ?_ (by simp) hb ?_
 · intro b sp hd
   rw [hds, hr]
   exact trodAll_mk1 (shut_bool htb true)
 · intro sp hsp
   rw [hds]
   exact trodAll_stays hl _ _ _ _ hts hA (fun x hx => hb.same (hlt x hx)) hsp
 · intro sp _
   rw [hds, hv]
   exact rfl
 · exact ok_one hr rfl (okWide_bool_mk htb true)
end
section
variable {H : Type} {enc : TypeId × Value -> H} {w : World} {base : Nat}
/-- A slice of bytes that came in. -/
theorem open_bs {b0 : Nat} {v : Value} {d : DataW H} {p : List MemPlace} {sp : Nat -> Bool} (hv : Value.okWide Try.prog w .any b0 22 v) (h : DataW.Trod enc Try.prog w base sp true 22 v d p) : ∃ l : Bytes, SB w v l := by
 obtain ⟨a1, len, cap, rfl⟩ := okWide_slice Try.underlying22 hv
 obtain ⟨fuel, hf⟩ := h
 rcases open_ints Try.underlying22 Try.underlying5 c5 hf with ⟨hcs, hx⟩ | ⟨a, len', cap', zs, hcs, _, hl, hm, hz, hx, hcell, hwz⟩
 · simp [Value.cells] at hcs
   obtain ⟨rfl, rfl, rfl⟩ := hcs
   exact ⟨[], SB.nil _ _ (Nat.zero_le _) _⟩
 · simp [Value.cells] at hcs
   obtain ⟨rfl, rfl, rfl⟩ := hcs
   have hzl : len <= zs.length := by rw [hz]; split <;> omega
   refine ⟨(zs.take len).map toB, some a, cap, ?_, ?_, hm, ?_⟩
   · simp; omega
   · simp; omega
   intro hne
   have hlen : 0 < len := by
     rcases Nat.eq_zero_or_pos len with h0 | h0
     · subst h0; simp at hne
     · exact h0
   obtain ⟨ab, ao, spot⟩ := a
   have h0 := hcell 0 (by omega)
   have hspot : spot = none := by simpa [Addr.add] using World.cell?_spot h0
   subst hspot
   refine ⟨ab, ao, rfl, ?_, fun i hi => ?_⟩
   · rcases Nat.lt_or_ge ab w.heap.size with h' | h'
     · exact h'
     · rw [Addr.add_lit] at h0
       simp [World.cell?, Array.getElem?_eq_none h'] at h0
   · have hi' : i < len := by simpa [Nat.min_eq_left hzl] using hi
     have hc := hcell i (by omega)
     rw [Addr.add_lit] at hc
     rw [hc]
     have e : zs.getD i 0 = zs[i]'(by omega) := by simp [List.getD, List.getElem?_eq_getElem (show i < zs.length by omega)]
     have hb : 0 <= zs.getD i 0 /\ zs.getD i 0 <= 255 := by rw [List.getD_eq_getElem?_getD]; exact range_u8 hwz i
     have e2 : gb ((zs.take len).map toB) i = toB (zs.getD i 0) := by
       rw [e]
       simp [gb, hi', show i < zs.length by omega]
     rw [e2, ub_u8 (by omega) (by omega)]
end
end
section
open Go.ChangeShapes
variable {H : Type} {enc : TypeId × Value -> H} {P : Program} {w : World} {base : Nat} {spare : Nat -> Bool} {held : Bool}
end
end Go.Proofs.Ytecomegocafocaa
