/- What was written is read as it: plain. -/
import Derived.Test.YtecomegocafocaaCA9
set_option maxRecDepth 100000
set_option maxHeartbeats 4000000
namespace Go.Proofs.Ytecomegocafocaa
section
open Go.Value renaming int -> iV, slice -> lV, string -> sV, bool -> bV, agg -> aV
open Go.RowKit Go.QT
theorem take_any (k t n : Nat) (B A : Option Addr) (m d p c : Nat) (w : World) : Calls Try.prog 60 #[.agg #[.int .i64 (k : Int), .int .i64 (t : Int), .int .u64 (n : Int), .slice B m d, .slice A p c]] w (TakePost w A p c) := by
 have h0 := Hp.nil (fun _ => False) w
 refine enter 6 Try.func60 rfl rfl ?_
 refine wp_reset 7 [(0, (aV ([(D ((k : Int))), (D ((t : Int))), (iV .u64 ((n : Int))), (lV B m d), (lV A p c)]).toArray))] (fun x0 => ?_)
 refine wR fun K1 hK1 => ?_
 refine wT 1 (xN h0 106 ([(D ((k : Int))), (D ((t : Int))), (iV .u64 ((n : Int))), (lV B m d), (lV A p c)])) ?_
 rintro _ w2 ⟨g2, rfl, h2⟩
 refine wq_p 1 [(2, (Value.pointer none))] ?_
 refine wE hK1 (wR fun K3 hK3 => ?_)
 refine wq_p 1 [(3, (pt g2 4))] (wV 4 (lV A p c) (eL (h2.at_ 0 rfl) 104 (.tmp 3) 4 _) (wq_p 1 [(5, (aV ([(lV A p c), V]).toArray))] ?_))
 refine wT 6 (xN h2 175 ([(lV A p c), V])) ?_
 rintro _ w4 ⟨g4, rfl, h4⟩
 refine wq_p 1 [(2, (pt g4 0))] ?_
 refine wE hK3 (wp_ret ?_)
 refine post_1 rfl (by kernel_rfl) (rtm (pt g4 0)) ?_
 exact ⟨_, rfl, h4.sel [0] [] rfl rfl rfl⟩
theorem tag_eq {n k : Nat} (h : n = k) : bV ((n : Int) == (k : Int)) = bV true := by subst h; simp
theorem tag_ne {n k j : Nat} (h : n = k) (hj : k ≠ j) : bV ((n : Int) == (j : Int)) = bV false := by
 subst h; congr 1; rw [beq_eq_false_iff_ne]; omega
theorem tag_none {n j : Nat} (h : n = 0 ∨ 7 < n) (h1 : 1 <= j) (h2 : j <= 7) : bV ((n : Int) == (j : Int)) = bV false := by
 congr 1; rw [beq_eq_false_iff_ne]; omega
theorem of_no {v : DVal} {t : Thing} {T : TkSt} (h : ofTag v.tag (v.l, false) = some (t, T)) (hn : ¬ (v.kind = 2 /\ doneO T = true)) : ofF v = none := by
 unfold ofF; rw [h]; exact if_neg hn
theorem of_yes {v : DVal} {t : Thing} {T : TkSt} (h : ofTag v.tag (v.l, false) = some (t, T)) (hk : v.kind = 2) (hd : doneO T = true) : ofF v = some t := by
 unfold ofF; rw [h]; exact if_pos ⟨hk, hd⟩
theorem ofpost_no {w w' : World} {G : Nat -> Prop} {r : Option Thing} (hr : r = none) (hb : Below w.heap.size w w') : OfPost w G r (.returned (.tuple #[.nilIface, .bool false])) w' := by
 subst hr; exact ⟨hb, rfl⟩
theorem ofpost_yes {w w' : World} {G : Nat -> Prop} {r : Option Thing} {t : Thing} {u : Value} (hr : r = some t) (hu : ThR G w' u t) (hb : Below w.heap.size w w') : OfPost w G r (.returned (.tuple #[u, .bool true])) w' := by
 subst hr; exact ⟨hb, u, rfl, hu⟩
theorem ofTag_none {t : Nat} (h : t = 0 ∨ 7 < t) (T : TkSt) : ofTag t T = none := by
 unfold ofTag
 split <;> first | omega | rfl
theorem of_cases (k : Nat) (b : Bool) : k ≠ 2 ∨ (k = 2 /\ b = false) ∨ (k = 2 /\ b = true) := by
 cases b <;> simp <;> omega
theorem of_stamp {G : Nat -> Prop} {B A : Option Addr} {d c : Nat} {v : DVal} {w : World} (hsm : Sm v.l) (hL : (rLst G A c v.l).Φ w) (ht : v.tag = 5) : Calls Try.prog 42 #[.agg #[.int .i64 (v.kind : Int), .int .i64 (v.tag : Int), .int .u64 (v.n : Int), .slice B v.b.length d, .slice A v.l.length c]] w (OfPost w G (ofF v)) := by
 have h0 := Hp.ro1 (rLst G A c v.l) hL
 refine enter 104 Try.func42 rfl rfl ?_
 refine wp_reset 105 [(0, (aV ([(D ((v.kind : Int))), (D ((v.tag : Int))), (iV .u64 ((v.n : Int))), (lV B v.b.length d), (lV A v.l.length c)]).toArray))] (fun x0 => ?_)
 refine wR fun K1 hK1 => ?_
 refine wT 1 (xN h0 106 ([(D ((v.kind : Int))), (D ((v.tag : Int))), (iV .u64 ((v.n : Int))), (lV B v.b.length d), (lV A v.l.length c)])) ?_
 rintro _ w2 ⟨g2, rfl, h2⟩
 refine wq_p 2 [(3, V), (2, Value.nilIface)] ?_
 refine wE hK1 (wR fun K3 hK3 => ?_)
 refine wV 6 (aV ([(D ((v.kind : Int))), (D ((v.tag : Int))), (iV .u64 ((v.n : Int))), (lV B v.b.length d), (lV A v.l.length c)]).toArray) (eLs (h2.at_ 0 rfl) 106 (.tmp 1) 0 ([(D ((v.kind : Int))), (D ((v.tag : Int))), (iV .u64 ((v.n : Int))), (lV B v.b.length d), (lV A v.l.length c)])) ?_
 refine wT 7 (x_take h2 [(aV ([(D ((v.kind : Int))), (D ((v.tag : Int))), (iV .u64 ((v.n : Int))), (lV B v.b.length d), (lV A v.l.length c)]).toArray)] (by kernel_rfl) (take_any v.kind v.tag v.n B A v.b.length d v.l.length c _)) ?_
 rintro _ w4 ⟨tb, rfl, h4⟩
 obtain ⟨T0, hT0⟩ : ∃ T, T = ((v.l, false) : TkSt) := ⟨_, rfl⟩
 have e1 : v.l = T0.1 := by rw [hT0]
 have e2 : false = T0.2 := by rw [hT0]
 have hsm0 : Sm T0.1 := by rw [← e1]; exact hsm
 have h5 := h4.below (Below.refl _ _)
 rw [e1, e2] at h5
 refine wq_p 1 [(4, (pt tb 0))] ?_
 refine wE hK3 (wR fun K6 hK6 => ?_)
 refine wq_p 1 [(5, Value.nilIface)] ?_
 refine wE hK6 (wp_seq_k fun K7 hK7 => wR fun K8 hK8 => ?_)
 refine wq_p 1 [(8, (pt g2 1))] (wV 9 (D ((v.tag : Int))) (eL (h5.at_ 1 rfl) 3 (.tmp 8) 1 _) ?_)
 refine wE hK8 (wp_block (wR fun K9 hK9 => ?_))
 refine wV 11 V (eqI (bV (((v.tag : Int)) == 1)) (tag_ne ht (by decide))) (wq_p 1 [(10, V)] ?_)
 refine wE hK9 (cF (wR fun K10 hK10 => ?_))
 refine wV 19 V (eqI (bV (((v.tag : Int)) == 2)) (tag_ne ht (by decide))) (wq_p 1 [(18, V)] ?_)
 refine wE hK10 (cF (wR fun K11 hK11 => ?_))
 refine wV 35 V (eqI (bV (((v.tag : Int)) == 3)) (tag_ne ht (by decide))) (wq_p 1 [(34, V)] ?_)
 refine wE hK11 (cF (wp_seq_k fun K12 hK12 => ?_))
 refine wp_reset 105 [(1, (pt g2 0)), (2, Value.nilIface), (3, V), (4, (pt tb 0)), (5, Value.nilIface), (9, (D ((v.tag : Int))))] (fun x13 => ?_)
 refine reg_lit ?_
 refine wV 53 V (eqI (bV (((v.tag : Int)) == 4)) (tag_ne ht (by decide))) (wq_p 1 [(52, V)] ?_)
 refine wE hK12 (cF (wR fun K14 hK14 => ?_))
 refine wV 67 I (eqI (bV (((v.tag : Int)) == 5)) (tag_eq ht)) (wq_p 1 [(66, I)] ?_)
 refine wE hK14 (cT (reg_lit ?_))
 refine wq_p 1 [(68, (pt tb 0))] ?_
 refine wT 69 (x_tkT h5 0 rfl 0 rfl (T := T0) (T1 := numT T0) (u := .int .i64 (numO T0)) 63 [(pt tb 0)] (by kernel_rfl) (tkNum_any (h5.rd 0 rfl) (h5.at_ 0 rfl) (h5.offTk 0 0 rfl rfl))) ?_
 rintro _ w15 ⟨A15, c15, T15, hT15, rfl, h15⟩
 have hsm15 : Sm T15.1 := by rw [hT15]; exact Sm.nxT (T := T0) hsm0 0
 refine wq_p 1 [(70, (pt tb 0))] ?_
 refine wT 71 (x_tkT h15 0 rfl 0 rfl (T := T15) (T1 := numT T15) (u := .int .i64 (numO T15)) 63 [(pt tb 0)] (by kernel_rfl) (tkNum_any (h15.rd 0 rfl) (h15.at_ 0 rfl) (h15.offTk 0 0 rfl rfl))) ?_
 rintro _ w16 ⟨A16, c16, T16, hT16, rfl, h16⟩
 have hsm16 : Sm T16.1 := by rw [hT16]; exact Sm.nxT (T := T15) hsm15 0
 refine wq_p 3 [(5, (Value.iface 49 (aV ([(D (numO T0)), (D (numO T15))]).toArray))), (73, (Value.iface 49 (aV ([(D (numO T0)), (D (numO T15))]).toArray))), (72, (aV ([(D (numO T0)), (D (numO T15))]).toArray))] ?_
 refine wl_end rfl (blk_n (seq_n hK7 (wp_seq_k fun K17 hK17 => wp_seq_k fun K18 hK18 => ?_)))
 obtain hk | ⟨hk, hdn⟩ | ⟨hk, hdn⟩ : v.kind ≠ 2 ∨ (v.kind = 2 /\ doneO T16 = false) ∨ (v.kind = 2 /\ doneO T16 = true) := of_cases _ _
 ·
  refine reg_lit ?_
  refine wq_p 1 [(92, (pt g2 0))] (wV 93 (D ((v.kind : Int))) (eL (h16.at_ 1 rfl) 3 (.tmp 92) 0 _) (wV 94 I (eqI (bV (((v.kind : Int)) != 2)) (ine (b := 2) hk)) (wq_p 2 [(96, undef), (95, I)] ?_)))
  refine wq_p 1 [(97, undef)] (wq_p 4 [(101, undef), (100, undef), (99, I), (98, I)] (wq_p 1 [(102, undef)] (wq_p 1 [(103, I)] ?_)))
  refine wE hK18 (cT (wR fun K20 hK20 => ?_))
  refine wq_p 2 [(3, V), (2, Value.nilIface)] ?_
  refine wE hK20 (wp_ret (seq_r ?_))
  refine post_2 rfl (by kernel_rfl) (rtm Value.nilIface) (rtm V) ?_
  exact ofpost_no (of_no (by rw [ht]; subst hT0 hT15 hT16; rfl : ofTag v.tag (v.l, false) = some (Thing.stamp (numO T0) (numO T15), T16)) (by rintro ⟨h1, h2⟩; first | exact hk h1 | (rw [hdn] at h2; cases h2))) h16.below0
 ·
  refine reg_lit ?_
  refine wq_p 1 [(92, (pt g2 0))] (wV 93 (D ((v.kind : Int))) (eL (h16.at_ 1 rfl) 3 (.tmp 92) 0 _) (wV 94 V (eqI (bV (((v.kind : Int)) != 2)) (ieq (b := 2) hk)) (wq_p 2 [(96, (Value.iface 49 (aV ([(D (numO T0)), (D (numO T15))]).toArray))), (95, V)] ?_)))
  refine wV 97 V (pureOp_run (by kernel_rfl) _) (wq_p 3 [(100, (pt tb 0)), (99, V), (98, V)] ?_)
  refine wT 101 (x_dp h16 66 [(pt tb 0)] (by kernel_rfl) (tkDone_any (bad := T16.2) (ts := T16.1) (h16.at_ 0 rfl))) ?_
  rintro _ w21 ⟨rfl, h21⟩
  refine wV 102 I (eqI (bV (!(doneO T16))) (congrArg bV (by rw [hdn]; rfl))) (wq_p 1 [(103, I)] ?_)
  refine wE hK18 (cT (wR fun K22 hK22 => ?_))
  refine wq_p 2 [(3, V), (2, Value.nilIface)] ?_
  refine wE hK22 (wp_ret (seq_r ?_))
  refine post_2 rfl (by kernel_rfl) (rtm Value.nilIface) (rtm V) ?_
  exact ofpost_no (of_no (by rw [ht]; subst hT0 hT15 hT16; rfl : ofTag v.tag (v.l, false) = some (Thing.stamp (numO T0) (numO T15), T16)) (by rintro ⟨h1, h2⟩; first | exact hk h1 | (rw [hdn] at h2; cases h2))) h21.below0
 ·
  refine reg_lit ?_
  refine wq_p 1 [(92, (pt g2 0))] (wV 93 (D ((v.kind : Int))) (eL (h16.at_ 1 rfl) 3 (.tmp 92) 0 _) (wV 94 V (eqI (bV (((v.kind : Int)) != 2)) (ieq (b := 2) hk)) (wq_p 2 [(96, (Value.iface 49 (aV ([(D (numO T0)), (D (numO T15))]).toArray))), (95, V)] ?_)))
  refine wV 97 V (pureOp_run (by kernel_rfl) _) (wq_p 3 [(100, (pt tb 0)), (99, V), (98, V)] ?_)
  refine wT 101 (x_dp h16 66 [(pt tb 0)] (by kernel_rfl) (tkDone_any (bad := T16.2) (ts := T16.1) (h16.at_ 0 rfl))) ?_
  rintro _ w23 ⟨rfl, h23⟩
  refine wV 102 V (eqI (bV (!(doneO T16))) (congrArg bV (by rw [hdn]; rfl))) (wq_p 1 [(103, V)] ?_)
  refine wE hK18 (cF (wp_skip (seq_n hK17 (wR fun K24 hK24 => ?_))))
  refine wq_p 3 [(3, I), (2, (Value.iface 49 (aV ([(D (numO T0)), (D (numO T15))]).toArray))), (104, (Value.iface 49 (aV ([(D (numO T0)), (D (numO T15))]).toArray)))] ?_
  refine wE hK24 (wp_ret ?_)
  refine post_2 rfl (by kernel_rfl) (rtm (Value.iface 49 (aV ([(D (numO T0)), (D (numO T15))]).toArray))) (rtm I) ?_
  exact ofpost_yes (of_yes (by rw [ht]; subst hT0 hT15 hT16; rfl : ofTag v.tag (v.l, false) = some (Thing.stamp (numO T0) (numO T15), T16)) hk hdn) (show ThR G _ _ (Thing.stamp (numO T0) (numO T15)) from rfl) h23.below0
theorem of_ticket {G : Nat -> Prop} {B A : Option Addr} {d c : Nat} {v : DVal} {w : World} (hsm : Sm v.l) (hL : (rLst G A c v.l).Φ w) (ht : v.tag = 1) : Calls Try.prog 42 #[.agg #[.int .i64 (v.kind : Int), .int .i64 (v.tag : Int), .int .u64 (v.n : Int), .slice B v.b.length d, .slice A v.l.length c]] w (OfPost w G (ofF v)) := by
 have h0 := Hp.ro1 (rLst G A c v.l) hL
 refine enter 104 Try.func42 rfl rfl ?_
 refine wp_reset 105 [(0, (aV ([(D ((v.kind : Int))), (D ((v.tag : Int))), (iV .u64 ((v.n : Int))), (lV B v.b.length d), (lV A v.l.length c)]).toArray))] (fun x0 => ?_)
 refine wR fun K1 hK1 => ?_
 refine wT 1 (xN h0 106 ([(D ((v.kind : Int))), (D ((v.tag : Int))), (iV .u64 ((v.n : Int))), (lV B v.b.length d), (lV A v.l.length c)])) ?_
 rintro _ w2 ⟨g2, rfl, h2⟩
 refine wq_p 2 [(3, V), (2, Value.nilIface)] ?_
 refine wE hK1 (wR fun K3 hK3 => ?_)
 refine wV 6 (aV ([(D ((v.kind : Int))), (D ((v.tag : Int))), (iV .u64 ((v.n : Int))), (lV B v.b.length d), (lV A v.l.length c)]).toArray) (eLs (h2.at_ 0 rfl) 106 (.tmp 1) 0 ([(D ((v.kind : Int))), (D ((v.tag : Int))), (iV .u64 ((v.n : Int))), (lV B v.b.length d), (lV A v.l.length c)])) ?_
 refine wT 7 (x_take h2 [(aV ([(D ((v.kind : Int))), (D ((v.tag : Int))), (iV .u64 ((v.n : Int))), (lV B v.b.length d), (lV A v.l.length c)]).toArray)] (by kernel_rfl) (take_any v.kind v.tag v.n B A v.b.length d v.l.length c _)) ?_
 rintro _ w4 ⟨tb, rfl, h4⟩
 obtain ⟨T0, hT0⟩ : ∃ T, T = ((v.l, false) : TkSt) := ⟨_, rfl⟩
 have e1 : v.l = T0.1 := by rw [hT0]
 have e2 : false = T0.2 := by rw [hT0]
 have hsm0 : Sm T0.1 := by rw [← e1]; exact hsm
 have h5 := h4.below (Below.refl _ _)
 rw [e1, e2] at h5
 refine wq_p 1 [(4, (pt tb 0))] ?_
 refine wE hK3 (wR fun K6 hK6 => ?_)
 refine wq_p 1 [(5, Value.nilIface)] ?_
 refine wE hK6 (wp_seq_k fun K7 hK7 => wR fun K8 hK8 => ?_)
 refine wq_p 1 [(8, (pt g2 1))] (wV 9 (D ((v.tag : Int))) (eL (h5.at_ 1 rfl) 3 (.tmp 8) 1 _) ?_)
 refine wE hK8 (wp_block (wR fun K9 hK9 => ?_))
 refine wV 11 I (eqI (bV (((v.tag : Int)) == 1)) (tag_eq ht)) (wq_p 1 [(10, I)] ?_)
 refine wE hK9 (cT (reg_lit ?_))
 refine wq_p 1 [(12, (pt tb 0))] ?_
 refine wT 13 (x_tkT h5 0 rfl 0 rfl (T := T0) (T1 := nameT T0) (u := .string (nameO T0)) 61 [(pt tb 0)] (by kernel_rfl) (tkName_any (h5.rd 0 rfl) (h5.at_ 0 rfl) (h5.offTk 0 0 rfl rfl) hsm0)) ?_
 rintro _ w10 ⟨A10, c10, T10, hT10, rfl, h10⟩
 have hsm10 : Sm T10.1 := by rw [hT10]; exact Sm.nxT (T := T0) hsm0 1
 refine wq_p 1 [(14, (pt tb 0))] ?_
 refine wT 15 (x_bkT h10 0 rfl 0 rfl (T := T10) (T1 := bytesT T10) (l := bytesO T10) 62 [(pt tb 0)] (by kernel_rfl) (tkBytes_any (h10.rd 0 rfl) (h10.at_ 0 rfl) (h10.offTk 0 0 rfl rfl))) ?_
 rintro _ w11 ⟨A11, c11, T11, B11, d11, hT11, rfl, h11⟩
 have hsm11 : Sm T11.1 := by rw [hT11]; exact Sm.nxT (T := T10) hsm10 1
 refine wq_p 3 [(5, (Value.iface 39 (aV ([(sV (nameO T0)), (lV B11 ((bytesO T10).length) d11)]).toArray))), (17, (Value.iface 39 (aV ([(sV (nameO T0)), (lV B11 ((bytesO T10).length) d11)]).toArray))), (16, (aV ([(sV (nameO T0)), (lV B11 ((bytesO T10).length) d11)]).toArray))] ?_
 refine wl_end rfl (blk_n (seq_n hK7 (wp_seq_k fun K12 hK12 => wp_seq_k fun K13 hK13 => ?_)))
 obtain hk | ⟨hk, hdn⟩ | ⟨hk, hdn⟩ : v.kind ≠ 2 ∨ (v.kind = 2 /\ doneO T11 = false) ∨ (v.kind = 2 /\ doneO T11 = true) := of_cases _ _
 ·
  refine wp_reset 105 [(1, (pt g2 0)), (2, Value.nilIface), (3, V), (4, (pt tb 0)), (5, (Value.iface 39 (aV ([(sV (nameO T0)), (lV B11 ((bytesO T10).length) d11)]).toArray)))] (fun x15 => ?_)
  refine reg_lit ?_
  refine wq_p 1 [(92, (pt g2 0))] (wV 93 (D ((v.kind : Int))) (eL (h11.at_ 1 rfl) 3 (.tmp 92) 0 _) (wV 94 I (eqI (bV (((v.kind : Int)) != 2)) (ine (b := 2) hk)) (wq_p 2 [(96, undef), (95, I)] ?_)))
  refine wq_p 1 [(97, undef)] (wq_p 4 [(101, undef), (100, undef), (99, I), (98, I)] (wq_p 1 [(102, undef)] (wq_p 1 [(103, I)] ?_)))
  refine wE hK13 (cT (wR fun K16 hK16 => ?_))
  refine wq_p 2 [(3, V), (2, Value.nilIface)] ?_
  refine wE hK16 (wp_ret (seq_r ?_))
  refine post_2 rfl (by kernel_rfl) (rtm Value.nilIface) (rtm V) ?_
  exact ofpost_no (of_no (by rw [ht]; subst hT0 hT10 hT11; rfl : ofTag v.tag (v.l, false) = some (Thing.ticket (nameO T0) (bytesO T10), T11)) (by rintro ⟨h1, h2⟩; first | exact hk h1 | (rw [hdn] at h2; cases h2))) h11.below0
 ·
  refine wp_reset 105 [(1, (pt g2 0)), (2, Value.nilIface), (3, V), (4, (pt tb 0)), (5, (Value.iface 39 (aV ([(sV (nameO T0)), (lV B11 ((bytesO T10).length) d11)]).toArray)))] (fun x17 => ?_)
  refine reg_lit ?_
  refine wq_p 1 [(92, (pt g2 0))] (wV 93 (D ((v.kind : Int))) (eL (h11.at_ 1 rfl) 3 (.tmp 92) 0 _) (wV 94 V (eqI (bV (((v.kind : Int)) != 2)) (ieq (b := 2) hk)) (wq_p 2 [(96, (Value.iface 39 (aV ([(sV (nameO T0)), (lV B11 ((bytesO T10).length) d11)]).toArray))), (95, V)] ?_)))
  refine wV 97 V (pureOp_run (by kernel_rfl) _) (wq_p 3 [(100, (pt tb 0)), (99, V), (98, V)] ?_)
  refine wT 101 (x_dp h11 66 [(pt tb 0)] (by kernel_rfl) (tkDone_any (bad := T11.2) (ts := T11.1) (h11.at_ 0 rfl))) ?_
  rintro _ w18 ⟨rfl, h18⟩
  refine wV 102 I (eqI (bV (!(doneO T11))) (congrArg bV (by rw [hdn]; rfl))) (wq_p 1 [(103, I)] ?_)
  refine wE hK13 (cT (wR fun K19 hK19 => ?_))
  refine wq_p 2 [(3, V), (2, Value.nilIface)] ?_
  refine wE hK19 (wp_ret (seq_r ?_))
  refine post_2 rfl (by kernel_rfl) (rtm Value.nilIface) (rtm V) ?_
  exact ofpost_no (of_no (by rw [ht]; subst hT0 hT10 hT11; rfl : ofTag v.tag (v.l, false) = some (Thing.ticket (nameO T0) (bytesO T10), T11)) (by rintro ⟨h1, h2⟩; first | exact hk h1 | (rw [hdn] at h2; cases h2))) h18.below0
 ·
  refine wp_reset 105 [(1, (pt g2 0)), (2, Value.nilIface), (3, V), (4, (pt tb 0)), (5, (Value.iface 39 (aV ([(sV (nameO T0)), (lV B11 ((bytesO T10).length) d11)]).toArray)))] (fun x20 => ?_)
  refine reg_lit ?_
  refine wq_p 1 [(92, (pt g2 0))] (wV 93 (D ((v.kind : Int))) (eL (h11.at_ 1 rfl) 3 (.tmp 92) 0 _) (wV 94 V (eqI (bV (((v.kind : Int)) != 2)) (ieq (b := 2) hk)) (wq_p 2 [(96, (Value.iface 39 (aV ([(sV (nameO T0)), (lV B11 ((bytesO T10).length) d11)]).toArray))), (95, V)] ?_)))
  refine wV 97 V (pureOp_run (by kernel_rfl) _) (wq_p 3 [(100, (pt tb 0)), (99, V), (98, V)] ?_)
  refine wT 101 (x_dp h11 66 [(pt tb 0)] (by kernel_rfl) (tkDone_any (bad := T11.2) (ts := T11.1) (h11.at_ 0 rfl))) ?_
  rintro _ w21 ⟨rfl, h21⟩
  refine wV 102 V (eqI (bV (!(doneO T11))) (congrArg bV (by rw [hdn]; rfl))) (wq_p 1 [(103, V)] ?_)
  refine wE hK13 (cF (wp_skip (seq_n hK12 (wR fun K22 hK22 => ?_))))
  refine wq_p 3 [(3, I), (2, (Value.iface 39 (aV ([(sV (nameO T0)), (lV B11 ((bytesO T10).length) d11)]).toArray))), (104, (Value.iface 39 (aV ([(sV (nameO T0)), (lV B11 ((bytesO T10).length) d11)]).toArray)))] ?_
  refine wE hK22 (wp_ret ?_)
  refine post_2 rfl (by kernel_rfl) (rtm (Value.iface 39 (aV ([(sV (nameO T0)), (lV B11 ((bytesO T10).length) d11)]).toArray))) (rtm I) ?_
  exact ofpost_yes (of_yes (by rw [ht]; subst hT0 hT10 hT11; rfl : ofTag v.tag (v.l, false) = some (Thing.ticket (nameO T0) (bytesO T10), T11)) hk hdn) (show ThR G _ _ (Thing.ticket (nameO T0) (bytesO T10)) from ⟨_, _, rfl, h21.rd 1 rfl⟩) h21.below0
theorem of_inside {G : Nat -> Prop} {B A : Option Addr} {d c : Nat} {v : DVal} {w : World} (hsm : Sm v.l) (hL : (rLst G A c v.l).Φ w) (ht : v.tag = 2) : Calls Try.prog 42 #[.agg #[.int .i64 (v.kind : Int), .int .i64 (v.tag : Int), .int .u64 (v.n : Int), .slice B v.b.length d, .slice A v.l.length c]] w (OfPost w G (ofF v)) := by
 have h0 := Hp.ro1 (rLst G A c v.l) hL
 refine enter 104 Try.func42 rfl rfl ?_
 refine wp_reset 105 [(0, (aV ([(D ((v.kind : Int))), (D ((v.tag : Int))), (iV .u64 ((v.n : Int))), (lV B v.b.length d), (lV A v.l.length c)]).toArray))] (fun x0 => ?_)
 refine wR fun K1 hK1 => ?_
 refine wT 1 (xN h0 106 ([(D ((v.kind : Int))), (D ((v.tag : Int))), (iV .u64 ((v.n : Int))), (lV B v.b.length d), (lV A v.l.length c)])) ?_
 rintro _ w2 ⟨g2, rfl, h2⟩
 refine wq_p 2 [(3, V), (2, Value.nilIface)] ?_
 refine wE hK1 (wR fun K3 hK3 => ?_)
 refine wV 6 (aV ([(D ((v.kind : Int))), (D ((v.tag : Int))), (iV .u64 ((v.n : Int))), (lV B v.b.length d), (lV A v.l.length c)]).toArray) (eLs (h2.at_ 0 rfl) 106 (.tmp 1) 0 ([(D ((v.kind : Int))), (D ((v.tag : Int))), (iV .u64 ((v.n : Int))), (lV B v.b.length d), (lV A v.l.length c)])) ?_
 refine wT 7 (x_take h2 [(aV ([(D ((v.kind : Int))), (D ((v.tag : Int))), (iV .u64 ((v.n : Int))), (lV B v.b.length d), (lV A v.l.length c)]).toArray)] (by kernel_rfl) (take_any v.kind v.tag v.n B A v.b.length d v.l.length c _)) ?_
 rintro _ w4 ⟨tb, rfl, h4⟩
 obtain ⟨T0, hT0⟩ : ∃ T, T = ((v.l, false) : TkSt) := ⟨_, rfl⟩
 have e1 : v.l = T0.1 := by rw [hT0]
 have e2 : false = T0.2 := by rw [hT0]
 have hsm0 : Sm T0.1 := by rw [← e1]; exact hsm
 have h5 := h4.below (Below.refl _ _)
 rw [e1, e2] at h5
 refine wq_p 1 [(4, (pt tb 0))] ?_
 refine wE hK3 (wR fun K6 hK6 => ?_)
 refine wq_p 1 [(5, Value.nilIface)] ?_
 refine wE hK6 (wp_seq_k fun K7 hK7 => wR fun K8 hK8 => ?_)
 refine wq_p 1 [(8, (pt g2 1))] (wV 9 (D ((v.tag : Int))) (eL (h5.at_ 1 rfl) 3 (.tmp 8) 1 _) ?_)
 refine wE hK8 (wp_block (wR fun K9 hK9 => ?_))
 refine wV 11 V (eqI (bV (((v.tag : Int)) == 1)) (tag_ne ht (by decide))) (wq_p 1 [(10, V)] ?_)
 refine wE hK9 (cF (wR fun K10 hK10 => ?_))
 refine wV 19 I (eqI (bV (((v.tag : Int)) == 2)) (tag_eq ht)) (wq_p 1 [(18, I)] ?_)
 refine wE hK10 (cT (reg_lit ?_))
 refine wq_p 1 [(20, (pt tb 0))] ?_
 refine wT 21 (x_tkT h5 0 rfl 0 rfl (T := T0) (T1 := numT T0) (u := .int .i64 (numO T0)) 63 [(pt tb 0)] (by kernel_rfl) (tkNum_any (h5.rd 0 rfl) (h5.at_ 0 rfl) (h5.offTk 0 0 rfl rfl))) ?_
 rintro _ w11 ⟨A11, c11, T11, hT11, rfl, h11⟩
 have hsm11 : Sm T11.1 := by rw [hT11]; exact Sm.nxT (T := T0) hsm0 0
 refine wq_p 1 [(22, (pt tb 0))] ?_
 refine wT 23 (x_tkT h11 0 rfl 0 rfl (T := T11) (T1 := keyT T11) (u := .agg (vb (kl (keyO T11))).toArray) 64 [(pt tb 0)] (by kernel_rfl) (tkKey_any (h11.rd 0 rfl) (h11.at_ 0 rfl) (h11.offTk 0 0 rfl rfl))) ?_
 rintro _ w12 ⟨A12, c12, T12, hT12, rfl, h12⟩
 have hsm12 : Sm T12.1 := by rw [hT12]; exact Sm.nxT (T := T11) hsm11 1
 refine wq_p 1 [(24, (pt tb 0))] ?_
 refine wT 25 (x_tkT h12 0 rfl 0 rfl (T := T12) (T1 := nameT T12) (u := .string (nameO T12)) 61 [(pt tb 0)] (by kernel_rfl) (tkName_any (h12.rd 0 rfl) (h12.at_ 0 rfl) (h12.offTk 0 0 rfl rfl) hsm12)) ?_
 rintro _ w13 ⟨A13, c13, T13, hT13, rfl, h13⟩
 have hsm13 : Sm T13.1 := by rw [hT13]; exact Sm.nxT (T := T12) hsm12 1
 refine wq_p 1 [(26, (pt tb 0))] ?_
 refine wT 27 (x_tkT h13 0 rfl 0 rfl (T := T13) (T1 := numT T13) (u := .int .i64 (numO T13)) 63 [(pt tb 0)] (by kernel_rfl) (tkNum_any (h13.rd 0 rfl) (h13.at_ 0 rfl) (h13.offTk 0 0 rfl rfl))) ?_
 rintro _ w14 ⟨A14, c14, T14, hT14, rfl, h14⟩
 have hsm14 : Sm T14.1 := by rw [hT14]; exact Sm.nxT (T := T13) hsm13 0
 refine wq_p 1 [(28, (pt tb 0))] ?_
 refine wT 29 (x_tkT h14 0 rfl 0 rfl (T := T14) (T1 := numT T14) (u := .int .i64 (numO T14)) 63 [(pt tb 0)] (by kernel_rfl) (tkNum_any (h14.rd 0 rfl) (h14.at_ 0 rfl) (h14.offTk 0 0 rfl rfl))) ?_
 rintro _ w15 ⟨A15, c15, T15, hT15, rfl, h15⟩
 have hsm15 : Sm T15.1 := by rw [hT15]; exact Sm.nxT (T := T14) hsm14 0
 refine wq_p 1 [(30, (pt tb 0))] ?_
 refine wT 31 (x_tkT h15 0 rfl 0 rfl (T := T15) (T1 := numT T15) (u := .int .i64 (numO T15)) 63 [(pt tb 0)] (by kernel_rfl) (tkNum_any (h15.rd 0 rfl) (h15.at_ 0 rfl) (h15.offTk 0 0 rfl rfl))) ?_
 rintro _ w16 ⟨A16, c16, T16, hT16, rfl, h16⟩
 have hsm16 : Sm T16.1 := by rw [hT16]; exact Sm.nxT (T := T15) hsm15 0
 refine wq_p 3 [(5, (Value.iface 55 (aV ([(D (numO T0))] ++ vb (kl (keyO T11)) ++ [(sV (nameO T12)), (D (numO T13)), (D (numO T14)), (D (numO T15))]).toArray))), (33, (Value.iface 55 (aV ([(D (numO T0))] ++ vb (kl (keyO T11)) ++ [(sV (nameO T12)), (D (numO T13)), (D (numO T14)), (D (numO T15))]).toArray))), (32, (aV ([(D (numO T0))] ++ vb (kl (keyO T11)) ++ [(sV (nameO T12)), (D (numO T13)), (D (numO T14)), (D (numO T15))]).toArray))] ?_
 refine wl_end rfl (blk_n (seq_n hK7 (wp_seq_k fun K17 hK17 => wp_seq_k fun K18 hK18 => ?_)))
 obtain hk | ⟨hk, hdn⟩ | ⟨hk, hdn⟩ : v.kind ≠ 2 ∨ (v.kind = 2 /\ doneO T16 = false) ∨ (v.kind = 2 /\ doneO T16 = true) := of_cases _ _
 ·
  refine wp_reset 105 [(1, (pt g2 0)), (2, Value.nilIface), (3, V), (4, (pt tb 0)), (5, (Value.iface 55 (aV ([(D (numO T0))] ++ vb (kl (keyO T11)) ++ [(sV (nameO T12)), (D (numO T13)), (D (numO T14)), (D (numO T15))]).toArray)))] (fun x20 => ?_)
  refine reg_lit ?_
  refine wq_p 1 [(92, (pt g2 0))] (wV 93 (D ((v.kind : Int))) (eL (h16.at_ 1 rfl) 3 (.tmp 92) 0 _) (wV 94 I (eqI (bV (((v.kind : Int)) != 2)) (ine (b := 2) hk)) (wq_p 2 [(96, undef), (95, I)] ?_)))
  refine wq_p 1 [(97, undef)] (wq_p 4 [(101, undef), (100, undef), (99, I), (98, I)] (wq_p 1 [(102, undef)] (wq_p 1 [(103, I)] ?_)))
  refine wE hK18 (cT (wR fun K21 hK21 => ?_))
  refine wq_p 2 [(3, V), (2, Value.nilIface)] ?_
  refine wE hK21 (wp_ret (seq_r ?_))
  refine post_2 rfl (by kernel_rfl) (rtm Value.nilIface) (rtm V) ?_
  exact ofpost_no (of_no (by rw [ht]; subst hT0 hT11 hT12 hT13 hT14 hT15 hT16; rfl : ofTag v.tag (v.l, false) = some (Thing.inside (numO T0) (keyO T11) (nameO T12) (numO T13) (numO T14) (numO T15), T16)) (by rintro ⟨h1, h2⟩; first | exact hk h1 | (rw [hdn] at h2; cases h2))) h16.below0
 ·
  refine wp_reset 105 [(1, (pt g2 0)), (2, Value.nilIface), (3, V), (4, (pt tb 0)), (5, (Value.iface 55 (aV ([(D (numO T0))] ++ vb (kl (keyO T11)) ++ [(sV (nameO T12)), (D (numO T13)), (D (numO T14)), (D (numO T15))]).toArray)))] (fun x22 => ?_)
  refine reg_lit ?_
  refine wq_p 1 [(92, (pt g2 0))] (wV 93 (D ((v.kind : Int))) (eL (h16.at_ 1 rfl) 3 (.tmp 92) 0 _) (wV 94 V (eqI (bV (((v.kind : Int)) != 2)) (ieq (b := 2) hk)) (wq_p 2 [(96, (Value.iface 55 (aV ([(D (numO T0))] ++ vb (kl (keyO T11)) ++ [(sV (nameO T12)), (D (numO T13)), (D (numO T14)), (D (numO T15))]).toArray))), (95, V)] ?_)))
  refine wV 97 V (pureOp_run (by kernel_rfl) _) (wq_p 3 [(100, (pt tb 0)), (99, V), (98, V)] ?_)
  refine wT 101 (x_dp h16 66 [(pt tb 0)] (by kernel_rfl) (tkDone_any (bad := T16.2) (ts := T16.1) (h16.at_ 0 rfl))) ?_
  rintro _ w23 ⟨rfl, h23⟩
  refine wV 102 I (eqI (bV (!(doneO T16))) (congrArg bV (by rw [hdn]; rfl))) (wq_p 1 [(103, I)] ?_)
  refine wE hK18 (cT (wR fun K24 hK24 => ?_))
  refine wq_p 2 [(3, V), (2, Value.nilIface)] ?_
  refine wE hK24 (wp_ret (seq_r ?_))
  refine post_2 rfl (by kernel_rfl) (rtm Value.nilIface) (rtm V) ?_
  exact ofpost_no (of_no (by rw [ht]; subst hT0 hT11 hT12 hT13 hT14 hT15 hT16; rfl : ofTag v.tag (v.l, false) = some (Thing.inside (numO T0) (keyO T11) (nameO T12) (numO T13) (numO T14) (numO T15), T16)) (by rintro ⟨h1, h2⟩; first | exact hk h1 | (rw [hdn] at h2; cases h2))) h23.below0
 ·
  refine wp_reset 105 [(1, (pt g2 0)), (2, Value.nilIface), (3, V), (4, (pt tb 0)), (5, (Value.iface 55 (aV ([(D (numO T0))] ++ vb (kl (keyO T11)) ++ [(sV (nameO T12)), (D (numO T13)), (D (numO T14)), (D (numO T15))]).toArray)))] (fun x25 => ?_)
  refine reg_lit ?_
  refine wq_p 1 [(92, (pt g2 0))] (wV 93 (D ((v.kind : Int))) (eL (h16.at_ 1 rfl) 3 (.tmp 92) 0 _) (wV 94 V (eqI (bV (((v.kind : Int)) != 2)) (ieq (b := 2) hk)) (wq_p 2 [(96, (Value.iface 55 (aV ([(D (numO T0))] ++ vb (kl (keyO T11)) ++ [(sV (nameO T12)), (D (numO T13)), (D (numO T14)), (D (numO T15))]).toArray))), (95, V)] ?_)))
  refine wV 97 V (pureOp_run (by kernel_rfl) _) (wq_p 3 [(100, (pt tb 0)), (99, V), (98, V)] ?_)
  refine wT 101 (x_dp h16 66 [(pt tb 0)] (by kernel_rfl) (tkDone_any (bad := T16.2) (ts := T16.1) (h16.at_ 0 rfl))) ?_
  rintro _ w26 ⟨rfl, h26⟩
  refine wV 102 V (eqI (bV (!(doneO T16))) (congrArg bV (by rw [hdn]; rfl))) (wq_p 1 [(103, V)] ?_)
  refine wE hK18 (cF (wp_skip (seq_n hK17 (wR fun K27 hK27 => ?_))))
  refine wq_p 3 [(3, I), (2, (Value.iface 55 (aV ([(D (numO T0))] ++ vb (kl (keyO T11)) ++ [(sV (nameO T12)), (D (numO T13)), (D (numO T14)), (D (numO T15))]).toArray))), (104, (Value.iface 55 (aV ([(D (numO T0))] ++ vb (kl (keyO T11)) ++ [(sV (nameO T12)), (D (numO T13)), (D (numO T14)), (D (numO T15))]).toArray)))] ?_
  refine wE hK27 (wp_ret ?_)
  refine post_2 rfl (by kernel_rfl) (rtm (Value.iface 55 (aV ([(D (numO T0))] ++ vb (kl (keyO T11)) ++ [(sV (nameO T12)), (D (numO T13)), (D (numO T14)), (D (numO T15))]).toArray))) (rtm I) ?_
  exact ofpost_yes (of_yes (by rw [ht]; subst hT0 hT11 hT12 hT13 hT14 hT15 hT16; rfl : ofTag v.tag (v.l, false) = some (Thing.inside (numO T0) (keyO T11) (nameO T12) (numO T13) (numO T14) (numO T15), T16)) hk hdn) (show ThR G _ _ (Thing.inside (numO T0) (keyO T11) (nameO T12) (numO T13) (numO T14) (numO T15)) from rfl) h26.below0
theorem of_reply {G : Nat -> Prop} {B A : Option Addr} {d c : Nat} {v : DVal} {w : World} (hsm : Sm v.l) (hL : (rLst G A c v.l).Φ w) (ht : v.tag = 3) : Calls Try.prog 42 #[.agg #[.int .i64 (v.kind : Int), .int .i64 (v.tag : Int), .int .u64 (v.n : Int), .slice B v.b.length d, .slice A v.l.length c]] w (OfPost w G (ofF v)) := by
 have h0 := Hp.ro1 (rLst G A c v.l) hL
 refine enter 104 Try.func42 rfl rfl ?_
 refine wp_reset 105 [(0, (aV ([(D ((v.kind : Int))), (D ((v.tag : Int))), (iV .u64 ((v.n : Int))), (lV B v.b.length d), (lV A v.l.length c)]).toArray))] (fun x0 => ?_)
 refine wR fun K1 hK1 => ?_
 refine wT 1 (xN h0 106 ([(D ((v.kind : Int))), (D ((v.tag : Int))), (iV .u64 ((v.n : Int))), (lV B v.b.length d), (lV A v.l.length c)])) ?_
 rintro _ w2 ⟨g2, rfl, h2⟩
 refine wq_p 2 [(3, V), (2, Value.nilIface)] ?_
 refine wE hK1 (wR fun K3 hK3 => ?_)
 refine wV 6 (aV ([(D ((v.kind : Int))), (D ((v.tag : Int))), (iV .u64 ((v.n : Int))), (lV B v.b.length d), (lV A v.l.length c)]).toArray) (eLs (h2.at_ 0 rfl) 106 (.tmp 1) 0 ([(D ((v.kind : Int))), (D ((v.tag : Int))), (iV .u64 ((v.n : Int))), (lV B v.b.length d), (lV A v.l.length c)])) ?_
 refine wT 7 (x_take h2 [(aV ([(D ((v.kind : Int))), (D ((v.tag : Int))), (iV .u64 ((v.n : Int))), (lV B v.b.length d), (lV A v.l.length c)]).toArray)] (by kernel_rfl) (take_any v.kind v.tag v.n B A v.b.length d v.l.length c _)) ?_
 rintro _ w4 ⟨tb, rfl, h4⟩
 obtain ⟨T0, hT0⟩ : ∃ T, T = ((v.l, false) : TkSt) := ⟨_, rfl⟩
 have e1 : v.l = T0.1 := by rw [hT0]
 have e2 : false = T0.2 := by rw [hT0]
 have hsm0 : Sm T0.1 := by rw [← e1]; exact hsm
 have h5 := h4.below (Below.refl _ _)
 rw [e1, e2] at h5
 refine wq_p 1 [(4, (pt tb 0))] ?_
 refine wE hK3 (wR fun K6 hK6 => ?_)
 refine wq_p 1 [(5, Value.nilIface)] ?_
 refine wE hK6 (wp_seq_k fun K7 hK7 => wR fun K8 hK8 => ?_)
 refine wq_p 1 [(8, (pt g2 1))] (wV 9 (D ((v.tag : Int))) (eL (h5.at_ 1 rfl) 3 (.tmp 8) 1 _) ?_)
 refine wE hK8 (wp_block (wR fun K9 hK9 => ?_))
 refine wV 11 V (eqI (bV (((v.tag : Int)) == 1)) (tag_ne ht (by decide))) (wq_p 1 [(10, V)] ?_)
 refine wE hK9 (cF (wR fun K10 hK10 => ?_))
 refine wV 19 V (eqI (bV (((v.tag : Int)) == 2)) (tag_ne ht (by decide))) (wq_p 1 [(18, V)] ?_)
 refine wE hK10 (cF (wR fun K11 hK11 => ?_))
 refine wV 35 I (eqI (bV (((v.tag : Int)) == 3)) (tag_eq ht)) (wq_p 1 [(34, I)] ?_)
 refine wE hK11 (cT ?_)
 refine wp_reset 105 [(1, (pt g2 0)), (2, Value.nilIface), (3, V), (4, (pt tb 0)), (5, Value.nilIface), (9, (D ((v.tag : Int)))), (34, I)] (fun x12 => ?_)
 refine reg_lit ?_
 refine wq_p 1 [(36, (pt tb 0))] ?_
 refine wT 37 (x_tkT h5 0 rfl 0 rfl (T := T0) (T1 := numT T0) (u := .int .i64 (numO T0)) 63 [(pt tb 0)] (by kernel_rfl) (tkNum_any (h5.rd 0 rfl) (h5.at_ 0 rfl) (h5.offTk 0 0 rfl rfl))) ?_
 rintro _ w13 ⟨A13, c13, T13, hT13, rfl, h13⟩
 have hsm13 : Sm T13.1 := by rw [hT13]; exact Sm.nxT (T := T0) hsm0 0
 refine wq_p 1 [(38, (pt tb 0))] ?_
 refine wT 39 (x_tkT h13 0 rfl 0 rfl (T := T13) (T1 := keyT T13) (u := .agg (vb (kl (keyO T13))).toArray) 64 [(pt tb 0)] (by kernel_rfl) (tkKey_any (h13.rd 0 rfl) (h13.at_ 0 rfl) (h13.offTk 0 0 rfl rfl))) ?_
 rintro _ w14 ⟨A14, c14, T14, hT14, rfl, h14⟩
 have hsm14 : Sm T14.1 := by rw [hT14]; exact Sm.nxT (T := T13) hsm13 1
 refine wq_p 1 [(40, (pt tb 0))] ?_
 refine wT 41 (x_tkT h14 0 rfl 0 rfl (T := T14) (T1 := numT T14) (u := .int .i64 (numO T14)) 63 [(pt tb 0)] (by kernel_rfl) (tkNum_any (h14.rd 0 rfl) (h14.at_ 0 rfl) (h14.offTk 0 0 rfl rfl))) ?_
 rintro _ w15 ⟨A15, c15, T15, hT15, rfl, h15⟩
 have hsm15 : Sm T15.1 := by rw [hT15]; exact Sm.nxT (T := T14) hsm14 0
 refine wq_p 1 [(42, (pt tb 0))] ?_
 refine wT 43 (x_tkT h15 0 rfl 0 rfl (T := T15) (T1 := nameT T15) (u := .string (nameO T15)) 61 [(pt tb 0)] (by kernel_rfl) (tkName_any (h15.rd 0 rfl) (h15.at_ 0 rfl) (h15.offTk 0 0 rfl rfl) hsm15)) ?_
 rintro _ w16 ⟨A16, c16, T16, hT16, rfl, h16⟩
 have hsm16 : Sm T16.1 := by rw [hT16]; exact Sm.nxT (T := T15) hsm15 1
 refine wq_p 1 [(44, (pt tb 0))] ?_
 refine wT 45 (x_tkT h16 0 rfl 0 rfl (T := T16) (T1 := numT T16) (u := .int .i64 (numO T16)) 63 [(pt tb 0)] (by kernel_rfl) (tkNum_any (h16.rd 0 rfl) (h16.at_ 0 rfl) (h16.offTk 0 0 rfl rfl))) ?_
 rintro _ w17 ⟨A17, c17, T17, hT17, rfl, h17⟩
 have hsm17 : Sm T17.1 := by rw [hT17]; exact Sm.nxT (T := T16) hsm16 0
 refine wq_p 1 [(46, (pt tb 0))] ?_
 refine wT 47 (x_tkT h17 0 rfl 0 rfl (T := T17) (T1 := numT T17) (u := .int .i64 (numO T17)) 63 [(pt tb 0)] (by kernel_rfl) (tkNum_any (h17.rd 0 rfl) (h17.at_ 0 rfl) (h17.offTk 0 0 rfl rfl))) ?_
 rintro _ w18 ⟨A18, c18, T18, hT18, rfl, h18⟩
 have hsm18 : Sm T18.1 := by rw [hT18]; exact Sm.nxT (T := T17) hsm17 0
 refine wq_p 1 [(48, (pt tb 0))] ?_
 refine wT 49 (x_tkT h18 0 rfl 0 rfl (T := T18) (T1 := numT T18) (u := .int .i64 (numO T18)) 63 [(pt tb 0)] (by kernel_rfl) (tkNum_any (h18.rd 0 rfl) (h18.at_ 0 rfl) (h18.offTk 0 0 rfl rfl))) ?_
 rintro _ w19 ⟨A19, c19, T19, hT19, rfl, h19⟩
 have hsm19 : Sm T19.1 := by rw [hT19]; exact Sm.nxT (T := T18) hsm18 0
 refine wq_p 3 [(5, (Value.iface 60 (aV ([(D (numO T0))] ++ vb (kl (keyO T13)) ++ [(D (numO T14)), (sV (nameO T15)), (D (numO T16)), (D (numO T17)), (D (numO T18))]).toArray))), (51, (Value.iface 60 (aV ([(D (numO T0))] ++ vb (kl (keyO T13)) ++ [(D (numO T14)), (sV (nameO T15)), (D (numO T16)), (D (numO T17)), (D (numO T18))]).toArray))), (50, (aV ([(D (numO T0))] ++ vb (kl (keyO T13)) ++ [(D (numO T14)), (sV (nameO T15)), (D (numO T16)), (D (numO T17)), (D (numO T18))]).toArray))] ?_
 refine wl_end rfl (blk_n (seq_n hK7 (wp_seq_k fun K20 hK20 => wp_seq_k fun K21 hK21 => ?_)))
 obtain hk | ⟨hk, hdn⟩ | ⟨hk, hdn⟩ : v.kind ≠ 2 ∨ (v.kind = 2 /\ doneO T19 = false) ∨ (v.kind = 2 /\ doneO T19 = true) := of_cases _ _
 ·
  refine reg_lit ?_
  refine wq_p 1 [(92, (pt g2 0))] (wV 93 (D ((v.kind : Int))) (eL (h19.at_ 1 rfl) 3 (.tmp 92) 0 _) (wV 94 I (eqI (bV (((v.kind : Int)) != 2)) (ine (b := 2) hk)) (wq_p 2 [(96, undef), (95, I)] ?_)))
  refine wq_p 1 [(97, undef)] (wq_p 4 [(101, undef), (100, undef), (99, I), (98, I)] (wq_p 1 [(102, undef)] (wq_p 1 [(103, I)] ?_)))
  refine wE hK21 (cT (wR fun K23 hK23 => ?_))
  refine wq_p 2 [(3, V), (2, Value.nilIface)] ?_
  refine wE hK23 (wp_ret (seq_r ?_))
  refine post_2 rfl (by kernel_rfl) (rtm Value.nilIface) (rtm V) ?_
  exact ofpost_no (of_no (by rw [ht]; subst hT0 hT13 hT14 hT15 hT16 hT17 hT18 hT19; rfl : ofTag v.tag (v.l, false) = some (Thing.reply (numO T0) (keyO T13) (numO T14) (nameO T15) (numO T16) (numO T17) (numO T18), T19)) (by rintro ⟨h1, h2⟩; first | exact hk h1 | (rw [hdn] at h2; cases h2))) h19.below0
 ·
  refine reg_lit ?_
  refine wq_p 1 [(92, (pt g2 0))] (wV 93 (D ((v.kind : Int))) (eL (h19.at_ 1 rfl) 3 (.tmp 92) 0 _) (wV 94 V (eqI (bV (((v.kind : Int)) != 2)) (ieq (b := 2) hk)) (wq_p 2 [(96, (Value.iface 60 (aV ([(D (numO T0))] ++ vb (kl (keyO T13)) ++ [(D (numO T14)), (sV (nameO T15)), (D (numO T16)), (D (numO T17)), (D (numO T18))]).toArray))), (95, V)] ?_)))
  refine wV 97 V (pureOp_run (by kernel_rfl) _) (wq_p 3 [(100, (pt tb 0)), (99, V), (98, V)] ?_)
  refine wT 101 (x_dp h19 66 [(pt tb 0)] (by kernel_rfl) (tkDone_any (bad := T19.2) (ts := T19.1) (h19.at_ 0 rfl))) ?_
  rintro _ w24 ⟨rfl, h24⟩
  refine wV 102 I (eqI (bV (!(doneO T19))) (congrArg bV (by rw [hdn]; rfl))) (wq_p 1 [(103, I)] ?_)
  refine wE hK21 (cT (wR fun K25 hK25 => ?_))
  refine wq_p 2 [(3, V), (2, Value.nilIface)] ?_
  refine wE hK25 (wp_ret (seq_r ?_))
  refine post_2 rfl (by kernel_rfl) (rtm Value.nilIface) (rtm V) ?_
  exact ofpost_no (of_no (by rw [ht]; subst hT0 hT13 hT14 hT15 hT16 hT17 hT18 hT19; rfl : ofTag v.tag (v.l, false) = some (Thing.reply (numO T0) (keyO T13) (numO T14) (nameO T15) (numO T16) (numO T17) (numO T18), T19)) (by rintro ⟨h1, h2⟩; first | exact hk h1 | (rw [hdn] at h2; cases h2))) h24.below0
 ·
  refine reg_lit ?_
  refine wq_p 1 [(92, (pt g2 0))] (wV 93 (D ((v.kind : Int))) (eL (h19.at_ 1 rfl) 3 (.tmp 92) 0 _) (wV 94 V (eqI (bV (((v.kind : Int)) != 2)) (ieq (b := 2) hk)) (wq_p 2 [(96, (Value.iface 60 (aV ([(D (numO T0))] ++ vb (kl (keyO T13)) ++ [(D (numO T14)), (sV (nameO T15)), (D (numO T16)), (D (numO T17)), (D (numO T18))]).toArray))), (95, V)] ?_)))
  refine wV 97 V (pureOp_run (by kernel_rfl) _) (wq_p 3 [(100, (pt tb 0)), (99, V), (98, V)] ?_)
  refine wT 101 (x_dp h19 66 [(pt tb 0)] (by kernel_rfl) (tkDone_any (bad := T19.2) (ts := T19.1) (h19.at_ 0 rfl))) ?_
  rintro _ w26 ⟨rfl, h26⟩
  refine wV 102 V (eqI (bV (!(doneO T19))) (congrArg bV (by rw [hdn]; rfl))) (wq_p 1 [(103, V)] ?_)
  refine wE hK21 (cF (wp_skip (seq_n hK20 (wR fun K27 hK27 => ?_))))
  refine wq_p 3 [(3, I), (2, (Value.iface 60 (aV ([(D (numO T0))] ++ vb (kl (keyO T13)) ++ [(D (numO T14)), (sV (nameO T15)), (D (numO T16)), (D (numO T17)), (D (numO T18))]).toArray))), (104, (Value.iface 60 (aV ([(D (numO T0))] ++ vb (kl (keyO T13)) ++ [(D (numO T14)), (sV (nameO T15)), (D (numO T16)), (D (numO T17)), (D (numO T18))]).toArray)))] ?_
  refine wE hK27 (wp_ret ?_)
  refine post_2 rfl (by kernel_rfl) (rtm (Value.iface 60 (aV ([(D (numO T0))] ++ vb (kl (keyO T13)) ++ [(D (numO T14)), (sV (nameO T15)), (D (numO T16)), (D (numO T17)), (D (numO T18))]).toArray))) (rtm I) ?_
  exact ofpost_yes (of_yes (by rw [ht]; subst hT0 hT13 hT14 hT15 hT16 hT17 hT18 hT19; rfl : ofTag v.tag (v.l, false) = some (Thing.reply (numO T0) (keyO T13) (numO T14) (nameO T15) (numO T16) (numO T17) (numO T18), T19)) hk hdn) (show ThR G _ _ (Thing.reply (numO T0) (keyO T13) (numO T14) (nameO T15) (numO T16) (numO T17) (numO T18)) from rfl) h26.below0
theorem of_authent {G : Nat -> Prop} {B A : Option Addr} {d c : Nat} {v : DVal} {w : World} (hsm : Sm v.l) (hL : (rLst G A c v.l).Φ w) (ht : v.tag = 4) : Calls Try.prog 42 #[.agg #[.int .i64 (v.kind : Int), .int .i64 (v.tag : Int), .int .u64 (v.n : Int), .slice B v.b.length d, .slice A v.l.length c]] w (OfPost w G (ofF v)) := by
 have h0 := Hp.ro1 (rLst G A c v.l) hL
 refine enter 104 Try.func42 rfl rfl ?_
 refine wp_reset 105 [(0, (aV ([(D ((v.kind : Int))), (D ((v.tag : Int))), (iV .u64 ((v.n : Int))), (lV B v.b.length d), (lV A v.l.length c)]).toArray))] (fun x0 => ?_)
 refine wR fun K1 hK1 => ?_
 refine wT 1 (xN h0 106 ([(D ((v.kind : Int))), (D ((v.tag : Int))), (iV .u64 ((v.n : Int))), (lV B v.b.length d), (lV A v.l.length c)])) ?_
 rintro _ w2 ⟨g2, rfl, h2⟩
 refine wq_p 2 [(3, V), (2, Value.nilIface)] ?_
 refine wE hK1 (wR fun K3 hK3 => ?_)
 refine wV 6 (aV ([(D ((v.kind : Int))), (D ((v.tag : Int))), (iV .u64 ((v.n : Int))), (lV B v.b.length d), (lV A v.l.length c)]).toArray) (eLs (h2.at_ 0 rfl) 106 (.tmp 1) 0 ([(D ((v.kind : Int))), (D ((v.tag : Int))), (iV .u64 ((v.n : Int))), (lV B v.b.length d), (lV A v.l.length c)])) ?_
 refine wT 7 (x_take h2 [(aV ([(D ((v.kind : Int))), (D ((v.tag : Int))), (iV .u64 ((v.n : Int))), (lV B v.b.length d), (lV A v.l.length c)]).toArray)] (by kernel_rfl) (take_any v.kind v.tag v.n B A v.b.length d v.l.length c _)) ?_
 rintro _ w4 ⟨tb, rfl, h4⟩
 obtain ⟨T0, hT0⟩ : ∃ T, T = ((v.l, false) : TkSt) := ⟨_, rfl⟩
 have e1 : v.l = T0.1 := by rw [hT0]
 have e2 : false = T0.2 := by rw [hT0]
 have hsm0 : Sm T0.1 := by rw [← e1]; exact hsm
 have h5 := h4.below (Below.refl _ _)
 rw [e1, e2] at h5
 refine wq_p 1 [(4, (pt tb 0))] ?_
 refine wE hK3 (wR fun K6 hK6 => ?_)
 refine wq_p 1 [(5, Value.nilIface)] ?_
 refine wE hK6 (wp_seq_k fun K7 hK7 => wR fun K8 hK8 => ?_)
 refine wq_p 1 [(8, (pt g2 1))] (wV 9 (D ((v.tag : Int))) (eL (h5.at_ 1 rfl) 3 (.tmp 8) 1 _) ?_)
 refine wE hK8 (wp_block (wR fun K9 hK9 => ?_))
 refine wV 11 V (eqI (bV (((v.tag : Int)) == 1)) (tag_ne ht (by decide))) (wq_p 1 [(10, V)] ?_)
 refine wE hK9 (cF (wR fun K10 hK10 => ?_))
 refine wV 19 V (eqI (bV (((v.tag : Int)) == 2)) (tag_ne ht (by decide))) (wq_p 1 [(18, V)] ?_)
 refine wE hK10 (cF (wR fun K11 hK11 => ?_))
 refine wV 35 V (eqI (bV (((v.tag : Int)) == 3)) (tag_ne ht (by decide))) (wq_p 1 [(34, V)] ?_)
 refine wE hK11 (cF (wp_seq_k fun K12 hK12 => ?_))
 refine wp_reset 105 [(1, (pt g2 0)), (2, Value.nilIface), (3, V), (4, (pt tb 0)), (5, Value.nilIface), (9, (D ((v.tag : Int))))] (fun x13 => ?_)
 refine reg_lit ?_
 refine wV 53 I (eqI (bV (((v.tag : Int)) == 4)) (tag_eq ht)) (wq_p 1 [(52, I)] ?_)
 refine wE hK12 (cT (reg_lit ?_))
 refine wq_p 1 [(54, (pt tb 0))] ?_
 refine wT 55 (x_tkT h5 0 rfl 0 rfl (T := T0) (T1 := nameT T0) (u := .string (nameO T0)) 61 [(pt tb 0)] (by kernel_rfl) (tkName_any (h5.rd 0 rfl) (h5.at_ 0 rfl) (h5.offTk 0 0 rfl rfl) hsm0)) ?_
 rintro _ w14 ⟨A14, c14, T14, hT14, rfl, h14⟩
 have hsm14 : Sm T14.1 := by rw [hT14]; exact Sm.nxT (T := T0) hsm0 1
 refine wq_p 1 [(56, (pt tb 0))] ?_
 refine wT 57 (x_tkT h14 0 rfl 0 rfl (T := T14) (T1 := numT T14) (u := .int .i64 (numO T14)) 63 [(pt tb 0)] (by kernel_rfl) (tkNum_any (h14.rd 0 rfl) (h14.at_ 0 rfl) (h14.offTk 0 0 rfl rfl))) ?_
 rintro _ w15 ⟨A15, c15, T15, hT15, rfl, h15⟩
 have hsm15 : Sm T15.1 := by rw [hT15]; exact Sm.nxT (T := T14) hsm14 0
 refine wq_p 1 [(58, (pt tb 0))] ?_
 refine wT 59 (x_tkT h15 0 rfl 0 rfl (T := T15) (T1 := numT T15) (u := .int .i64 (numO T15)) 63 [(pt tb 0)] (by kernel_rfl) (tkNum_any (h15.rd 0 rfl) (h15.at_ 0 rfl) (h15.offTk 0 0 rfl rfl))) ?_
 rintro _ w16 ⟨A16, c16, T16, hT16, rfl, h16⟩
 have hsm16 : Sm T16.1 := by rw [hT16]; exact Sm.nxT (T := T15) hsm15 0
 refine wq_p 1 [(60, (pt tb 0))] ?_
 refine wT 61 (x_tkT h16 0 rfl 0 rfl (T := T16) (T1 := keyT T16) (u := .agg (vb (kl (keyO T16))).toArray) 64 [(pt tb 0)] (by kernel_rfl) (tkKey_any (h16.rd 0 rfl) (h16.at_ 0 rfl) (h16.offTk 0 0 rfl rfl))) ?_
 rintro _ w17 ⟨A17, c17, T17, hT17, rfl, h17⟩
 have hsm17 : Sm T17.1 := by rw [hT17]; exact Sm.nxT (T := T16) hsm16 1
 refine wq_p 1 [(62, (pt tb 0))] ?_
 refine wT 63 (x_bkT h17 0 rfl 0 rfl (T := T17) (T1 := bytesT T17) (l := bytesO T17) 62 [(pt tb 0)] (by kernel_rfl) (tkBytes_any (h17.rd 0 rfl) (h17.at_ 0 rfl) (h17.offTk 0 0 rfl rfl))) ?_
 rintro _ w18 ⟨A18, c18, T18, B18, d18, hT18, rfl, h18⟩
 have hsm18 : Sm T18.1 := by rw [hT18]; exact Sm.nxT (T := T17) hsm17 1
 refine wq_p 3 [(5, (Value.iface 141 (aV ([(sV (nameO T0)), (D (numO T14)), (D (numO T15))] ++ vb (kl (keyO T16)) ++ [(lV B18 ((bytesO T17).length) d18)]).toArray))), (65, (Value.iface 141 (aV ([(sV (nameO T0)), (D (numO T14)), (D (numO T15))] ++ vb (kl (keyO T16)) ++ [(lV B18 ((bytesO T17).length) d18)]).toArray))), (64, (aV ([(sV (nameO T0)), (D (numO T14)), (D (numO T15))] ++ vb (kl (keyO T16)) ++ [(lV B18 ((bytesO T17).length) d18)]).toArray))] ?_
 refine wl_end rfl (blk_n (seq_n hK7 (wp_seq_k fun K19 hK19 => wp_seq_k fun K20 hK20 => ?_)))
 obtain hk | ⟨hk, hdn⟩ | ⟨hk, hdn⟩ : v.kind ≠ 2 ∨ (v.kind = 2 /\ doneO T18 = false) ∨ (v.kind = 2 /\ doneO T18 = true) := of_cases _ _
 ·
  refine reg_lit ?_
  refine wq_p 1 [(92, (pt g2 0))] (wV 93 (D ((v.kind : Int))) (eL (h18.at_ 1 rfl) 3 (.tmp 92) 0 _) (wV 94 I (eqI (bV (((v.kind : Int)) != 2)) (ine (b := 2) hk)) (wq_p 2 [(96, undef), (95, I)] ?_)))
  refine wq_p 1 [(97, undef)] (wq_p 4 [(101, undef), (100, undef), (99, I), (98, I)] (wq_p 1 [(102, undef)] (wq_p 1 [(103, I)] ?_)))
  refine wE hK20 (cT (wR fun K22 hK22 => ?_))
  refine wq_p 2 [(3, V), (2, Value.nilIface)] ?_
  refine wE hK22 (wp_ret (seq_r ?_))
  refine post_2 rfl (by kernel_rfl) (rtm Value.nilIface) (rtm V) ?_
  exact ofpost_no (of_no (by rw [ht]; subst hT0 hT14 hT15 hT16 hT17 hT18; rfl : ofTag v.tag (v.l, false) = some (Thing.authent (nameO T0) (numO T14) (numO T15) (keyO T16) (bytesO T17), T18)) (by rintro ⟨h1, h2⟩; first | exact hk h1 | (rw [hdn] at h2; cases h2))) h18.below0
 ·
  refine reg_lit ?_
  refine wq_p 1 [(92, (pt g2 0))] (wV 93 (D ((v.kind : Int))) (eL (h18.at_ 1 rfl) 3 (.tmp 92) 0 _) (wV 94 V (eqI (bV (((v.kind : Int)) != 2)) (ieq (b := 2) hk)) (wq_p 2 [(96, (Value.iface 141 (aV ([(sV (nameO T0)), (D (numO T14)), (D (numO T15))] ++ vb (kl (keyO T16)) ++ [(lV B18 ((bytesO T17).length) d18)]).toArray))), (95, V)] ?_)))
  refine wV 97 V (pureOp_run (by kernel_rfl) _) (wq_p 3 [(100, (pt tb 0)), (99, V), (98, V)] ?_)
  refine wT 101 (x_dp h18 66 [(pt tb 0)] (by kernel_rfl) (tkDone_any (bad := T18.2) (ts := T18.1) (h18.at_ 0 rfl))) ?_
  rintro _ w23 ⟨rfl, h23⟩
  refine wV 102 I (eqI (bV (!(doneO T18))) (congrArg bV (by rw [hdn]; rfl))) (wq_p 1 [(103, I)] ?_)
  refine wE hK20 (cT (wR fun K24 hK24 => ?_))
  refine wq_p 2 [(3, V), (2, Value.nilIface)] ?_
  refine wE hK24 (wp_ret (seq_r ?_))
  refine post_2 rfl (by kernel_rfl) (rtm Value.nilIface) (rtm V) ?_
  exact ofpost_no (of_no (by rw [ht]; subst hT0 hT14 hT15 hT16 hT17 hT18; rfl : ofTag v.tag (v.l, false) = some (Thing.authent (nameO T0) (numO T14) (numO T15) (keyO T16) (bytesO T17), T18)) (by rintro ⟨h1, h2⟩; first | exact hk h1 | (rw [hdn] at h2; cases h2))) h23.below0
 ·
  refine reg_lit ?_
  refine wq_p 1 [(92, (pt g2 0))] (wV 93 (D ((v.kind : Int))) (eL (h18.at_ 1 rfl) 3 (.tmp 92) 0 _) (wV 94 V (eqI (bV (((v.kind : Int)) != 2)) (ieq (b := 2) hk)) (wq_p 2 [(96, (Value.iface 141 (aV ([(sV (nameO T0)), (D (numO T14)), (D (numO T15))] ++ vb (kl (keyO T16)) ++ [(lV B18 ((bytesO T17).length) d18)]).toArray))), (95, V)] ?_)))
  refine wV 97 V (pureOp_run (by kernel_rfl) _) (wq_p 3 [(100, (pt tb 0)), (99, V), (98, V)] ?_)
  refine wT 101 (x_dp h18 66 [(pt tb 0)] (by kernel_rfl) (tkDone_any (bad := T18.2) (ts := T18.1) (h18.at_ 0 rfl))) ?_
  rintro _ w25 ⟨rfl, h25⟩
  refine wV 102 V (eqI (bV (!(doneO T18))) (congrArg bV (by rw [hdn]; rfl))) (wq_p 1 [(103, V)] ?_)
  refine wE hK20 (cF (wp_skip (seq_n hK19 (wR fun K26 hK26 => ?_))))
  refine wq_p 3 [(3, I), (2, (Value.iface 141 (aV ([(sV (nameO T0)), (D (numO T14)), (D (numO T15))] ++ vb (kl (keyO T16)) ++ [(lV B18 ((bytesO T17).length) d18)]).toArray))), (104, (Value.iface 141 (aV ([(sV (nameO T0)), (D (numO T14)), (D (numO T15))] ++ vb (kl (keyO T16)) ++ [(lV B18 ((bytesO T17).length) d18)]).toArray)))] ?_
  refine wE hK26 (wp_ret ?_)
  refine post_2 rfl (by kernel_rfl) (rtm (Value.iface 141 (aV ([(sV (nameO T0)), (D (numO T14)), (D (numO T15))] ++ vb (kl (keyO T16)) ++ [(lV B18 ((bytesO T17).length) d18)]).toArray))) (rtm I) ?_
  exact ofpost_yes (of_yes (by rw [ht]; subst hT0 hT14 hT15 hT16 hT17 hT18; rfl : ofTag v.tag (v.l, false) = some (Thing.authent (nameO T0) (numO T14) (numO T15) (keyO T16) (bytesO T17), T18)) hk hdn) (show ThR G _ _ (Thing.authent (nameO T0) (numO T14) (numO T15) (keyO T16) (bytesO T17)) from ⟨_, _, rfl, h25.rd 1 rfl⟩) h25.below0
theorem of_fact {G : Nat -> Prop} {B A : Option Addr} {d c : Nat} {v : DVal} {w : World} (hsm : Sm v.l) (hL : (rLst G A c v.l).Φ w) (ht : v.tag = 6) : Calls Try.prog 42 #[.agg #[.int .i64 (v.kind : Int), .int .i64 (v.tag : Int), .int .u64 (v.n : Int), .slice B v.b.length d, .slice A v.l.length c]] w (OfPost w G (ofF v)) := by
 have h0 := Hp.ro1 (rLst G A c v.l) hL
 refine enter 104 Try.func42 rfl rfl ?_
 refine wp_reset 105 [(0, (aV ([(D ((v.kind : Int))), (D ((v.tag : Int))), (iV .u64 ((v.n : Int))), (lV B v.b.length d), (lV A v.l.length c)]).toArray))] (fun x0 => ?_)
 refine wR fun K1 hK1 => ?_
 refine wT 1 (xN h0 106 ([(D ((v.kind : Int))), (D ((v.tag : Int))), (iV .u64 ((v.n : Int))), (lV B v.b.length d), (lV A v.l.length c)])) ?_
 rintro _ w2 ⟨g2, rfl, h2⟩
 refine wq_p 2 [(3, V), (2, Value.nilIface)] ?_
 refine wE hK1 (wR fun K3 hK3 => ?_)
 refine wV 6 (aV ([(D ((v.kind : Int))), (D ((v.tag : Int))), (iV .u64 ((v.n : Int))), (lV B v.b.length d), (lV A v.l.length c)]).toArray) (eLs (h2.at_ 0 rfl) 106 (.tmp 1) 0 ([(D ((v.kind : Int))), (D ((v.tag : Int))), (iV .u64 ((v.n : Int))), (lV B v.b.length d), (lV A v.l.length c)])) ?_
 refine wT 7 (x_take h2 [(aV ([(D ((v.kind : Int))), (D ((v.tag : Int))), (iV .u64 ((v.n : Int))), (lV B v.b.length d), (lV A v.l.length c)]).toArray)] (by kernel_rfl) (take_any v.kind v.tag v.n B A v.b.length d v.l.length c _)) ?_
 rintro _ w4 ⟨tb, rfl, h4⟩
 obtain ⟨T0, hT0⟩ : ∃ T, T = ((v.l, false) : TkSt) := ⟨_, rfl⟩
 have e1 : v.l = T0.1 := by rw [hT0]
 have e2 : false = T0.2 := by rw [hT0]
 have hsm0 : Sm T0.1 := by rw [← e1]; exact hsm
 have h5 := h4.below (Below.refl _ _)
 rw [e1, e2] at h5
 refine wq_p 1 [(4, (pt tb 0))] ?_
 refine wE hK3 (wR fun K6 hK6 => ?_)
 refine wq_p 1 [(5, Value.nilIface)] ?_
 refine wE hK6 (wp_seq_k fun K7 hK7 => wR fun K8 hK8 => ?_)
 refine wq_p 1 [(8, (pt g2 1))] (wV 9 (D ((v.tag : Int))) (eL (h5.at_ 1 rfl) 3 (.tmp 8) 1 _) ?_)
 refine wE hK8 (wp_block (wR fun K9 hK9 => ?_))
 refine wV 11 V (eqI (bV (((v.tag : Int)) == 1)) (tag_ne ht (by decide))) (wq_p 1 [(10, V)] ?_)
 refine wE hK9 (cF (wR fun K10 hK10 => ?_))
 refine wV 19 V (eqI (bV (((v.tag : Int)) == 2)) (tag_ne ht (by decide))) (wq_p 1 [(18, V)] ?_)
 refine wE hK10 (cF (wR fun K11 hK11 => ?_))
 refine wV 35 V (eqI (bV (((v.tag : Int)) == 3)) (tag_ne ht (by decide))) (wq_p 1 [(34, V)] ?_)
 refine wE hK11 (cF (wp_seq_k fun K12 hK12 => ?_))
 refine wp_reset 105 [(1, (pt g2 0)), (2, Value.nilIface), (3, V), (4, (pt tb 0)), (5, Value.nilIface), (9, (D ((v.tag : Int))))] (fun x13 => ?_)
 refine reg_lit ?_
 refine wV 53 V (eqI (bV (((v.tag : Int)) == 4)) (tag_ne ht (by decide))) (wq_p 1 [(52, V)] ?_)
 refine wE hK12 (cF (wR fun K14 hK14 => ?_))
 refine wV 67 V (eqI (bV (((v.tag : Int)) == 5)) (tag_ne ht (by decide))) (wq_p 1 [(66, V)] ?_)
 refine wE hK14 (cF (wR fun K15 hK15 => ?_))
 refine wV 75 I (eqI (bV (((v.tag : Int)) == 6)) (tag_eq ht)) (wq_p 1 [(74, I)] ?_)
 refine wE hK15 (cT (reg_lit ?_))
 refine wq_p 1 [(76, (pt tb 0))] ?_
 refine wT 77 (x_tkT h5 0 rfl 0 rfl (T := T0) (T1 := numT T0) (u := .int .i64 (numO T0)) 63 [(pt tb 0)] (by kernel_rfl) (tkNum_any (h5.rd 0 rfl) (h5.at_ 0 rfl) (h5.offTk 0 0 rfl rfl))) ?_
 rintro _ w16 ⟨A16, c16, T16, hT16, rfl, h16⟩
 have hsm16 : Sm T16.1 := by rw [hT16]; exact Sm.nxT (T := T0) hsm0 0
 refine wq_p 1 [(78, (pt tb 0))] ?_
 refine wT 79 (x_tkT h16 0 rfl 0 rfl (T := T16) (T1 := nameT T16) (u := .string (nameO T16)) 61 [(pt tb 0)] (by kernel_rfl) (tkName_any (h16.rd 0 rfl) (h16.at_ 0 rfl) (h16.offTk 0 0 rfl rfl) hsm16)) ?_
 rintro _ w17 ⟨A17, c17, T17, hT17, rfl, h17⟩
 have hsm17 : Sm T17.1 := by rw [hT17]; exact Sm.nxT (T := T16) hsm16 1
 refine wq_p 1 [(80, (pt tb 0))] ?_
 refine wT 81 (x_tkT h17 0 rfl 0 rfl (T := T17) (T1 := truthT T17) (u := .bool (truthO T17)) 65 [(pt tb 0)] (by kernel_rfl) (tkTruth_any (h17.rd 0 rfl) (h17.at_ 0 rfl) (h17.offTk 0 0 rfl rfl))) ?_
 rintro _ w18 ⟨A18, c18, T18, hT18, rfl, h18⟩
 have hsm18 : Sm T18.1 := by rw [hT18]; exact Sm.nxT (T := T17) hsm17 0
 refine wq_p 1 [(82, (pt tb 0))] ?_
 refine wT 83 (x_tkT h18 0 rfl 0 rfl (T := T18) (T1 := numT T18) (u := .int .i64 (numO T18)) 63 [(pt tb 0)] (by kernel_rfl) (tkNum_any (h18.rd 0 rfl) (h18.at_ 0 rfl) (h18.offTk 0 0 rfl rfl))) ?_
 rintro _ w19 ⟨A19, c19, T19, hT19, rfl, h19⟩
 have hsm19 : Sm T19.1 := by rw [hT19]; exact Sm.nxT (T := T18) hsm18 0
 refine wq_p 3 [(5, (Value.iface 143 (aV ([(D (numO T0)), (sV (nameO T16)), (bV (truthO T17)), (D (numO T18))]).toArray))), (85, (Value.iface 143 (aV ([(D (numO T0)), (sV (nameO T16)), (bV (truthO T17)), (D (numO T18))]).toArray))), (84, (aV ([(D (numO T0)), (sV (nameO T16)), (bV (truthO T17)), (D (numO T18))]).toArray))] ?_
 refine wl_end rfl (blk_n (seq_n hK7 (wp_seq_k fun K20 hK20 => wp_seq_k fun K21 hK21 => ?_)))
 obtain hk | ⟨hk, hdn⟩ | ⟨hk, hdn⟩ : v.kind ≠ 2 ∨ (v.kind = 2 /\ doneO T19 = false) ∨ (v.kind = 2 /\ doneO T19 = true) := of_cases _ _
 ·
  refine reg_lit ?_
  refine wq_p 1 [(92, (pt g2 0))] (wV 93 (D ((v.kind : Int))) (eL (h19.at_ 1 rfl) 3 (.tmp 92) 0 _) (wV 94 I (eqI (bV (((v.kind : Int)) != 2)) (ine (b := 2) hk)) (wq_p 2 [(96, undef), (95, I)] ?_)))
  refine wq_p 1 [(97, undef)] (wq_p 4 [(101, undef), (100, undef), (99, I), (98, I)] (wq_p 1 [(102, undef)] (wq_p 1 [(103, I)] ?_)))
  refine wE hK21 (cT (wp_seq_k fun K23 hK23 => ?_))
  refine wp_reset 105 [(2, Value.nilIface), (3, V), (5, (Value.iface 143 (aV ([(D (numO T0)), (sV (nameO T16)), (bV (truthO T17)), (D (numO T18))]).toArray))), (103, I)] (fun x24 => ?_)
  refine reg_lit ?_
  refine wq_p 2 [(3, V), (2, Value.nilIface)] ?_
  refine wE hK23 (wp_ret (seq_r ?_))
  refine post_2 rfl (by kernel_rfl) (rtm Value.nilIface) (rtm V) ?_
  exact ofpost_no (of_no (by rw [ht]; subst hT0 hT16 hT17 hT18 hT19; rfl : ofTag v.tag (v.l, false) = some (Thing.fact (numO T0) (nameO T16) (truthO T17) (numO T18), T19)) (by rintro ⟨h1, h2⟩; first | exact hk h1 | (rw [hdn] at h2; cases h2))) h19.below0
 ·
  refine reg_lit ?_
  refine wq_p 1 [(92, (pt g2 0))] (wV 93 (D ((v.kind : Int))) (eL (h19.at_ 1 rfl) 3 (.tmp 92) 0 _) (wV 94 V (eqI (bV (((v.kind : Int)) != 2)) (ieq (b := 2) hk)) (wq_p 2 [(96, (Value.iface 143 (aV ([(D (numO T0)), (sV (nameO T16)), (bV (truthO T17)), (D (numO T18))]).toArray))), (95, V)] ?_)))
  refine wV 97 V (pureOp_run (by kernel_rfl) _) (wq_p 3 [(100, (pt tb 0)), (99, V), (98, V)] ?_)
  refine wT 101 (x_dp h19 66 [(pt tb 0)] (by kernel_rfl) (tkDone_any (bad := T19.2) (ts := T19.1) (h19.at_ 0 rfl))) ?_
  rintro _ w25 ⟨rfl, h25⟩
  refine wV 102 I (eqI (bV (!(doneO T19))) (congrArg bV (by rw [hdn]; rfl))) (wq_p 1 [(103, I)] ?_)
  refine wE hK21 (cT (wp_seq_k fun K26 hK26 => ?_))
  refine wp_reset 105 [(2, Value.nilIface), (3, V), (5, (Value.iface 143 (aV ([(D (numO T0)), (sV (nameO T16)), (bV (truthO T17)), (D (numO T18))]).toArray))), (103, I)] (fun x27 => ?_)
  refine reg_lit ?_
  refine wq_p 2 [(3, V), (2, Value.nilIface)] ?_
  refine wE hK26 (wp_ret (seq_r ?_))
  refine post_2 rfl (by kernel_rfl) (rtm Value.nilIface) (rtm V) ?_
  exact ofpost_no (of_no (by rw [ht]; subst hT0 hT16 hT17 hT18 hT19; rfl : ofTag v.tag (v.l, false) = some (Thing.fact (numO T0) (nameO T16) (truthO T17) (numO T18), T19)) (by rintro ⟨h1, h2⟩; first | exact hk h1 | (rw [hdn] at h2; cases h2))) h25.below0
 ·
  refine reg_lit ?_
  refine wq_p 1 [(92, (pt g2 0))] (wV 93 (D ((v.kind : Int))) (eL (h19.at_ 1 rfl) 3 (.tmp 92) 0 _) (wV 94 V (eqI (bV (((v.kind : Int)) != 2)) (ieq (b := 2) hk)) (wq_p 2 [(96, (Value.iface 143 (aV ([(D (numO T0)), (sV (nameO T16)), (bV (truthO T17)), (D (numO T18))]).toArray))), (95, V)] ?_)))
  refine wV 97 V (pureOp_run (by kernel_rfl) _) (wq_p 3 [(100, (pt tb 0)), (99, V), (98, V)] ?_)
  refine wT 101 (x_dp h19 66 [(pt tb 0)] (by kernel_rfl) (tkDone_any (bad := T19.2) (ts := T19.1) (h19.at_ 0 rfl))) ?_
  rintro _ w28 ⟨rfl, h28⟩
  refine wV 102 V (eqI (bV (!(doneO T19))) (congrArg bV (by rw [hdn]; rfl))) (wq_p 1 [(103, V)] ?_)
  refine wE hK21 (cF (wp_skip (seq_n hK20 (wp_seq_k fun K29 hK29 => ?_))))
  refine wp_reset 105 [(2, Value.nilIface), (3, V), (5, (Value.iface 143 (aV ([(D (numO T0)), (sV (nameO T16)), (bV (truthO T17)), (D (numO T18))]).toArray)))] (fun x30 => ?_)
  refine reg_lit ?_
  refine wq_p 3 [(3, I), (2, (Value.iface 143 (aV ([(D (numO T0)), (sV (nameO T16)), (bV (truthO T17)), (D (numO T18))]).toArray))), (104, (Value.iface 143 (aV ([(D (numO T0)), (sV (nameO T16)), (bV (truthO T17)), (D (numO T18))]).toArray)))] ?_
  refine wE hK29 (wp_ret ?_)
  refine post_2 rfl (by kernel_rfl) (rtm (Value.iface 143 (aV ([(D (numO T0)), (sV (nameO T16)), (bV (truthO T17)), (D (numO T18))]).toArray))) (rtm I) ?_
  exact ofpost_yes (of_yes (by rw [ht]; subst hT0 hT16 hT17 hT18 hT19; rfl : ofTag v.tag (v.l, false) = some (Thing.fact (numO T0) (nameO T16) (truthO T17) (numO T18), T19)) hk hdn) (show ThR G _ _ (Thing.fact (numO T0) (nameO T16) (truthO T17) (numO T18)) from rfl) h28.below0
theorem of_plain {G : Nat -> Prop} {B A : Option Addr} {d c : Nat} {v : DVal} {w : World} (hsm : Sm v.l) (hL : (rLst G A c v.l).Φ w) (ht : v.tag = 7) : Calls Try.prog 42 #[.agg #[.int .i64 (v.kind : Int), .int .i64 (v.tag : Int), .int .u64 (v.n : Int), .slice B v.b.length d, .slice A v.l.length c]] w (OfPost w G (ofF v)) := by
 have h0 := Hp.ro1 (rLst G A c v.l) hL
 refine enter 104 Try.func42 rfl rfl ?_
 refine wp_reset 105 [(0, (aV ([(D ((v.kind : Int))), (D ((v.tag : Int))), (iV .u64 ((v.n : Int))), (lV B v.b.length d), (lV A v.l.length c)]).toArray))] (fun x0 => ?_)
 refine wR fun K1 hK1 => ?_
 refine wT 1 (xN h0 106 ([(D ((v.kind : Int))), (D ((v.tag : Int))), (iV .u64 ((v.n : Int))), (lV B v.b.length d), (lV A v.l.length c)])) ?_
 rintro _ w2 ⟨g2, rfl, h2⟩
 refine wq_p 2 [(3, V), (2, Value.nilIface)] ?_
 refine wE hK1 (wR fun K3 hK3 => ?_)
 refine wV 6 (aV ([(D ((v.kind : Int))), (D ((v.tag : Int))), (iV .u64 ((v.n : Int))), (lV B v.b.length d), (lV A v.l.length c)]).toArray) (eLs (h2.at_ 0 rfl) 106 (.tmp 1) 0 ([(D ((v.kind : Int))), (D ((v.tag : Int))), (iV .u64 ((v.n : Int))), (lV B v.b.length d), (lV A v.l.length c)])) ?_
 refine wT 7 (x_take h2 [(aV ([(D ((v.kind : Int))), (D ((v.tag : Int))), (iV .u64 ((v.n : Int))), (lV B v.b.length d), (lV A v.l.length c)]).toArray)] (by kernel_rfl) (take_any v.kind v.tag v.n B A v.b.length d v.l.length c _)) ?_
 rintro _ w4 ⟨tb, rfl, h4⟩
 obtain ⟨T0, hT0⟩ : ∃ T, T = ((v.l, false) : TkSt) := ⟨_, rfl⟩
 have e1 : v.l = T0.1 := by rw [hT0]
 have e2 : false = T0.2 := by rw [hT0]
 have hsm0 : Sm T0.1 := by rw [← e1]; exact hsm
 have h5 := h4.below (Below.refl _ _)
 rw [e1, e2] at h5
 refine wq_p 1 [(4, (pt tb 0))] ?_
 refine wE hK3 (wR fun K6 hK6 => ?_)
 refine wq_p 1 [(5, Value.nilIface)] ?_
 refine wE hK6 (wp_seq_k fun K7 hK7 => wR fun K8 hK8 => ?_)
 refine wq_p 1 [(8, (pt g2 1))] (wV 9 (D ((v.tag : Int))) (eL (h5.at_ 1 rfl) 3 (.tmp 8) 1 _) ?_)
 refine wE hK8 (wp_block (wR fun K9 hK9 => ?_))
 refine wV 11 V (eqI (bV (((v.tag : Int)) == 1)) (tag_ne ht (by decide))) (wq_p 1 [(10, V)] ?_)
 refine wE hK9 (cF (wR fun K10 hK10 => ?_))
 refine wV 19 V (eqI (bV (((v.tag : Int)) == 2)) (tag_ne ht (by decide))) (wq_p 1 [(18, V)] ?_)
 refine wE hK10 (cF (wR fun K11 hK11 => ?_))
 refine wV 35 V (eqI (bV (((v.tag : Int)) == 3)) (tag_ne ht (by decide))) (wq_p 1 [(34, V)] ?_)
 refine wE hK11 (cF (wp_seq_k fun K12 hK12 => ?_))
 refine wp_reset 105 [(1, (pt g2 0)), (2, Value.nilIface), (3, V), (4, (pt tb 0)), (5, Value.nilIface), (9, (D ((v.tag : Int))))] (fun x13 => ?_)
 refine reg_lit ?_
 refine wV 53 V (eqI (bV (((v.tag : Int)) == 4)) (tag_ne ht (by decide))) (wq_p 1 [(52, V)] ?_)
 refine wE hK12 (cF (wR fun K14 hK14 => ?_))
 refine wV 67 V (eqI (bV (((v.tag : Int)) == 5)) (tag_ne ht (by decide))) (wq_p 1 [(66, V)] ?_)
 refine wE hK14 (cF (wR fun K15 hK15 => ?_))
 refine wV 75 V (eqI (bV (((v.tag : Int)) == 6)) (tag_ne ht (by decide))) (wq_p 1 [(74, V)] ?_)
 refine wE hK15 (cF (wR fun K16 hK16 => ?_))
 refine wV 87 I (eqI (bV (((v.tag : Int)) == 7)) (tag_eq ht)) (wq_p 1 [(86, I)] ?_)
 refine wE hK16 (cT (reg_lit ?_))
 refine wq_p 1 [(88, (pt tb 0))] ?_
 refine wT 89 (x_bkT h5 0 rfl 0 rfl (T := T0) (T1 := bytesT T0) (l := bytesO T0) 62 [(pt tb 0)] (by kernel_rfl) (tkBytes_any (h5.rd 0 rfl) (h5.at_ 0 rfl) (h5.offTk 0 0 rfl rfl))) ?_
 rintro _ w17 ⟨A17, c17, T17, B17, d17, hT17, rfl, h17⟩
 have hsm17 : Sm T17.1 := by rw [hT17]; exact Sm.nxT (T := T0) hsm0 1
 refine wq_p 3 [(5, (Value.iface 37 (aV ([(lV B17 ((bytesO T0).length) d17)]).toArray))), (91, (Value.iface 37 (aV ([(lV B17 ((bytesO T0).length) d17)]).toArray))), (90, (aV ([(lV B17 ((bytesO T0).length) d17)]).toArray))] ?_
 refine wl_end rfl (blk_n (seq_n hK7 (wp_seq_k fun K18 hK18 => wp_seq_k fun K19 hK19 => ?_)))
 obtain hk | ⟨hk, hdn⟩ | ⟨hk, hdn⟩ : v.kind ≠ 2 ∨ (v.kind = 2 /\ doneO T17 = false) ∨ (v.kind = 2 /\ doneO T17 = true) := of_cases _ _
 ·
  refine reg_lit ?_
  refine wq_p 1 [(92, (pt g2 0))] (wV 93 (D ((v.kind : Int))) (eL (h17.at_ 1 rfl) 3 (.tmp 92) 0 _) (wV 94 I (eqI (bV (((v.kind : Int)) != 2)) (ine (b := 2) hk)) (wq_p 2 [(96, undef), (95, I)] ?_)))
  refine wq_p 1 [(97, undef)] (wq_p 4 [(101, undef), (100, undef), (99, I), (98, I)] (wq_p 1 [(102, undef)] (wq_p 1 [(103, I)] ?_)))
  refine wE hK19 (cT (wR fun K21 hK21 => ?_))
  refine wq_p 2 [(3, V), (2, Value.nilIface)] ?_
  refine wE hK21 (wp_ret (seq_r ?_))
  refine post_2 rfl (by kernel_rfl) (rtm Value.nilIface) (rtm V) ?_
  exact ofpost_no (of_no (by rw [ht]; subst hT0 hT17; rfl : ofTag v.tag (v.l, false) = some (Thing.plain (bytesO T0), T17)) (by rintro ⟨h1, h2⟩; first | exact hk h1 | (rw [hdn] at h2; cases h2))) h17.below0
 ·
  refine reg_lit ?_
  refine wq_p 1 [(92, (pt g2 0))] (wV 93 (D ((v.kind : Int))) (eL (h17.at_ 1 rfl) 3 (.tmp 92) 0 _) (wV 94 V (eqI (bV (((v.kind : Int)) != 2)) (ieq (b := 2) hk)) (wq_p 2 [(96, (Value.iface 37 (aV ([(lV B17 ((bytesO T0).length) d17)]).toArray))), (95, V)] ?_)))
  refine wV 97 V (pureOp_run (by kernel_rfl) _) (wq_p 3 [(100, (pt tb 0)), (99, V), (98, V)] ?_)
  refine wT 101 (x_dp h17 66 [(pt tb 0)] (by kernel_rfl) (tkDone_any (bad := T17.2) (ts := T17.1) (h17.at_ 0 rfl))) ?_
  rintro _ w22 ⟨rfl, h22⟩
  refine wV 102 I (eqI (bV (!(doneO T17))) (congrArg bV (by rw [hdn]; rfl))) (wq_p 1 [(103, I)] ?_)
  refine wE hK19 (cT (wp_seq_k fun K23 hK23 => ?_))
  refine wp_reset 105 [(2, Value.nilIface), (3, V), (5, (Value.iface 37 (aV ([(lV B17 ((bytesO T0).length) d17)]).toArray))), (103, I)] (fun x24 => ?_)
  refine reg_lit ?_
  refine wq_p 2 [(3, V), (2, Value.nilIface)] ?_
  refine wE hK23 (wp_ret (seq_r ?_))
  refine post_2 rfl (by kernel_rfl) (rtm Value.nilIface) (rtm V) ?_
  exact ofpost_no (of_no (by rw [ht]; subst hT0 hT17; rfl : ofTag v.tag (v.l, false) = some (Thing.plain (bytesO T0), T17)) (by rintro ⟨h1, h2⟩; first | exact hk h1 | (rw [hdn] at h2; cases h2))) h22.below0
 ·
  refine reg_lit ?_
  refine wq_p 1 [(92, (pt g2 0))] (wV 93 (D ((v.kind : Int))) (eL (h17.at_ 1 rfl) 3 (.tmp 92) 0 _) (wV 94 V (eqI (bV (((v.kind : Int)) != 2)) (ieq (b := 2) hk)) (wq_p 2 [(96, (Value.iface 37 (aV ([(lV B17 ((bytesO T0).length) d17)]).toArray))), (95, V)] ?_)))
  refine wV 97 V (pureOp_run (by kernel_rfl) _) (wq_p 3 [(100, (pt tb 0)), (99, V), (98, V)] ?_)
  refine wT 101 (x_dp h17 66 [(pt tb 0)] (by kernel_rfl) (tkDone_any (bad := T17.2) (ts := T17.1) (h17.at_ 0 rfl))) ?_
  rintro _ w25 ⟨rfl, h25⟩
  refine wV 102 V (eqI (bV (!(doneO T17))) (congrArg bV (by rw [hdn]; rfl))) (wq_p 1 [(103, V)] ?_)
  refine wE hK19 (cF (wp_skip (seq_n hK18 (wp_seq_k fun K26 hK26 => ?_))))
  refine wp_reset 105 [(2, Value.nilIface), (3, V), (5, (Value.iface 37 (aV ([(lV B17 ((bytesO T0).length) d17)]).toArray)))] (fun x27 => ?_)
  refine reg_lit ?_
  refine wq_p 3 [(3, I), (2, (Value.iface 37 (aV ([(lV B17 ((bytesO T0).length) d17)]).toArray))), (104, (Value.iface 37 (aV ([(lV B17 ((bytesO T0).length) d17)]).toArray)))] ?_
  refine wE hK26 (wp_ret ?_)
  refine post_2 rfl (by kernel_rfl) (rtm (Value.iface 37 (aV ([(lV B17 ((bytesO T0).length) d17)]).toArray))) (rtm I) ?_
  exact ofpost_yes (of_yes (by rw [ht]; subst hT0 hT17; rfl : ofTag v.tag (v.l, false) = some (Thing.plain (bytesO T0), T17)) hk hdn) (show ThR G _ _ (Thing.plain (bytesO T0)) from ⟨_, _, rfl, h25.rd 1 rfl⟩) h25.below0
theorem of_none {G : Nat -> Prop} {B A : Option Addr} {d c : Nat} {v : DVal} {w : World} (hsm : Sm v.l) (hL : (rLst G A c v.l).Φ w) (ht : v.tag = 0 ∨ 7 < v.tag) : Calls Try.prog 42 #[.agg #[.int .i64 (v.kind : Int), .int .i64 (v.tag : Int), .int .u64 (v.n : Int), .slice B v.b.length d, .slice A v.l.length c]] w (OfPost w G (ofF v)) := by
 have h0 := Hp.ro1 (rLst G A c v.l) hL
 refine enter 104 Try.func42 rfl rfl ?_
 refine wp_reset 105 [(0, (aV ([(D ((v.kind : Int))), (D ((v.tag : Int))), (iV .u64 ((v.n : Int))), (lV B v.b.length d), (lV A v.l.length c)]).toArray))] (fun x0 => ?_)
 refine wR fun K1 hK1 => ?_
 refine wT 1 (xN h0 106 ([(D ((v.kind : Int))), (D ((v.tag : Int))), (iV .u64 ((v.n : Int))), (lV B v.b.length d), (lV A v.l.length c)])) ?_
 rintro _ w2 ⟨g2, rfl, h2⟩
 refine wq_p 2 [(3, V), (2, Value.nilIface)] ?_
 refine wE hK1 (wR fun K3 hK3 => ?_)
 refine wV 6 (aV ([(D ((v.kind : Int))), (D ((v.tag : Int))), (iV .u64 ((v.n : Int))), (lV B v.b.length d), (lV A v.l.length c)]).toArray) (eLs (h2.at_ 0 rfl) 106 (.tmp 1) 0 ([(D ((v.kind : Int))), (D ((v.tag : Int))), (iV .u64 ((v.n : Int))), (lV B v.b.length d), (lV A v.l.length c)])) ?_
 refine wT 7 (x_take h2 [(aV ([(D ((v.kind : Int))), (D ((v.tag : Int))), (iV .u64 ((v.n : Int))), (lV B v.b.length d), (lV A v.l.length c)]).toArray)] (by kernel_rfl) (take_any v.kind v.tag v.n B A v.b.length d v.l.length c _)) ?_
 rintro _ w4 ⟨tb, rfl, h4⟩
 obtain ⟨T0, hT0⟩ : ∃ T, T = ((v.l, false) : TkSt) := ⟨_, rfl⟩
 have e1 : v.l = T0.1 := by rw [hT0]
 have e2 : false = T0.2 := by rw [hT0]
 have hsm0 : Sm T0.1 := by rw [← e1]; exact hsm
 have h5 := h4.below (Below.refl _ _)
 rw [e1, e2] at h5
 refine wq_p 1 [(4, (pt tb 0))] ?_
 refine wE hK3 (wR fun K6 hK6 => ?_)
 refine wq_p 1 [(5, Value.nilIface)] ?_
 refine wE hK6 (wp_seq_k fun K7 hK7 => wR fun K8 hK8 => ?_)
 refine wq_p 1 [(8, (pt g2 1))] (wV 9 (D ((v.tag : Int))) (eL (h5.at_ 1 rfl) 3 (.tmp 8) 1 _) ?_)
 refine wE hK8 (wp_block (wR fun K9 hK9 => ?_))
 refine wV 11 V (eqI (bV (((v.tag : Int)) == 1)) (tag_none ht (by decide) (by decide))) (wq_p 1 [(10, V)] ?_)
 refine wE hK9 (cF (wR fun K10 hK10 => ?_))
 refine wV 19 V (eqI (bV (((v.tag : Int)) == 2)) (tag_none ht (by decide) (by decide))) (wq_p 1 [(18, V)] ?_)
 refine wE hK10 (cF (wR fun K11 hK11 => ?_))
 refine wV 35 V (eqI (bV (((v.tag : Int)) == 3)) (tag_none ht (by decide) (by decide))) (wq_p 1 [(34, V)] ?_)
 refine wE hK11 (cF (wp_seq_k fun K12 hK12 => ?_))
 refine wp_reset 105 [(1, (pt g2 0)), (2, Value.nilIface), (3, V), (4, (pt tb 0)), (5, Value.nilIface), (9, (D ((v.tag : Int))))] (fun x13 => ?_)
 refine reg_lit ?_
 refine wV 53 V (eqI (bV (((v.tag : Int)) == 4)) (tag_none ht (by decide) (by decide))) (wq_p 1 [(52, V)] ?_)
 refine wE hK12 (cF (wR fun K14 hK14 => ?_))
 refine wV 67 V (eqI (bV (((v.tag : Int)) == 5)) (tag_none ht (by decide) (by decide))) (wq_p 1 [(66, V)] ?_)
 refine wE hK14 (cF (wR fun K15 hK15 => ?_))
 refine wV 75 V (eqI (bV (((v.tag : Int)) == 6)) (tag_none ht (by decide) (by decide))) (wq_p 1 [(74, V)] ?_)
 refine wE hK15 (cF (wR fun K16 hK16 => ?_))
 refine wV 87 V (eqI (bV (((v.tag : Int)) == 7)) (tag_none ht (by decide) (by decide))) (wq_p 1 [(86, V)] ?_)
 refine wE hK16 (cF (wp_skip (blk_n (seq_n hK7 (wp_seq_k fun K17 hK17 => wp_seq_k fun K18 hK18 => ?_)))))
 rcases Classical.em (v.kind = 2) with hk | hk
 ·
  refine reg_lit ?_
  refine wq_p 1 [(92, (pt g2 0))] (wV 93 (D ((v.kind : Int))) (eL (h5.at_ 1 rfl) 3 (.tmp 92) 0 _) (wV 94 V (eqI (bV (((v.kind : Int)) != 2)) (ieq (b := 2) hk)) (wq_p 2 [(96, Value.nilIface), (95, V)] ?_)))
  refine wV 97 I (pureOp_run (by kernel_rfl) _) (wq_p 6 [(103, I), (102, undef), (101, undef), (100, undef), (99, I), (98, I)] ?_)
  refine wE hK18 (cT (wR fun K20 hK20 => ?_))
  refine wq_p 2 [(3, V), (2, Value.nilIface)] ?_
  refine wE hK20 (wp_ret (seq_r ?_))
  refine post_2 rfl (by kernel_rfl) (rtm Value.nilIface) (rtm V) ?_
  exact ofpost_no (by unfold ofF; rw [ofTag_none ht]; rfl) h5.below0
 ·
  refine reg_lit ?_
  refine wq_p 1 [(92, (pt g2 0))] (wV 93 (D ((v.kind : Int))) (eL (h5.at_ 1 rfl) 3 (.tmp 92) 0 _) (wV 94 I (eqI (bV (((v.kind : Int)) != 2)) (ine (b := 2) hk)) (wq_p 2 [(96, undef), (95, I)] ?_)))
  refine wq_p 1 [(97, undef)] (wq_p 6 [(103, I), (102, undef), (101, undef), (100, undef), (99, I), (98, I)] ?_)
  refine wE hK18 (cT (wR fun K21 hK21 => ?_))
  refine wq_p 2 [(3, V), (2, Value.nilIface)] ?_
  refine wE hK21 (wp_ret (seq_r ?_))
  refine post_2 rfl (by kernel_rfl) (rtm Value.nilIface) (rtm V) ?_
  exact ofpost_no (by unfold ofF; rw [ofTag_none ht]; rfl) h5.below0
theorem of_any {G : Nat -> Prop} {cs : List Value} {v : DVal} {w : World} (hsm : Sm v.l) (hv : (rDV G cs v).Φ w) : Calls Try.prog 42 #[.agg cs.toArray] w (OfPost w G (ofF v)) := by
 obtain ⟨B, d, A, c, rfl, hsg, hls, hn⟩ := dv_lst hv
 rcases Nat.lt_or_ge 7 v.tag with h7 | h7
 · exact of_none hsm hls (.inr h7)
 · rcases (by omega : v.tag = 0 ∨ v.tag = 1 ∨ v.tag = 2 ∨ v.tag = 3 ∨ v.tag = 4 ∨ v.tag = 5 ∨ v.tag = 6 ∨ v.tag = 7) with h | h | h | h | h | h | h | h
   · exact of_none hsm hls (.inl h)
   · exact of_ticket hsm hls h
   · exact of_inside hsm hls h
   · exact of_reply hsm hls h
   · exact of_authent hsm hls h
   · exact of_stamp hsm hls h
   · exact of_fact hsm hls h
   · exact of_plain hsm hls h
end
section
open Go.RowKit Go.QT
theorem szB_head (k t m : Nat) (r : Bytes) (hm : m < 65536) (hr : m <= r.length) : szB (headB k t m ++ r) = (0, m, (headB k t m).length) := by
 by_cases h : m < 128
 · have hl := head_loL k t h
   have h1 := head_lo1 k t h r
   unfold szB
   rw [h1, hl, if_neg (by rw [List.length_append, hl]; omega), if_pos h, if_pos (by rw [List.length_append, hl]; omega)]
 · have hl := head_hiL k t h
   have h1 := head_hi1 k t h r
   have h2 := short_two (m := m) (by omega) hm
   have h3 := head_hi2 k t h r
   have h4 := getN_short (n := m) (by omega)
   have hL : (headB k t m ++ r).length = 2 + (shortB m).length + r.length := by rw [List.length_append, hl]
   unfold szB
   rw [h1, hl, show 128 + (shortB m).length - 128 = (shortB m).length by omega, h3, h4, hL]
   rw [if_neg (by omega), if_neg (by omega), if_neg (by omega), if_neg (by omega), if_neg (by omega), if_pos (by omega)]
theorem rdB_wr (m : Nat) : ∀ (d : Nat), d + m = 9 -> ∀ (v : DVal) (r : Bytes), rightV v d = true -> numV v = true -> (wrV v).length < 65536 -> rdB m (wrV v ++ r) = .inr (v, (wrV v).length) := by
 induction m with
 | zero => intro d h v r hr; obtain ⟨k, t, n, b, ts⟩ := v; exact absurd (rightV_le hr).2.2 (by omega)
 | succ m ih =>
   intro d h v r hr hnum hb
   obtain ⟨k, t, n, b, ts⟩ := v
   obtain ⟨hk, ht, hd⟩ := rightV_le hr
   have hbl := wrV_len (.mk k t n b ts)
   have ew : wrV (.mk k t n b ts) = headB k t (bodyV (.mk k t n b ts)).length ++ bodyV (.mk k t n b ts) := wrV_eq _
   have el : (wrV (.mk k t n b ts)).length = (headB k t (bodyV (.mk k t n b ts)).length).length + (bodyV (.mk k t n b ts)).length := by rw [ew, List.length_append]
   have eL : wrV (.mk k t n b ts) ++ r = headB k t (bodyV (.mk k t n b ts)).length ++ (bodyV (.mk k t n b ts) ++ r) := by rw [ew, List.append_assoc]
   rw [numV, Bool.and_eq_true, decide_eq_true_eq] at hnum
   have h0 := head_0 k t (bodyV (.mk k t n b ts)).length hk ht (bodyV (.mk k t n b ts) ++ r)
   have hc := cut_mid (headB k t (bodyV (.mk k t n b ts)).length) (bodyV (.mk k t n b ts)) r
   have hs := szB_head k t (bodyV (.mk k t n b ts)).length (bodyV (.mk k t n b ts) ++ r) (by omega) (by rw [List.length_append]; omega)
   rw [rdB, eL, hs, h0]
   simp only
   rw [if_neg (fun hh => hh rfl), if_neg (by omega), hc, ← el, show (k * 64 + t) / 64 = k by omega, show (k * 64 + t) % 64 = t by omega]
   rw [rightV] at hr
   simp only [Bool.and_eq_true] at hr
   have hr := hr.2
   match k, hk with
   | 0, _ =>
     rw [if_pos rfl, Bool.and_eq_true, List.isEmpty_iff, List.isEmpty_iff] at hr
     obtain ⟨rfl, rfl⟩ := hr
     have hbd : bodyV (.mk 0 t n [] []) = shortB n := rfl
     have hs1 := List.length_pos_iff.2 (shortB_ne n)
     have hs8 := shortB_len n
     rw [hbd, ptB, if_pos rfl, getN_short hnum.1]
     rw [if_neg (fun hh => hh.elim (fun h => by omega) (fun hh => hh.elim (fun h => by omega) (fun h => short_lead n h.1 h.2)))]
   | 1, _ =>
     rw [if_neg (by decide), if_pos rfl, Bool.and_eq_true, decide_eq_true_eq, List.isEmpty_iff] at hr
     obtain ⟨rfl, rfl⟩ := hr
     rw [ptB, if_neg (by decide), if_pos rfl]; rfl
   | 2, _ =>
     rw [if_neg (by decide), if_neg (by decide), if_pos rfl, Bool.and_eq_true, Bool.and_eq_true, decide_eq_true_eq, List.isEmpty_iff] at hr
     obtain ⟨⟨hr, rfl⟩, rfl⟩ := hr
     have hbd : bodyV (.mk 2 t 0 [] ts) = wrL ts := rfl
     rw [hbd] at hbl ⊢
     rw [ptB, if_neg (by decide), if_neg (by decide)]
     have key : ∀ (us : List DVal), (∀ u ∈ us, u ∈ ts) -> ∀ f, (wrL us).length <= f -> lsB (rdB m) f (wrL us) = .inr us := by
       intro us
       induction us with
       | nil => intro _ f _; cases f with
         | zero => rfl
         | succ f => rw [lsB, wrL]; rfl
       | cons u us ih2 =>
         intro hm f hf
         have hu := wrV_pos u
         have e1 : wrL (u :: us) = wrV u ++ wrL us := by rw [wrL]
         have hmu := hm u (by simp)
         have hle := wrL_mem hmu
         rw [e1, List.length_append] at hf
         obtain ⟨g, rfl⟩ : ∃ g, f = g + 1 := ⟨f - 1, by omega⟩
         rw [lsB, e1, if_neg (by rw [List.length_append]; omega), ih (d + 1) (by omega) u (wrL us) (rightL_mem hr hmu) (numL_mem hnum.2 hmu) (by omega)]
         simp only
         rw [List.drop_left, ih2 (fun x hx => hm x (by simp [hx])) g (by omega)]
     rw [key ts (fun _ h => h) _ (Nat.le_refl _)]
/-- What der.Write wrote is read. -/
theorem RdB_wr (v : DVal) (hr : rightV v 1 = true) (hn : numV v = true) (hl : (wrV v).length <= 4096) : RdB (wrV v) = .inr v := by
 have h := rdB_wr 8 1 rfl v [] hr hn (by omega)
 rw [List.append_nil] at h
 unfold RdB
 rw [if_neg (by omega), h]
 simp only
 rw [if_neg (by omega)]
end
end Go.Proofs.Ytecomegocafocaa
