/- The walks of base: the comparison, the search, place, Get; cache.Near. -/
import Derived.Lib.Bytealg
import Derived.Test.YtecomegocafocaaCA14
set_option maxRecDepth 100000
set_option maxHeartbeats 4000000
namespace Go.Proofs.Ytecomegocafocaa
section
open Go.Value renaming int -> iV, slice -> lV, string -> sV, bool -> bV, agg -> aV
open Go.RowKit Go.QT
theorem unp_er {b : Bytes} {c : Nat} (h : unpB b = .inl c) : c ≠ 0 := by
 unfold unpB at h
 split at h
 · rename_i hr; injection h with h; subst h; exact RdB_er hr
 split at h
 · cases h
 · injection h with h; omega
/-- What tick.Open leaves, of a thing's type. -/
def outStamp : Nat ⊕ Thing -> Value
 | .inl c => .tuple #[(aV ([(iV .i64 0), (iV .i64 0)]).toArray), .int .i64 (c : Int)]
 | .inr (.stamp a q) => .tuple #[(aV ([(iV .i64 a), (iV .i64 q)]).toArray), .int .i64 0]
 | .inr _ => .tuple #[(aV ([(iV .i64 0), (iV .i64 0)]).toArray), .int .i64 4]
theorem outStamp_no {t : Thing} (h : tyTh t ≠ 49) : outStamp (.inr t) = .tuple #[(aV ([(iV .i64 0), (iV .i64 0)]).toArray), .int .i64 4] := by
 cases t <;> first | rfl | exact absurd rfl h
theorem oStamp_none {F : Nat -> Prop} {tb : Nat} {s : STab} {K : Fin 16 -> UInt8} {us : Int} {A : Option Addr} {c : Nat} {l : Bytes} {w : World} (hT : (rTab F tb s).Φ w) (hs : TabOk s) (hv : SB w (.slice A l.length c) l) (ho : s.open_ (kl K) us l = none) : Calls Try.prog 39 #[(Value.iface 24 (pt tb 0)), (aV (vb (kl K)).toArray), .int .i64 us, .slice A l.length c] w (DPost w (outStamp (.inl 13))) := by
 have h0 := ((Hp.ro1 (rSB (.slice A l.length c) l) hv).addR (rTab F tb s) hT (by simp))
 refine enter 41 Try.func39 rfl rfl ?_
 refine wp_reset 45 [(0, (Value.iface 24 (pt tb 0))), (1, (aV (vb (kl K)).toArray)), (2, (D us)), (3, (lV A l.length c))] (fun x0 => ?_)
 refine wR fun K1 hK1 => ?_
 refine wT 5 (xN h0 32 (vb (kl K))) ?_
 rintro _ w2 ⟨g2, rfl, h2⟩
 refine wT 8 (xN h2 49 ([O, O])) ?_
 rintro _ w3 ⟨g3, rfl, h3⟩
 refine wq_p 1 [(9, O)] ?_
 refine wE hK1 (wR fun K4 hK4 => ?_)
 refine wT 10 (xN h3 49 ([O, O])) ?_
 rintro _ w5 ⟨g5, rfl, h5⟩
 refine wE hK4 (wR fun K6 hK6 => ?_)
 refine wq_p 1 [(18, (Value.iface 24 (pt tb 0)))] (wV 19 (aV (vb (kl K)).toArray) (eLs (h5.at_ 2 rfl) 32 (.tmp 5) 0 (vb (kl K))) (wq_p 2 [(21, (lV A l.length c)), (20, (D us))] ?_))
 refine wT 22 (x_openR h5 0 rfl hs K us l (lV A l.length c) none (by kernel_rfl) (h5.rd 1 rfl) ho) ?_
 rintro _ w7 ⟨A7, c7, rfl, h7⟩
 refine wq_p 5 [(12, V), (11, (lV A7 0 c7)), (24, V), (23, (lV A7 0 c7)), (17, (Value.tuple #[(lV A7 0 c7), V]))] ?_
 refine wE hK6 (wp_seq_k fun K8 hK8 => wR fun K9 hK9 => ?_)
 refine wq_p 2 [(26, I), (25, V)] ?_
 refine wE hK9 (cT (wR fun K10 hK10 => ?_))
 refine wV 27 (aV ([O, O]).toArray) (eLs (h7.at_ 1 rfl) 49 (.tmp 10) 0 ([O, O])) ?_
 refine wq_to none (xSs h7 2 49 (.tmp 8) (.tmp 27) 0 ([O, O]) ([O, O])) ?_
 rintro _ w11 h11
 refine wq_p 1 [(9, (D 13))] ?_
 refine wE hK10 (wp_ret (seq_r ?_))
 refine post_2 rfl (by kernel_rfl) (rce (h11.at_ 2 rfl)) (rtm (D 13)) ?_
 exact ⟨rfl, h11.below0⟩
theorem oStamp_err {F : Nat -> Prop} {tb : Nat} {s : STab} {K : Fin 16 -> UInt8} {us : Int} {A : Option Addr} {c : Nat} {l : Bytes} {w : World} (hT : (rTab F tb s).Φ w) (hs : TabOk s) (hv : SB w (.slice A l.length c) l) {body : Bytes} {cc : Nat} (ho : s.open_ (kl K) us l = some body) (hu : unpB body = .inl cc) : Calls Try.prog 39 #[(Value.iface 24 (pt tb 0)), (aV (vb (kl K)).toArray), .int .i64 us, .slice A l.length c] w (DPost w (outStamp (.inl cc))) := by
 have h0 := ((Hp.ro1 (rSB (.slice A l.length c) l) hv).addR (rTab F tb s) hT (by simp))
 refine enter 41 Try.func39 rfl rfl ?_
 refine wp_reset 45 [(0, (Value.iface 24 (pt tb 0))), (1, (aV (vb (kl K)).toArray)), (2, (D us)), (3, (lV A l.length c))] (fun x0 => ?_)
 refine wR fun K1 hK1 => ?_
 refine wT 5 (xN h0 32 (vb (kl K))) ?_
 rintro _ w2 ⟨g2, rfl, h2⟩
 refine wT 8 (xN h2 49 ([O, O])) ?_
 rintro _ w3 ⟨g3, rfl, h3⟩
 refine wq_p 1 [(9, O)] ?_
 refine wE hK1 (wR fun K4 hK4 => ?_)
 refine wT 10 (xN h3 49 ([O, O])) ?_
 rintro _ w5 ⟨g5, rfl, h5⟩
 refine wE hK4 (wR fun K6 hK6 => ?_)
 refine wq_p 1 [(18, (Value.iface 24 (pt tb 0)))] (wV 19 (aV (vb (kl K)).toArray) (eLs (h5.at_ 2 rfl) 32 (.tmp 5) 0 (vb (kl K))) (wq_p 2 [(21, (lV A l.length c)), (20, (D us))] ?_))
 refine wT 22 (x_openR h5 0 rfl hs K us l (lV A l.length c) (some body) (by kernel_rfl) (h5.rd 1 rfl) ho) ?_
 rintro _ w7 ⟨A7, c7, rfl, h7⟩
 refine wq_p 5 [(12, I), (11, (lV A7 body.length c7)), (24, I), (23, (lV A7 body.length c7)), (17, (Value.tuple #[(lV A7 body.length c7), I]))] ?_
 refine wE hK6 (wp_seq_k fun K8 hK8 => wR fun K9 hK9 => ?_)
 refine wq_p 2 [(26, V), (25, I)] ?_
 refine wE hK9 (cF (wp_skip (seq_n hK8 (wR fun K10 hK10 => ?_))))
 refine wq_p 1 [(29, (lV A7 body.length c7))] ?_
 refine wT 30 (x_dp h7 15 [(lV A7 body.length c7)] (by kernel_rfl) (up_e hu (unp_any (OB.sb (h7.at_ 0 rfl))))) ?_
 rintro _ w11 ⟨rfl, h11⟩
 refine wq_p 5 [(14, (D ((cc : Int)))), (13, Value.nilIface), (32, (D ((cc : Int)))), (31, Value.nilIface), (28, (Value.tuple #[Value.nilIface, (D ((cc : Int)))]))] ?_
 refine wE hK10 (wp_seq_k fun K12 hK12 => wR fun K13 hK13 => ?_)
 refine wq_p 1 [(33, (D ((cc : Int))))] (wV 34 (.bool true) (eqI (bV (((cc : Int)) != 0)) (ine (b := 0) (unp_er hu))) ?_)
 refine wE hK13 (cT (wp_seq_k fun K14 hK14 => ?_))
 refine wp_reset 45 [(8, (pt g3 0)), (9, O), (10, (pt g5 0)), (13, Value.nilIface), (14, (D ((cc : Int)))), (34, I)] (fun x15 => ?_)
 refine reg_lit ?_
 refine wV 35 (aV ([O, O]).toArray) (eLs (h11.at_ 1 rfl) 49 (.tmp 10) 0 ([O, O])) (wq_p 1 [(36, (D ((cc : Int))))] ?_)
 refine wq_to none (xSs h11 2 49 (.tmp 8) (.tmp 35) 0 ([O, O]) ([O, O])) ?_
 rintro _ w16 h16
 refine wq_p 1 [(9, (D ((cc : Int))))] ?_
 refine wE hK14 (wp_ret (seq_r ?_))
 refine post_2 rfl (by kernel_rfl) (rce (h16.at_ 2 rfl)) (rtm (D ((cc : Int)))) ?_
 exact ⟨rfl, h16.below0⟩
theorem oStamp_ty {F : Nat -> Prop} {tb : Nat} {s : STab} {K : Fin 16 -> UInt8} {us : Int} {A : Option Addr} {c : Nat} {l : Bytes} {w : World} (hT : (rTab F tb s).Φ w) (hs : TabOk s) (hv : SB w (.slice A l.length c) l) {body : Bytes} {t : Thing} (ho : s.open_ (kl K) us l = some body) (hu : unpB body = .inr t) (hty : tyTh t ≠ 49) : Calls Try.prog 39 #[(Value.iface 24 (pt tb 0)), (aV (vb (kl K)).toArray), .int .i64 us, .slice A l.length c] w (DPost w (outStamp (.inr t))) := by
 have h0 := ((Hp.ro1 (rSB (.slice A l.length c) l) hv).addR (rTab F tb s) hT (by simp))
 refine enter 41 Try.func39 rfl rfl ?_
 refine wp_reset 45 [(0, (Value.iface 24 (pt tb 0))), (1, (aV (vb (kl K)).toArray)), (2, (D us)), (3, (lV A l.length c))] (fun x0 => ?_)
 refine wR fun K1 hK1 => ?_
 refine wT 5 (xN h0 32 (vb (kl K))) ?_
 rintro _ w2 ⟨g2, rfl, h2⟩
 refine wT 8 (xN h2 49 ([O, O])) ?_
 rintro _ w3 ⟨g3, rfl, h3⟩
 refine wq_p 1 [(9, O)] ?_
 refine wE hK1 (wR fun K4 hK4 => ?_)
 refine wT 10 (xN h3 49 ([O, O])) ?_
 rintro _ w5 ⟨g5, rfl, h5⟩
 refine wE hK4 (wR fun K6 hK6 => ?_)
 refine wq_p 1 [(18, (Value.iface 24 (pt tb 0)))] (wV 19 (aV (vb (kl K)).toArray) (eLs (h5.at_ 2 rfl) 32 (.tmp 5) 0 (vb (kl K))) (wq_p 2 [(21, (lV A l.length c)), (20, (D us))] ?_))
 refine wT 22 (x_openR h5 0 rfl hs K us l (lV A l.length c) (some body) (by kernel_rfl) (h5.rd 1 rfl) ho) ?_
 rintro _ w7 ⟨A7, c7, rfl, h7⟩
 refine wq_p 5 [(12, I), (11, (lV A7 body.length c7)), (24, I), (23, (lV A7 body.length c7)), (17, (Value.tuple #[(lV A7 body.length c7), I]))] ?_
 refine wE hK6 (wp_seq_k fun K8 hK8 => wR fun K9 hK9 => ?_)
 refine wq_p 2 [(26, V), (25, I)] ?_
 refine wE hK9 (cF (wp_skip (seq_n hK8 (wR fun K10 hK10 => ?_))))
 refine wq_p 1 [(29, (lV A7 body.length c7))] ?_
 refine wT 30 (x_unp h7 hu [(lV A7 body.length c7)] (by kernel_rfl) (unp_any (OB.sb (h7.at_ 0 rfl)))) ?_
 rintro _ w11 ⟨G11, x11, rfl, h11⟩
 obtain ⟨v11, rfl⟩ := (h11.at_ 0 rfl).2.ty
 refine wq_p 5 [(14, O), (13, (Value.iface (tyTh t) v11)), (32, O), (31, (Value.iface (tyTh t) v11)), (28, (Value.tuple #[(Value.iface (tyTh t) v11), O]))] ?_
 refine wE hK10 (wp_seq_k fun K12 hK12 => wR fun K13 hK13 => ?_)
 refine wq_p 2 [(34, V), (33, O)] ?_
 refine wE hK13 (cF (wp_skip (seq_n hK12 (wp_seq_k fun K14 hK14 => wp_seq_k fun K15 hK15 => ?_))))
 refine wp_reset 45 [(8, (pt g3 0)), (9, O), (10, (pt g5 0)), (13, (Value.iface (tyTh t) v11))] (fun x16 => ?_)
 refine reg_lit ?_
 refine wq_p 1 [(38, (Value.iface (tyTh t) v11))] (wV 39 (Value.tuple #[(aV ([O, O]).toArray), V]) (e_asNo (T' := tyTh t) (ta := 49) (xt := 20) (v := v11) (.tmp 38) (by kernel_rfl) (by kernel_rfl) hty (by kernel_rfl) (by kernel_rfl) _) (wq_p 3 [(41, V), (40, (aV ([O, O]).toArray)), (37, (Value.tuple #[(aV ([O, O]).toArray), V]))] ?_))
 refine wT 15 (xN h11 49 ([O, O])) ?_
 rintro _ w17 ⟨g17, rfl, h17⟩
 refine wq_to none (xSs h17 0 49 (.tmp 15) (.tmp 40) 0 ([O, O]) ([O, O])) ?_
 rintro _ w18 h18
 refine wq_p 1 [(16, V)] ?_
 refine wE hK15 (wR fun K19 hK19 => ?_)
 refine wq_p 1 [(42, V)] ?_
 refine wE hK19 (cF (wp_skip (seq_n hK14 (wR fun K20 hK20 => ?_))))
 refine wV 44 (aV ([O, O]).toArray) (eLs (h18.at_ 3 rfl) 49 (.tmp 10) 0 ([O, O])) ?_
 refine wq_to none (xSs h18 4 49 (.tmp 8) (.tmp 44) 0 ([O, O]) ([O, O])) ?_
 rintro _ w21 h21
 refine wq_p 1 [(9, (D 4))] ?_
 refine wE hK20 (wp_ret ?_)
 refine post_2 rfl (by kernel_rfl) (rce (h21.at_ 4 rfl)) (rtm (D 4)) ?_
 rw [outStamp_no hty]
 exact ⟨rfl, h21.below0⟩
theorem oStamp_yes {F : Nat -> Prop} {tb : Nat} {s : STab} {K : Fin 16 -> UInt8} {us : Int} {A : Option Addr} {c : Nat} {l : Bytes} {w : World} (hT : (rTab F tb s).Φ w) (hs : TabOk s) (hv : SB w (.slice A l.length c) l) (a : Int) (q : Int) {body : Bytes} (ho : s.open_ (kl K) us l = some body) (hu : unpB body = .inr (.stamp a q)) : Calls Try.prog 39 #[(Value.iface 24 (pt tb 0)), (aV (vb (kl K)).toArray), .int .i64 us, .slice A l.length c] w (DPost w (outStamp (.inr (.stamp a q)))) := by
 have h0 := ((Hp.ro1 (rSB (.slice A l.length c) l) hv).addR (rTab F tb s) hT (by simp))
 refine enter 41 Try.func39 rfl rfl ?_
 refine wp_reset 45 [(0, (Value.iface 24 (pt tb 0))), (1, (aV (vb (kl K)).toArray)), (2, (D us)), (3, (lV A l.length c))] (fun x0 => ?_)
 refine wR fun K1 hK1 => ?_
 refine wT 5 (xN h0 32 (vb (kl K))) ?_
 rintro _ w2 ⟨g2, rfl, h2⟩
 refine wT 8 (xN h2 49 ([O, O])) ?_
 rintro _ w3 ⟨g3, rfl, h3⟩
 refine wq_p 1 [(9, O)] ?_
 refine wE hK1 (wR fun K4 hK4 => ?_)
 refine wT 10 (xN h3 49 ([O, O])) ?_
 rintro _ w5 ⟨g5, rfl, h5⟩
 refine wE hK4 (wR fun K6 hK6 => ?_)
 refine wq_p 1 [(18, (Value.iface 24 (pt tb 0)))] (wV 19 (aV (vb (kl K)).toArray) (eLs (h5.at_ 2 rfl) 32 (.tmp 5) 0 (vb (kl K))) (wq_p 2 [(21, (lV A l.length c)), (20, (D us))] ?_))
 refine wT 22 (x_openR h5 0 rfl hs K us l (lV A l.length c) (some body) (by kernel_rfl) (h5.rd 1 rfl) ho) ?_
 rintro _ w7 ⟨A7, c7, rfl, h7⟩
 refine wq_p 5 [(12, I), (11, (lV A7 body.length c7)), (24, I), (23, (lV A7 body.length c7)), (17, (Value.tuple #[(lV A7 body.length c7), I]))] ?_
 refine wE hK6 (wp_seq_k fun K8 hK8 => wR fun K9 hK9 => ?_)
 refine wq_p 2 [(26, V), (25, I)] ?_
 refine wE hK9 (cF (wp_skip (seq_n hK8 (wR fun K10 hK10 => ?_))))
 refine wq_p 1 [(29, (lV A7 body.length c7))] ?_
 refine wT 30 (x_unp h7 hu [(lV A7 body.length c7)] (by kernel_rfl) (unp_any (OB.sb (h7.at_ 0 rfl)))) ?_
 rintro _ w11 ⟨G11, x11, rfl, h11⟩
 obtain rfl : x11 = (Value.iface 49 (aV ([(iV .i64 a), (iV .i64 q)]).toArray)) := (h11.at_ 0 rfl).2
 refine wq_p 5 [(14, O), (13, (Value.iface 49 (aV ([(D a), (D q)]).toArray))), (32, O), (31, (Value.iface 49 (aV ([(D a), (D q)]).toArray))), (28, (Value.tuple #[(Value.iface 49 (aV ([(D a), (D q)]).toArray)), O]))] ?_
 refine wE hK10 (wp_seq_k fun K12 hK12 => wR fun K13 hK13 => ?_)
 refine wq_p 2 [(34, V), (33, O)] ?_
 refine wE hK13 (cF (wp_skip (seq_n hK12 (wp_seq_k fun K14 hK14 => wp_seq_k fun K15 hK15 => ?_))))
 refine wp_reset 45 [(8, (pt g3 0)), (9, O), (10, (pt g5 0)), (13, (Value.iface 49 (aV ([(D a), (D q)]).toArray)))] (fun x16 => ?_)
 refine reg_lit ?_
 refine wq_p 5 [(41, I), (40, (aV ([(D a), (D q)]).toArray)), (37, (Value.tuple #[(aV ([(D a), (D q)]).toArray), I])), (39, (Value.tuple #[(aV ([(D a), (D q)]).toArray), I])), (38, (Value.iface 49 (aV ([(D a), (D q)]).toArray)))] ?_
 refine wT 15 (xN h11 49 ([O, O])) ?_
 rintro _ w17 ⟨g17, rfl, h17⟩
 refine wq_to none (xSs h17 0 49 (.tmp 15) (.tmp 40) 0 ([(D a), (D q)]) ([(D a), (D q)])) ?_
 rintro _ w18 h18
 refine wq_p 1 [(16, I)] ?_
 refine wE hK15 (wR fun K19 hK19 => ?_)
 refine wq_p 1 [(42, I)] ?_
 refine wE hK19 (cT (wR fun K20 hK20 => ?_))
 refine wV 43 (aV ([(D a), (D q)]).toArray) (eLs (h18.at_ 0 rfl) 49 (.tmp 15) 0 ([(D a), (D q)])) ?_
 refine wq_to none (xSs h18 4 49 (.tmp 8) (.tmp 43) 0 ([(D a), (D q)]) ([(D a), (D q)])) ?_
 rintro _ w21 h21
 refine wq_p 1 [(9, O)] ?_
 refine wE hK20 (wp_ret (seq_r ?_))
 refine post_2 rfl (by kernel_rfl) (rce (h21.at_ 4 rfl)) (rtm O) ?_
 exact ⟨rfl, h21.below0⟩
theorem oStamp_any {F : Nat -> Prop} {tb : Nat} {s : STab} {K : Fin 16 -> UInt8} {us : Int} {bv : Value} {l : Bytes} {w : World} (hT : (rTab F tb s).Φ w) (hs : TabOk s) (hv : SB w bv l) : Calls Try.prog 39 #[(Value.iface 24 (pt tb 0)), (aV (vb (kl K)).toArray), .int .i64 us, bv] w (DPost w (outStamp (openTh s (kl K) us l))) := by
 obtain ⟨A, c, rfl, _⟩ := id hv
 unfold openTh
 split
 · rename_i ho; exact oStamp_none hT hs hv ho
 · rename_i body ho
   rcases hu : unpB body with cc | t
   · exact oStamp_err hT hs hv ho hu
   · by_cases hty : tyTh t = 49
     · cases t with
       | stamp a q => exact oStamp_yes hT hs hv a q ho hu
       | ticket => exact absurd (show 39 = 49 from hty) (by decide)
       | inside => exact absurd (show 55 = 49 from hty) (by decide)
       | reply => exact absurd (show 60 = 49 from hty) (by decide)
       | authent => exact absurd (show 141 = 49 from hty) (by decide)
       | fact => exact absurd (show 143 = 49 from hty) (by decide)
       | plain => exact absurd (show 37 = 49 from hty) (by decide)
     · exact oStamp_ty hT hs hv ho hu hty
/-- .. at a caller. -/
theorem x_oStamp {o : Oper} {a : Act} {F0 F : Nat -> Prop} {w0 w : World} {ro rs : List Res} {tb : Nat} {s : STab} (h : Hp F0 w0 w ro rs) (i : Nat) (hi : rs[i]? = some (rTab F tb s)) (K : Fin 16 -> UInt8) (us : Int) {bv : Value} {l : Bytes} (hp : pureVal Try.prog (execOp a.eval o) = some (.enter 39 #[(Value.iface 24 (pt tb 0)), (aV (vb (kl K)).toArray), .int .i64 us, bv])) (hs : TabOk s) (hb : SB w bv l) {r : Nat ⊕ Thing} (hr : openTh s (kl K) us l = r) :
   OpTo Try.prog o a w (fun u w' => u = outStamp r /\ Hp F0 w0 w' ro rs) := by
 subst hr
 exact x_dp h 39 [(Value.iface 24 (pt tb 0)), (aV (vb (kl K)).toArray), .int .i64 us, bv] hp (oStamp_any (h.own i _ hi) hs hb)
/-- What tick.Open leaves, of a thing's type. -/
def outInside : Nat ⊕ Thing -> Value
 | .inl c => .tuple #[(aV ([(iV .i64 0)] ++ vb (List.replicate 16 0) ++ [(sV ByteArray.empty), (iV .i64 0), (iV .i64 0), (iV .i64 0)]).toArray), .int .i64 (c : Int)]
 | .inr (.inside f Ky s1 a u r) => .tuple #[(aV ([(iV .i64 f)] ++ vb (kl Ky) ++ [(sV s1), (iV .i64 a), (iV .i64 u), (iV .i64 r)]).toArray), .int .i64 0]
 | .inr _ => .tuple #[(aV ([(iV .i64 0)] ++ vb (List.replicate 16 0) ++ [(sV ByteArray.empty), (iV .i64 0), (iV .i64 0), (iV .i64 0)]).toArray), .int .i64 4]
theorem outInside_no {t : Thing} (h : tyTh t ≠ 55) : outInside (.inr t) = .tuple #[(aV ([(iV .i64 0)] ++ vb (List.replicate 16 0) ++ [(sV ByteArray.empty), (iV .i64 0), (iV .i64 0), (iV .i64 0)]).toArray), .int .i64 4] := by
 cases t <;> first | rfl | exact absurd rfl h
theorem oInside_none {F : Nat -> Prop} {tb : Nat} {s : STab} {K : Fin 16 -> UInt8} {us : Int} {A : Option Addr} {c : Nat} {l : Bytes} {w : World} (hT : (rTab F tb s).Φ w) (hs : TabOk s) (hv : SB w (.slice A l.length c) l) (ho : s.open_ (kl K) us l = none) : Calls Try.prog 20 #[(Value.iface 24 (pt tb 0)), (aV (vb (kl K)).toArray), .int .i64 us, .slice A l.length c] w (DPost w (outInside (.inl 13))) := by
 have h0 := ((Hp.ro1 (rSB (.slice A l.length c) l) hv).addR (rTab F tb s) hT (by simp))
 refine enter 41 Try.func20 rfl rfl ?_
 refine wp_reset 45 [(0, (Value.iface 24 (pt tb 0))), (1, (aV (vb (kl K)).toArray)), (2, (D us)), (3, (lV A l.length c))] (fun x0 => ?_)
 refine wR fun K1 hK1 => ?_
 refine wT 5 (xN h0 32 (vb (kl K))) ?_
 rintro _ w2 ⟨g2, rfl, h2⟩
 refine wT 8 (xN h2 55 ([O] ++ vb (List.replicate 16 0) ++ [eS, O, O, O])) ?_
 rintro _ w3 ⟨g3, rfl, h3⟩
 refine wq_p 1 [(9, O)] ?_
 refine wE hK1 (wR fun K4 hK4 => ?_)
 refine wT 10 (xN h3 55 ([O] ++ vb (List.replicate 16 0) ++ [eS, O, O, O])) ?_
 rintro _ w5 ⟨g5, rfl, h5⟩
 refine wE hK4 (wR fun K6 hK6 => ?_)
 refine wq_p 1 [(18, (Value.iface 24 (pt tb 0)))] (wV 19 (aV (vb (kl K)).toArray) (eLs (h5.at_ 2 rfl) 32 (.tmp 5) 0 (vb (kl K))) (wq_p 2 [(21, (lV A l.length c)), (20, (D us))] ?_))
 refine wT 22 (x_openR h5 0 rfl hs K us l (lV A l.length c) none (by kernel_rfl) (h5.rd 1 rfl) ho) ?_
 rintro _ w7 ⟨A7, c7, rfl, h7⟩
 refine wq_p 5 [(12, V), (11, (lV A7 0 c7)), (24, V), (23, (lV A7 0 c7)), (17, (Value.tuple #[(lV A7 0 c7), V]))] ?_
 refine wE hK6 (wp_seq_k fun K8 hK8 => wR fun K9 hK9 => ?_)
 refine wq_p 2 [(26, I), (25, V)] ?_
 refine wE hK9 (cT (wR fun K10 hK10 => ?_))
 refine wV 27 (aV ([O] ++ vb (List.replicate 16 0) ++ [eS, O, O, O]).toArray) (eLs (h7.at_ 1 rfl) 55 (.tmp 10) 0 ([O] ++ vb (List.replicate 16 0) ++ [eS, O, O, O])) ?_
 refine wq_to none (xSs h7 2 55 (.tmp 8) (.tmp 27) 0 ([O] ++ vb (List.replicate 16 0) ++ [eS, O, O, O]) ([O] ++ vb (List.replicate 16 0) ++ [eS, O, O, O])) ?_
 rintro _ w11 h11
 refine wq_p 1 [(9, (D 13))] ?_
 refine wE hK10 (wp_ret (seq_r ?_))
 refine post_2 rfl (by kernel_rfl) (rce (h11.at_ 2 rfl)) (rtm (D 13)) ?_
 exact ⟨rfl, h11.below0⟩
theorem oInside_err {F : Nat -> Prop} {tb : Nat} {s : STab} {K : Fin 16 -> UInt8} {us : Int} {A : Option Addr} {c : Nat} {l : Bytes} {w : World} (hT : (rTab F tb s).Φ w) (hs : TabOk s) (hv : SB w (.slice A l.length c) l) {body : Bytes} {cc : Nat} (ho : s.open_ (kl K) us l = some body) (hu : unpB body = .inl cc) : Calls Try.prog 20 #[(Value.iface 24 (pt tb 0)), (aV (vb (kl K)).toArray), .int .i64 us, .slice A l.length c] w (DPost w (outInside (.inl cc))) := by
 have h0 := ((Hp.ro1 (rSB (.slice A l.length c) l) hv).addR (rTab F tb s) hT (by simp))
 refine enter 41 Try.func20 rfl rfl ?_
 refine wp_reset 45 [(0, (Value.iface 24 (pt tb 0))), (1, (aV (vb (kl K)).toArray)), (2, (D us)), (3, (lV A l.length c))] (fun x0 => ?_)
 refine wR fun K1 hK1 => ?_
 refine wT 5 (xN h0 32 (vb (kl K))) ?_
 rintro _ w2 ⟨g2, rfl, h2⟩
 refine wT 8 (xN h2 55 ([O] ++ vb (List.replicate 16 0) ++ [eS, O, O, O])) ?_
 rintro _ w3 ⟨g3, rfl, h3⟩
 refine wq_p 1 [(9, O)] ?_
 refine wE hK1 (wR fun K4 hK4 => ?_)
 refine wT 10 (xN h3 55 ([O] ++ vb (List.replicate 16 0) ++ [eS, O, O, O])) ?_
 rintro _ w5 ⟨g5, rfl, h5⟩
 refine wE hK4 (wR fun K6 hK6 => ?_)
 refine wq_p 1 [(18, (Value.iface 24 (pt tb 0)))] (wV 19 (aV (vb (kl K)).toArray) (eLs (h5.at_ 2 rfl) 32 (.tmp 5) 0 (vb (kl K))) (wq_p 2 [(21, (lV A l.length c)), (20, (D us))] ?_))
 refine wT 22 (x_openR h5 0 rfl hs K us l (lV A l.length c) (some body) (by kernel_rfl) (h5.rd 1 rfl) ho) ?_
 rintro _ w7 ⟨A7, c7, rfl, h7⟩
 refine wq_p 5 [(12, I), (11, (lV A7 body.length c7)), (24, I), (23, (lV A7 body.length c7)), (17, (Value.tuple #[(lV A7 body.length c7), I]))] ?_
 refine wE hK6 (wp_seq_k fun K8 hK8 => wR fun K9 hK9 => ?_)
 refine wq_p 2 [(26, V), (25, I)] ?_
 refine wE hK9 (cF (wp_skip (seq_n hK8 (wR fun K10 hK10 => ?_))))
 refine wq_p 1 [(29, (lV A7 body.length c7))] ?_
 refine wT 30 (x_dp h7 15 [(lV A7 body.length c7)] (by kernel_rfl) (up_e hu (unp_any (OB.sb (h7.at_ 0 rfl))))) ?_
 rintro _ w11 ⟨rfl, h11⟩
 refine wq_p 5 [(14, (D ((cc : Int)))), (13, Value.nilIface), (32, (D ((cc : Int)))), (31, Value.nilIface), (28, (Value.tuple #[Value.nilIface, (D ((cc : Int)))]))] ?_
 refine wE hK10 (wp_seq_k fun K12 hK12 => wR fun K13 hK13 => ?_)
 refine wq_p 1 [(33, (D ((cc : Int))))] (wV 34 (.bool true) (eqI (bV (((cc : Int)) != 0)) (ine (b := 0) (unp_er hu))) ?_)
 refine wE hK13 (cT (wp_seq_k fun K14 hK14 => ?_))
 refine wp_reset 45 [(8, (pt g3 0)), (9, O), (10, (pt g5 0)), (13, Value.nilIface), (14, (D ((cc : Int)))), (34, I)] (fun x15 => ?_)
 refine reg_lit ?_
 refine wV 35 (aV ([O] ++ vb (List.replicate 16 0) ++ [eS, O, O, O]).toArray) (eLs (h11.at_ 1 rfl) 55 (.tmp 10) 0 ([O] ++ vb (List.replicate 16 0) ++ [eS, O, O, O])) (wq_p 1 [(36, (D ((cc : Int))))] ?_)
 refine wq_to none (xSs h11 2 55 (.tmp 8) (.tmp 35) 0 ([O] ++ vb (List.replicate 16 0) ++ [eS, O, O, O]) ([O] ++ vb (List.replicate 16 0) ++ [eS, O, O, O])) ?_
 rintro _ w16 h16
 refine wq_p 1 [(9, (D ((cc : Int))))] ?_
 refine wE hK14 (wp_ret (seq_r ?_))
 refine post_2 rfl (by kernel_rfl) (rce (h16.at_ 2 rfl)) (rtm (D ((cc : Int)))) ?_
 exact ⟨rfl, h16.below0⟩
theorem oInside_ty {F : Nat -> Prop} {tb : Nat} {s : STab} {K : Fin 16 -> UInt8} {us : Int} {A : Option Addr} {c : Nat} {l : Bytes} {w : World} (hT : (rTab F tb s).Φ w) (hs : TabOk s) (hv : SB w (.slice A l.length c) l) {body : Bytes} {t : Thing} (ho : s.open_ (kl K) us l = some body) (hu : unpB body = .inr t) (hty : tyTh t ≠ 55) : Calls Try.prog 20 #[(Value.iface 24 (pt tb 0)), (aV (vb (kl K)).toArray), .int .i64 us, .slice A l.length c] w (DPost w (outInside (.inr t))) := by
 have h0 := ((Hp.ro1 (rSB (.slice A l.length c) l) hv).addR (rTab F tb s) hT (by simp))
 refine enter 41 Try.func20 rfl rfl ?_
 refine wp_reset 45 [(0, (Value.iface 24 (pt tb 0))), (1, (aV (vb (kl K)).toArray)), (2, (D us)), (3, (lV A l.length c))] (fun x0 => ?_)
 refine wR fun K1 hK1 => ?_
 refine wT 5 (xN h0 32 (vb (kl K))) ?_
 rintro _ w2 ⟨g2, rfl, h2⟩
 refine wT 8 (xN h2 55 ([O] ++ vb (List.replicate 16 0) ++ [eS, O, O, O])) ?_
 rintro _ w3 ⟨g3, rfl, h3⟩
 refine wq_p 1 [(9, O)] ?_
 refine wE hK1 (wR fun K4 hK4 => ?_)
 refine wT 10 (xN h3 55 ([O] ++ vb (List.replicate 16 0) ++ [eS, O, O, O])) ?_
 rintro _ w5 ⟨g5, rfl, h5⟩
 refine wE hK4 (wR fun K6 hK6 => ?_)
 refine wq_p 1 [(18, (Value.iface 24 (pt tb 0)))] (wV 19 (aV (vb (kl K)).toArray) (eLs (h5.at_ 2 rfl) 32 (.tmp 5) 0 (vb (kl K))) (wq_p 2 [(21, (lV A l.length c)), (20, (D us))] ?_))
 refine wT 22 (x_openR h5 0 rfl hs K us l (lV A l.length c) (some body) (by kernel_rfl) (h5.rd 1 rfl) ho) ?_
 rintro _ w7 ⟨A7, c7, rfl, h7⟩
 refine wq_p 5 [(12, I), (11, (lV A7 body.length c7)), (24, I), (23, (lV A7 body.length c7)), (17, (Value.tuple #[(lV A7 body.length c7), I]))] ?_
 refine wE hK6 (wp_seq_k fun K8 hK8 => wR fun K9 hK9 => ?_)
 refine wq_p 2 [(26, V), (25, I)] ?_
 refine wE hK9 (cF (wp_skip (seq_n hK8 (wR fun K10 hK10 => ?_))))
 refine wq_p 1 [(29, (lV A7 body.length c7))] ?_
 refine wT 30 (x_unp h7 hu [(lV A7 body.length c7)] (by kernel_rfl) (unp_any (OB.sb (h7.at_ 0 rfl)))) ?_
 rintro _ w11 ⟨G11, x11, rfl, h11⟩
 obtain ⟨v11, rfl⟩ := (h11.at_ 0 rfl).2.ty
 refine wq_p 5 [(14, O), (13, (Value.iface (tyTh t) v11)), (32, O), (31, (Value.iface (tyTh t) v11)), (28, (Value.tuple #[(Value.iface (tyTh t) v11), O]))] ?_
 refine wE hK10 (wp_seq_k fun K12 hK12 => wR fun K13 hK13 => ?_)
 refine wq_p 2 [(34, V), (33, O)] ?_
 refine wE hK13 (cF (wp_skip (seq_n hK12 (wp_seq_k fun K14 hK14 => wp_seq_k fun K15 hK15 => ?_))))
 refine wp_reset 45 [(8, (pt g3 0)), (9, O), (10, (pt g5 0)), (13, (Value.iface (tyTh t) v11))] (fun x16 => ?_)
 refine reg_lit ?_
 refine wq_p 1 [(38, (Value.iface (tyTh t) v11))] (wV 39 (Value.tuple #[(aV ([O] ++ vb (List.replicate 16 0) ++ [eS, O, O, O]).toArray), V]) (e_asNo (T' := tyTh t) (ta := 55) (xt := 20) (v := v11) (.tmp 38) (by kernel_rfl) (by kernel_rfl) hty (by kernel_rfl) (by kernel_rfl) _) (wq_p 3 [(41, V), (40, (aV ([O] ++ vb (List.replicate 16 0) ++ [eS, O, O, O]).toArray)), (37, (Value.tuple #[(aV ([O] ++ vb (List.replicate 16 0) ++ [eS, O, O, O]).toArray), V]))] ?_))
 refine wT 15 (xN h11 55 ([O] ++ vb (List.replicate 16 0) ++ [eS, O, O, O])) ?_
 rintro _ w17 ⟨g17, rfl, h17⟩
 refine wq_to none (xSs h17 0 55 (.tmp 15) (.tmp 40) 0 ([O] ++ vb (List.replicate 16 0) ++ [eS, O, O, O]) ([O] ++ vb (List.replicate 16 0) ++ [eS, O, O, O])) ?_
 rintro _ w18 h18
 refine wq_p 1 [(16, V)] ?_
 refine wE hK15 (wR fun K19 hK19 => ?_)
 refine wq_p 1 [(42, V)] ?_
 refine wE hK19 (cF (wp_skip (seq_n hK14 (wR fun K20 hK20 => ?_))))
 refine wV 44 (aV ([O] ++ vb (List.replicate 16 0) ++ [eS, O, O, O]).toArray) (eLs (h18.at_ 3 rfl) 55 (.tmp 10) 0 ([O] ++ vb (List.replicate 16 0) ++ [eS, O, O, O])) ?_
 refine wq_to none (xSs h18 4 55 (.tmp 8) (.tmp 44) 0 ([O] ++ vb (List.replicate 16 0) ++ [eS, O, O, O]) ([O] ++ vb (List.replicate 16 0) ++ [eS, O, O, O])) ?_
 rintro _ w21 h21
 refine wq_p 1 [(9, (D 4))] ?_
 refine wE hK20 (wp_ret ?_)
 refine post_2 rfl (by kernel_rfl) (rce (h21.at_ 4 rfl)) (rtm (D 4)) ?_
 rw [outInside_no hty]
 exact ⟨rfl, h21.below0⟩
theorem oInside_yes {F : Nat -> Prop} {tb : Nat} {s : STab} {K : Fin 16 -> UInt8} {us : Int} {A : Option Addr} {c : Nat} {l : Bytes} {w : World} (hT : (rTab F tb s).Φ w) (hs : TabOk s) (hv : SB w (.slice A l.length c) l) (f : Int) (Ky : Fin 16 -> UInt8) (s1 : ByteArray) (a : Int) (u : Int) (r : Int) {body : Bytes} (ho : s.open_ (kl K) us l = some body) (hu : unpB body = .inr (.inside f Ky s1 a u r)) : Calls Try.prog 20 #[(Value.iface 24 (pt tb 0)), (aV (vb (kl K)).toArray), .int .i64 us, .slice A l.length c] w (DPost w (outInside (.inr (.inside f Ky s1 a u r)))) := by
 have h0 := ((Hp.ro1 (rSB (.slice A l.length c) l) hv).addR (rTab F tb s) hT (by simp))
 refine enter 41 Try.func20 rfl rfl ?_
 refine wp_reset 45 [(0, (Value.iface 24 (pt tb 0))), (1, (aV (vb (kl K)).toArray)), (2, (D us)), (3, (lV A l.length c))] (fun x0 => ?_)
 refine wR fun K1 hK1 => ?_
 refine wT 5 (xN h0 32 (vb (kl K))) ?_
 rintro _ w2 ⟨g2, rfl, h2⟩
 refine wT 8 (xN h2 55 ([O] ++ vb (List.replicate 16 0) ++ [eS, O, O, O])) ?_
 rintro _ w3 ⟨g3, rfl, h3⟩
 refine wq_p 1 [(9, O)] ?_
 refine wE hK1 (wR fun K4 hK4 => ?_)
 refine wT 10 (xN h3 55 ([O] ++ vb (List.replicate 16 0) ++ [eS, O, O, O])) ?_
 rintro _ w5 ⟨g5, rfl, h5⟩
 refine wE hK4 (wR fun K6 hK6 => ?_)
 refine wq_p 1 [(18, (Value.iface 24 (pt tb 0)))] (wV 19 (aV (vb (kl K)).toArray) (eLs (h5.at_ 2 rfl) 32 (.tmp 5) 0 (vb (kl K))) (wq_p 2 [(21, (lV A l.length c)), (20, (D us))] ?_))
 refine wT 22 (x_openR h5 0 rfl hs K us l (lV A l.length c) (some body) (by kernel_rfl) (h5.rd 1 rfl) ho) ?_
 rintro _ w7 ⟨A7, c7, rfl, h7⟩
 refine wq_p 5 [(12, I), (11, (lV A7 body.length c7)), (24, I), (23, (lV A7 body.length c7)), (17, (Value.tuple #[(lV A7 body.length c7), I]))] ?_
 refine wE hK6 (wp_seq_k fun K8 hK8 => wR fun K9 hK9 => ?_)
 refine wq_p 2 [(26, V), (25, I)] ?_
 refine wE hK9 (cF (wp_skip (seq_n hK8 (wR fun K10 hK10 => ?_))))
 refine wq_p 1 [(29, (lV A7 body.length c7))] ?_
 refine wT 30 (x_unp h7 hu [(lV A7 body.length c7)] (by kernel_rfl) (unp_any (OB.sb (h7.at_ 0 rfl)))) ?_
 rintro _ w11 ⟨G11, x11, rfl, h11⟩
 obtain rfl : x11 = (Value.iface 55 (aV ([(iV .i64 f)] ++ vb (kl Ky) ++ [(sV s1), (iV .i64 a), (iV .i64 u), (iV .i64 r)]).toArray)) := (h11.at_ 0 rfl).2
 refine wq_p 5 [(14, O), (13, (Value.iface 55 (aV ([(D f)] ++ vb (kl Ky) ++ [(sV s1), (D a), (D u), (D r)]).toArray))), (32, O), (31, (Value.iface 55 (aV ([(D f)] ++ vb (kl Ky) ++ [(sV s1), (D a), (D u), (D r)]).toArray))), (28, (Value.tuple #[(Value.iface 55 (aV ([(D f)] ++ vb (kl Ky) ++ [(sV s1), (D a), (D u), (D r)]).toArray)), O]))] ?_
 refine wE hK10 (wp_seq_k fun K12 hK12 => wR fun K13 hK13 => ?_)
 refine wq_p 2 [(34, V), (33, O)] ?_
 refine wE hK13 (cF (wp_skip (seq_n hK12 (wp_seq_k fun K14 hK14 => wp_seq_k fun K15 hK15 => ?_))))
 refine wp_reset 45 [(8, (pt g3 0)), (9, O), (10, (pt g5 0)), (13, (Value.iface 55 (aV ([(D f)] ++ vb (kl Ky) ++ [(sV s1), (D a), (D u), (D r)]).toArray)))] (fun x16 => ?_)
 refine reg_lit ?_
 refine wq_p 5 [(41, I), (40, (aV ([(D f)] ++ vb (kl Ky) ++ [(sV s1), (D a), (D u), (D r)]).toArray)), (37, (Value.tuple #[(aV ([(D f)] ++ vb (kl Ky) ++ [(sV s1), (D a), (D u), (D r)]).toArray), I])), (39, (Value.tuple #[(aV ([(D f)] ++ vb (kl Ky) ++ [(sV s1), (D a), (D u), (D r)]).toArray), I])), (38, (Value.iface 55 (aV ([(D f)] ++ vb (kl Ky) ++ [(sV s1), (D a), (D u), (D r)]).toArray)))] ?_
 refine wT 15 (xN h11 55 ([O] ++ vb (List.replicate 16 0) ++ [eS, O, O, O])) ?_
 rintro _ w17 ⟨g17, rfl, h17⟩
 refine wq_to none (xSs h17 0 55 (.tmp 15) (.tmp 40) 0 ([(D f)] ++ vb (kl Ky) ++ [(sV s1), (D a), (D u), (D r)]) ([(D f)] ++ vb (kl Ky) ++ [(sV s1), (D a), (D u), (D r)])) ?_
 rintro _ w18 h18
 refine wq_p 1 [(16, I)] ?_
 refine wE hK15 (wR fun K19 hK19 => ?_)
 refine wq_p 1 [(42, I)] ?_
 refine wE hK19 (cT (wR fun K20 hK20 => ?_))
 refine wV 43 (aV ([(D f)] ++ vb (kl Ky) ++ [(sV s1), (D a), (D u), (D r)]).toArray) (eLs (h18.at_ 0 rfl) 55 (.tmp 15) 0 ([(D f)] ++ vb (kl Ky) ++ [(sV s1), (D a), (D u), (D r)])) ?_
 refine wq_to none (xSs h18 4 55 (.tmp 8) (.tmp 43) 0 ([(D f)] ++ vb (kl Ky) ++ [(sV s1), (D a), (D u), (D r)]) ([(D f)] ++ vb (kl Ky) ++ [(sV s1), (D a), (D u), (D r)])) ?_
 rintro _ w21 h21
 refine wq_p 1 [(9, O)] ?_
 refine wE hK20 (wp_ret (seq_r ?_))
 refine post_2 rfl (by kernel_rfl) (rce (h21.at_ 4 rfl)) (rtm O) ?_
 exact ⟨rfl, h21.below0⟩
theorem oInside_any {F : Nat -> Prop} {tb : Nat} {s : STab} {K : Fin 16 -> UInt8} {us : Int} {bv : Value} {l : Bytes} {w : World} (hT : (rTab F tb s).Φ w) (hs : TabOk s) (hv : SB w bv l) : Calls Try.prog 20 #[(Value.iface 24 (pt tb 0)), (aV (vb (kl K)).toArray), .int .i64 us, bv] w (DPost w (outInside (openTh s (kl K) us l))) := by
 obtain ⟨A, c, rfl, _⟩ := id hv
 unfold openTh
 split
 · rename_i ho; exact oInside_none hT hs hv ho
 · rename_i body ho
   rcases hu : unpB body with cc | t
   · exact oInside_err hT hs hv ho hu
   · by_cases hty : tyTh t = 55
     · cases t with
       | inside f Ky s1 a u r => exact oInside_yes hT hs hv f Ky s1 a u r ho hu
       | ticket => exact absurd (show 39 = 55 from hty) (by decide)
       | reply => exact absurd (show 60 = 55 from hty) (by decide)
       | authent => exact absurd (show 141 = 55 from hty) (by decide)
       | stamp => exact absurd (show 49 = 55 from hty) (by decide)
       | fact => exact absurd (show 143 = 55 from hty) (by decide)
       | plain => exact absurd (show 37 = 55 from hty) (by decide)
     · exact oInside_ty hT hs hv ho hu hty
/-- .. at a caller. -/
theorem x_oInside {o : Oper} {a : Act} {F0 F : Nat -> Prop} {w0 w : World} {ro rs : List Res} {tb : Nat} {s : STab} (h : Hp F0 w0 w ro rs) (i : Nat) (hi : rs[i]? = some (rTab F tb s)) (K : Fin 16 -> UInt8) (us : Int) {bv : Value} {l : Bytes} (hp : pureVal Try.prog (execOp a.eval o) = some (.enter 20 #[(Value.iface 24 (pt tb 0)), (aV (vb (kl K)).toArray), .int .i64 us, bv])) (hs : TabOk s) (hb : SB w bv l) {r : Nat ⊕ Thing} (hr : openTh s (kl K) us l = r) :
   OpTo Try.prog o a w (fun u w' => u = outInside r /\ Hp F0 w0 w' ro rs) := by
 subst hr
 exact x_dp h 20 [(Value.iface 24 (pt tb 0)), (aV (vb (kl K)).toArray), .int .i64 us, bv] hp (oInside_any (h.own i _ hi) hs hb)
/-- What tick.Open leaves, of a thing's type. -/
def outReply : Nat ⊕ Thing -> Value
 | .inl c => .tuple #[(aV ([(iV .i64 0)] ++ vb (List.replicate 16 0) ++ [(iV .i64 0), (sV ByteArray.empty), (iV .i64 0), (iV .i64 0), (iV .i64 0)]).toArray), .int .i64 (c : Int)]
 | .inr (.reply f Ky n s1 a u r) => .tuple #[(aV ([(iV .i64 f)] ++ vb (kl Ky) ++ [(iV .i64 n), (sV s1), (iV .i64 a), (iV .i64 u), (iV .i64 r)]).toArray), .int .i64 0]
 | .inr _ => .tuple #[(aV ([(iV .i64 0)] ++ vb (List.replicate 16 0) ++ [(iV .i64 0), (sV ByteArray.empty), (iV .i64 0), (iV .i64 0), (iV .i64 0)]).toArray), .int .i64 4]
theorem outReply_no {t : Thing} (h : tyTh t ≠ 60) : outReply (.inr t) = .tuple #[(aV ([(iV .i64 0)] ++ vb (List.replicate 16 0) ++ [(iV .i64 0), (sV ByteArray.empty), (iV .i64 0), (iV .i64 0), (iV .i64 0)]).toArray), .int .i64 4] := by
 cases t <;> first | rfl | exact absurd rfl h
theorem oReply_none {F : Nat -> Prop} {tb : Nat} {s : STab} {K : Fin 16 -> UInt8} {us : Int} {A : Option Addr} {c : Nat} {l : Bytes} {w : World} (hT : (rTab F tb s).Φ w) (hs : TabOk s) (hv : SB w (.slice A l.length c) l) (ho : s.open_ (kl K) us l = none) : Calls Try.prog 21 #[(Value.iface 24 (pt tb 0)), (aV (vb (kl K)).toArray), .int .i64 us, .slice A l.length c] w (DPost w (outReply (.inl 13))) := by
 have h0 := ((Hp.ro1 (rSB (.slice A l.length c) l) hv).addR (rTab F tb s) hT (by simp))
 refine enter 41 Try.func21 rfl rfl ?_
 refine wp_reset 45 [(0, (Value.iface 24 (pt tb 0))), (1, (aV (vb (kl K)).toArray)), (2, (D us)), (3, (lV A l.length c))] (fun x0 => ?_)
 refine wR fun K1 hK1 => ?_
 refine wT 5 (xN h0 32 (vb (kl K))) ?_
 rintro _ w2 ⟨g2, rfl, h2⟩
 refine wT 8 (xN h2 60 ([O] ++ vb (List.replicate 16 0) ++ [O, eS, O, O, O])) ?_
 rintro _ w3 ⟨g3, rfl, h3⟩
 refine wq_p 1 [(9, O)] ?_
 refine wE hK1 (wR fun K4 hK4 => ?_)
 refine wT 10 (xN h3 60 ([O] ++ vb (List.replicate 16 0) ++ [O, eS, O, O, O])) ?_
 rintro _ w5 ⟨g5, rfl, h5⟩
 refine wE hK4 (wR fun K6 hK6 => ?_)
 refine wq_p 1 [(18, (Value.iface 24 (pt tb 0)))] (wV 19 (aV (vb (kl K)).toArray) (eLs (h5.at_ 2 rfl) 32 (.tmp 5) 0 (vb (kl K))) (wq_p 2 [(21, (lV A l.length c)), (20, (D us))] ?_))
 refine wT 22 (x_openR h5 0 rfl hs K us l (lV A l.length c) none (by kernel_rfl) (h5.rd 1 rfl) ho) ?_
 rintro _ w7 ⟨A7, c7, rfl, h7⟩
 refine wq_p 5 [(12, V), (11, (lV A7 0 c7)), (24, V), (23, (lV A7 0 c7)), (17, (Value.tuple #[(lV A7 0 c7), V]))] ?_
 refine wE hK6 (wp_seq_k fun K8 hK8 => wR fun K9 hK9 => ?_)
 refine wq_p 2 [(26, I), (25, V)] ?_
 refine wE hK9 (cT (wR fun K10 hK10 => ?_))
 refine wV 27 (aV ([O] ++ vb (List.replicate 16 0) ++ [O, eS, O, O, O]).toArray) (eLs (h7.at_ 1 rfl) 60 (.tmp 10) 0 ([O] ++ vb (List.replicate 16 0) ++ [O, eS, O, O, O])) ?_
 refine wq_to none (xSs h7 2 60 (.tmp 8) (.tmp 27) 0 ([O] ++ vb (List.replicate 16 0) ++ [O, eS, O, O, O]) ([O] ++ vb (List.replicate 16 0) ++ [O, eS, O, O, O])) ?_
 rintro _ w11 h11
 refine wq_p 1 [(9, (D 13))] ?_
 refine wE hK10 (wp_ret (seq_r ?_))
 refine post_2 rfl (by kernel_rfl) (rce (h11.at_ 2 rfl)) (rtm (D 13)) ?_
 exact ⟨rfl, h11.below0⟩
theorem oReply_err {F : Nat -> Prop} {tb : Nat} {s : STab} {K : Fin 16 -> UInt8} {us : Int} {A : Option Addr} {c : Nat} {l : Bytes} {w : World} (hT : (rTab F tb s).Φ w) (hs : TabOk s) (hv : SB w (.slice A l.length c) l) {body : Bytes} {cc : Nat} (ho : s.open_ (kl K) us l = some body) (hu : unpB body = .inl cc) : Calls Try.prog 21 #[(Value.iface 24 (pt tb 0)), (aV (vb (kl K)).toArray), .int .i64 us, .slice A l.length c] w (DPost w (outReply (.inl cc))) := by
 have h0 := ((Hp.ro1 (rSB (.slice A l.length c) l) hv).addR (rTab F tb s) hT (by simp))
 refine enter 41 Try.func21 rfl rfl ?_
 refine wp_reset 45 [(0, (Value.iface 24 (pt tb 0))), (1, (aV (vb (kl K)).toArray)), (2, (D us)), (3, (lV A l.length c))] (fun x0 => ?_)
 refine wR fun K1 hK1 => ?_
 refine wT 5 (xN h0 32 (vb (kl K))) ?_
 rintro _ w2 ⟨g2, rfl, h2⟩
 refine wT 8 (xN h2 60 ([O] ++ vb (List.replicate 16 0) ++ [O, eS, O, O, O])) ?_
 rintro _ w3 ⟨g3, rfl, h3⟩
 refine wq_p 1 [(9, O)] ?_
 refine wE hK1 (wR fun K4 hK4 => ?_)
 refine wT 10 (xN h3 60 ([O] ++ vb (List.replicate 16 0) ++ [O, eS, O, O, O])) ?_
 rintro _ w5 ⟨g5, rfl, h5⟩
 refine wE hK4 (wR fun K6 hK6 => ?_)
 refine wq_p 1 [(18, (Value.iface 24 (pt tb 0)))] (wV 19 (aV (vb (kl K)).toArray) (eLs (h5.at_ 2 rfl) 32 (.tmp 5) 0 (vb (kl K))) (wq_p 2 [(21, (lV A l.length c)), (20, (D us))] ?_))
 refine wT 22 (x_openR h5 0 rfl hs K us l (lV A l.length c) (some body) (by kernel_rfl) (h5.rd 1 rfl) ho) ?_
 rintro _ w7 ⟨A7, c7, rfl, h7⟩
 refine wq_p 5 [(12, I), (11, (lV A7 body.length c7)), (24, I), (23, (lV A7 body.length c7)), (17, (Value.tuple #[(lV A7 body.length c7), I]))] ?_
 refine wE hK6 (wp_seq_k fun K8 hK8 => wR fun K9 hK9 => ?_)
 refine wq_p 2 [(26, V), (25, I)] ?_
 refine wE hK9 (cF (wp_skip (seq_n hK8 (wR fun K10 hK10 => ?_))))
 refine wq_p 1 [(29, (lV A7 body.length c7))] ?_
 refine wT 30 (x_dp h7 15 [(lV A7 body.length c7)] (by kernel_rfl) (up_e hu (unp_any (OB.sb (h7.at_ 0 rfl))))) ?_
 rintro _ w11 ⟨rfl, h11⟩
 refine wq_p 5 [(14, (D ((cc : Int)))), (13, Value.nilIface), (32, (D ((cc : Int)))), (31, Value.nilIface), (28, (Value.tuple #[Value.nilIface, (D ((cc : Int)))]))] ?_
 refine wE hK10 (wp_seq_k fun K12 hK12 => wR fun K13 hK13 => ?_)
 refine wq_p 1 [(33, (D ((cc : Int))))] (wV 34 (.bool true) (eqI (bV (((cc : Int)) != 0)) (ine (b := 0) (unp_er hu))) ?_)
 refine wE hK13 (cT (wp_seq_k fun K14 hK14 => ?_))
 refine wp_reset 45 [(8, (pt g3 0)), (9, O), (10, (pt g5 0)), (13, Value.nilIface), (14, (D ((cc : Int)))), (34, I)] (fun x15 => ?_)
 refine reg_lit ?_
 refine wV 35 (aV ([O] ++ vb (List.replicate 16 0) ++ [O, eS, O, O, O]).toArray) (eLs (h11.at_ 1 rfl) 60 (.tmp 10) 0 ([O] ++ vb (List.replicate 16 0) ++ [O, eS, O, O, O])) (wq_p 1 [(36, (D ((cc : Int))))] ?_)
 refine wq_to none (xSs h11 2 60 (.tmp 8) (.tmp 35) 0 ([O] ++ vb (List.replicate 16 0) ++ [O, eS, O, O, O]) ([O] ++ vb (List.replicate 16 0) ++ [O, eS, O, O, O])) ?_
 rintro _ w16 h16
 refine wq_p 1 [(9, (D ((cc : Int))))] ?_
 refine wE hK14 (wp_ret (seq_r ?_))
 refine post_2 rfl (by kernel_rfl) (rce (h16.at_ 2 rfl)) (rtm (D ((cc : Int)))) ?_
 exact ⟨rfl, h16.below0⟩
theorem oReply_ty {F : Nat -> Prop} {tb : Nat} {s : STab} {K : Fin 16 -> UInt8} {us : Int} {A : Option Addr} {c : Nat} {l : Bytes} {w : World} (hT : (rTab F tb s).Φ w) (hs : TabOk s) (hv : SB w (.slice A l.length c) l) {body : Bytes} {t : Thing} (ho : s.open_ (kl K) us l = some body) (hu : unpB body = .inr t) (hty : tyTh t ≠ 60) : Calls Try.prog 21 #[(Value.iface 24 (pt tb 0)), (aV (vb (kl K)).toArray), .int .i64 us, .slice A l.length c] w (DPost w (outReply (.inr t))) := by
 have h0 := ((Hp.ro1 (rSB (.slice A l.length c) l) hv).addR (rTab F tb s) hT (by simp))
 refine enter 41 Try.func21 rfl rfl ?_
 refine wp_reset 45 [(0, (Value.iface 24 (pt tb 0))), (1, (aV (vb (kl K)).toArray)), (2, (D us)), (3, (lV A l.length c))] (fun x0 => ?_)
 refine wR fun K1 hK1 => ?_
 refine wT 5 (xN h0 32 (vb (kl K))) ?_
 rintro _ w2 ⟨g2, rfl, h2⟩
 refine wT 8 (xN h2 60 ([O] ++ vb (List.replicate 16 0) ++ [O, eS, O, O, O])) ?_
 rintro _ w3 ⟨g3, rfl, h3⟩
 refine wq_p 1 [(9, O)] ?_
 refine wE hK1 (wR fun K4 hK4 => ?_)
 refine wT 10 (xN h3 60 ([O] ++ vb (List.replicate 16 0) ++ [O, eS, O, O, O])) ?_
 rintro _ w5 ⟨g5, rfl, h5⟩
 refine wE hK4 (wR fun K6 hK6 => ?_)
 refine wq_p 1 [(18, (Value.iface 24 (pt tb 0)))] (wV 19 (aV (vb (kl K)).toArray) (eLs (h5.at_ 2 rfl) 32 (.tmp 5) 0 (vb (kl K))) (wq_p 2 [(21, (lV A l.length c)), (20, (D us))] ?_))
 refine wT 22 (x_openR h5 0 rfl hs K us l (lV A l.length c) (some body) (by kernel_rfl) (h5.rd 1 rfl) ho) ?_
 rintro _ w7 ⟨A7, c7, rfl, h7⟩
 refine wq_p 5 [(12, I), (11, (lV A7 body.length c7)), (24, I), (23, (lV A7 body.length c7)), (17, (Value.tuple #[(lV A7 body.length c7), I]))] ?_
 refine wE hK6 (wp_seq_k fun K8 hK8 => wR fun K9 hK9 => ?_)
 refine wq_p 2 [(26, V), (25, I)] ?_
 refine wE hK9 (cF (wp_skip (seq_n hK8 (wR fun K10 hK10 => ?_))))
 refine wq_p 1 [(29, (lV A7 body.length c7))] ?_
 refine wT 30 (x_unp h7 hu [(lV A7 body.length c7)] (by kernel_rfl) (unp_any (OB.sb (h7.at_ 0 rfl)))) ?_
 rintro _ w11 ⟨G11, x11, rfl, h11⟩
 obtain ⟨v11, rfl⟩ := (h11.at_ 0 rfl).2.ty
 refine wq_p 5 [(14, O), (13, (Value.iface (tyTh t) v11)), (32, O), (31, (Value.iface (tyTh t) v11)), (28, (Value.tuple #[(Value.iface (tyTh t) v11), O]))] ?_
 refine wE hK10 (wp_seq_k fun K12 hK12 => wR fun K13 hK13 => ?_)
 refine wq_p 2 [(34, V), (33, O)] ?_
 refine wE hK13 (cF (wp_skip (seq_n hK12 (wp_seq_k fun K14 hK14 => wp_seq_k fun K15 hK15 => ?_))))
 refine wp_reset 45 [(8, (pt g3 0)), (9, O), (10, (pt g5 0)), (13, (Value.iface (tyTh t) v11))] (fun x16 => ?_)
 refine reg_lit ?_
 refine wq_p 1 [(38, (Value.iface (tyTh t) v11))] (wV 39 (Value.tuple #[(aV ([O] ++ vb (List.replicate 16 0) ++ [O, eS, O, O, O]).toArray), V]) (e_asNo (T' := tyTh t) (ta := 60) (xt := 20) (v := v11) (.tmp 38) (by kernel_rfl) (by kernel_rfl) hty (by kernel_rfl) (by kernel_rfl) _) (wq_p 3 [(41, V), (40, (aV ([O] ++ vb (List.replicate 16 0) ++ [O, eS, O, O, O]).toArray)), (37, (Value.tuple #[(aV ([O] ++ vb (List.replicate 16 0) ++ [O, eS, O, O, O]).toArray), V]))] ?_))
 refine wT 15 (xN h11 60 ([O] ++ vb (List.replicate 16 0) ++ [O, eS, O, O, O])) ?_
 rintro _ w17 ⟨g17, rfl, h17⟩
 refine wq_to none (xSs h17 0 60 (.tmp 15) (.tmp 40) 0 ([O] ++ vb (List.replicate 16 0) ++ [O, eS, O, O, O]) ([O] ++ vb (List.replicate 16 0) ++ [O, eS, O, O, O])) ?_
 rintro _ w18 h18
 refine wq_p 1 [(16, V)] ?_
 refine wE hK15 (wR fun K19 hK19 => ?_)
 refine wq_p 1 [(42, V)] ?_
 refine wE hK19 (cF (wp_skip (seq_n hK14 (wR fun K20 hK20 => ?_))))
 refine wV 44 (aV ([O] ++ vb (List.replicate 16 0) ++ [O, eS, O, O, O]).toArray) (eLs (h18.at_ 3 rfl) 60 (.tmp 10) 0 ([O] ++ vb (List.replicate 16 0) ++ [O, eS, O, O, O])) ?_
 refine wq_to none (xSs h18 4 60 (.tmp 8) (.tmp 44) 0 ([O] ++ vb (List.replicate 16 0) ++ [O, eS, O, O, O]) ([O] ++ vb (List.replicate 16 0) ++ [O, eS, O, O, O])) ?_
 rintro _ w21 h21
 refine wq_p 1 [(9, (D 4))] ?_
 refine wE hK20 (wp_ret ?_)
 refine post_2 rfl (by kernel_rfl) (rce (h21.at_ 4 rfl)) (rtm (D 4)) ?_
 rw [outReply_no hty]
 exact ⟨rfl, h21.below0⟩
theorem oReply_yes {F : Nat -> Prop} {tb : Nat} {s : STab} {K : Fin 16 -> UInt8} {us : Int} {A : Option Addr} {c : Nat} {l : Bytes} {w : World} (hT : (rTab F tb s).Φ w) (hs : TabOk s) (hv : SB w (.slice A l.length c) l) (f : Int) (Ky : Fin 16 -> UInt8) (n : Int) (s1 : ByteArray) (a : Int) (u : Int) (r : Int) {body : Bytes} (ho : s.open_ (kl K) us l = some body) (hu : unpB body = .inr (.reply f Ky n s1 a u r)) : Calls Try.prog 21 #[(Value.iface 24 (pt tb 0)), (aV (vb (kl K)).toArray), .int .i64 us, .slice A l.length c] w (DPost w (outReply (.inr (.reply f Ky n s1 a u r)))) := by
 have h0 := ((Hp.ro1 (rSB (.slice A l.length c) l) hv).addR (rTab F tb s) hT (by simp))
 refine enter 41 Try.func21 rfl rfl ?_
 refine wp_reset 45 [(0, (Value.iface 24 (pt tb 0))), (1, (aV (vb (kl K)).toArray)), (2, (D us)), (3, (lV A l.length c))] (fun x0 => ?_)
 refine wR fun K1 hK1 => ?_
 refine wT 5 (xN h0 32 (vb (kl K))) ?_
 rintro _ w2 ⟨g2, rfl, h2⟩
 refine wT 8 (xN h2 60 ([O] ++ vb (List.replicate 16 0) ++ [O, eS, O, O, O])) ?_
 rintro _ w3 ⟨g3, rfl, h3⟩
 refine wq_p 1 [(9, O)] ?_
 refine wE hK1 (wR fun K4 hK4 => ?_)
 refine wT 10 (xN h3 60 ([O] ++ vb (List.replicate 16 0) ++ [O, eS, O, O, O])) ?_
 rintro _ w5 ⟨g5, rfl, h5⟩
 refine wE hK4 (wR fun K6 hK6 => ?_)
 refine wq_p 1 [(18, (Value.iface 24 (pt tb 0)))] (wV 19 (aV (vb (kl K)).toArray) (eLs (h5.at_ 2 rfl) 32 (.tmp 5) 0 (vb (kl K))) (wq_p 2 [(21, (lV A l.length c)), (20, (D us))] ?_))
 refine wT 22 (x_openR h5 0 rfl hs K us l (lV A l.length c) (some body) (by kernel_rfl) (h5.rd 1 rfl) ho) ?_
 rintro _ w7 ⟨A7, c7, rfl, h7⟩
 refine wq_p 5 [(12, I), (11, (lV A7 body.length c7)), (24, I), (23, (lV A7 body.length c7)), (17, (Value.tuple #[(lV A7 body.length c7), I]))] ?_
 refine wE hK6 (wp_seq_k fun K8 hK8 => wR fun K9 hK9 => ?_)
 refine wq_p 2 [(26, V), (25, I)] ?_
 refine wE hK9 (cF (wp_skip (seq_n hK8 (wR fun K10 hK10 => ?_))))
 refine wq_p 1 [(29, (lV A7 body.length c7))] ?_
 refine wT 30 (x_unp h7 hu [(lV A7 body.length c7)] (by kernel_rfl) (unp_any (OB.sb (h7.at_ 0 rfl)))) ?_
 rintro _ w11 ⟨G11, x11, rfl, h11⟩
 obtain rfl : x11 = (Value.iface 60 (aV ([(iV .i64 f)] ++ vb (kl Ky) ++ [(iV .i64 n), (sV s1), (iV .i64 a), (iV .i64 u), (iV .i64 r)]).toArray)) := (h11.at_ 0 rfl).2
 refine wq_p 5 [(14, O), (13, (Value.iface 60 (aV ([(D f)] ++ vb (kl Ky) ++ [(D n), (sV s1), (D a), (D u), (D r)]).toArray))), (32, O), (31, (Value.iface 60 (aV ([(D f)] ++ vb (kl Ky) ++ [(D n), (sV s1), (D a), (D u), (D r)]).toArray))), (28, (Value.tuple #[(Value.iface 60 (aV ([(D f)] ++ vb (kl Ky) ++ [(D n), (sV s1), (D a), (D u), (D r)]).toArray)), O]))] ?_
 refine wE hK10 (wp_seq_k fun K12 hK12 => wR fun K13 hK13 => ?_)
 refine wq_p 2 [(34, V), (33, O)] ?_
 refine wE hK13 (cF (wp_skip (seq_n hK12 (wp_seq_k fun K14 hK14 => wp_seq_k fun K15 hK15 => ?_))))
 refine wp_reset 45 [(8, (pt g3 0)), (9, O), (10, (pt g5 0)), (13, (Value.iface 60 (aV ([(D f)] ++ vb (kl Ky) ++ [(D n), (sV s1), (D a), (D u), (D r)]).toArray)))] (fun x16 => ?_)
 refine reg_lit ?_
 refine wq_p 5 [(41, I), (40, (aV ([(D f)] ++ vb (kl Ky) ++ [(D n), (sV s1), (D a), (D u), (D r)]).toArray)), (37, (Value.tuple #[(aV ([(D f)] ++ vb (kl Ky) ++ [(D n), (sV s1), (D a), (D u), (D r)]).toArray), I])), (39, (Value.tuple #[(aV ([(D f)] ++ vb (kl Ky) ++ [(D n), (sV s1), (D a), (D u), (D r)]).toArray), I])), (38, (Value.iface 60 (aV ([(D f)] ++ vb (kl Ky) ++ [(D n), (sV s1), (D a), (D u), (D r)]).toArray)))] ?_
 refine wT 15 (xN h11 60 ([O] ++ vb (List.replicate 16 0) ++ [O, eS, O, O, O])) ?_
 rintro _ w17 ⟨g17, rfl, h17⟩
 refine wq_to none (xSs h17 0 60 (.tmp 15) (.tmp 40) 0 ([(D f)] ++ vb (kl Ky) ++ [(D n), (sV s1), (D a), (D u), (D r)]) ([(D f)] ++ vb (kl Ky) ++ [(D n), (sV s1), (D a), (D u), (D r)])) ?_
 rintro _ w18 h18
 refine wq_p 1 [(16, I)] ?_
 refine wE hK15 (wR fun K19 hK19 => ?_)
 refine wq_p 1 [(42, I)] ?_
 refine wE hK19 (cT (wR fun K20 hK20 => ?_))
 refine wV 43 (aV ([(D f)] ++ vb (kl Ky) ++ [(D n), (sV s1), (D a), (D u), (D r)]).toArray) (eLs (h18.at_ 0 rfl) 60 (.tmp 15) 0 ([(D f)] ++ vb (kl Ky) ++ [(D n), (sV s1), (D a), (D u), (D r)])) ?_
 refine wq_to none (xSs h18 4 60 (.tmp 8) (.tmp 43) 0 ([(D f)] ++ vb (kl Ky) ++ [(D n), (sV s1), (D a), (D u), (D r)]) ([(D f)] ++ vb (kl Ky) ++ [(D n), (sV s1), (D a), (D u), (D r)])) ?_
 rintro _ w21 h21
 refine wq_p 1 [(9, O)] ?_
 refine wE hK20 (wp_ret (seq_r ?_))
 refine post_2 rfl (by kernel_rfl) (rce (h21.at_ 4 rfl)) (rtm O) ?_
 exact ⟨rfl, h21.below0⟩
theorem oReply_any {F : Nat -> Prop} {tb : Nat} {s : STab} {K : Fin 16 -> UInt8} {us : Int} {bv : Value} {l : Bytes} {w : World} (hT : (rTab F tb s).Φ w) (hs : TabOk s) (hv : SB w bv l) : Calls Try.prog 21 #[(Value.iface 24 (pt tb 0)), (aV (vb (kl K)).toArray), .int .i64 us, bv] w (DPost w (outReply (openTh s (kl K) us l))) := by
 obtain ⟨A, c, rfl, _⟩ := id hv
 unfold openTh
 split
 · rename_i ho; exact oReply_none hT hs hv ho
 · rename_i body ho
   rcases hu : unpB body with cc | t
   · exact oReply_err hT hs hv ho hu
   · by_cases hty : tyTh t = 60
     · cases t with
       | reply f Ky n s1 a u r => exact oReply_yes hT hs hv f Ky n s1 a u r ho hu
       | ticket => exact absurd (show 39 = 60 from hty) (by decide)
       | inside => exact absurd (show 55 = 60 from hty) (by decide)
       | authent => exact absurd (show 141 = 60 from hty) (by decide)
       | stamp => exact absurd (show 49 = 60 from hty) (by decide)
       | fact => exact absurd (show 143 = 60 from hty) (by decide)
       | plain => exact absurd (show 37 = 60 from hty) (by decide)
     · exact oReply_ty hT hs hv ho hu hty
/-- .. at a caller. -/
theorem x_oReply {o : Oper} {a : Act} {F0 F : Nat -> Prop} {w0 w : World} {ro rs : List Res} {tb : Nat} {s : STab} (h : Hp F0 w0 w ro rs) (i : Nat) (hi : rs[i]? = some (rTab F tb s)) (K : Fin 16 -> UInt8) (us : Int) {bv : Value} {l : Bytes} (hp : pureVal Try.prog (execOp a.eval o) = some (.enter 21 #[(Value.iface 24 (pt tb 0)), (aV (vb (kl K)).toArray), .int .i64 us, bv])) (hs : TabOk s) (hb : SB w bv l) {r : Nat ⊕ Thing} (hr : openTh s (kl K) us l = r) :
   OpTo Try.prog o a w (fun u w' => u = outReply r /\ Hp F0 w0 w' ro rs) := by
 subst hr
 exact x_dp h 21 [(Value.iface 24 (pt tb 0)), (aV (vb (kl K)).toArray), .int .i64 us, bv] hp (oReply_any (h.own i _ hi) hs hb)
end
section
open Go.RowKit Go.QT
structure User where
 name : ByteArray
 key : Fin 16 -> UInt8
 life : Int
 renew : Int
 mesh : Bool
def uC (u : User) : List Value := [Value.string u.name] ++ vb (kl u.key) ++ [Value.int .i64 u.life, Value.int .i64 u.renew, Value.bool u.mesh]
def cmpS (a b : ByteArray) : Int := Lib.compareBytes a.data.toList b.data.toList
theorem cmpB_self : ∀ l : List UInt8, Lib.compareBytes l l = 0
 | [] => rfl
 | x :: l => by
   unfold Lib.compareBytes
   rw [if_neg (UInt8.lt_irrefl x), if_neg (UInt8.lt_irrefl x), cmpB_self l]
theorem cmpB_eq : ∀ l m : List UInt8, Lib.compareBytes l m = 0 -> l = m
 | [], [], _ => rfl
 | [], _ :: _, h => by simp [Lib.compareBytes] at h
 | _ :: _, [], h => by simp [Lib.compareBytes] at h
 | x :: l, y :: m, h => by
   unfold Lib.compareBytes at h
   split at h
   · cases h
   split at h
   · cases h
   rename_i h1 h2
   have e : x = y := by
     have h1 := UInt8.not_lt.1 h1
     have h2 := UInt8.not_lt.1 h2
     exact UInt8.le_antisymm h2 h1
   rw [e, cmpB_eq l m h]
theorem cmpS_self (a : ByteArray) : cmpS a a = 0 := cmpB_self _
theorem cmpS_eq {a b : ByteArray} (h : cmpS a b = 0) : a = b := by
 have := cmpB_eq _ _ h
 obtain ⟨⟨l⟩⟩ := a
 obtain ⟨⟨m⟩⟩ := b
 simp at this
 rw [this]
/-- The name of the n-th one. -/
def nameAt (us : List User) (n : Nat) : ByteArray := (us[n]?.map (·.name)).getD ByteArray.empty
/-- slices.BinarySearchFunc, by names. -/
def bsGo (us : List User) (s : ByteArray) : Nat -> Nat -> Nat -> Nat
 | 0, lo, _ => lo
 | f + 1, lo, hi => if lo < hi then (if cmpS (nameAt us ((lo + hi) / 2)) s < 0 then bsGo us s f ((lo + hi) / 2 + 1) hi else bsGo us s f lo ((lo + hi) / 2)) else lo
def placeI (us : List User) (s : ByteArray) : Nat := bsGo us s us.length 0 us.length
def placeB (us : List User) (s : ByteArray) : Bool := decide (placeI us s < us.length) && decide (cmpS (nameAt us (placeI us s)) s = 0)
theorem bsGo_done (us : List User) (s : ByteArray) {f lo hi : Nat} (h : ¬ lo < hi) : bsGo us s f lo hi = lo := by
 cases f with
 | zero => rfl
 | succ f => unfold bsGo; rw [if_neg h]
theorem bsGo_more (us : List User) (s : ByteArray) {f lo hi : Nat} (hf : hi - lo <= f) : bsGo us s f lo hi = if lo < hi then (if cmpS (nameAt us ((lo + hi) / 2)) s < 0 then bsGo us s (f - 1) ((lo + hi) / 2 + 1) hi else bsGo us s (f - 1) lo ((lo + hi) / 2)) else lo := by
 cases f with
 | zero => rw [if_neg (by omega)]; rfl
 | succ f => rfl
def lBs (bb : Nat) (A : Option Addr) (c : Nat) (us : List User) : List Res := [rBlk bb 129 [.slice A us.length c], rOV 95 20 (.slice A us.length c) (us.map uC)]
/-- All users, as one thing. -/
def rBs (G : Nat -> Prop) (bb : Nat) (us : List User) : Res where
 F := G
 Φ := fun w => ∃ A c, G = (rStar (lBs bb A c us)).F /\ (rStar (lBs bb A c us)).Φ w
 lt := fun ⟨_, _, hG, h⟩ q hq => (rStar _).lt h q (hG ▸ hq)
 keep := fun ⟨A, c, hG, h⟩ hs hk => ⟨A, c, hG, (rStar _).keep h hs fun q hq => hk q (hG ▸ hq)⟩
section
variable {F0 : Nat -> Prop} {w0 w w' : World} {ro rs : List Res} {G : Nat -> Prop} {bb : Nat} {us : List User} {o : Oper} {a : Act}
theorem Hp.closeB {A : Option Addr} {c : Nat} (h : Hp F0 w0 w ro (lBs bb A c us ++ rs)) : Hp F0 w0 w ro (rBs (rStar (lBs bb A c us)).F bb us :: rs) := by
 have h1 := h.closeStar
 have h2 := h1.upd 0 rfl (Fr.refl _ _) (rBs (rStar (lBs bb A c us)).F bb us) ⟨A, c, rfl, h1.own 0 _ rfl⟩ (fun q hq => .inl hq)
 exact h2
theorem bs_open (h : (rBs G bb us).Φ w) : ∃ A c, Blk w bb 129 [.slice A us.length c] /\ (rOV 95 20 (.slice A us.length c) (us.map uC)).Φ w /\ (∀ q, q = bb -> G q) /\ (∀ q, (rOV 95 20 (.slice A us.length c) (us.map uC)).F q -> G q) := by
 obtain ⟨A, c, rfl, h2⟩ := h
 exact ⟨A, c, h2.1 0 _ rfl, h2.1 1 _ rfl, fun q hq => ⟨0, _, rfl, hq⟩, fun q hq => ⟨1, _, rfl, hq⟩⟩
/-- The comparison of two strings, as the run time has it. -/
theorem e_cmpx (x y : Operand) (ats : Array TypeId) (ho : o.op = .call { callee := .value (.func 87), args := #[x, y], argTypes := ats }) (s t : ByteArray) (hx : a.eval x = .string s) (hy : a.eval y = .string t) (W : World) :
   (execOp a.eval o).run Try.prog W = .ok (.value (.int .i64 (cmpS s t))) W := by
 obtain ⟨dst, op, type, pos, after, guard⟩ := o
 simp only at ho
 subst ho
 rw [execOp_call_go]
 have e : (#[] ++ #[x, y].map a.eval ++ #[] : Array Value) = #[.string s, .string t] := by simp [hx, hy]
 rw [e, run_callFunc_extern (e := Extern.BytealgCompare.compare) Try.func87 (by kernel_rfl) (by kernel_rfl) (by kernel_rfl) (by kernel_rfl), Lib.run_compareString]
 rfl
end
end
section
open Go.Value renaming int -> iV, slice -> lV, string -> sV, bool -> bV, agg -> aV
open Go.RowKit Go.QT
section
variable {P : Program} {o : Oper} {a : Act}
theorem e_shr64 (t t' : TypeId) (x y : Operand) (ho : o.op = .binOp .shr t x y t') (m : Nat) (k : IntKind) (n : Nat) (hn : n <= 8) (hx : a.eval x = .int .u64 (m : Int)) (hy : a.eval y = .int k (n : Int)) (r : Nat) (hr : r = m / 2 ^ n) (W : World) :
   (execOp a.eval o).run P W = .ok (.value (.int .u64 (r : Int))) W := by
 subst hr
 have h3 : (eqGuard .shr t x y (.int .u64 (m : Int)) (.int k (n : Int))).run P W = .ok () W := by simp [eqGuard]
 have e : ((m : Int)).fdiv (2 ^ n) = ((m / 2 ^ n : Nat) : Int) := by
   have h2 : (2 : Int) ^ n = ((2 ^ n : Nat) : Int) := by simp
   rw [h2, Int.fdiv_eq_ediv_of_nonneg _ (Int.natCast_nonneg _), ← Int.natCast_ediv]
 have h4 : (binOp .shr t (.int .u64 (m : Int)) (.int k (n : Int))).run P W = .ok (.int .u64 ((m / 2 ^ n : Nat) : Int)) W := by
   have hm : min ((n : Int)).toNat IntKind.u64.bits = n := by
     show min ((n : Int)).toNat 64 = n
     omega
   have h0 : ¬ ((n : Int) < 0) := by omega
   unfold binOp Op.shift
   simp only [if_neg h0, hm, e, Sem.run_pure]
 unfold execOp
 simp only [ho, hx, hy, Sem.run_bind, h3, h4, Result.andThen_ok, Sem.run_pure]
theorem us_at {us : List User} {i : Nat} {u : User} (h : us[i]? = some u) : (us.map uC)[i]? = some (uC u) := by rw [List.getElem?_map, h]; rfl
end
theorem cmpx_any (s t : ByteArray) (w : World) : Calls Try.prog 84 #[(sV s), (sV t)] w (DPost w (.int .i64 (cmpS s t))) := by
 have h0 := Hp.nil (fun _ => False) w
 refine enter 6 Try.func84 rfl rfl ?_
 refine wp_reset 8 [(0, (sV s)), (1, (sV t))] (fun x0 => ?_)
 refine wR fun K1 hK1 => ?_
 refine wq_p 1 [(4, O)] ?_
 refine wE hK1 (wR fun K2 hK2 => ?_)
 refine wq_p 2 [(6, (sV t)), (5, (sV s))] (wV 7 (D (cmpS s t)) (e_cmpx (.tmp 5) (.tmp 6) #[9, 9] (by kernel_rfl) s t (by kernel_rfl) (by kernel_rfl) _) (wq_p 1 [(4, (D (cmpS s t)))] ?_))
 refine wE hK2 (wp_ret ?_)
 refine post_1 rfl (by kernel_rfl) (rtm (D (cmpS s t))) ?_
 exact ⟨rfl, h0.below0⟩
theorem cmps_any (s t : ByteArray) (w : World) : Calls Try.prog 72 #[(sV s), (sV t)] w (DPost w (.int .i64 (cmpS s t))) := by
 have h0 := Hp.nil (fun _ => False) w
 refine enter 6 Try.func72 rfl rfl ?_
 refine wp_reset 8 [(0, (sV s)), (1, (sV t))] (fun x0 => ?_)
 refine wR fun K1 hK1 => ?_
 refine wq_p 1 [(4, O)] ?_
 refine wE hK1 (wR fun K2 hK2 => ?_)
 refine wq_p 2 [(6, (sV t)), (5, (sV s))] ?_
 refine wT 7 (x_dp h0 84 [(sV s), (sV t)] (by kernel_rfl) (cmpx_any s t _)) ?_
 rintro _ w3 ⟨rfl, h3⟩
 refine wq_p 1 [(4, (D (cmpS s t)))] ?_
 refine wE hK2 (wp_ret ?_)
 refine post_1 rfl (by kernel_rfl) (rtm (D (cmpS s t))) ?_
 exact ⟨rfl, h3.below0⟩
theorem cmpu_any (u : User) (t : ByteArray) (w : World) : Calls Try.prog 71 #[(aV ([(sV u.name)] ++ vb (kl u.key) ++ [(iV .i64 u.life), (iV .i64 u.renew), (bV u.mesh)]).toArray), (sV t)] w (DPost w (.int .i64 (cmpS u.name t))) := by
 have h0 := Hp.nil (fun _ => False) w
 refine enter 7 Try.func71 rfl rfl ?_
 refine wp_reset 9 [(0, (aV ([(sV u.name)] ++ vb (kl u.key) ++ [(D u.life), (D u.renew), (bV u.mesh)]).toArray)), (1, (sV t))] (fun x0 => ?_)
 refine wR fun K1 hK1 => ?_
 refine wT 2 (xN h0 95 ([(sV u.name)] ++ vb (kl u.key) ++ [(D u.life), (D u.renew), (bV u.mesh)])) ?_
 rintro _ w2 ⟨g2, rfl, h2⟩
 refine wq_p 1 [(4, O)] ?_
 refine wE hK1 (wR fun K3 hK3 => ?_)
 refine wq_p 1 [(5, (pt g2 0))] (wV 6 (sV u.name) (eL (h2.at_ 0 rfl) 9 (.tmp 5) 0 _) (wq_p 1 [(7, (sV t))] ?_))
 refine wT 8 (x_dp h2 72 [(sV u.name), (sV t)] (by kernel_rfl) (cmps_any u.name t _)) ?_
 rintro _ w4 ⟨rfl, h4⟩
 refine wq_p 1 [(4, (D (cmpS u.name t)))] ?_
 refine wE hK3 (wp_ret ?_)
 refine post_1 rfl (by kernel_rfl) (rtm (D (cmpS u.name t))) ?_
 exact ⟨rfl, h4.below0⟩
theorem search_any {us : List User} {s : ByteArray} {A : Option Addr} {c : Nat} {w : World} (hx : RV w 20 A c (us.map uC)) (h32 : us.length <= 1000000) : Calls Try.prog 70 #[(lV A us.length c), (sV s), (Value.func (.func 71) #[] #[])] w (DPost w (.tuple #[.int .i64 (placeI us s : Int), .bool (placeB us s)])) := by
 have h0 := Hp.ro1 (rRV 20 A c (us.map uC)) hx
 refine enter 46 Try.func70 rfl rfl ?_
 refine wp_reset 49 [(0, (lV A us.length c)), (1, (sV s)), (2, (Value.func (.func 71) #[] #[]))] (fun x0 => ?_)
 refine wR fun K1 hK1 => ?_
 refine wq_p 2 [(7, V), (6, O)] ?_
 refine wE hK1 (wR fun K2 hK2 => ?_)
 refine wq_p 3 [(8, (D ((us.length : Int)))), (13, (D ((us.length : Int)))), (12, (lV A us.length c))] ?_
 refine wE hK2 (wR fun K3 hK3 => ?_)
 refine wq_p 3 [(10, (D ((us.length : Int)))), (9, O), (14, (D ((us.length : Int))))] ?_
 refine wE hK3 (wp_seq_k fun K4 hK4 => wp_block ?_)
 refine wp_loopm (fun mM xX aA wL => ∃ (f : Nat) (lo : Nat) (hi : Nat), (lo <= hi) /\ (hi <= us.length) /\ (hi - lo <= f) /\ (placeI us s = bsGo us s f lo hi) /\ mM = hi - lo /\ aA = patch xX 49 [(0, (lV A us.length c)), (1, (sV s)), (2, (Value.func (.func 71) #[] #[])), (6, (iV .i64 0)), (7, (bV false)), (8, (iV .i64 ((us.length : Int)))), (9, (iV .i64 ((lo : Int)))), (10, (iV .i64 ((hi : Int))))] /\ Hp (fun _ => False) w wL [rRV 20 A c ((us.map uC))] []) ⟨_, us.length, 0, us.length, (Nat.zero_le _), (Nat.le_refl _), (by omega), rfl, rfl, (pEq 49), h0.sel [] [0] (by kernel_rfl) rfl rfl⟩ ?_
 rintro _ x5 _ w5 ⟨f, lo, hi, hlo, hhi, hf, hinv, rfl, rfl, h5⟩
 refine wp_seq_k fun K6 hK6 => wR fun K7 hK7 => ?_
 refine wq_p 3 [(17, (bV (decide ((lo : Int) < (hi : Int))))), (16, (D ((hi : Int)))), (15, (D ((lo : Int))))] ?_
 refine wE hK7 ?_
 refine wp_if ((lo : Int) < (hi : Int)) (by kernel_rfl) (fun b8 => ?_) (fun b8 => ?_)
 ·
  refine wp_skip (seq_n hK6 (wp_block (wp_seq_k fun K9 hK9 => ?_)))
  have hlt : lo < hi := by omega
  have hmore := bsGo_more us s hf
  rw [if_pos hlt] at hmore
  obtain ⟨m, hm⟩ : ∃ m, m = (lo + hi) / 2 := ⟨_, rfl⟩
  obtain ⟨u, hu⟩ : ∃ u, us[m]? = some u := ⟨_, List.getElem?_eq_getElem (by omega)⟩
  have hnm : nameAt us m = u.name := by unfold nameAt; rw [hu]; rfl
  rw [← hm, hnm] at hmore
  refine reg_lit ?_
  refine wq_p 2 [(19, (D ((hi : Int)))), (18, (D ((lo : Int))))] (wV 20 (D (((lo + hi : Nat) : Int))) (exec_add _ _ _ _ rfl (lo : Int) (hi : Int) (by kernel_rfl) (by kernel_rfl) (((lo + hi : Nat) : Int)) (by omega) (by omega) (by omega) _) (wV 21 (iV .u64 (((lo + hi : Nat) : Int))) (eqI (iV .u64 (IntKind.u64.wrap ((lo + hi : Nat) : Int))) (wrap_u64_is (by omega) (by omega))) (wV 22 (iV .u64 ((m : Int))) (e_shr64 173 173 (.tmp 21) (.const (iV .u64 1)) (by kernel_rfl) (lo + hi) .u64 1 (by decide) (by kernel_rfl) (by kernel_rfl) m (by rw [hm]) _) ?_)))
  refine wV 23 (D ((m : Int))) (eqI (D (IntKind.i64.wrap (m : Int))) (i64_nat (by omega))) (wq_p 1 [(11, (D ((m : Int))))] ?_)
  refine wE hK9 (wR fun K10 hK10 => ?_)
  refine wq_p 3 [(26, (D ((m : Int)))), (25, (lV A us.length c)), (24, (Value.func (.func 71) #[] #[]))] (wV 27 (eAt A (m * 20 + 0)) (eIx (RV.lenIs (n := us.length) (h5.rd 0 rfl) (List.length_map _)).2 m us.length (RV.lenIs (n := us.length) (h5.rd 0 rfl) (List.length_map _)).1 (by omega) 127 (.tmp 25) (.tmp 26) .i64 95) (wV 28 (aV ([(sV u.name)] ++ vb (kl u.key) ++ [(D u.life), (D u.renew), (bV u.mesh)]).toArray) (e_elemsN (RV.lenIs (n := us.length) (h5.rd 0 rfl) (List.length_map _)).2 m 0 ([(sV u.name)] ++ vb (kl u.key) ++ [(D u.life), (D u.renew), (bV u.mesh)]) (us_at hu) 95 (.tmp 27) (by kernel_rfl) ([(sV u.name)] ++ vb (kl u.key) ++ [(D u.life), (D u.renew), (bV u.mesh)]) (by kernel_rfl) (by kernel_rfl) (by kernel_rfl)) (wq_p 1 [(29, (sV s))] ?_)))
  refine wT 30 (x_dp h5 71 [(aV ([(sV u.name)] ++ vb (kl u.key) ++ [(D u.life), (D u.renew), (bV u.mesh)]).toArray), (sV s)] (by kernel_rfl) (cmpu_any u s _)) ?_
  rintro _ w11 ⟨rfl, h11⟩
  refine wq_p 1 [(31, (bV (decide (cmpS u.name s < 0))))] ?_
  refine wE hK10 ?_
  refine wp_if (cmpS u.name s < 0) (by kernel_rfl) (fun b12 => ?_) (fun b12 => ?_)
  ·
   rw [if_pos (by omega)] at hmore
   have hn := hinv.trans hmore
   refine reg_lit ?_
   refine wq_p 1 [(32, (D ((m : Int))))] (wV 33 (D (((m + 1 : Nat) : Int))) (exec_add _ _ _ _ rfl (m : Int) 1 (by kernel_rfl) (by kernel_rfl) (((m + 1 : Nat) : Int)) (by omega) (by omega) (by omega) _) (wq_p 1 [(9, (D (((m + 1 : Nat) : Int))))] ?_))
   refine wl_end rfl (blk_n ?_)
   refine ⟨hi - (m + 1), (by omega), ((f - 1)), ((m + 1)), hi, (by omega), (by omega), (by omega), hn, rfl, (pEq 49), h11.sel [] [0] (by kernel_rfl) rfl rfl⟩
  ·
   rw [if_neg (by omega)] at hmore
   have hn := hinv.trans hmore
   refine reg_lit ?_
   refine wq_p 2 [(10, (D ((m : Int)))), (34, (D ((m : Int))))] ?_
   refine wl_end rfl (blk_n ?_)
   refine ⟨m - lo, (by omega), ((f - 1)), lo, m, (by omega), (by omega), (by omega), hn, rfl, (pEq 49), h11.sel [] [0] (by kernel_rfl) rfl rfl⟩
 ·
  refine wp_exit (seq_e (seq_e (blk_e (seq_n hK4 (wp_seq_k fun K13 hK13 => ?_)))))
  rcases Nat.lt_or_ge lo us.length with hl | hl
  ·
   have hpl : placeI us s = lo := hinv.trans (bsGo_done us s (by omega))
   obtain ⟨u, hu⟩ : ∃ u, us[lo]? = some u := ⟨_, List.getElem?_eq_getElem hl⟩
   have hnm : nameAt us lo = u.name := by unfold nameAt; rw [hu]; rfl
   refine reg_lit ?_
   refine wq_p 3 [(37, (D ((us.length : Int)))), (36, (D ((lo : Int)))), (35, (D ((lo : Int))))] (wV 38 (.bool true) (eqI (bV (decide ((lo : Int) < (us.length : Int)))) (by simp; omega)) (wq_p 4 [(42, (D ((lo : Int)))), (41, (lV A us.length c)), (40, (Value.func (.func 71) #[] #[])), (39, I)] (wV 43 (eAt A (lo * 20 + 0)) (eIx (RV.lenIs (n := us.length) (h5.rd 0 rfl) (List.length_map _)).2 lo us.length (RV.lenIs (n := us.length) (h5.rd 0 rfl) (List.length_map _)).1 (by omega) 127 (.tmp 41) (.tmp 42) .i64 95) ?_)))
   refine wV 44 (aV ([(sV u.name)] ++ vb (kl u.key) ++ [(D u.life), (D u.renew), (bV u.mesh)]).toArray) (e_elemsN (RV.lenIs (n := us.length) (h5.rd 0 rfl) (List.length_map _)).2 lo 0 ([(sV u.name)] ++ vb (kl u.key) ++ [(D u.life), (D u.renew), (bV u.mesh)]) (us_at hu) 95 (.tmp 43) (by kernel_rfl) ([(sV u.name)] ++ vb (kl u.key) ++ [(D u.life), (D u.renew), (bV u.mesh)]) (by kernel_rfl) (by kernel_rfl) (by kernel_rfl)) (wq_p 1 [(45, (sV s))] ?_)
   refine wT 46 (x_dp h5 71 [(aV ([(sV u.name)] ++ vb (kl u.key) ++ [(D u.life), (D u.renew), (bV u.mesh)]).toArray), (sV s)] (by kernel_rfl) (cmpu_any u s _)) ?_
   rintro _ w15 ⟨rfl, h15⟩
   refine wV 47 (bV (placeB us s)) (eqI (bV (cmpS u.name s == 0)) (congrArg bV (by unfold placeB; rw [hpl, decide_eq_true hl, hnm, Bool.true_and]; rfl))) (wq_p 3 [(7, (bV (placeB us s))), (6, (D ((lo : Int)))), (48, (bV (placeB us s)))] ?_)
   refine wE hK13 (wp_ret ?_)
   refine post_2 rfl (by kernel_rfl) (rtm (D ((lo : Int)))) (rtm (bV (placeB us s))) ?_
   exact ⟨by rw [hpl], h15.below0⟩
  ·
   have hpl : placeI us s = lo := hinv.trans (bsGo_done us s (by omega))
   refine reg_lit ?_
   refine wq_p 3 [(37, (D ((us.length : Int)))), (36, (D ((lo : Int)))), (35, (D ((lo : Int))))] (wV 38 (.bool false) (eqI (bV (decide ((lo : Int) < (us.length : Int)))) (by simp; omega)) (wq_p 7 [(45, undef), (44, undef), (43, undef), (42, undef), (41, undef), (40, undef), (39, V)] (wq_p 1 [(46, undef)] ?_)))
   refine wq_p 1 [(47, undef)] (wq_p 3 [(7, V), (6, (D ((lo : Int)))), (48, V)] ?_)
   refine wE hK13 (wp_ret ?_)
   refine post_2 rfl (by kernel_rfl) (rtm (D ((lo : Int)))) (rtm V) ?_
   exact ⟨by rw [hpl, show placeB us s = false from by unfold placeB; rw [hpl, decide_eq_false (by omega)]; rfl], h5.below0⟩
end
end Go.Proofs.Ytecomegocafocaa
