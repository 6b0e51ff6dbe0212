/- The walk of der.read, of any bytes. -/
import Derived.Test.YtecomegocafocaaCA12
set_option maxRecDepth 100000
set_option maxHeartbeats 4000000
namespace Go.Proofs.Ytecomegocafocaa
section
open Go.Value renaming int -> iV, slice -> lV, string -> sV, bool -> bV, agg -> aV
open Go.RowKit Go.QT
theorem szv {fn : FuncId} {al : Array Value} {L : Bytes} {e m H : Nat} {w : World} (h : szB L = (e, m, H)) (hd : Calls Try.prog fn al w (DPost w (.tuple #[.int .i64 ((szB L).2.1 : Int), .int .i64 ((szB L).2.2 : Int), .int .i64 ((szB L).1 : Int)]))) : Calls Try.prog fn al w (DPost w (.tuple #[.int .i64 (m : Int), .int .i64 (H : Int), .int .i64 (e : Int)])) := by rw [h] at hd; exact hd
theorem x_getNo {o : Oper} {a : Act} {w : World} {F0 : Nat -> Prop} {w0 : World} {ro rs : List Res} (h : Hp F0 w0 w ro rs) (l : Bytes) (bv : Value) (hp : pureVal Try.prog (execOp a.eval o) = some (.enter 68 #[bv])) (hb : SB w bv l) (h0 : l.length = 0 ∨ 8 < l.length) :
   OpTo Try.prog o a w (fun u w' => u = .tuple #[.int .u64 0, .bool false] /\ Hp F0 w0 w' ro rs) :=
 OpTo.enter 68 [bv] hp (get_any bv l w hb) fun e w' hq => by
   obtain ⟨he, m, rfl⟩ := hq
   rw [getP_no l h0] at he
   exact ⟨_, he, rfl, h.drewN m⟩
theorem pre_nil (r : Nat ⊕ List DVal) : preL [] r = r := by cases r <;> rfl
theorem readG_b {fn : FuncId} {al : Array Value} {w : World} {r : Nat ⊕ (DVal × Nat)} {c : Nat} (h : r = .inl c) (hd : Calls Try.prog fn al w (ReadG w r)) : Calls Try.prog fn al w (DPost w (.tuple #[.agg #[.int .i64 0, .int .i64 0, .int .u64 0, .slice none 0 0, .slice none 0 0], .int .i64 0, .int .i64 (c : Int)])) := by subst h; exact hd
theorem readG_o {fn : FuncId} {al : Array Value} {w : World} {r : Nat ⊕ (DVal × Nat)} {v : DVal} {k : Nat} (h : r = .inr (v, k)) (hd : Calls Try.prog fn al w (ReadG w r)) : Calls Try.prog fn al w (ReadPost w v k) := by subst h; exact hd
theorem pt_bad {rd : Bytes -> Nat ⊕ (DVal × Nat)} {t n f ee : Nat} {B l : Bytes} {ts : List DVal} (hinv : lsB rd B.length B = preL ts (lsB rd (f + 1) l)) (h0 : l.length ≠ 0) (hr : rd l = .inl ee) : ptB rd 2 t B n = .inl ee := by
 unfold ptB
 rw [if_neg (by decide), if_neg (by decide), hinv, lsB_bad h0 hr]
theorem pt_end {rd : Bytes -> Nat ⊕ (DVal × Nat)} {t n f : Nat} {B l : Bytes} {ts : List DVal} (hinv : lsB rd B.length B = preL ts (lsB rd f l)) (h0 : l.length = 0) : ptB rd 2 t B n = .inr (.mk 2 t 0 [] ts, n) := by
 unfold ptB
 rw [if_neg (by decide), if_neg (by decide), hinv, lsB_end h0]
theorem rd_deep (d : Nat) (L : Bytes) (hd : 8 < d) (A : Option Addr) (c : Nat) (w : World) (hv : SB w (.slice A L.length c) L) : Calls Try.prog 59 #[.slice A L.length c, .int .i64 (d : Int)] w (DPost w (.tuple #[.agg #[.int .i64 0, .int .i64 0, .int .u64 0, .slice none 0 0, .slice none 0 0], .int .i64 0, .int .i64 4])) := by
 have h0 := Hp.ro1 (rSB (.slice A L.length c) L) hv
 refine enter 112 Try.func59 rfl rfl ?_
 refine wp_reset 114 [(0, (lV A L.length c)), (1, (D ((d : Int))))] (fun x0 => ?_)
 refine wR fun K1 hK1 => ?_
 refine wT 4 (xN h0 106 ([O, O, (iV .u64 0), nS, nS])) ?_
 rintro _ w2 ⟨g2, rfl, h2⟩
 refine wq_p 2 [(6, O), (5, O)] ?_
 refine wE hK1 (wp_seq_k fun K3 hK3 => wR fun K4 hK4 => ?_)
 refine wq_p 1 [(17, (D ((d : Int))))] (wV 18 (.bool true) (eqI (bV (decide ((d : Int) > 8))) (by simp; omega)) ?_)
 refine wE hK4 (cT (wR fun K5 hK5 => ?_))
 refine wq_p 1 [(19, (aV ([O, O, (iV .u64 0), nS, nS]).toArray))] ?_
 refine wq_to none (xSs h2 0 106 (.tmp 4) (.tmp 19) 0 ([O, O, (iV .u64 0), nS, nS]) ([O, O, (iV .u64 0), nS, nS])) ?_
 rintro _ w6 h6
 refine wq_p 2 [(6, (D 4)), (5, O)] ?_
 refine wE hK5 (wp_ret (seq_r ?_))
 refine post_3 rfl (by kernel_rfl) (rce (h6.at_ 0 rfl)) (rtm O) (rtm (D 4)) ?_
 exact ⟨rfl, h6.below0⟩
theorem rd_size (d : Nat) (L : Bytes) (hL : L.length <= 900000) (hd : d <= 8) (e m H : Nat) (hsz : szB L = (e, m, H)) (he : e ≠ 0) (A : Option Addr) (c : Nat) (w : World) (hv : SB w (.slice A L.length c) L) : Calls Try.prog 59 #[.slice A L.length c, .int .i64 (d : Int)] w (DPost w (.tuple #[.agg #[.int .i64 0, .int .i64 0, .int .u64 0, .slice none 0 0, .slice none 0 0], .int .i64 0, .int .i64 (e : Int)])) := by
 have h0 := Hp.ro1 (rSB (.slice A L.length c) L) hv
 refine enter 112 Try.func59 rfl rfl ?_
 refine wp_reset 114 [(0, (lV A L.length c)), (1, (D ((d : Int))))] (fun x0 => ?_)
 refine wR fun K1 hK1 => ?_
 refine wT 4 (xN h0 106 ([O, O, (iV .u64 0), nS, nS])) ?_
 rintro _ w2 ⟨g2, rfl, h2⟩
 refine wq_p 2 [(6, O), (5, O)] ?_
 refine wE hK1 (wp_seq_k fun K3 hK3 => wR fun K4 hK4 => ?_)
 refine wq_p 1 [(17, (D ((d : Int))))] (wV 18 (.bool false) (eqI (bV (decide ((d : Int) > 8))) (by simp; omega)) ?_)
 refine wE hK4 (cF (wp_skip (seq_n hK3 (wR fun K5 hK5 => ?_))))
 refine wq_p 1 [(21, (lV A L.length c))] ?_
 refine wT 22 (x_dp h2 81 [(lV A L.length c)] (by kernel_rfl) (szv hsz (size_all L hL A c _ (h2.rd 0 rfl)))) ?_
 rintro _ w6 ⟨rfl, h6⟩
 refine wq_p 7 [(9, (D ((e : Int)))), (8, (D ((H : Int)))), (7, (D ((m : Int)))), (25, (D ((e : Int)))), (24, (D ((H : Int)))), (23, (D ((m : Int)))), (20, (Value.tuple #[(D ((m : Int))), (D ((H : Int))), (D ((e : Int)))]))] ?_
 refine wE hK5 (wp_seq_k fun K7 hK7 => wR fun K8 hK8 => ?_)
 refine wq_p 1 [(26, (D ((e : Int))))] (wV 27 (.bool true) (eqI (bV (((e : Int)) != 0)) (ine (b := 0) he)) ?_)
 refine wE hK8 (cT (wR fun K9 hK9 => ?_))
 refine wq_p 2 [(29, (D ((e : Int)))), (28, (aV ([O, O, (iV .u64 0), nS, nS]).toArray))] ?_
 refine wq_to none (xSs h6 0 106 (.tmp 4) (.tmp 28) 0 ([O, O, (iV .u64 0), nS, nS]) ([O, O, (iV .u64 0), nS, nS])) ?_
 rintro _ w10 h10
 refine wq_p 2 [(6, (D ((e : Int)))), (5, O)] ?_
 refine wE hK9 (wp_ret (seq_r ?_))
 refine post_3 rfl (by kernel_rfl) (rce (h10.at_ 0 rfl)) (rtm O) (rtm (D ((e : Int)))) ?_
 exact ⟨rfl, h10.below0⟩
theorem rd_kind (d : Nat) (L : Bytes) (hL : L.length <= 900000) (hd : d <= 8) (t m H k : Nat) (hsz : szB L = (0, m, H)) (h0 : nb (gb L 0) = k * 64 + t) (ht : t < 64) (h2 : 2 <= H) (hlen : H + m <= L.length) (hk : 2 < k) (A : Option Addr) (c : Nat) (w : World) (hv : SB w (.slice A L.length c) L) : Calls Try.prog 59 #[.slice A L.length c, .int .i64 (d : Int)] w (DPost w (.tuple #[.agg #[.int .i64 0, .int .i64 0, .int .u64 0, .slice none 0 0, .slice none 0 0], .int .i64 0, .int .i64 2])) := by
 have h256 := nb_lt (gb L 0)
 have hk0 : nb (gb L 0) / 2 ^ 6 = k := by omega
 have ht0 : nb (gb L 0) % 64 = t := by omega
 have h0 := Hp.ro1 (rSB (.slice A L.length c) L) hv
 refine enter 112 Try.func59 rfl rfl ?_
 refine wp_reset 114 [(0, (lV A L.length c)), (1, (D ((d : Int))))] (fun x0 => ?_)
 refine wR fun K1 hK1 => ?_
 refine wT 4 (xN h0 106 ([O, O, (iV .u64 0), nS, nS])) ?_
 rintro _ w2 ⟨g2, rfl, h2⟩
 refine wq_p 2 [(6, O), (5, O)] ?_
 refine wE hK1 (wp_seq_k fun K3 hK3 => wR fun K4 hK4 => ?_)
 refine wq_p 1 [(17, (D ((d : Int))))] (wV 18 (.bool false) (eqI (bV (decide ((d : Int) > 8))) (by simp; omega)) ?_)
 refine wE hK4 (cF (wp_skip (seq_n hK3 (wR fun K5 hK5 => ?_))))
 refine wq_p 1 [(21, (lV A L.length c))] ?_
 refine wT 22 (x_dp h2 81 [(lV A L.length c)] (by kernel_rfl) (szv hsz (size_all L hL A c _ (h2.rd 0 rfl)))) ?_
 rintro _ w6 ⟨rfl, h6⟩
 refine wq_p 7 [(9, O), (8, (D ((H : Int)))), (7, (D ((m : Int)))), (25, O), (24, (D ((H : Int)))), (23, (D ((m : Int)))), (20, (Value.tuple #[(D ((m : Int))), (D ((H : Int))), O]))] ?_
 refine wE hK5 (wp_seq_k fun K7 hK7 => wR fun K8 hK8 => ?_)
 refine wq_p 2 [(27, V), (26, O)] ?_
 refine wE hK8 (cF (wp_skip (seq_n hK7 (wp_seq_k fun K9 hK9 => ?_))))
 refine pR_go h6 12 (fun W => (rSB ((lV A L.length c)) L).Φ W /\ True) [(31, [0], 0), (32, [30], 1), (33, [31], 2), (34, [32], 4), (35, [33], 8), (36, [0], 0), (37, [35], 32), (38, [36], 64), (39, [37], 128), (40, [38], 256), (41, [34, 39], 528), (11, [], 0), (0, [10, 40], 4095)] rfl (fun _ d _ _ _ h => by cases d <;> exact h) ?_
 intro hs10 w10 h10
 refine pR_p 11 [0, 5] [(35, (lV A L.length c)), (30, (lV A L.length c))] 33 hs10 ⟨h10.rd 0 rfl, trivial⟩ ?_
 refine pR_v 1 (some 31) (eAt A (0 * 1 + 0)) 35 rfl hs10 ⟨h10.rd 0 rfl, trivial⟩ (fun W hW => eIx (SB.rvn (h10.rd 0 rfl)).2 0 L.length (SB.rvn (h10.rd 0 rfl)).1 (by omega) 22 (.tmp 30) (.const O) .i64 5) ?_
 refine pR_v 6 (some 36) (eAt A (0 * 1 + 0)) 99 rfl hs10 ⟨h10.rd 0 rfl, trivial⟩ (fun W hW => eIx (SB.rvn (h10.rd 0 rfl)).2 0 L.length (SB.rvn (h10.rd 0 rfl)).1 (by omega) 22 (.tmp 35) (.const O) .i64 5) ?_
 refine pR_v 2 (some 32) (iV .u8 (ub (gb (L) (0)))) 103 rfl hs10 ⟨h10.rd 0 rfl, trivial⟩ (fun W hW => eEl (SB.rvn hW.1).2 0 0 ([(iV .u8 (ub (gb (L) (0))))]) (bx_get _ _ (by omega)) 5 (.tmp 31) (iV .u8 (ub (gb (L) (0))))) ?_
 refine pR_v 3 (some 33) (iV .u8 (((nb (gb L 0) / 2 ^ 6 : Nat) : Int))) 111 rfl hs10 ⟨h10.rd 0 rfl, trivial⟩ (fun W hW => e_shr8 5 173 (.tmp 32) (.const (iV .u64 6)) (by kernel_rfl) (nb (gb L 0)) .u64 6 (by decide) (by rw [← ub_nb]; kernel_rfl) (by kernel_rfl) h256 _) ?_
 refine pR_v 4 (some 34) (D ((k : Int))) 127 rfl hs10 ⟨h10.rd 0 rfl, trivial⟩ (fun W hW => eqI (D (IntKind.i64.wrap (((nb (gb L 0) / 2 ^ 6 : Nat) : Int)))) (by rw [hk0]; exact i64_nat (by omega))) ?_
 refine pR_v 7 (some 37) (iV .u8 (ub (gb (L) (0)))) 255 rfl hs10 ⟨h10.rd 0 rfl, trivial⟩ (fun W hW => eEl (SB.rvn hW.1).2 0 0 ([(iV .u8 (ub (gb (L) (0))))]) (bx_get _ _ (by omega)) 5 (.tmp 36) (iV .u8 (ub (gb (L) (0))))) ?_
 refine pR_v 8 (some 38) (iV .u8 (((nb (gb L 0) % 64 : Nat) : Int))) 511 rfl hs10 ⟨h10.rd 0 rfl, trivial⟩ (fun W hW => eqI (iV .u8 (bits .and .u8 (ub (gb L 0)) 63)) (by rw [ub_nb, and63' h256])) ?_
 refine pR_v 9 (some 39) (D ((t : Int))) 1023 rfl hs10 ⟨h10.rd 0 rfl, trivial⟩ (fun W hW => eqI (D (IntKind.i64.wrap (((nb (gb L 0) % 64 : Nat) : Int)))) (by rw [ht0]; exact i64_nat (by omega))) ?_
 refine pR_p 2 [10] [(40, (aV ([(D ((k : Int))), (D ((t : Int))), (iV .u64 0), nS, nS]).toArray))] 2047 hs10 ⟨h10.rd 0 rfl, trivial⟩ ?_
 refine pR_to 11 (some 10) 4095 rfl hs10 (xN h10 106 ([O, O, (iV .u64 0), nS, nS])) ?_
 rintro _ w11 ⟨g11, rfl, h11⟩
 refine ⟨fun _ => ⟨h11.rd 0 rfl, trivial⟩, ?_⟩
 refine pR_to 12 none 8191 rfl hs10 (xSs h11 0 106 (.tmp 10) (.tmp 40) 0 ([(D ((k : Int))), (D ((t : Int))), (iV .u64 0), nS, nS]) ([(D ((k : Int))), (D ((t : Int))), (iV .u64 0), nS, nS])) ?_
 rintro _ w12 h12
 refine ⟨fun h => absurd h (by decide), ?_⟩
 refine pR_done hs10 ?_ _
 refine seq_n hK9 (wp_seq_k fun K13 hK13 => wp_seq_k fun K14 hK14 => ?_)
 refine wp_reset 114 [(0, (lV A L.length c)), (1, (D ((d : Int)))), (4, (pt g2 0)), (5, O), (6, O), (7, (D ((m : Int)))), (8, (D ((H : Int)))), (9, O), (10, (pt g11 0)), (18, V), (27, V)] (fun x15 => ?_)
 refine reg_lit ?_
 refine wq_p 1 [(41, (pt g11 0))] (wV 42 (D ((k : Int))) (eL (h12.at_ 0 rfl) 3 (.tmp 41) 0 _) (wV 43 (.bool true) (eqI (bV (decide ((k : Int) > 2))) (by simp; omega)) (wq_p 5 [(48, I), (47, undef), (46, undef), (45, undef), (44, I)] ?_)))
 refine wE hK14 (cT (wR fun K16 hK16 => ?_))
 refine wq_p 1 [(49, (aV ([O, O, (iV .u64 0), nS, nS]).toArray))] ?_
 refine wq_to none (xSs h12 1 106 (.tmp 4) (.tmp 49) 0 ([O, O, (iV .u64 0), nS, nS]) ([O, O, (iV .u64 0), nS, nS])) ?_
 rintro _ w17 h17
 refine wq_p 2 [(6, (D 2)), (5, O)] ?_
 refine wE hK16 (wp_ret (seq_r ?_))
 refine post_3 rfl (by kernel_rfl) (rce (h17.at_ 1 rfl)) (rtm O) (rtm (D 2)) ?_
 exact ⟨rfl, h17.below0⟩
theorem rd_tag (d : Nat) (L : Bytes) (hL : L.length <= 900000) (hd : d <= 8) (t m H k : Nat) (hsz : szB L = (0, m, H)) (h0 : nb (gb L 0) = k * 64 + t) (ht : t < 64) (h2 : 2 <= H) (hlen : H + m <= L.length) (hk : k <= 2) (ht2 : 30 < t) (A : Option Addr) (c : Nat) (w : World) (hv : SB w (.slice A L.length c) L) : Calls Try.prog 59 #[.slice A L.length c, .int .i64 (d : Int)] w (DPost w (.tuple #[.agg #[.int .i64 0, .int .i64 0, .int .u64 0, .slice none 0 0, .slice none 0 0], .int .i64 0, .int .i64 2])) := by
 have h256 := nb_lt (gb L 0)
 have hk0 : nb (gb L 0) / 2 ^ 6 = k := by omega
 have ht0 : nb (gb L 0) % 64 = t := by omega
 have h0 := Hp.ro1 (rSB (.slice A L.length c) L) hv
 refine enter 112 Try.func59 rfl rfl ?_
 refine wp_reset 114 [(0, (lV A L.length c)), (1, (D ((d : Int))))] (fun x0 => ?_)
 refine wR fun K1 hK1 => ?_
 refine wT 4 (xN h0 106 ([O, O, (iV .u64 0), nS, nS])) ?_
 rintro _ w2 ⟨g2, rfl, h2⟩
 refine wq_p 2 [(6, O), (5, O)] ?_
 refine wE hK1 (wp_seq_k fun K3 hK3 => wR fun K4 hK4 => ?_)
 refine wq_p 1 [(17, (D ((d : Int))))] (wV 18 (.bool false) (eqI (bV (decide ((d : Int) > 8))) (by simp; omega)) ?_)
 refine wE hK4 (cF (wp_skip (seq_n hK3 (wR fun K5 hK5 => ?_))))
 refine wq_p 1 [(21, (lV A L.length c))] ?_
 refine wT 22 (x_dp h2 81 [(lV A L.length c)] (by kernel_rfl) (szv hsz (size_all L hL A c _ (h2.rd 0 rfl)))) ?_
 rintro _ w6 ⟨rfl, h6⟩
 refine wq_p 7 [(9, O), (8, (D ((H : Int)))), (7, (D ((m : Int)))), (25, O), (24, (D ((H : Int)))), (23, (D ((m : Int)))), (20, (Value.tuple #[(D ((m : Int))), (D ((H : Int))), O]))] ?_
 refine wE hK5 (wp_seq_k fun K7 hK7 => wR fun K8 hK8 => ?_)
 refine wq_p 2 [(27, V), (26, O)] ?_
 refine wE hK8 (cF (wp_skip (seq_n hK7 (wp_seq_k fun K9 hK9 => ?_))))
 refine pR_go h6 12 (fun W => (rSB ((lV A L.length c)) L).Φ W /\ True) [(31, [0], 0), (32, [30], 1), (33, [31], 2), (34, [32], 4), (35, [33], 8), (36, [0], 0), (37, [35], 32), (38, [36], 64), (39, [37], 128), (40, [38], 256), (41, [34, 39], 528), (11, [], 0), (0, [10, 40], 4095)] rfl (fun _ d _ _ _ h => by cases d <;> exact h) ?_
 intro hs10 w10 h10
 refine pR_p 11 [0, 5] [(35, (lV A L.length c)), (30, (lV A L.length c))] 33 hs10 ⟨h10.rd 0 rfl, trivial⟩ ?_
 refine pR_v 1 (some 31) (eAt A (0 * 1 + 0)) 35 rfl hs10 ⟨h10.rd 0 rfl, trivial⟩ (fun W hW => eIx (SB.rvn (h10.rd 0 rfl)).2 0 L.length (SB.rvn (h10.rd 0 rfl)).1 (by omega) 22 (.tmp 30) (.const O) .i64 5) ?_
 refine pR_v 6 (some 36) (eAt A (0 * 1 + 0)) 99 rfl hs10 ⟨h10.rd 0 rfl, trivial⟩ (fun W hW => eIx (SB.rvn (h10.rd 0 rfl)).2 0 L.length (SB.rvn (h10.rd 0 rfl)).1 (by omega) 22 (.tmp 35) (.const O) .i64 5) ?_
 refine pR_v 2 (some 32) (iV .u8 (ub (gb (L) (0)))) 103 rfl hs10 ⟨h10.rd 0 rfl, trivial⟩ (fun W hW => eEl (SB.rvn hW.1).2 0 0 ([(iV .u8 (ub (gb (L) (0))))]) (bx_get _ _ (by omega)) 5 (.tmp 31) (iV .u8 (ub (gb (L) (0))))) ?_
 refine pR_v 3 (some 33) (iV .u8 (((nb (gb L 0) / 2 ^ 6 : Nat) : Int))) 111 rfl hs10 ⟨h10.rd 0 rfl, trivial⟩ (fun W hW => e_shr8 5 173 (.tmp 32) (.const (iV .u64 6)) (by kernel_rfl) (nb (gb L 0)) .u64 6 (by decide) (by rw [← ub_nb]; kernel_rfl) (by kernel_rfl) h256 _) ?_
 refine pR_v 4 (some 34) (D ((k : Int))) 127 rfl hs10 ⟨h10.rd 0 rfl, trivial⟩ (fun W hW => eqI (D (IntKind.i64.wrap (((nb (gb L 0) / 2 ^ 6 : Nat) : Int)))) (by rw [hk0]; exact i64_nat (by omega))) ?_
 refine pR_v 7 (some 37) (iV .u8 (ub (gb (L) (0)))) 255 rfl hs10 ⟨h10.rd 0 rfl, trivial⟩ (fun W hW => eEl (SB.rvn hW.1).2 0 0 ([(iV .u8 (ub (gb (L) (0))))]) (bx_get _ _ (by omega)) 5 (.tmp 36) (iV .u8 (ub (gb (L) (0))))) ?_
 refine pR_v 8 (some 38) (iV .u8 (((nb (gb L 0) % 64 : Nat) : Int))) 511 rfl hs10 ⟨h10.rd 0 rfl, trivial⟩ (fun W hW => eqI (iV .u8 (bits .and .u8 (ub (gb L 0)) 63)) (by rw [ub_nb, and63' h256])) ?_
 refine pR_v 9 (some 39) (D ((t : Int))) 1023 rfl hs10 ⟨h10.rd 0 rfl, trivial⟩ (fun W hW => eqI (D (IntKind.i64.wrap (((nb (gb L 0) % 64 : Nat) : Int)))) (by rw [ht0]; exact i64_nat (by omega))) ?_
 refine pR_p 2 [10] [(40, (aV ([(D ((k : Int))), (D ((t : Int))), (iV .u64 0), nS, nS]).toArray))] 2047 hs10 ⟨h10.rd 0 rfl, trivial⟩ ?_
 refine pR_to 11 (some 10) 4095 rfl hs10 (xN h10 106 ([O, O, (iV .u64 0), nS, nS])) ?_
 rintro _ w11 ⟨g11, rfl, h11⟩
 refine ⟨fun _ => ⟨h11.rd 0 rfl, trivial⟩, ?_⟩
 refine pR_to 12 none 8191 rfl hs10 (xSs h11 0 106 (.tmp 10) (.tmp 40) 0 ([(D ((k : Int))), (D ((t : Int))), (iV .u64 0), nS, nS]) ([(D ((k : Int))), (D ((t : Int))), (iV .u64 0), nS, nS])) ?_
 rintro _ w12 h12
 refine ⟨fun h => absurd h (by decide), ?_⟩
 refine pR_done hs10 ?_ _
 refine seq_n hK9 (wp_seq_k fun K13 hK13 => wp_seq_k fun K14 hK14 => ?_)
 refine wp_reset 114 [(0, (lV A L.length c)), (1, (D ((d : Int)))), (4, (pt g2 0)), (5, O), (6, O), (7, (D ((m : Int)))), (8, (D ((H : Int)))), (9, O), (10, (pt g11 0)), (18, V), (27, V)] (fun x15 => ?_)
 refine reg_lit ?_
 refine wq_p 1 [(41, (pt g11 0))] (wV 42 (D ((k : Int))) (eL (h12.at_ 0 rfl) 3 (.tmp 41) 0 _) (wV 43 (.bool false) (eqI (bV (decide ((k : Int) > 2))) (by simp; omega)) (wq_p 2 [(45, (pt g11 1)), (44, V)] ?_)))
 refine wV 46 (D ((t : Int))) (eL (h12.at_ 0 rfl) 3 (.tmp 45) 1 _) (wV 47 (.bool true) (eqI (bV (decide ((t : Int) > 30))) (by simp; omega)) (wq_p 1 [(48, I)] ?_))
 refine wE hK14 (cT (wR fun K16 hK16 => ?_))
 refine wq_p 1 [(49, (aV ([O, O, (iV .u64 0), nS, nS]).toArray))] ?_
 refine wq_to none (xSs h12 1 106 (.tmp 4) (.tmp 49) 0 ([O, O, (iV .u64 0), nS, nS]) ([O, O, (iV .u64 0), nS, nS])) ?_
 rintro _ w17 h17
 refine wq_p 2 [(6, (D 2)), (5, O)] ?_
 refine wE hK16 (wp_ret (seq_r ?_))
 refine post_3 rfl (by kernel_rfl) (rce (h17.at_ 1 rfl)) (rtm O) (rtm (D 2)) ?_
 exact ⟨rfl, h17.below0⟩
theorem rd_numL (d : Nat) (L : Bytes) (hL : L.length <= 900000) (hd : d <= 8) (t m H : Nat) (hsz : szB L = (0, m, H)) (h0 : nb (gb L 0) = 0 * 64 + t) (ht : t <= 30) (h2 : 2 <= H) (hlen : H + m <= L.length) (B : Bytes) (hcut : (L.take (H + m)).drop H = B) (hB : B.length = m) (hb : B.length = 0 ∨ 8 < B.length) (A : Option Addr) (c : Nat) (w : World) (hv : SB w (.slice A L.length c) L) : Calls Try.prog 59 #[.slice A L.length c, .int .i64 (d : Int)] w (DPost w (.tuple #[.agg #[.int .i64 0, .int .i64 0, .int .u64 0, .slice none 0 0, .slice none 0 0], .int .i64 0, .int .i64 4])) := by
 have h256 := nb_lt (gb L 0)
 have hk0 : nb (gb L 0) / 2 ^ 6 = 0 := by omega
 have ht0 : nb (gb L 0) % 64 = t := by omega
 have h0 := Hp.ro1 (rSB (.slice A L.length c) L) hv
 refine enter 112 Try.func59 rfl rfl ?_
 refine wp_reset 114 [(0, (lV A L.length c)), (1, (D ((d : Int))))] (fun x0 => ?_)
 refine wR fun K1 hK1 => ?_
 refine wT 4 (xN h0 106 ([O, O, (iV .u64 0), nS, nS])) ?_
 rintro _ w2 ⟨g2, rfl, h2⟩
 refine wq_p 2 [(6, O), (5, O)] ?_
 refine wE hK1 (wp_seq_k fun K3 hK3 => wR fun K4 hK4 => ?_)
 refine wq_p 1 [(17, (D ((d : Int))))] (wV 18 (.bool false) (eqI (bV (decide ((d : Int) > 8))) (by simp; omega)) ?_)
 refine wE hK4 (cF (wp_skip (seq_n hK3 (wR fun K5 hK5 => ?_))))
 refine wq_p 1 [(21, (lV A L.length c))] ?_
 refine wT 22 (x_dp h2 81 [(lV A L.length c)] (by kernel_rfl) (szv hsz (size_all L hL A c _ (h2.rd 0 rfl)))) ?_
 rintro _ w6 ⟨rfl, h6⟩
 refine wq_p 7 [(9, O), (8, (D ((H : Int)))), (7, (D ((m : Int)))), (25, O), (24, (D ((H : Int)))), (23, (D ((m : Int)))), (20, (Value.tuple #[(D ((m : Int))), (D ((H : Int))), O]))] ?_
 refine wE hK5 (wp_seq_k fun K7 hK7 => wR fun K8 hK8 => ?_)
 refine wq_p 2 [(27, V), (26, O)] ?_
 refine wE hK8 (cF (wp_skip (seq_n hK7 (wp_seq_k fun K9 hK9 => ?_))))
 refine pR_go h6 12 (fun W => (rSB ((lV A L.length c)) L).Φ W /\ True) [(31, [0], 0), (32, [30], 1), (33, [31], 2), (34, [32], 4), (35, [33], 8), (36, [0], 0), (37, [35], 32), (38, [36], 64), (39, [37], 128), (40, [38], 256), (41, [34, 39], 528), (11, [], 0), (0, [10, 40], 4095)] rfl (fun _ d _ _ _ h => by cases d <;> exact h) ?_
 intro hs10 w10 h10
 refine pR_p 11 [0, 5] [(35, (lV A L.length c)), (30, (lV A L.length c))] 33 hs10 ⟨h10.rd 0 rfl, trivial⟩ ?_
 refine pR_v 1 (some 31) (eAt A (0 * 1 + 0)) 35 rfl hs10 ⟨h10.rd 0 rfl, trivial⟩ (fun W hW => eIx (SB.rvn (h10.rd 0 rfl)).2 0 L.length (SB.rvn (h10.rd 0 rfl)).1 (by omega) 22 (.tmp 30) (.const O) .i64 5) ?_
 refine pR_v 6 (some 36) (eAt A (0 * 1 + 0)) 99 rfl hs10 ⟨h10.rd 0 rfl, trivial⟩ (fun W hW => eIx (SB.rvn (h10.rd 0 rfl)).2 0 L.length (SB.rvn (h10.rd 0 rfl)).1 (by omega) 22 (.tmp 35) (.const O) .i64 5) ?_
 refine pR_v 2 (some 32) (iV .u8 (ub (gb (L) (0)))) 103 rfl hs10 ⟨h10.rd 0 rfl, trivial⟩ (fun W hW => eEl (SB.rvn hW.1).2 0 0 ([(iV .u8 (ub (gb (L) (0))))]) (bx_get _ _ (by omega)) 5 (.tmp 31) (iV .u8 (ub (gb (L) (0))))) ?_
 refine pR_v 3 (some 33) (iV .u8 (((nb (gb L 0) / 2 ^ 6 : Nat) : Int))) 111 rfl hs10 ⟨h10.rd 0 rfl, trivial⟩ (fun W hW => e_shr8 5 173 (.tmp 32) (.const (iV .u64 6)) (by kernel_rfl) (nb (gb L 0)) .u64 6 (by decide) (by rw [← ub_nb]; kernel_rfl) (by kernel_rfl) h256 _) ?_
 refine pR_v 4 (some 34) O 127 rfl hs10 ⟨h10.rd 0 rfl, trivial⟩ (fun W hW => eqI (D (IntKind.i64.wrap (((nb (gb L 0) / 2 ^ 6 : Nat) : Int)))) (by rw [hk0]; rfl)) ?_
 refine pR_v 7 (some 37) (iV .u8 (ub (gb (L) (0)))) 255 rfl hs10 ⟨h10.rd 0 rfl, trivial⟩ (fun W hW => eEl (SB.rvn hW.1).2 0 0 ([(iV .u8 (ub (gb (L) (0))))]) (bx_get _ _ (by omega)) 5 (.tmp 36) (iV .u8 (ub (gb (L) (0))))) ?_
 refine pR_v 8 (some 38) (iV .u8 (((nb (gb L 0) % 64 : Nat) : Int))) 511 rfl hs10 ⟨h10.rd 0 rfl, trivial⟩ (fun W hW => eqI (iV .u8 (bits .and .u8 (ub (gb L 0)) 63)) (by rw [ub_nb, and63' h256])) ?_
 refine pR_v 9 (some 39) (D ((t : Int))) 1023 rfl hs10 ⟨h10.rd 0 rfl, trivial⟩ (fun W hW => eqI (D (IntKind.i64.wrap (((nb (gb L 0) % 64 : Nat) : Int)))) (by rw [ht0]; exact i64_nat (by omega))) ?_
 refine pR_p 2 [10] [(40, (aV ([O, (D ((t : Int))), (iV .u64 0), nS, nS]).toArray))] 2047 hs10 ⟨h10.rd 0 rfl, trivial⟩ ?_
 refine pR_to 11 (some 10) 4095 rfl hs10 (xN h10 106 ([O, O, (iV .u64 0), nS, nS])) ?_
 rintro _ w11 ⟨g11, rfl, h11⟩
 refine ⟨fun _ => ⟨h11.rd 0 rfl, trivial⟩, ?_⟩
 refine pR_to 12 none 8191 rfl hs10 (xSs h11 0 106 (.tmp 10) (.tmp 40) 0 ([O, (D ((t : Int))), (iV .u64 0), nS, nS]) ([O, (D ((t : Int))), (iV .u64 0), nS, nS])) ?_
 rintro _ w12 h12
 refine ⟨fun h => absurd h (by decide), ?_⟩
 refine pR_done hs10 ?_ _
 refine seq_n hK9 (wp_seq_k fun K13 hK13 => wp_seq_k fun K14 hK14 => ?_)
 refine wp_reset 114 [(0, (lV A L.length c)), (1, (D ((d : Int)))), (4, (pt g2 0)), (5, O), (6, O), (7, (D ((m : Int)))), (8, (D ((H : Int)))), (9, O), (10, (pt g11 0)), (18, V), (27, V)] (fun x15 => ?_)
 refine reg_lit ?_
 refine wq_p 1 [(41, (pt g11 0))] (wV 42 O (eL (h12.at_ 0 rfl) 3 (.tmp 41) 0 _) (wq_p 3 [(45, (pt g11 1)), (44, V), (43, V)] (wV 46 (D ((t : Int))) (eL (h12.at_ 0 rfl) 3 (.tmp 45) 1 _) ?_)))
 refine wV 47 (.bool false) (eqI (bV (decide ((t : Int) > 30))) (by simp; omega)) (wq_p 1 [(48, V)] ?_)
 refine wE hK14 (cF (wp_skip (seq_n hK13 (wR fun K16 hK16 => ?_))))
 refine wq_p 4 [(53, (D ((m : Int)))), (52, (D ((H : Int)))), (51, (D ((H : Int)))), (50, (lV A L.length c))] (wV 54 (D (((H + m : Nat) : Int))) (exec_add _ _ _ _ rfl ((H : Int)) ((m : Int)) (by kernel_rfl) (by kernel_rfl) (((H + m : Nat) : Int)) (by omega) (by omega) (by omega) _) ?_)
 obtain ⟨A17, c17, e17, h17⟩ := h12.roCut 0 rfl H (H + m) (by omega) B hcut
 refine wV 55 (lV A17 B.length c17) (e17 ▸ e_cut_lh (h12.rd 0 rfl) (.tmp 50) (.tmp 51) (.tmp 54) (by kernel_rfl) (by kernel_rfl) .i64 .i64 H (H + m) (by kernel_rfl) (by kernel_rfl) (by omega) (by omega) _) (wq_p 1 [(11, (lV A17 B.length c17))] ?_)
 refine wE hK16 (wp_seq_k fun K18 hK18 => wR fun K19 hK19 => ?_)
 refine wq_p 1 [(56, (pt g11 0))] (wV 57 O (eL (h17.at_ 0 rfl) 3 (.tmp 56) 0 _) ?_)
 refine wE hK19 (wp_block (wR fun K20 hK20 => ?_))
 refine wq_p 2 [(82, I), (83, I)] ?_
 refine wE hK20 (cT (wR fun K21 hK21 => ?_))
 refine wq_p 1 [(85, (lV A17 B.length c17))] ?_
 refine wT 86 (x_getNo h17 (B) (lV A17 B.length c17) (by kernel_rfl) (h17.rd 0 rfl) hb) ?_
 rintro _ w22 ⟨rfl, h22⟩
 refine wq_p 5 [(13, V), (12, (iV .u64 0)), (88, V), (87, (iV .u64 0)), (84, (Value.tuple #[(iV .u64 0), V]))] ?_
 refine wE hK21 (wp_seq_k fun K23 hK23 => wR fun K24 hK24 => ?_)
 refine wq_p 13 [(101, I), (100, undef), (99, undef), (98, undef), (97, undef), (96, undef), (95, undef), (94, undef), (93, undef), (92, undef), (91, I), (90, I), (89, V)] ?_
 refine wE hK24 (cT (wR fun K25 hK25 => ?_))
 refine wq_p 1 [(102, (aV ([O, O, (iV .u64 0), nS, nS]).toArray))] ?_
 refine wq_to none (xSs h22 1 106 (.tmp 4) (.tmp 102) 0 ([O, O, (iV .u64 0), nS, nS]) ([O, O, (iV .u64 0), nS, nS])) ?_
 rintro _ w26 h26
 refine wq_p 2 [(6, (D 4)), (5, O)] ?_
 refine wE hK25 (wp_ret (seq_r (blk_r (seq_r ?_))))
 refine post_3 rfl (by kernel_rfl) (rce (h26.at_ 1 rfl)) (rtm O) (rtm (D 4)) ?_
 exact ⟨rfl, h26.below0⟩
theorem rd_num0 (d : Nat) (L : Bytes) (hL : L.length <= 900000) (hd : d <= 8) (t m H : Nat) (hsz : szB L = (0, m, H)) (h0 : nb (gb L 0) = 0 * 64 + t) (ht : t <= 30) (h2 : 2 <= H) (hlen : H + m <= L.length) (B : Bytes) (hcut : (L.take (H + m)).drop H = B) (hB : B.length = m) (hb : 1 < B.length) (hb8 : B.length <= 8) (hz : gb B 0 = 0) (A : Option Addr) (c : Nat) (w : World) (hv : SB w (.slice A L.length c) L) : Calls Try.prog 59 #[.slice A L.length c, .int .i64 (d : Int)] w (DPost w (.tuple #[.agg #[.int .i64 0, .int .i64 0, .int .u64 0, .slice none 0 0, .slice none 0 0], .int .i64 0, .int .i64 4])) := by
 have h256 := nb_lt (gb L 0)
 have hk0 : nb (gb L 0) / 2 ^ 6 = 0 := by omega
 have ht0 : nb (gb L 0) % 64 = t := by omega
 have h0 := Hp.ro1 (rSB (.slice A L.length c) L) hv
 refine enter 112 Try.func59 rfl rfl ?_
 refine wp_reset 114 [(0, (lV A L.length c)), (1, (D ((d : Int))))] (fun x0 => ?_)
 refine wR fun K1 hK1 => ?_
 refine wT 4 (xN h0 106 ([O, O, (iV .u64 0), nS, nS])) ?_
 rintro _ w2 ⟨g2, rfl, h2⟩
 refine wq_p 2 [(6, O), (5, O)] ?_
 refine wE hK1 (wp_seq_k fun K3 hK3 => wR fun K4 hK4 => ?_)
 refine wq_p 1 [(17, (D ((d : Int))))] (wV 18 (.bool false) (eqI (bV (decide ((d : Int) > 8))) (by simp; omega)) ?_)
 refine wE hK4 (cF (wp_skip (seq_n hK3 (wR fun K5 hK5 => ?_))))
 refine wq_p 1 [(21, (lV A L.length c))] ?_
 refine wT 22 (x_dp h2 81 [(lV A L.length c)] (by kernel_rfl) (szv hsz (size_all L hL A c _ (h2.rd 0 rfl)))) ?_
 rintro _ w6 ⟨rfl, h6⟩
 refine wq_p 7 [(9, O), (8, (D ((H : Int)))), (7, (D ((m : Int)))), (25, O), (24, (D ((H : Int)))), (23, (D ((m : Int)))), (20, (Value.tuple #[(D ((m : Int))), (D ((H : Int))), O]))] ?_
 refine wE hK5 (wp_seq_k fun K7 hK7 => wR fun K8 hK8 => ?_)
 refine wq_p 2 [(27, V), (26, O)] ?_
 refine wE hK8 (cF (wp_skip (seq_n hK7 (wp_seq_k fun K9 hK9 => ?_))))
 refine pR_go h6 12 (fun W => (rSB ((lV A L.length c)) L).Φ W /\ True) [(31, [0], 0), (32, [30], 1), (33, [31], 2), (34, [32], 4), (35, [33], 8), (36, [0], 0), (37, [35], 32), (38, [36], 64), (39, [37], 128), (40, [38], 256), (41, [34, 39], 528), (11, [], 0), (0, [10, 40], 4095)] rfl (fun _ d _ _ _ h => by cases d <;> exact h) ?_
 intro hs10 w10 h10
 refine pR_p 11 [0, 5] [(35, (lV A L.length c)), (30, (lV A L.length c))] 33 hs10 ⟨h10.rd 0 rfl, trivial⟩ ?_
 refine pR_v 1 (some 31) (eAt A (0 * 1 + 0)) 35 rfl hs10 ⟨h10.rd 0 rfl, trivial⟩ (fun W hW => eIx (SB.rvn (h10.rd 0 rfl)).2 0 L.length (SB.rvn (h10.rd 0 rfl)).1 (by omega) 22 (.tmp 30) (.const O) .i64 5) ?_
 refine pR_v 6 (some 36) (eAt A (0 * 1 + 0)) 99 rfl hs10 ⟨h10.rd 0 rfl, trivial⟩ (fun W hW => eIx (SB.rvn (h10.rd 0 rfl)).2 0 L.length (SB.rvn (h10.rd 0 rfl)).1 (by omega) 22 (.tmp 35) (.const O) .i64 5) ?_
 refine pR_v 2 (some 32) (iV .u8 (ub (gb (L) (0)))) 103 rfl hs10 ⟨h10.rd 0 rfl, trivial⟩ (fun W hW => eEl (SB.rvn hW.1).2 0 0 ([(iV .u8 (ub (gb (L) (0))))]) (bx_get _ _ (by omega)) 5 (.tmp 31) (iV .u8 (ub (gb (L) (0))))) ?_
 refine pR_v 3 (some 33) (iV .u8 (((nb (gb L 0) / 2 ^ 6 : Nat) : Int))) 111 rfl hs10 ⟨h10.rd 0 rfl, trivial⟩ (fun W hW => e_shr8 5 173 (.tmp 32) (.const (iV .u64 6)) (by kernel_rfl) (nb (gb L 0)) .u64 6 (by decide) (by rw [← ub_nb]; kernel_rfl) (by kernel_rfl) h256 _) ?_
 refine pR_v 4 (some 34) O 127 rfl hs10 ⟨h10.rd 0 rfl, trivial⟩ (fun W hW => eqI (D (IntKind.i64.wrap (((nb (gb L 0) / 2 ^ 6 : Nat) : Int)))) (by rw [hk0]; rfl)) ?_
 refine pR_v 7 (some 37) (iV .u8 (ub (gb (L) (0)))) 255 rfl hs10 ⟨h10.rd 0 rfl, trivial⟩ (fun W hW => eEl (SB.rvn hW.1).2 0 0 ([(iV .u8 (ub (gb (L) (0))))]) (bx_get _ _ (by omega)) 5 (.tmp 36) (iV .u8 (ub (gb (L) (0))))) ?_
 refine pR_v 8 (some 38) (iV .u8 (((nb (gb L 0) % 64 : Nat) : Int))) 511 rfl hs10 ⟨h10.rd 0 rfl, trivial⟩ (fun W hW => eqI (iV .u8 (bits .and .u8 (ub (gb L 0)) 63)) (by rw [ub_nb, and63' h256])) ?_
 refine pR_v 9 (some 39) (D ((t : Int))) 1023 rfl hs10 ⟨h10.rd 0 rfl, trivial⟩ (fun W hW => eqI (D (IntKind.i64.wrap (((nb (gb L 0) % 64 : Nat) : Int)))) (by rw [ht0]; exact i64_nat (by omega))) ?_
 refine pR_p 2 [10] [(40, (aV ([O, (D ((t : Int))), (iV .u64 0), nS, nS]).toArray))] 2047 hs10 ⟨h10.rd 0 rfl, trivial⟩ ?_
 refine pR_to 11 (some 10) 4095 rfl hs10 (xN h10 106 ([O, O, (iV .u64 0), nS, nS])) ?_
 rintro _ w11 ⟨g11, rfl, h11⟩
 refine ⟨fun _ => ⟨h11.rd 0 rfl, trivial⟩, ?_⟩
 refine pR_to 12 none 8191 rfl hs10 (xSs h11 0 106 (.tmp 10) (.tmp 40) 0 ([O, (D ((t : Int))), (iV .u64 0), nS, nS]) ([O, (D ((t : Int))), (iV .u64 0), nS, nS])) ?_
 rintro _ w12 h12
 refine ⟨fun h => absurd h (by decide), ?_⟩
 refine pR_done hs10 ?_ _
 refine seq_n hK9 (wp_seq_k fun K13 hK13 => wp_seq_k fun K14 hK14 => ?_)
 refine wp_reset 114 [(0, (lV A L.length c)), (1, (D ((d : Int)))), (4, (pt g2 0)), (5, O), (6, O), (7, (D ((m : Int)))), (8, (D ((H : Int)))), (9, O), (10, (pt g11 0)), (18, V), (27, V)] (fun x15 => ?_)
 refine reg_lit ?_
 refine wq_p 1 [(41, (pt g11 0))] (wV 42 O (eL (h12.at_ 0 rfl) 3 (.tmp 41) 0 _) (wq_p 3 [(45, (pt g11 1)), (44, V), (43, V)] (wV 46 (D ((t : Int))) (eL (h12.at_ 0 rfl) 3 (.tmp 45) 1 _) ?_)))
 refine wV 47 (.bool false) (eqI (bV (decide ((t : Int) > 30))) (by simp; omega)) (wq_p 1 [(48, V)] ?_)
 refine wE hK14 (cF (wp_skip (seq_n hK13 (wR fun K16 hK16 => ?_))))
 refine wq_p 4 [(53, (D ((m : Int)))), (52, (D ((H : Int)))), (51, (D ((H : Int)))), (50, (lV A L.length c))] (wV 54 (D (((H + m : Nat) : Int))) (exec_add _ _ _ _ rfl ((H : Int)) ((m : Int)) (by kernel_rfl) (by kernel_rfl) (((H + m : Nat) : Int)) (by omega) (by omega) (by omega) _) ?_)
 obtain ⟨A17, c17, e17, h17⟩ := h12.roCut 0 rfl H (H + m) (by omega) B hcut
 refine wV 55 (lV A17 B.length c17) (e17 ▸ e_cut_lh (h12.rd 0 rfl) (.tmp 50) (.tmp 51) (.tmp 54) (by kernel_rfl) (by kernel_rfl) .i64 .i64 H (H + m) (by kernel_rfl) (by kernel_rfl) (by omega) (by omega) _) (wq_p 1 [(11, (lV A17 B.length c17))] ?_)
 refine wE hK16 (wp_seq_k fun K18 hK18 => wR fun K19 hK19 => ?_)
 refine wq_p 1 [(56, (pt g11 0))] (wV 57 O (eL (h17.at_ 0 rfl) 3 (.tmp 56) 0 _) ?_)
 refine wE hK19 (wp_block (wR fun K20 hK20 => ?_))
 refine wq_p 2 [(82, I), (83, I)] ?_
 refine wE hK20 (cT (wR fun K21 hK21 => ?_))
 refine wq_p 1 [(85, (lV A17 B.length c17))] ?_
 refine wT 86 (x_getD h17 (B) (lV A17 B.length c17) (by kernel_rfl) (h17.rd 0 rfl) (by omega) (by omega) (getN B) rfl) ?_
 rintro _ w22 ⟨rfl, h22⟩
 refine wq_p 5 [(13, I), (12, (iV .u64 (((getN B : Nat) : Int)))), (88, I), (87, (iV .u64 (((getN B : Nat) : Int)))), (84, (Value.tuple #[(iV .u64 (((getN B : Nat) : Int))), I]))] ?_
 refine wE hK21 (wp_seq_k fun K23 hK23 => wR fun K24 hK24 => ?_)
 refine wq_p 5 [(93, (D ((B.length : Int)))), (92, (lV A17 B.length c17)), (91, V), (90, V), (89, I)] (wV 94 (.bool true) (eqI (bV (decide ((B.length : Int) > 1))) (by simp; omega)) (wq_p 2 [(96, (lV A17 B.length c17)), (95, I)] (wV 97 (eAt A17 (0 * 1 + 0)) (eIx (SB.rvn (h22.rd 0 rfl)).2 0 B.length (SB.rvn (h22.rd 0 rfl)).1 (by omega) 22 (.tmp 96) (.const O) .i64 5) ?_)))
 refine wV 98 (iV .u8 (ub (gb (B) (0)))) (eEl (SB.rvn (h22.rd 0 rfl)).2 0 0 ([(iV .u8 (ub (gb (B) (0))))]) (bx_get _ _ (by omega)) 5 (.tmp 97) (iV .u8 (ub (gb (B) (0))))) (wV 99 (.bool true) (eqI (bV ((ub (gb (B) (0))) == 0)) (congrArg bV (ub0_eq hz))) (wq_p 2 [(101, I), (100, I)] ?_))
 refine wE hK24 (cT (wp_seq_k fun K25 hK25 => ?_))
 refine wp_reset 114 [(0, (lV A L.length c)), (1, (D ((d : Int)))), (4, (pt g2 0)), (5, O), (6, O), (7, (D ((m : Int)))), (8, (D ((H : Int)))), (9, O), (10, (pt g11 0)), (11, (lV A17 B.length c17)), (12, (iV .u64 (((getN B : Nat) : Int)))), (13, I), (18, V), (27, V), (48, V), (57, O), (82, I), (101, I)] (fun x26 => ?_)
 refine reg_lit ?_
 refine wq_p 1 [(102, (aV ([O, O, (iV .u64 0), nS, nS]).toArray))] ?_
 refine wq_to none (xSs h22 1 106 (.tmp 4) (.tmp 102) 0 ([O, O, (iV .u64 0), nS, nS]) ([O, O, (iV .u64 0), nS, nS])) ?_
 rintro _ w27 h27
 refine wq_p 2 [(6, (D 4)), (5, O)] ?_
 refine wE hK25 (wp_ret (seq_r (blk_r (seq_r ?_))))
 refine post_3 rfl (by kernel_rfl) (rce (h27.at_ 1 rfl)) (rtm O) (rtm (D 4)) ?_
 exact ⟨rfl, h27.below0⟩
theorem rd_num (d : Nat) (L : Bytes) (hL : L.length <= 900000) (hd : d <= 8) (t m H : Nat) (hsz : szB L = (0, m, H)) (h0 : nb (gb L 0) = 0 * 64 + t) (ht : t <= 30) (h2 : 2 <= H) (hlen : H + m <= L.length) (B : Bytes) (hcut : (L.take (H + m)).drop H = B) (hB : B.length = m) (hb : B.length ≠ 0) (hb8 : B.length <= 8) (hz : 1 < B.length -> gb B 0 ≠ 0) (A : Option Addr) (c : Nat) (w : World) (hv : SB w (.slice A L.length c) L) : Calls Try.prog 59 #[.slice A L.length c, .int .i64 (d : Int)] w (ReadPost w (.mk 0 t (getN B) [] []) (H + m)) := by
 have h256 := nb_lt (gb L 0)
 have hk0 : nb (gb L 0) / 2 ^ 6 = 0 := by omega
 have ht0 : nb (gb L 0) % 64 = t := by omega
 have hn : getN B < 18446744073709551616 := by have := getN_lt8 B B.length (Nat.le_refl _) hb8; rwa [List.take_length] at this
 have h0 := Hp.ro1 (rSB (.slice A L.length c) L) hv
 refine enter 112 Try.func59 rfl rfl ?_
 refine wp_reset 114 [(0, (lV A L.length c)), (1, (D ((d : Int))))] (fun x0 => ?_)
 refine wR fun K1 hK1 => ?_
 refine wT 4 (xN h0 106 ([O, O, (iV .u64 0), nS, nS])) ?_
 rintro _ w2 ⟨g2, rfl, h2⟩
 refine wq_p 2 [(6, O), (5, O)] ?_
 refine wE hK1 (wp_seq_k fun K3 hK3 => wR fun K4 hK4 => ?_)
 refine wq_p 1 [(17, (D ((d : Int))))] (wV 18 (.bool false) (eqI (bV (decide ((d : Int) > 8))) (by simp; omega)) ?_)
 refine wE hK4 (cF (wp_skip (seq_n hK3 (wR fun K5 hK5 => ?_))))
 refine wq_p 1 [(21, (lV A L.length c))] ?_
 refine wT 22 (x_dp h2 81 [(lV A L.length c)] (by kernel_rfl) (szv hsz (size_all L hL A c _ (h2.rd 0 rfl)))) ?_
 rintro _ w6 ⟨rfl, h6⟩
 refine wq_p 7 [(9, O), (8, (D ((H : Int)))), (7, (D ((m : Int)))), (25, O), (24, (D ((H : Int)))), (23, (D ((m : Int)))), (20, (Value.tuple #[(D ((m : Int))), (D ((H : Int))), O]))] ?_
 refine wE hK5 (wp_seq_k fun K7 hK7 => wR fun K8 hK8 => ?_)
 refine wq_p 2 [(27, V), (26, O)] ?_
 refine wE hK8 (cF (wp_skip (seq_n hK7 (wp_seq_k fun K9 hK9 => ?_))))
 refine pR_go h6 12 (fun W => (rSB ((lV A L.length c)) L).Φ W /\ True) [(31, [0], 0), (32, [30], 1), (33, [31], 2), (34, [32], 4), (35, [33], 8), (36, [0], 0), (37, [35], 32), (38, [36], 64), (39, [37], 128), (40, [38], 256), (41, [34, 39], 528), (11, [], 0), (0, [10, 40], 4095)] rfl (fun _ d _ _ _ h => by cases d <;> exact h) ?_
 intro hs10 w10 h10
 refine pR_p 11 [0, 5] [(35, (lV A L.length c)), (30, (lV A L.length c))] 33 hs10 ⟨h10.rd 0 rfl, trivial⟩ ?_
 refine pR_v 1 (some 31) (eAt A (0 * 1 + 0)) 35 rfl hs10 ⟨h10.rd 0 rfl, trivial⟩ (fun W hW => eIx (SB.rvn (h10.rd 0 rfl)).2 0 L.length (SB.rvn (h10.rd 0 rfl)).1 (by omega) 22 (.tmp 30) (.const O) .i64 5) ?_
 refine pR_v 6 (some 36) (eAt A (0 * 1 + 0)) 99 rfl hs10 ⟨h10.rd 0 rfl, trivial⟩ (fun W hW => eIx (SB.rvn (h10.rd 0 rfl)).2 0 L.length (SB.rvn (h10.rd 0 rfl)).1 (by omega) 22 (.tmp 35) (.const O) .i64 5) ?_
 refine pR_v 2 (some 32) (iV .u8 (ub (gb (L) (0)))) 103 rfl hs10 ⟨h10.rd 0 rfl, trivial⟩ (fun W hW => eEl (SB.rvn hW.1).2 0 0 ([(iV .u8 (ub (gb (L) (0))))]) (bx_get _ _ (by omega)) 5 (.tmp 31) (iV .u8 (ub (gb (L) (0))))) ?_
 refine pR_v 3 (some 33) (iV .u8 (((nb (gb L 0) / 2 ^ 6 : Nat) : Int))) 111 rfl hs10 ⟨h10.rd 0 rfl, trivial⟩ (fun W hW => e_shr8 5 173 (.tmp 32) (.const (iV .u64 6)) (by kernel_rfl) (nb (gb L 0)) .u64 6 (by decide) (by rw [← ub_nb]; kernel_rfl) (by kernel_rfl) h256 _) ?_
 refine pR_v 4 (some 34) O 127 rfl hs10 ⟨h10.rd 0 rfl, trivial⟩ (fun W hW => eqI (D (IntKind.i64.wrap (((nb (gb L 0) / 2 ^ 6 : Nat) : Int)))) (by rw [hk0]; rfl)) ?_
 refine pR_v 7 (some 37) (iV .u8 (ub (gb (L) (0)))) 255 rfl hs10 ⟨h10.rd 0 rfl, trivial⟩ (fun W hW => eEl (SB.rvn hW.1).2 0 0 ([(iV .u8 (ub (gb (L) (0))))]) (bx_get _ _ (by omega)) 5 (.tmp 36) (iV .u8 (ub (gb (L) (0))))) ?_
 refine pR_v 8 (some 38) (iV .u8 (((nb (gb L 0) % 64 : Nat) : Int))) 511 rfl hs10 ⟨h10.rd 0 rfl, trivial⟩ (fun W hW => eqI (iV .u8 (bits .and .u8 (ub (gb L 0)) 63)) (by rw [ub_nb, and63' h256])) ?_
 refine pR_v 9 (some 39) (D ((t : Int))) 1023 rfl hs10 ⟨h10.rd 0 rfl, trivial⟩ (fun W hW => eqI (D (IntKind.i64.wrap (((nb (gb L 0) % 64 : Nat) : Int)))) (by rw [ht0]; exact i64_nat (by omega))) ?_
 refine pR_p 2 [10] [(40, (aV ([O, (D ((t : Int))), (iV .u64 0), nS, nS]).toArray))] 2047 hs10 ⟨h10.rd 0 rfl, trivial⟩ ?_
 refine pR_to 11 (some 10) 4095 rfl hs10 (xN h10 106 ([O, O, (iV .u64 0), nS, nS])) ?_
 rintro _ w11 ⟨g11, rfl, h11⟩
 refine ⟨fun _ => ⟨h11.rd 0 rfl, trivial⟩, ?_⟩
 refine pR_to 12 none 8191 rfl hs10 (xSs h11 0 106 (.tmp 10) (.tmp 40) 0 ([O, (D ((t : Int))), (iV .u64 0), nS, nS]) ([O, (D ((t : Int))), (iV .u64 0), nS, nS])) ?_
 rintro _ w12 h12
 refine ⟨fun h => absurd h (by decide), ?_⟩
 refine pR_done hs10 ?_ _
 refine seq_n hK9 (wp_seq_k fun K13 hK13 => wp_seq_k fun K14 hK14 => ?_)
 refine wp_reset 114 [(0, (lV A L.length c)), (1, (D ((d : Int)))), (4, (pt g2 0)), (5, O), (6, O), (7, (D ((m : Int)))), (8, (D ((H : Int)))), (9, O), (10, (pt g11 0)), (18, V), (27, V)] (fun x15 => ?_)
 refine reg_lit ?_
 refine wq_p 1 [(41, (pt g11 0))] (wV 42 O (eL (h12.at_ 0 rfl) 3 (.tmp 41) 0 _) (wq_p 3 [(45, (pt g11 1)), (44, V), (43, V)] (wV 46 (D ((t : Int))) (eL (h12.at_ 0 rfl) 3 (.tmp 45) 1 _) ?_)))
 refine wV 47 (.bool false) (eqI (bV (decide ((t : Int) > 30))) (by simp; omega)) (wq_p 1 [(48, V)] ?_)
 refine wE hK14 (cF (wp_skip (seq_n hK13 (wR fun K16 hK16 => ?_))))
 refine wq_p 4 [(53, (D ((m : Int)))), (52, (D ((H : Int)))), (51, (D ((H : Int)))), (50, (lV A L.length c))] (wV 54 (D (((H + m : Nat) : Int))) (exec_add _ _ _ _ rfl ((H : Int)) ((m : Int)) (by kernel_rfl) (by kernel_rfl) (((H + m : Nat) : Int)) (by omega) (by omega) (by omega) _) ?_)
 obtain ⟨A17, c17, e17, h17⟩ := h12.roCut 0 rfl H (H + m) (by omega) B hcut
 refine wV 55 (lV A17 B.length c17) (e17 ▸ e_cut_lh (h12.rd 0 rfl) (.tmp 50) (.tmp 51) (.tmp 54) (by kernel_rfl) (by kernel_rfl) .i64 .i64 H (H + m) (by kernel_rfl) (by kernel_rfl) (by omega) (by omega) _) (wq_p 1 [(11, (lV A17 B.length c17))] ?_)
 refine wE hK16 (wp_seq_k fun K18 hK18 => wR fun K19 hK19 => ?_)
 refine wq_p 1 [(56, (pt g11 0))] (wV 57 O (eL (h17.at_ 0 rfl) 3 (.tmp 56) 0 _) ?_)
 refine wE hK19 (wp_block (wR fun K20 hK20 => ?_))
 refine wq_p 2 [(82, I), (83, I)] ?_
 refine wE hK20 (cT (wR fun K21 hK21 => ?_))
 refine wq_p 1 [(85, (lV A17 B.length c17))] ?_
 refine wT 86 (x_getD h17 (B) (lV A17 B.length c17) (by kernel_rfl) (h17.rd 0 rfl) (by omega) (by omega) (getN B) rfl) ?_
 rintro _ w22 ⟨rfl, h22⟩
 refine wq_p 5 [(13, I), (12, (iV .u64 (((getN B : Nat) : Int)))), (88, I), (87, (iV .u64 (((getN B : Nat) : Int)))), (84, (Value.tuple #[(iV .u64 (((getN B : Nat) : Int))), I]))] ?_
 refine wE hK21 (wp_seq_k fun K23 hK23 => wp_seq_k fun K24 hK24 => ?_)
 rcases Nat.lt_or_ge 1 B.length with hq | hq
 ·
  refine reg_lit ?_
  refine wq_p 5 [(93, (D ((B.length : Int)))), (92, (lV A17 B.length c17)), (91, V), (90, V), (89, I)] (wV 94 (.bool true) (eqI (bV (decide ((B.length : Int) > 1))) (by simp; omega)) (wq_p 2 [(96, (lV A17 B.length c17)), (95, I)] (wV 97 (eAt A17 (0 * 1 + 0)) (eIx (SB.rvn (h22.rd 0 rfl)).2 0 B.length (SB.rvn (h22.rd 0 rfl)).1 (by omega) 22 (.tmp 96) (.const O) .i64 5) ?_)))
  refine wV 98 (iV .u8 (ub (gb (B) (0)))) (eEl (SB.rvn (h22.rd 0 rfl)).2 0 0 ([(iV .u8 (ub (gb (B) (0))))]) (bx_get _ _ (by omega)) 5 (.tmp 97) (iV .u8 (ub (gb (B) (0))))) (wV 99 (.bool false) (eqI (bV ((ub (gb (B) (0))) == 0)) (congrArg bV (ub0_ne (hz hq)))) (wq_p 2 [(101, V), (100, V)] ?_))
  refine wE hK24 (cF (wp_skip (seq_n hK23 ?_)))
  refine wp_reset 114 [(0, (lV A L.length c)), (1, (D ((d : Int)))), (4, (pt g2 0)), (5, O), (6, O), (7, (D ((m : Int)))), (8, (D ((H : Int)))), (9, O), (10, (pt g11 0)), (11, (lV A17 B.length c17)), (12, (iV .u64 (((getN B : Nat) : Int)))), (13, I), (18, V), (27, V), (48, V), (57, O), (82, I), (101, V)] (fun x26 => ?_)
  refine reg_lit ?_
  refine wq_p 2 [(104, (pt g11 2)), (103, (iV .u64 (((getN B : Nat) : Int))))] ?_
  refine wq_to none (xSt h22 0 103 (.tmp 104) (.tmp 103) 2 (iV .u64 (((getN B : Nat) : Int))) ([O, (D ((t : Int))), (iV .u64 (((getN B : Nat) : Int))), nS, nS])) ?_
  rintro _ w27 h27
  refine wl_end rfl (blk_n (seq_n hK18 (wR fun K28 hK28 => ?_)))
  refine wV 110 (aV ([O, (D ((t : Int))), (iV .u64 (((getN B : Nat) : Int))), nS, nS]).toArray) (eLs (h27.at_ 0 rfl) 106 (.tmp 10) 0 ([O, (D ((t : Int))), (iV .u64 (((getN B : Nat) : Int))), nS, nS])) (wq_p 2 [(112, (D ((m : Int)))), (111, (D ((H : Int))))] (wV 113 (D (((H + m : Nat) : Int))) (exec_add _ _ _ _ rfl ((H : Int)) ((m : Int)) (by kernel_rfl) (by kernel_rfl) (((H + m : Nat) : Int)) (by omega) (by omega) (by omega) _) ?_))
  refine wq_to none (xSs h27 1 106 (.tmp 4) (.tmp 110) 0 ([O, (D ((t : Int))), (iV .u64 (((getN B : Nat) : Int))), nS, nS]) ([O, (D ((t : Int))), (iV .u64 (((getN B : Nat) : Int))), nS, nS])) ?_
  rintro _ w29 h29
  refine wq_p 2 [(6, O), (5, (D (((H + m : Nat) : Int))))] ?_
  refine wE hK28 (wp_ret ?_)
  refine post_3 rfl (by kernel_rfl) (rce (h29.at_ 1 rfl)) (rtm (D (((H + m : Nat) : Int)))) (rtm O) ?_
  exact readpost_0 h29 t (getN B) (H + m) hn
 ·
  refine reg_lit ?_
  refine wq_p 5 [(93, (D ((B.length : Int)))), (92, (lV A17 B.length c17)), (91, V), (90, V), (89, I)] (wV 94 (.bool false) (eqI (bV (decide ((B.length : Int) > 1))) (by simp; omega)) (wq_p 4 [(98, undef), (97, undef), (96, undef), (95, V)] (wq_p 1 [(99, undef)] ?_)))
  refine wq_p 2 [(101, V), (100, V)] ?_
  refine wE hK24 (cF (wp_skip (seq_n hK23 ?_)))
  refine wp_reset 114 [(0, (lV A L.length c)), (1, (D ((d : Int)))), (4, (pt g2 0)), (5, O), (6, O), (7, (D ((m : Int)))), (8, (D ((H : Int)))), (9, O), (10, (pt g11 0)), (11, (lV A17 B.length c17)), (12, (iV .u64 (((getN B : Nat) : Int)))), (13, I), (18, V), (27, V), (48, V), (57, O), (82, I), (101, V)] (fun x30 => ?_)
  refine reg_lit ?_
  refine wq_p 2 [(104, (pt g11 2)), (103, (iV .u64 (((getN B : Nat) : Int))))] ?_
  refine wq_to none (xSt h22 0 103 (.tmp 104) (.tmp 103) 2 (iV .u64 (((getN B : Nat) : Int))) ([O, (D ((t : Int))), (iV .u64 (((getN B : Nat) : Int))), nS, nS])) ?_
  rintro _ w31 h31
  refine wl_end rfl (blk_n (seq_n hK18 (wR fun K32 hK32 => ?_)))
  refine wV 110 (aV ([O, (D ((t : Int))), (iV .u64 (((getN B : Nat) : Int))), nS, nS]).toArray) (eLs (h31.at_ 0 rfl) 106 (.tmp 10) 0 ([O, (D ((t : Int))), (iV .u64 (((getN B : Nat) : Int))), nS, nS])) (wq_p 2 [(112, (D ((m : Int)))), (111, (D ((H : Int))))] (wV 113 (D (((H + m : Nat) : Int))) (exec_add _ _ _ _ rfl ((H : Int)) ((m : Int)) (by kernel_rfl) (by kernel_rfl) (((H + m : Nat) : Int)) (by omega) (by omega) (by omega) _) ?_))
  refine wq_to none (xSs h31 1 106 (.tmp 4) (.tmp 110) 0 ([O, (D ((t : Int))), (iV .u64 (((getN B : Nat) : Int))), nS, nS]) ([O, (D ((t : Int))), (iV .u64 (((getN B : Nat) : Int))), nS, nS])) ?_
  rintro _ w33 h33
  refine wq_p 2 [(6, O), (5, (D (((H + m : Nat) : Int))))] ?_
  refine wE hK32 (wp_ret ?_)
  refine post_3 rfl (by kernel_rfl) (rce (h33.at_ 1 rfl)) (rtm (D (((H + m : Nat) : Int)))) (rtm O) ?_
  exact readpost_0 h33 t (getN B) (H + m) hn
theorem rd_seq (d : Nat) (L : Bytes) (hL : L.length <= 900000) (hd : d <= 8) (t m H : Nat) (hsz : szB L = (0, m, H)) (h0 : nb (gb L 0) = 2 * 64 + t) (ht : t <= 30) (h2 : 2 <= H) (hlen : H + m <= L.length) (B : Bytes) (hcut : (L.take (H + m)).drop H = B) (hB : B.length = m) (rd : Bytes -> Nat ⊕ (DVal × Nat)) (hrd : ∀ l v k, rd l = .inr (v, k) -> 2 <= k /\ k <= l.length) (hre : ∀ l e, rd l = .inl e -> e ≠ 0)
   (ih : ∀ (l : Bytes) (A : Option Addr) (c : Nat) (w : World), l.length <= 900000 -> SB w (.slice A l.length c) l -> Calls Try.prog 59 #[.slice A l.length c, .int .i64 ((d + 1 : Nat) : Int)] w (ReadG w (rd l))) (A : Option Addr) (c : Nat) (w : World) (hv : SB w (.slice A L.length c) L) : Calls Try.prog 59 #[.slice A L.length c, .int .i64 (d : Int)] w (ReadG w (ptB rd 2 t B (H + m))) := by
 have h256 := nb_lt (gb L 0)
 have hk0 : nb (gb L 0) / 2 ^ 6 = 2 := by omega
 have ht0 : nb (gb L 0) % 64 = t := by omega
 have h0 := Hp.ro1 (rSB (.slice A L.length c) L) hv
 refine enter 112 Try.func59 rfl rfl ?_
 refine wp_reset 114 [(0, (lV A L.length c)), (1, (D ((d : Int))))] (fun x0 => ?_)
 refine wR fun K1 hK1 => ?_
 refine wT 4 (xN h0 106 ([O, O, (iV .u64 0), nS, nS])) ?_
 rintro _ w2 ⟨g2, rfl, h2⟩
 refine wq_p 2 [(6, O), (5, O)] ?_
 refine wE hK1 (wp_seq_k fun K3 hK3 => wR fun K4 hK4 => ?_)
 refine wq_p 1 [(17, (D ((d : Int))))] (wV 18 (.bool false) (eqI (bV (decide ((d : Int) > 8))) (by simp; omega)) ?_)
 refine wE hK4 (cF (wp_skip (seq_n hK3 (wR fun K5 hK5 => ?_))))
 refine wq_p 1 [(21, (lV A L.length c))] ?_
 refine wT 22 (x_dp h2 81 [(lV A L.length c)] (by kernel_rfl) (szv hsz (size_all L hL A c _ (h2.rd 0 rfl)))) ?_
 rintro _ w6 ⟨rfl, h6⟩
 refine wq_p 7 [(9, O), (8, (D ((H : Int)))), (7, (D ((m : Int)))), (25, O), (24, (D ((H : Int)))), (23, (D ((m : Int)))), (20, (Value.tuple #[(D ((m : Int))), (D ((H : Int))), O]))] ?_
 refine wE hK5 (wp_seq_k fun K7 hK7 => wR fun K8 hK8 => ?_)
 refine wq_p 2 [(27, V), (26, O)] ?_
 refine wE hK8 (cF (wp_skip (seq_n hK7 (wp_seq_k fun K9 hK9 => ?_))))
 refine pR_go h6 12 (fun W => (rSB ((lV A L.length c)) L).Φ W /\ True) [(31, [0], 0), (32, [30], 1), (33, [31], 2), (34, [32], 4), (35, [33], 8), (36, [0], 0), (37, [35], 32), (38, [36], 64), (39, [37], 128), (40, [38], 256), (41, [34, 39], 528), (11, [], 0), (0, [10, 40], 4095)] rfl (fun _ d _ _ _ h => by cases d <;> exact h) ?_
 intro hs10 w10 h10
 refine pR_p 11 [0, 5] [(35, (lV A L.length c)), (30, (lV A L.length c))] 33 hs10 ⟨h10.rd 0 rfl, trivial⟩ ?_
 refine pR_v 1 (some 31) (eAt A (0 * 1 + 0)) 35 rfl hs10 ⟨h10.rd 0 rfl, trivial⟩ (fun W hW => eIx (SB.rvn (h10.rd 0 rfl)).2 0 L.length (SB.rvn (h10.rd 0 rfl)).1 (by omega) 22 (.tmp 30) (.const O) .i64 5) ?_
 refine pR_v 6 (some 36) (eAt A (0 * 1 + 0)) 99 rfl hs10 ⟨h10.rd 0 rfl, trivial⟩ (fun W hW => eIx (SB.rvn (h10.rd 0 rfl)).2 0 L.length (SB.rvn (h10.rd 0 rfl)).1 (by omega) 22 (.tmp 35) (.const O) .i64 5) ?_
 refine pR_v 2 (some 32) (iV .u8 (ub (gb (L) (0)))) 103 rfl hs10 ⟨h10.rd 0 rfl, trivial⟩ (fun W hW => eEl (SB.rvn hW.1).2 0 0 ([(iV .u8 (ub (gb (L) (0))))]) (bx_get _ _ (by omega)) 5 (.tmp 31) (iV .u8 (ub (gb (L) (0))))) ?_
 refine pR_v 3 (some 33) (iV .u8 (((nb (gb L 0) / 2 ^ 6 : Nat) : Int))) 111 rfl hs10 ⟨h10.rd 0 rfl, trivial⟩ (fun W hW => e_shr8 5 173 (.tmp 32) (.const (iV .u64 6)) (by kernel_rfl) (nb (gb L 0)) .u64 6 (by decide) (by rw [← ub_nb]; kernel_rfl) (by kernel_rfl) h256 _) ?_
 refine pR_v 4 (some 34) (D 2) 127 rfl hs10 ⟨h10.rd 0 rfl, trivial⟩ (fun W hW => eqI (D (IntKind.i64.wrap (((nb (gb L 0) / 2 ^ 6 : Nat) : Int)))) (by rw [hk0]; rfl)) ?_
 refine pR_v 7 (some 37) (iV .u8 (ub (gb (L) (0)))) 255 rfl hs10 ⟨h10.rd 0 rfl, trivial⟩ (fun W hW => eEl (SB.rvn hW.1).2 0 0 ([(iV .u8 (ub (gb (L) (0))))]) (bx_get _ _ (by omega)) 5 (.tmp 36) (iV .u8 (ub (gb (L) (0))))) ?_
 refine pR_v 8 (some 38) (iV .u8 (((nb (gb L 0) % 64 : Nat) : Int))) 511 rfl hs10 ⟨h10.rd 0 rfl, trivial⟩ (fun W hW => eqI (iV .u8 (bits .and .u8 (ub (gb L 0)) 63)) (by rw [ub_nb, and63' h256])) ?_
 refine pR_v 9 (some 39) (D ((t : Int))) 1023 rfl hs10 ⟨h10.rd 0 rfl, trivial⟩ (fun W hW => eqI (D (IntKind.i64.wrap (((nb (gb L 0) % 64 : Nat) : Int)))) (by rw [ht0]; exact i64_nat (by omega))) ?_
 refine pR_p 2 [10] [(40, (aV ([(D 2), (D ((t : Int))), (iV .u64 0), nS, nS]).toArray))] 2047 hs10 ⟨h10.rd 0 rfl, trivial⟩ ?_
 refine pR_to 11 (some 10) 4095 rfl hs10 (xN h10 106 ([O, O, (iV .u64 0), nS, nS])) ?_
 rintro _ w11 ⟨g11, rfl, h11⟩
 refine ⟨fun _ => ⟨h11.rd 0 rfl, trivial⟩, ?_⟩
 refine pR_to 12 none 8191 rfl hs10 (xSs h11 0 106 (.tmp 10) (.tmp 40) 0 ([(D 2), (D ((t : Int))), (iV .u64 0), nS, nS]) ([(D 2), (D ((t : Int))), (iV .u64 0), nS, nS])) ?_
 rintro _ w12 h12
 refine ⟨fun h => absurd h (by decide), ?_⟩
 refine pR_done hs10 ?_ _
 refine seq_n hK9 (wp_seq_k fun K13 hK13 => wp_seq_k fun K14 hK14 => ?_)
 refine wp_reset 114 [(0, (lV A L.length c)), (1, (D ((d : Int)))), (4, (pt g2 0)), (5, O), (6, O), (7, (D ((m : Int)))), (8, (D ((H : Int)))), (9, O), (10, (pt g11 0)), (18, V), (27, V)] (fun x15 => ?_)
 refine reg_lit ?_
 refine wq_p 1 [(41, (pt g11 0))] (wV 42 (D 2) (eL (h12.at_ 0 rfl) 3 (.tmp 41) 0 _) (wq_p 3 [(45, (pt g11 1)), (44, V), (43, V)] (wV 46 (D ((t : Int))) (eL (h12.at_ 0 rfl) 3 (.tmp 45) 1 _) ?_)))
 refine wV 47 (.bool false) (eqI (bV (decide ((t : Int) > 30))) (by simp; omega)) (wq_p 1 [(48, V)] ?_)
 refine wE hK14 (cF (wp_skip (seq_n hK13 (wR fun K16 hK16 => ?_))))
 refine wq_p 4 [(53, (D ((m : Int)))), (52, (D ((H : Int)))), (51, (D ((H : Int)))), (50, (lV A L.length c))] (wV 54 (D (((H + m : Nat) : Int))) (exec_add _ _ _ _ rfl ((H : Int)) ((m : Int)) (by kernel_rfl) (by kernel_rfl) (((H + m : Nat) : Int)) (by omega) (by omega) (by omega) _) ?_)
 obtain ⟨A17, c17, e17, h17⟩ := h12.roCut 0 rfl H (H + m) (by omega) B hcut
 refine wV 55 (lV A17 B.length c17) (e17 ▸ e_cut_lh (h12.rd 0 rfl) (.tmp 50) (.tmp 51) (.tmp 54) (by kernel_rfl) (by kernel_rfl) .i64 .i64 H (H + m) (by kernel_rfl) (by kernel_rfl) (by omega) (by omega) _) (wq_p 1 [(11, (lV A17 B.length c17))] ?_)
 refine wE hK16 (wp_seq_k fun K18 hK18 => wR fun K19 hK19 => ?_)
 refine wq_p 1 [(56, (pt g11 0))] (wV 57 (D 2) (eL (h17.at_ 0 rfl) 3 (.tmp 56) 0 _) ?_)
 refine wE hK19 (wp_block (wR fun K20 hK20 => ?_))
 refine wq_p 2 [(82, V), (83, V)] ?_
 refine wE hK20 (cF (wR fun K21 hK21 => ?_))
 refine wq_p 2 [(105, V), (106, V)] ?_
 refine wE hK21 (cF (wp_block ?_))
 have h22 := (h17.addS _ (rdl_nil _) (fun _ hf => hf.elim) (fun _ _ _ _ hf => hf.elim) (fun _ _ _ _ hf => hf.elim)).ovNil 106 5
 refine wp_loopm (fun mM xX aA wL => ∃ (f : Nat) (ts : List DVal) (xs : List (List Value)) (l : Bytes) (G : Nat -> Prop) (A1 : Option Addr) (c1 : Nat) (A2 : Option Addr) (c2 : Nat), ((l : Bytes).length <= f) /\ ((ts : List DVal).length + (l : Bytes).length <= B.length) /\ (lsB rd B.length B = preL ts (lsB rd f l)) /\ ((xs : List (List Value)).length = (ts : List DVal).length) /\ mM = (l : Bytes).length /\ aA = patch xX 114 [(0, (lV A L.length c)), (1, (iV .i64 ((d : Int)))), (4, (pt g2 0)), (7, (iV .i64 ((m : Int)))), (8, (iV .i64 ((H : Int)))), (9, (iV .i64 0)), (10, (pt g11 0)), (11, (lV A2 ((l : Bytes).length) c2)), (18, (bV false)), (27, (bV false)), (48, (bV false)), (57, (iV .i64 2)), (82, (bV false)), (105, (bV false))] /\ Hp (fun _ => False) w wL [rSB ((lV A2 ((l : Bytes).length) c2)) l] [rOV 106 5 ((lV A1 ((ts : List DVal).length) c1)) xs, rDL G (xs) ts, rBlk g11 106 ([(iV .i64 2), (iV .i64 ((t : Int))), (iV .u64 0), (lV none 0 0), (lV A1 ((ts : List DVal).length) c1)]), rBlk g2 106 ([(iV .i64 0), (iV .i64 0), (iV .u64 0), (lV none 0 0), (lV none 0 0)])]) ⟨_, B.length, ([]), ([]), B, ((fun _ => False)), none, 0, A17, c17, (Nat.le_refl _), (by simp), (pre_nil _).symm, rfl, rfl, (pEq 114), h22.sel [0, 1, 2, 3] [0] (by kernel_rfl) rfl rfl⟩ ?_
 rintro _ x23 _ w23 ⟨f, ts, xs, l, G, A1, c1, A2, c2, hf, hlB, hinv, hxs, rfl, rfl, h23⟩
 refine wp_seq_k fun K24 hK24 => wR fun K25 hK25 => ?_
 refine wq_p 3 [(60, (bV (decide (((l : Bytes).length : Int) > 0)))), (59, (D (((l : Bytes).length : Int)))), (58, (lV A2 ((l : Bytes).length) c2))] ?_
 refine wE hK25 ?_
 refine wp_if (((l : Bytes).length : Int) > 0) (by kernel_rfl) (fun b26 => ?_) (fun b26 => ?_)
 ·
  refine wp_skip (seq_n hK24 (wp_block (wp_seq_k fun K27 hK27 => ?_)))
  rcases hrl : rd l with ee | ⟨u, ke2⟩
  ·
   have hl1 : l.length ≠ 0 := by omega
   obtain ⟨f, rfl⟩ : ∃ f2, f = f2 + 1 := ⟨f - 1, by omega⟩
   refine reg_lit ?_
   refine wq_p 2 [(63, (D ((d : Int)))), (62, (lV A2 ((l : Bytes).length) c2))] (wV 64 (D (((d + 1 : Nat) : Int))) (exec_add _ _ _ _ rfl ((d : Int)) 1 (by kernel_rfl) (by kernel_rfl) (((d + 1 : Nat) : Int)) (by omega) (by omega) (by omega) _) ?_)
   refine wT 65 (x_dp h23 59 [(lV A2 ((l : Bytes).length) c2), (D (((d + 1 : Nat) : Int)))] (by kernel_rfl) (readG_b hrl (ih l _ _ _ (by omega) (h23.rd 0 rfl)))) ?_
   rintro _ w29 ⟨rfl, h29⟩
   refine wq_p 4 [(68, (D ((ee : Int)))), (67, O), (66, (aV ([O, O, (iV .u64 0), nS, nS]).toArray)), (61, (Value.tuple #[(aV ([O, O, (iV .u64 0), nS, nS]).toArray), O, (D ((ee : Int)))]))] ?_
   refine wT 14 (xN h29 106 ([O, O, (iV .u64 0), nS, nS])) ?_
   rintro _ w30 ⟨g30, rfl, h30⟩
   refine wq_to none (xSs h30 0 106 (.tmp 14) (.tmp 66) 0 ([O, O, (iV .u64 0), nS, nS]) ([O, O, (iV .u64 0), nS, nS])) ?_
   rintro _ w31 h31
   refine wq_p 2 [(16, (D ((ee : Int)))), (15, O)] ?_
   refine wE hK27 (wp_seq_k fun K32 hK32 => wR fun K33 hK33 => ?_)
   refine wq_p 1 [(69, (D ((ee : Int))))] (wV 70 (.bool true) (eqI (bV (((ee : Int)) != 0)) (ine (b := 0) (hre _ _ hrl))) ?_)
   refine wE hK33 (cT (wR fun K34 hK34 => ?_))
   refine wq_p 2 [(72, (D ((ee : Int)))), (71, (aV ([O, O, (iV .u64 0), nS, nS]).toArray))] ?_
   refine wq_to none (xSs h31 4 106 (.tmp 4) (.tmp 71) 0 ([O, O, (iV .u64 0), nS, nS]) ([O, O, (iV .u64 0), nS, nS])) ?_
   rintro _ w35 h35
   refine wq_p 2 [(6, (D ((ee : Int)))), (5, O)] ?_
   refine wE hK34 (wp_ret (seq_r (blk_r (seq_r (blk_r (blk_r (seq_r ?_)))))))
   refine post_3 rfl (by kernel_rfl) (rce (h35.at_ 4 rfl)) (rtm O) (rtm (D ((ee : Int)))) ?_
   exact readG_bad (c := ee) (pt_bad hinv hl1 hrl) ⟨rfl, h35.below0⟩
  ·
   have hl1 : l.length ≠ 0 := by omega
   obtain ⟨f, rfl⟩ : ∃ f2, f = f2 + 1 := ⟨f - 1, by omega⟩
   refine reg_lit ?_
   refine wq_p 2 [(63, (D ((d : Int)))), (62, (lV A2 ((l : Bytes).length) c2))] (wV 64 (D (((d + 1 : Nat) : Int))) (exec_add _ _ _ _ rfl ((d : Int)) 1 (by kernel_rfl) (by kernel_rfl) (((d + 1 : Nat) : Int)) (by omega) (by omega) (by omega) _) ?_)
   refine wT 65 (x_read h23 59 [(lV A2 ((l : Bytes).length) c2), (D (((d + 1 : Nat) : Int)))] (by kernel_rfl) (readG_o hrl (ih l _ _ _ (by omega) (h23.rd 0 rfl)))) ?_
   rintro _ w36 ⟨F36, cs36, rfl, h36⟩
   have hkk := hrd _ _ _ hrl
   have hinv2 := hinv.trans (lsB_step hl1 hrl ts)
   obtain ⟨ke, te, ne, be, le⟩ := u
   obtain ⟨Be, de, Ae, ce, xse, rfl, _, _, _, _⟩ := dv_open (h36.at_ 0 rfl)
   simp only [DVal.kind, DVal.tag, DVal.n, DVal.b, DVal.l] at h36 ⊢
   refine wq_p 4 [(68, O), (67, (D ((ke2 : Int)))), (66, (aV ([(D ((ke : Int))), (D ((te : Int))), (iV .u64 ((ne : Int))), (lV Be be.length de), (lV Ae le.length ce)]).toArray)), (61, (Value.tuple #[(aV ([(D ((ke : Int))), (D ((te : Int))), (iV .u64 ((ne : Int))), (lV Be be.length de), (lV Ae le.length ce)]).toArray), (D ((ke2 : Int))), O]))] ?_
   refine wT 14 (xN h36 106 ([O, O, (iV .u64 0), nS, nS])) ?_
   rintro _ w37 ⟨g37, rfl, h37⟩
   refine wq_to none (xSs h37 0 106 (.tmp 14) (.tmp 66) 0 ([(D ((ke : Int))), (D ((te : Int))), (iV .u64 ((ne : Int))), (lV Be be.length de), (lV Ae le.length ce)]) ([(D ((ke : Int))), (D ((te : Int))), (iV .u64 ((ne : Int))), (lV Be be.length de), (lV Ae le.length ce)])) ?_
   rintro _ w38 h38
   refine wq_p 2 [(16, O), (15, (D ((ke2 : Int))))] ?_
   refine wE hK27 (wp_seq_k fun K39 hK39 => wR fun K40 hK40 => ?_)
   refine wq_p 1 [(69, O)] (wq_p 1 [(70, V)] ?_)
   refine wE hK40 (cF (wp_skip (seq_n hK39 (wR fun K41 hK41 => ?_))))
   refine wq_p 1 [(73, (pt g11 4))] (wV 74 (lV A1 ((ts : List DVal).length) c1) (eL (h38.at_ 4 rfl) 104 (.tmp 73) 4 _) (wV 75 (aV ([(D ((ke : Int))), (D ((te : Int))), (iV .u64 ((ne : Int))), (lV Be be.length de), (lV Ae le.length ce)]).toArray) (eLs (h38.at_ 0 rfl) 106 (.tmp 14) 0 ([(D ((ke : Int))), (D ((te : Int))), (iV .u64 ((ne : Int))), (lV Be be.length de), (lV Ae le.length ce)])) ?_))
   refine wT 76 (x_bs h38 106 ([(D ((ke : Int))), (D ((te : Int))), (iV .u64 ((ne : Int))), (lV Be be.length de), (lV Ae le.length ce)]) 1 (by kernel_rfl)) ?_
   rintro _ w42 ⟨g42, rfl, h42⟩
   refine wT 77 (xPu h42 3 0 rfl rfl (.tmp 74) (.tmp 76) 104 72 (aV ([O, O, (iV .u64 0), nS, nS]).toArray) (by omega) (by unfold maxLen; omega) (xs ++ [[(D ((ke : Int))), (D ((te : Int))), (iV .u64 ((ne : Int))), (lV Be be.length de), (lV Ae le.length ce)]]) ((ts ++ [(DVal.mk ke te ne be le)]).length) (hyn := (by simp [hxs]))) ?_
   rintro _ w43 ⟨A43, c43, rfl, h43⟩
   refine wq_p 1 [(78, (pt g11 4))] ?_
   refine wq_to none (xSt h43 5 104 (.tmp 78) (.tmp 77) 4 (lV A43 ((ts ++ [(DVal.mk ke te ne be le)]).length) c43) ([(D 2), (D ((t : Int))), (iV .u64 0), nS, (lV A43 ((ts ++ [(DVal.mk ke te ne be le)]).length) c43)])) ?_
   rintro _ w44 h44
   refine wE hK41 ?_
   refine wp_reset 114 [(0, (lV A L.length c)), (1, (D ((d : Int)))), (4, (pt g2 0)), (7, (D ((m : Int)))), (8, (D ((H : Int)))), (9, O), (10, (pt g11 0)), (11, (lV A2 ((l : Bytes).length) c2)), (14, (pt g37 0)), (15, (D ((ke2 : Int)))), (16, O), (18, V), (27, V), (48, V), (57, (D 2)), (60, (bV (decide (((l : Bytes).length : Int) > 0)))), (70, V), (82, V), (105, V)] (fun x45 => ?_)
   refine reg_lit ?_
   refine wq_p 2 [(80, (D ((ke2 : Int)))), (79, (lV A2 ((l : Bytes).length) c2))] ?_
   obtain ⟨A46, c46, e46, h46⟩ := h44.roCut 0 rfl (ke2) l.length (Nat.le_refl _) (l.drop ke2) (by rw [List.take_length])
   refine wV 81 (lV A46 ((l.drop ke2).length) c46) (e46 ▸ e_cut_l (h44.rd 0 rfl) (.tmp 79) (.tmp 80) (by kernel_rfl) (by kernel_rfl) .i64 (ke2) (by kernel_rfl) (by omega) _) (wq_p 1 [(11, (lV A46 ((l.drop ke2).length) c46))] ?_)
   refine wl_end rfl (blk_n ?_)
   have h47 := h46.join 2 4 rfl rfl (by decide) _ (rdl_push hxs (h46.at_ 4 rfl) (h46.at_ 2 rfl)) (fun _ hq => hq)
   refine ⟨((l.drop ke2) : Bytes).length, (by rw [List.length_drop]; omega), f, ((ts ++ [(DVal.mk ke te ne be le)])), (xs ++ [[(iV .i64 ((ke : Int))), (iV .i64 ((te : Int))), (iV .u64 ((ne : Int))), (lV Be be.length de), (lV Ae le.length ce)]]), ((l.drop ke2)), ((fun q => F36 q ∨ G q)), A43, c43, A46, c46, (by rw [List.length_drop]; omega), (by rw [List.length_drop, List.length_append, List.length_singleton]; omega), hinv2, (by simp [hxs]), rfl, (pEq 114), h47.sel [3, 0, 4, 5] [0] (by kernel_rfl) rfl rfl⟩
 ·
  refine wp_exit (seq_e (seq_e (blk_e (blk_n (seq_n hK18 (wR fun K48 hK48 => ?_))))))
  refine wV 110 (aV ([(D 2), (D ((t : Int))), (iV .u64 0), nS, (lV A1 ((ts : List DVal).length) c1)]).toArray) (eLs (h23.at_ 2 rfl) 106 (.tmp 10) 0 ([(D 2), (D ((t : Int))), (iV .u64 0), nS, (lV A1 ((ts : List DVal).length) c1)])) (wq_p 2 [(112, (D ((m : Int)))), (111, (D ((H : Int))))] (wV 113 (D (((H + m : Nat) : Int))) (exec_add _ _ _ _ rfl ((H : Int)) ((m : Int)) (by kernel_rfl) (by kernel_rfl) (((H + m : Nat) : Int)) (by omega) (by omega) (by omega) _) ?_))
  refine wq_to none (xSs h23 3 106 (.tmp 4) (.tmp 110) 0 ([(D 2), (D ((t : Int))), (iV .u64 0), nS, (lV A1 ((ts : List DVal).length) c1)]) ([(D 2), (D ((t : Int))), (iV .u64 0), nS, (lV A1 ((ts : List DVal).length) c1)])) ?_
  rintro _ w49 h49
  refine wq_p 2 [(6, O), (5, (D (((H + m : Nat) : Int))))] ?_
  refine wE hK48 (wp_ret ?_)
  refine post_3 rfl (by kernel_rfl) (rce (h49.at_ 3 rfl)) (rtm (D (((H + m : Nat) : Int)))) (rtm O) ?_
  exact readG_ok (pt_end hinv (by omega)) (readpost_2 h49 0 1 (by decide) rfl rfl hxs rfl t (H + m))
theorem rd_all (m : Nat) : ∀ (d : Nat), d + m = 9 -> ∀ (L : Bytes) (A : Option Addr) (c : Nat) (w : World), L.length <= 900000 -> SB w (.slice A L.length c) L -> Calls Try.prog 59 #[.slice A L.length c, .int .i64 (d : Int)] w (ReadG w (rdB m L)) := by
 induction m with
 | zero => intro d h L A c w hL hv; exact rd_deep d L (by omega) A c w hv
 | succ m ih =>
   intro d h L A c w hL hv
   rw [rdB]
   obtain ⟨e, n, H, hsz⟩ : ∃ e n H, szB L = (e, n, H) := ⟨_, _, _, rfl⟩
   rw [hsz]
   simp only
   split
   · rename_i he
     exact rd_size d L hL (by omega) e n H hsz he A c w hv
   rename_i he
   have he : e = 0 := by omega
   subst he
   have h2 := szB_ok (L := L) (by rw [hsz])
   rw [hsz] at h2
   simp only at h2
   have hm64 : nb (gb L 0) = nb (gb L 0) / 64 * 64 + nb (gb L 0) % 64 := by omega
   have hlt : nb (gb L 0) % 64 < 64 := Nat.mod_lt _ (by omega)
   generalize nb (gb L 0) / 64 = k at *
   generalize nb (gb L 0) % 64 = t at *
   split
   · rename_i hb
     by_cases hk : 2 < k
     · exact rd_kind d L hL (by omega) t n H k hsz hm64 hlt h2.1 h2.2 hk A c w hv
     · exact rd_tag d L hL (by omega) t n H k hsz hm64 hlt h2.1 h2.2 (by omega) (by omega) A c w hv
   rename_i hb
   have hBl : ((L.take (H + n)).drop H).length = n := by rw [List.length_drop, List.length_take]; omega
   generalize hcut : (L.take (H + n)).drop H = B at *
   rcases (by omega : k = 0 ∨ k = 1 ∨ k = 2) with rfl | rfl | rfl
   · unfold ptB
     rw [if_pos rfl]
     by_cases h1 : B.length = 0 ∨ 8 < B.length
     · rw [if_pos (by omega)]
       exact rd_numL d L hL (by omega) t n H hsz hm64 (by omega) h2.1 h2.2 B hcut hBl h1 A c w hv
     · by_cases h3 : 1 < B.length /\ gb B 0 = 0
       · rw [if_pos (.inr (.inr h3))]
         exact rd_num0 d L hL (by omega) t n H hsz hm64 (by omega) h2.1 h2.2 B hcut hBl h3.1 (by omega) h3.2 A c w hv
       · rw [if_neg (fun hh => hh.elim (fun h => h1 (.inl h)) (fun hh => hh.elim (fun h => h1 (.inr h)) h3))]
         exact rd_num d L hL (by omega) t n H hsz hm64 (by omega) h2.1 h2.2 B hcut hBl (by omega) (by omega) (fun hq hz => h3 ⟨hq, hz⟩) A c w hv
   · unfold ptB
     rw [if_neg (by decide), if_pos rfl]
     exact read_raw d (by omega) L t n H B (by omega) hm64 hcut hBl h2.1 h2.2 hL A c (fun w hv => szv hsz (size_all L hL A c w hv)) w hv
   · exact rd_seq d L hL (by omega) t n H hsz hm64 (by omega) h2.1 h2.2 B hcut hBl (rdB m) (fun _ _ _ h => rdB_n h) (rdB_er m) (fun l A c w hl hv => ih (d + 1) (by omega) l A c w hl hv) A c w hv
theorem Rd_long (L : Bytes) (hl : 4096 < L.length) (A : Option Addr) (c : Nat) (w : World) (hv : SB w (.slice A L.length c) L) : Calls Try.prog 41 #[.slice A L.length c] w (DPost w (.tuple #[.agg #[.int .i64 0, .int .i64 0, .int .u64 0, .slice none 0 0, .slice none 0 0], .int .i64 20])) := by
 have h0 := Hp.ro1 (rSB (.slice A L.length c) L) hv
 refine enter 28 Try.func41 rfl rfl ?_
 refine wp_reset 29 [(0, (lV A L.length c))] (fun x0 => ?_)
 refine wR fun K1 hK1 => ?_
 refine wT 2 (xN h0 106 ([O, O, (iV .u64 0), nS, nS])) ?_
 rintro _ w2 ⟨g2, rfl, h2⟩
 refine wq_p 1 [(3, O)] ?_
 refine wE hK1 (wp_seq_k fun K3 hK3 => wR fun K4 hK4 => ?_)
 refine wq_p 2 [(8, (D ((L.length : Int)))), (7, (lV A L.length c))] (wV 9 (.bool true) (eqI (bV (decide ((L.length : Int) > 4096))) (by simp; omega)) ?_)
 refine wE hK4 (cT (wR fun K5 hK5 => ?_))
 refine wq_p 1 [(10, (aV ([O, O, (iV .u64 0), nS, nS]).toArray))] ?_
 refine wq_to none (xSs h2 0 106 (.tmp 2) (.tmp 10) 0 ([O, O, (iV .u64 0), nS, nS]) ([O, O, (iV .u64 0), nS, nS])) ?_
 rintro _ w6 h6
 refine wq_p 1 [(3, (D 20))] ?_
 refine wE hK5 (wp_ret (seq_r ?_))
 refine post_2 rfl (by kernel_rfl) (rce (h6.at_ 0 rfl)) (rtm (D 20)) ?_
 exact ⟨rfl, h6.below0⟩
theorem Rd_err (L : Bytes) (hl : L.length <= 4096) (ee : Nat) (he : ee ≠ 0) (hr : rdB 8 L = .inl ee) (A : Option Addr) (c : Nat) (w : World) (hv : SB w (.slice A L.length c) L) : Calls Try.prog 41 #[.slice A L.length c] w (DPost w (.tuple #[.agg #[.int .i64 0, .int .i64 0, .int .u64 0, .slice none 0 0, .slice none 0 0], .int .i64 (ee : Int)])) := by
 have h0 := Hp.ro1 (rSB (.slice A L.length c) L) hv
 refine enter 28 Try.func41 rfl rfl ?_
 refine wp_reset 29 [(0, (lV A L.length c))] (fun x0 => ?_)
 refine wR fun K1 hK1 => ?_
 refine wT 2 (xN h0 106 ([O, O, (iV .u64 0), nS, nS])) ?_
 rintro _ w2 ⟨g2, rfl, h2⟩
 refine wq_p 1 [(3, O)] ?_
 refine wE hK1 (wp_seq_k fun K3 hK3 => wR fun K4 hK4 => ?_)
 refine wq_p 2 [(8, (D ((L.length : Int)))), (7, (lV A L.length c))] (wV 9 (.bool false) (eqI (bV (decide ((L.length : Int) > 4096))) (by simp; omega)) ?_)
 refine wE hK4 (cF (wp_skip (seq_n hK3 (wR fun K5 hK5 => ?_))))
 refine wq_p 1 [(12, (lV A L.length c))] ?_
 refine wT 13 (x_dp h2 59 [(lV A L.length c), (D 1)] (by kernel_rfl) (readG_b hr (rd_all 8 1 rfl L A c _ (by omega) (h2.rd 0 rfl)))) ?_
 rintro _ w6 ⟨rfl, h6⟩
 refine wq_p 4 [(16, (D ((ee : Int)))), (15, O), (14, (aV ([O, O, (iV .u64 0), nS, nS]).toArray)), (11, (Value.tuple #[(aV ([O, O, (iV .u64 0), nS, nS]).toArray), O, (D ((ee : Int)))]))] ?_
 refine wT 4 (xN h6 106 ([O, O, (iV .u64 0), nS, nS])) ?_
 rintro _ w7 ⟨g7, rfl, h7⟩
 refine wq_to none (xSs h7 0 106 (.tmp 4) (.tmp 14) 0 ([O, O, (iV .u64 0), nS, nS]) ([O, O, (iV .u64 0), nS, nS])) ?_
 rintro _ w8 h8
 refine wq_p 2 [(6, (D ((ee : Int)))), (5, O)] ?_
 refine wE hK5 (wp_seq_k fun K9 hK9 => wp_block (wR fun K10 hK10 => ?_))
 refine wq_p 1 [(18, (D ((ee : Int))))] (wV 19 (.bool true) (eqI (bV (((ee : Int)) != 0)) (ine (b := 0) he)) (wq_p 1 [(17, I)] ?_))
 refine wE hK10 (cT (wR fun K11 hK11 => ?_))
 refine wq_p 2 [(21, (D ((ee : Int)))), (20, (aV ([O, O, (iV .u64 0), nS, nS]).toArray))] ?_
 refine wq_to none (xSs h8 1 106 (.tmp 2) (.tmp 20) 0 ([O, O, (iV .u64 0), nS, nS]) ([O, O, (iV .u64 0), nS, nS])) ?_
 rintro _ w12 h12
 refine wq_p 1 [(3, (D ((ee : Int))))] ?_
 refine wE hK11 (wp_ret (blk_r (seq_r ?_)))
 refine post_2 rfl (by kernel_rfl) (rce (h12.at_ 1 rfl)) (rtm (D ((ee : Int)))) ?_
 exact ⟨rfl, h12.below0⟩
theorem Rd_more (L : Bytes) (hl : L.length <= 4096) (v : DVal) (k : Nat) (hr : rdB 8 L = .inr (v, k)) (hk : k < L.length) (A : Option Addr) (c : Nat) (w : World) (hv : SB w (.slice A L.length c) L) : Calls Try.prog 41 #[.slice A L.length c] w (DPost w (.tuple #[.agg #[.int .i64 0, .int .i64 0, .int .u64 0, .slice none 0 0, .slice none 0 0], .int .i64 5])) := by
 have h0 := Hp.ro1 (rSB (.slice A L.length c) L) hv
 refine enter 28 Try.func41 rfl rfl ?_
 refine wp_reset 29 [(0, (lV A L.length c))] (fun x0 => ?_)
 refine wR fun K1 hK1 => ?_
 refine wT 2 (xN h0 106 ([O, O, (iV .u64 0), nS, nS])) ?_
 rintro _ w2 ⟨g2, rfl, h2⟩
 refine wq_p 1 [(3, O)] ?_
 refine wE hK1 (wp_seq_k fun K3 hK3 => wR fun K4 hK4 => ?_)
 refine wq_p 2 [(8, (D ((L.length : Int)))), (7, (lV A L.length c))] (wV 9 (.bool false) (eqI (bV (decide ((L.length : Int) > 4096))) (by simp; omega)) ?_)
 refine wE hK4 (cF (wp_skip (seq_n hK3 (wR fun K5 hK5 => ?_))))
 refine wq_p 1 [(12, (lV A L.length c))] ?_
 refine wT 13 (x_read h2 59 [(lV A L.length c), (D 1)] (by kernel_rfl) (readG_o hr (rd_all 8 1 rfl L A c _ (by omega) (h2.rd 0 rfl)))) ?_
 rintro _ w6 ⟨F6, cs6, rfl, h6⟩
 obtain ⟨Be, de, Ae, ce, xse, rfl, _, _, _, _⟩ := dv_open (h6.at_ 0 rfl)
 refine wq_p 4 [(16, O), (15, (D ((k : Int)))), (14, (aV ([(D ((v.kind : Int))), (D ((v.tag : Int))), (iV .u64 ((v.n : Int))), (lV Be v.b.length de), (lV Ae v.l.length ce)]).toArray)), (11, (Value.tuple #[(aV ([(D ((v.kind : Int))), (D ((v.tag : Int))), (iV .u64 ((v.n : Int))), (lV Be v.b.length de), (lV Ae v.l.length ce)]).toArray), (D ((k : Int))), O]))] ?_
 refine wT 4 (xN h6 106 ([O, O, (iV .u64 0), nS, nS])) ?_
 rintro _ w7 ⟨g7, rfl, h7⟩
 refine wq_to none (xSs h7 0 106 (.tmp 4) (.tmp 14) 0 ([(D ((v.kind : Int))), (D ((v.tag : Int))), (iV .u64 ((v.n : Int))), (lV Be v.b.length de), (lV Ae v.l.length ce)]) ([(D ((v.kind : Int))), (D ((v.tag : Int))), (iV .u64 ((v.n : Int))), (lV Be v.b.length de), (lV Ae v.l.length ce)])) ?_
 rintro _ w8 h8
 refine wq_p 2 [(6, O), (5, (D ((k : Int))))] ?_
 refine wE hK5 (wp_seq_k fun K9 hK9 => wp_block (wR fun K10 hK10 => ?_))
 refine wq_p 3 [(17, V), (19, V), (18, O)] ?_
 refine wE hK10 (cF (wR fun K11 hK11 => ?_))
 refine wq_p 3 [(25, (D ((L.length : Int)))), (24, (lV A L.length c)), (23, (D ((k : Int))))] (wV 26 (.bool true) (eqI (bV (decide ((k : Int) < (L.length : Int)))) (by simp; omega)) (wq_p 1 [(22, I)] ?_))
 refine wE hK11 (cT (wR fun K12 hK12 => ?_))
 refine wq_p 1 [(27, (aV ([O, O, (iV .u64 0), nS, nS]).toArray))] ?_
 refine wq_to none (xSs h8 2 106 (.tmp 2) (.tmp 27) 0 ([O, O, (iV .u64 0), nS, nS]) ([O, O, (iV .u64 0), nS, nS])) ?_
 rintro _ w13 h13
 refine wq_p 1 [(3, (D 5))] ?_
 refine wE hK12 (wp_ret (blk_r (seq_r ?_)))
 refine post_2 rfl (by kernel_rfl) (rce (h13.at_ 2 rfl)) (rtm (D 5)) ?_
 exact ⟨rfl, h13.below0⟩
theorem Rd_ok (L : Bytes) (hl : L.length <= 4096) (v : DVal) (k : Nat) (hr : rdB 8 L = .inr (v, k)) (hk : L.length <= k) (A : Option Addr) (c : Nat) (w : World) (hv : SB w (.slice A L.length c) L) : Calls Try.prog 41 #[.slice A L.length c] w (ReadOk w v) := by
 have h0 := Hp.ro1 (rSB (.slice A L.length c) L) hv
 refine enter 28 Try.func41 rfl rfl ?_
 refine wp_reset 29 [(0, (lV A L.length c))] (fun x0 => ?_)
 refine wR fun K1 hK1 => ?_
 refine wT 2 (xN h0 106 ([O, O, (iV .u64 0), nS, nS])) ?_
 rintro _ w2 ⟨g2, rfl, h2⟩
 refine wq_p 1 [(3, O)] ?_
 refine wE hK1 (wp_seq_k fun K3 hK3 => wR fun K4 hK4 => ?_)
 refine wq_p 2 [(8, (D ((L.length : Int)))), (7, (lV A L.length c))] (wV 9 (.bool false) (eqI (bV (decide ((L.length : Int) > 4096))) (by simp; omega)) ?_)
 refine wE hK4 (cF (wp_skip (seq_n hK3 (wR fun K5 hK5 => ?_))))
 refine wq_p 1 [(12, (lV A L.length c))] ?_
 refine wT 13 (x_read h2 59 [(lV A L.length c), (D 1)] (by kernel_rfl) (readG_o hr (rd_all 8 1 rfl L A c _ (by omega) (h2.rd 0 rfl)))) ?_
 rintro _ w6 ⟨F6, cs6, rfl, h6⟩
 obtain ⟨Be, de, Ae, ce, xse, rfl, _, _, _, _⟩ := dv_open (h6.at_ 0 rfl)
 refine wq_p 4 [(16, O), (15, (D ((k : Int)))), (14, (aV ([(D ((v.kind : Int))), (D ((v.tag : Int))), (iV .u64 ((v.n : Int))), (lV Be v.b.length de), (lV Ae v.l.length ce)]).toArray)), (11, (Value.tuple #[(aV ([(D ((v.kind : Int))), (D ((v.tag : Int))), (iV .u64 ((v.n : Int))), (lV Be v.b.length de), (lV Ae v.l.length ce)]).toArray), (D ((k : Int))), O]))] ?_
 refine wT 4 (xN h6 106 ([O, O, (iV .u64 0), nS, nS])) ?_
 rintro _ w7 ⟨g7, rfl, h7⟩
 refine wq_to none (xSs h7 0 106 (.tmp 4) (.tmp 14) 0 ([(D ((v.kind : Int))), (D ((v.tag : Int))), (iV .u64 ((v.n : Int))), (lV Be v.b.length de), (lV Ae v.l.length ce)]) ([(D ((v.kind : Int))), (D ((v.tag : Int))), (iV .u64 ((v.n : Int))), (lV Be v.b.length de), (lV Ae v.l.length ce)])) ?_
 rintro _ w8 h8
 refine wq_p 2 [(6, O), (5, (D ((k : Int))))] ?_
 refine wE hK5 (wp_seq_k fun K9 hK9 => wp_block (wR fun K10 hK10 => ?_))
 refine wq_p 3 [(17, V), (19, V), (18, O)] ?_
 refine wE hK10 (cF (wR fun K11 hK11 => ?_))
 refine wq_p 3 [(25, (D ((L.length : Int)))), (24, (lV A L.length c)), (23, (D ((k : Int))))] (wV 26 (.bool false) (eqI (bV (decide ((k : Int) < (L.length : Int)))) (by simp; omega)) (wq_p 1 [(22, V)] ?_))
 refine wE hK11 (cF (wp_skip (blk_n (seq_n hK9 (wp_seq_k fun K12 hK12 => ?_)))))
 refine wp_reset 29 [(0, (lV A L.length c)), (2, (pt g2 0)), (3, O), (4, (pt g7 0)), (5, (D ((k : Int)))), (6, O), (9, V), (17, V), (22, V)] (fun x13 => ?_)
 refine reg_lit ?_
 refine wV 28 (aV ([(D ((v.kind : Int))), (D ((v.tag : Int))), (iV .u64 ((v.n : Int))), (lV Be v.b.length de), (lV Ae v.l.length ce)]).toArray) (eLs (h8.at_ 0 rfl) 106 (.tmp 4) 0 ([(D ((v.kind : Int))), (D ((v.tag : Int))), (iV .u64 ((v.n : Int))), (lV Be v.b.length de), (lV Ae v.l.length ce)])) ?_
 refine wq_to none (xSs h8 2 106 (.tmp 2) (.tmp 28) 0 ([(D ((v.kind : Int))), (D ((v.tag : Int))), (iV .u64 ((v.n : Int))), (lV Be v.b.length de), (lV Ae v.l.length ce)]) ([(D ((v.kind : Int))), (D ((v.tag : Int))), (iV .u64 ((v.n : Int))), (lV Be v.b.length de), (lV Ae v.l.length ce)])) ?_
 rintro _ w14 h14
 refine wq_p 1 [(3, O)] ?_
 refine wE hK12 (wp_ret ?_)
 refine post_2 rfl (by kernel_rfl) (rce (h14.at_ 2 rfl)) (rtm O) ?_
 exact ⟨_, _, rfl, h14.sel [1] [] rfl rfl rfl⟩
/-- der.Read, of any bytes. -/
theorem Rd_all (L : Bytes) (x : Value) (w : World) (hv : SB w x L) : Calls Try.prog 41 #[x] w (ReadGOk w (RdB L)) := by
 obtain ⟨A, c, rfl, _⟩ := id hv
 unfold RdB
 split
 · rename_i h; exact Rd_long L h A c w hv
 rename_i h
 rcases hr : rdB 8 L with e | ⟨v, k⟩
 · exact Rd_err L (by omega) e (rdB_er 8 L e hr) hr A c w hv
 · simp only
   split
   · rename_i hk; exact Rd_more L (by omega) v k hr hk A c w hv
   · rename_i hk; exact Rd_ok L (by omega) v k hr (by omega) A c w hv
end
end Go.Proofs.Ytecomegocafocaa
