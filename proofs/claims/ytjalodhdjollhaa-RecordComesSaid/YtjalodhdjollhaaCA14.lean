/- Send and Take, as they are told; Push and Rekey that are told. -/
import Derived.Test.YtjalodhdjollhaaCA13
set_option maxRecDepth 100000
set_option maxHeartbeats 4000000
namespace Go.Proofs.Ytjalodhdjollhaa
section
open Go.RowKit Go.QT
theorem pre_at {l m : List Bytes} (h : l <+: m) {n : Nat} {b : Bytes} (hb : l[n]? = some b) : m[n]? = some b := by
 obtain ⟨r, rfl⟩ := h
 rw [List.getElem?_append_left (List.getElem?_eq_some_iff.1 hb).1]; exact hb
theorem tPrefix_any {L : List (Value × Bytes)} {w : World} (hL : (rF L).Φ w) {A B : Option Addr} {c d : Nat} {xs ys : List (List Value)} {l m : List Bytes} (hx : RowOk (BAt L) xs l) (hy : RowOk (BAt L) ys m) (hrx : RV w 1 A c xs) (hry : RV w 1 B d ys) (hp : l <+: m) (hlm : m.length <= 100000) :
   Calls Try.prog 16 #[.slice A l.length c, .slice B m.length d] w (DPost w (.bool true)) := by
 have hlen := hp.length_le
 have h0 := ((Hp.ro1 (rF L) hL).addR (rRV 1 B d ys) hry (by simp)).addR (rRV 1 A c xs) hrx (by simp)
 refine enter 25 Try.func16 rfl rfl ?_
 refine wp_reset 27 [(0, (Value.slice A l.length c)), (1, (Value.slice B m.length d))] (fun x0 => ?_)
 refine wp_seq_k fun K1 hK1 => reg_lit ?_
 refine wq_p 1 [(4, (Value.bool false))] ?_
 refine wl_end rfl (seq_n hK1 (wp_seq_k fun K2 hK2 => wp_seq_k fun K3 hK3 => reg_lit ?_))
 refine wq_p 4 [(10, (Value.int .i64 ((m.length : Int)))), (9, (Value.slice B m.length d)), (8, (Value.int .i64 ((l.length : Int)))), (7, (Value.slice A l.length c))] (wq_v (some 11) (Value.bool false) (eqI (Value.bool (decide ((l.length : Int) > (m.length : Int)))) (congrArg Value.bool (by simp; omega))) ?_)
 refine wl_end rfl (seq_n hK3 (cF (wp_skip (seq_n hK2 (wp_seq_k fun K4 hK4 => wp_seq_k fun K5 hK5 => reg_lit ?_)))))
 refine wq_p 3 [(14, (Value.int .i64 0)), (13, (Value.int .i64 ((l.length : Int)))), (12, (Value.slice A l.length c))] ?_
 refine wl_end rfl (seq_n hK5 (wp_block ?_))
 refine wp_loopm (fun mM xX aA wL => ∃ (n : Nat), (n <= l.length) /\ mM = l.length - (n) /\ aA = patch xX 27 [(0, (Value.slice A l.length c)), (1, (Value.slice B m.length d)), (11, (Value.bool false)), (12, (Value.slice A l.length c)), (13, (Value.int .i64 ((l.length : Int)))), (14, (Value.int .i64 ((n : Int))))] /\ Hp (fun _ => False) w wL [rRV 1 A c xs, rRV 1 B d ys, rF L] []) ⟨_, 0, (by omega), rfl, (pEq 27), h0.sel [] [0, 1, 2] (by kernel_rfl) rfl rfl⟩ ?_
 rintro _ x6 _ w6 ⟨n, hn, rfl, rfl, h6⟩
 refine wp_seq_k fun K7 hK7 => reg_lit ?_
 refine wq_p 1 [(15, (Value.bool (decide ((n : Int) < (l.length : Int)))))] ?_
 refine wl_end rfl (seq_n hK7 (wp_seq_k fun K8 hK8 => ?_))
 refine wp_if ((n : Int) < (l.length : Int)) (by kernel_rfl) (fun b9 => ?_) (fun b9 => ?_)
 ·
  refine wp_skip (seq_n hK8 (wp_seq_k fun K10 hK10 => wp_block (wp_seq_k fun K11 hK11 => ?_)))
  obtain ⟨b, hb⟩ : ∃ b, l[n]? = some b := ⟨_, List.getElem?_eq_getElem (by omega)⟩
  obtain ⟨x1, hx1, A1, c1, rfl, hm1⟩ := hx.get hb
  obtain ⟨x2, hx2, A2, c2, rfl, hm2⟩ := hy.get (pre_at hp hb)
  have h12 := (h6.roF 2 rfl hm1).roF 3 rfl hm2
  refine reg_lit ?_
  refine wq_p 1 [(16, (Value.int .i64 ((n : Int))))] (wq_v (some 17) (eAt A (n * 1 + 0)) (eIx (RV.lenIs (n := l.length) (h12.rd 2 rfl) hx.1).2 n l.length (RV.lenIs (n := l.length) (h12.rd 2 rfl) hx.1).1 (by omega) 22 (.tmp 12) (.tmp 14) .i64 26) (wq_v (some 18) (Value.slice A1 b.length c1) (eEl (RV.lenIs (n := l.length) (h12.rd 2 rfl) hx.1).2 n 0 ([(Value.slice A1 b.length c1)]) hx1 26 (.tmp 17) (Value.slice A1 b.length c1)) (wq_p 2 [(6, (Value.slice A1 b.length c1)), (5, (Value.int .i64 ((n : Int))))] ?_)))
  refine wl_end rfl (seq_n hK11 (wp_seq_k fun K13 hK13 => reg_lit ?_))
  refine wq_p 3 [(21, (Value.int .i64 ((n : Int)))), (20, (Value.slice B m.length d)), (19, (Value.slice A1 b.length c1))] (wq_v (some 22) (eAt B (n * 1 + 0)) (eIx (RV.lenIs (n := m.length) (h12.rd 3 rfl) hy.1).2 n m.length (RV.lenIs (n := m.length) (h12.rd 3 rfl) hy.1).1 (by omega) 22 (.tmp 20) (.tmp 21) .i64 26) (wq_v (some 23) (Value.slice A2 b.length c2) (eEl (RV.lenIs (n := m.length) (h12.rd 3 rfl) hy.1).2 n 0 ([(Value.slice A2 b.length c2)]) hx2 26 (.tmp 22) (Value.slice A2 b.length c2)) ?_))
  refine wq_to (some 24) (x_same h12 b b (Value.slice A1 b.length c1) (Value.slice A2 b.length c2) (by kernel_rfl) (h12.rd 1 rfl) (h12.rd 0 rfl) true (by simp)) ?_
  rintro _ w14 ⟨rfl, h14⟩
  refine wq_p 1 [(25, (Value.bool false))] ?_
  refine wl_end rfl (seq_n hK13 (cF (wp_skip (blk_n (seq_n hK10 (reg_lit ?_))))))
  refine wq_v (some 26) (Value.int .i64 ((n : Int) + 1)) (exec_add _ _ _ _ rfl ((n : Int)) 1 (by kernel_rfl) (by kernel_rfl) ((n : Int) + 1) rfl (by omega) (by omega) _) (wq_p 1 [(14, (Value.int .i64 ((n : Int) + 1)))] ?_)
  refine wl_end rfl ?_
  refine ⟨l.length - (n + 1), (by omega), (n + 1), (by omega), rfl, (pEq 27), h14.sel [] [2, 3, 4] (by kernel_rfl) rfl rfl⟩
 ·
  refine wp_exit (seq_e (seq_e (blk_e (seq_n hK4 (wp_seq_k fun K15 hK15 => reg_lit ?_)))))
  refine wq_p 1 [(4, (Value.bool true))] ?_
  refine wl_end rfl (seq_n hK15 (wp_ret ?_))
  refine post_1 rfl (by kernel_rfl) (rtm (Value.bool true)) ?_
  exact ⟨rfl, h6.below0⟩
/-- A step of a script. -/
structure Stp where
 kind : Int
 at_ : Int
 turn : Int
 body : Bytes
def StAt (L : List (Value × Bytes)) (z : Stp) (x : List Value) : Prop := ∃ A c, x = [.int .i64 z.kind, .int .i64 z.at_, .int .i64 z.turn, .slice A z.body.length c] /\ (Value.slice A z.body.length c, z.body) ∈ L
theorem brief_step {st : List Stp} {n : Nat} {z : Stp} (hall : ∀ i z, i < n -> st[i]? = some z -> z.body.length <= 40) (hz0 : st[n]? = some z) (hz : z.body.length <= 40) : ∀ i z, i < n + 1 -> st[i]? = some z -> z.body.length <= 40 := fun i y hi hy => by
 by_cases e : i = n
 · subst e; rw [hz0] at hy; obtain rfl := Option.some.inj hy; exact hz
 · exact hall i y (by omega) hy
def briefR (st : List Stp) : Bool := decide (st.length <= 200 /\ ∀ z ∈ st, z.body.length <= 40)
theorem tBrief_any {L : List (Value × Bytes)} {w : World} {A : Option Addr} {c : Nat} {xs : List (List Value)} {st : List Stp} (hx : RowOk (StAt L) xs st) (hrx : RV w 4 A c xs) :
   Calls Try.prog 14 #[.slice A st.length c] w (DPost w (.bool (briefR st))) := by
 have hcap : st.length <= 9223372036854775807 := by have h1 := hrx.le; have h2 := hrx.cap; have h3 := hx.1; unfold maxLen at h2; omega
 have h0 := Hp.ro1 (rRV 4 A c xs) hrx
 refine enter 18 Try.func14 rfl rfl ?_
 refine wp_reset 19 [(0, (Value.slice A st.length c))] (fun x0 => ?_)
 refine wp_seq_k fun K1 hK1 => reg_lit ?_
 refine wq_p 1 [(2, (Value.bool false))] ?_
 refine wl_end rfl (seq_n hK1 (wp_seq_k fun K2 hK2 => wp_seq_k fun K3 hK3 => reg_lit ?_))
 refine wq_p 3 [(7, (Value.bool (decide ((st.length : Int) > 200)))), (6, (Value.int .i64 ((st.length : Int)))), (5, (Value.slice A st.length c))] ?_
 refine wl_end rfl (seq_n hK3 ?_)
 refine wp_if ((st.length : Int) > 200) (by kernel_rfl) (fun b4 => ?_) (fun b4 => ?_)
 ·
  refine wp_seq_k fun K5 hK5 => reg_lit ?_
  refine wq_p 1 [(2, (Value.bool false))] ?_
  refine wl_end rfl (seq_n hK5 (wp_ret (seq_r ?_)))
  refine post_1 rfl (by kernel_rfl) (rtm (Value.bool false)) ?_
  refine ⟨?_, h0.below0⟩
  rw [show briefR st = false from decide_eq_false (by first | exact (fun h => absurd h.1 (by omega)) | exact (fun h => absurd (h.2 z (List.mem_of_getElem? hz0)) (by omega)))]
 ·
  refine wp_skip (seq_n hK2 (wp_seq_k fun K6 hK6 => wp_seq_k fun K7 hK7 => reg_lit ?_))
  refine wq_p 3 [(10, (Value.int .i64 0)), (9, (Value.int .i64 ((st.length : Int)))), (8, (Value.slice A st.length c))] ?_
  refine wl_end rfl (seq_n hK7 (wp_block ?_))
  refine wp_loopm (fun mM xX aA wL => ∃ (n : Nat), (n <= st.length) /\ (∀ i z, i < n -> st[i]? = some z -> z.body.length <= 40) /\ mM = st.length - (n) /\ aA = patch xX 19 [(0, (Value.slice A st.length c)), (7, (Value.bool (decide ((st.length : Int) > 200)))), (8, (Value.slice A st.length c)), (9, (Value.int .i64 ((st.length : Int)))), (10, (Value.int .i64 ((n : Int))))] /\ Hp (fun _ => False) w wL [rRV 4 A c xs] []) ⟨_, 0, (by omega), (fun i z hi => absurd hi (by omega)), rfl, (pEq 19), h0.sel [] [0] (by kernel_rfl) rfl rfl⟩ ?_
  rintro _ x8 _ w8 ⟨n, hn, hall, rfl, rfl, h8⟩
  refine wp_seq_k fun K9 hK9 => reg_lit ?_
  refine wq_p 1 [(11, (Value.bool (decide ((n : Int) < (st.length : Int)))))] ?_
  refine wl_end rfl (seq_n hK9 (wp_seq_k fun K10 hK10 => ?_))
  refine wp_if ((n : Int) < (st.length : Int)) (by kernel_rfl) (fun b11 => ?_) (fun b11 => ?_)
  ·
   refine wp_skip (seq_n hK10 (wp_seq_k fun K12 hK12 => wp_block (wp_seq_k fun K13 hK13 => ?_)))
   obtain ⟨z, hz0⟩ : ∃ z, st[n]? = some z := ⟨_, List.getElem?_eq_getElem (by omega)⟩
   obtain ⟨x1, hx1, A1, c1, rfl, hm1⟩ := hx.get hz0
   refine reg_lit ?_
   refine wq_v (some 12) (eAt A (n * 4 + 0)) (eIx (RV.lenIs (n := st.length) (h8.rd 0 rfl) hx.1).2 n st.length (RV.lenIs (n := st.length) (h8.rd 0 rfl) hx.1).1 (by omega) 47 (.tmp 8) (.tmp 10) .i64 50) (wq_v (some 13) (Value.agg ([(Value.int .i64 z.kind), (Value.int .i64 z.at_), (Value.int .i64 z.turn), (Value.slice A1 z.body.length c1)]).toArray) (e_elemsN (RV.lenIs (n := st.length) (h8.rd 0 rfl) hx.1).2 n 0 ([(Value.int .i64 z.kind), (Value.int .i64 z.at_), (Value.int .i64 z.turn), (Value.slice A1 z.body.length c1)]) hx1 50 (.tmp 12) (by kernel_rfl) ([(Value.int .i64 z.kind), (Value.int .i64 z.at_), (Value.int .i64 z.turn), (Value.slice A1 z.body.length c1)]) (by kernel_rfl) (by kernel_rfl) (by kernel_rfl)) ?_)
   refine wq_to (some 4) (xN h8 50 ([(Value.int .i64 0), (Value.int .i64 0), (Value.int .i64 0), (Value.slice none 0 0)])) ?_
   rintro _ w14 ⟨g14, rfl, h14⟩
   refine wq_to none (xSs h14 0 50 (.tmp 4) (.tmp 13) 0 ([(Value.int .i64 z.kind), (Value.int .i64 z.at_), (Value.int .i64 z.turn), (Value.slice A1 z.body.length c1)]) ([(Value.int .i64 z.kind), (Value.int .i64 z.at_), (Value.int .i64 z.turn), (Value.slice A1 z.body.length c1)])) ?_
   rintro _ w15 h15
   refine wl_end rfl (seq_n hK13 (wp_seq_k fun K16 hK16 => reg_lit ?_))
   refine wq_p 1 [(14, (pt g14 3))] (wq_v (some 15) (Value.slice A1 z.body.length c1) (eL (h15.at_ 0 rfl) 26 (.tmp 14) 3 _) (wq_p 2 [(17, (Value.bool (decide ((z.body.length : Int) > 40)))), (16, (Value.int .i64 ((z.body.length : Int))))] ?_))
   refine wl_end rfl (seq_n hK16 ?_)
   refine wp_if ((z.body.length : Int) > 40) (by kernel_rfl) (fun b17 => ?_) (fun b17 => ?_)
   ·
    refine wp_seq_k fun K18 hK18 => reg_lit ?_
    refine wq_p 1 [(2, (Value.bool false))] ?_
    refine wl_end rfl (seq_n hK18 (wp_ret (blk_r (seq_r (seq_r (blk_r (seq_r ?_)))))))
    refine post_1 rfl (by kernel_rfl) (rtm (Value.bool false)) ?_
    refine ⟨?_, h15.below0⟩
    rw [show briefR st = false from decide_eq_false (by first | exact (fun h => absurd h.1 (by omega)) | exact (fun h => absurd (h.2 z (List.mem_of_getElem? hz0)) (by omega)))]
   ·
    refine wp_skip (blk_n (seq_n hK12 (reg_lit ?_)))
    refine wq_v (some 18) (Value.int .i64 ((n : Int) + 1)) (exec_add _ _ _ _ rfl ((n : Int)) 1 (by kernel_rfl) (by kernel_rfl) ((n : Int) + 1) rfl (by omega) (by omega) _) (wq_p 1 [(10, (Value.int .i64 ((n : Int) + 1)))] ?_)
    refine wl_end rfl ?_
    refine ⟨st.length - (n + 1), (by omega), (n + 1), (by omega), (brief_step hall hz0 (by omega)), rfl, (pEq 19), h15.sel [] [0] (by kernel_rfl) rfl rfl⟩
  ·
   refine wp_exit (seq_e (seq_e (blk_e (seq_n hK6 (wp_seq_k fun K19 hK19 => reg_lit ?_)))))
   refine wq_p 1 [(2, (Value.bool true))] ?_
   refine wl_end rfl (seq_n hK19 (wp_ret ?_))
   refine post_1 rfl (by kernel_rfl) (rtm (Value.bool true)) ?_
   refine ⟨?_, h8.below0⟩
   rw [show briefR st = true from decide_eq_true ⟨by omega, fun z hz => by obtain ⟨i, hi⟩ := List.getElem?_of_mem hz; exact hall i z (by have := (List.getElem?_eq_some_iff.1 hi).1; omega) hi⟩]
end
section
open Go.RowKit Go.QT
section
variable {F G : Nat -> Prop} {tb sb : Nat} {s s' : STab} {L : List (Value × Bytes)} {S S' : Ses} {w : World} {m' : Option Frm} {b' : Option Bytes} {er : Int} {f : Frm} {r : Option (Nat × Nat × Bytes)}
theorem send_ex (s : STab) (S : Ses) : ∃ s' S' m, SendR s S s' S' m := by
 by_cases ho : S.over = true
 · exact ⟨_, _, _, .over ho⟩
 · have ho : S.over = false := by simpa using ho
   cases hf : S.frame with
   | some f => exact ⟨_, _, _, .frame ho f hf⟩
   | none =>
     cases hqu : S.queue with
     | nil => exact ⟨_, _, _, .none ho hf hqu⟩
     | cons p qs =>
       obtain ⟨k, b⟩ := p
       by_cases hk : k = 3
       · subst hk; exact ⟨_, _, _, .rekey ho hf b qs hqu⟩
       · exact ⟨_, _, _, .data ho hf k b qs hqu hk⟩
theorem send_of (hT : (rTab F tb s).Φ w) (hv : (rS G tb sb L S).Φ w) (hL : (rF L).Φ w) (hts : (rTab F tb s).dj (rS G tb sb L S)) (hdt : (rF L).dj (rTab F tb s)) (hd : (rF L).dj (rS G tb sb L S))
   (hr : SendR s S s' S' m') (hq : ∀ p ∈ S.queue, p.1 < 1000 /\ p.2.length <= 2048) (hse : S.sent < 900000) (he : S.eo < 64) (hnk : s.keys.length < 800000) (hnb : s.boxes.length < 800000) :
   Calls Try.prog 11 #[pt sb 0] w (Post2 F G tb sb w L s' S' (fun L' u => ∃ cs, u = .tuple #[.agg cs.toArray, .bool m'.isSome] /\ FrmO L' m' cs)) := by
 cases hr with
 | over ho => exact (sSend_over hT hv hL hts hdt hd ho).mono fun _ _ ⟨u, F', G', L', e, hR, h⟩ => ⟨u, F', G', L', e, ⟨_, hR, rfl⟩, h⟩
 | frame ho f hf => exact sSend_frame hT hv hL hts hdt hd f ho hf
 | none ho hf hqu => exact (sSend_none hT hv hL hts hdt hd ho hf hqu).mono fun _ _ ⟨u, F', G', L', e, hR, h⟩ => ⟨u, F', G', L', e, ⟨_, hR, rfl⟩, h⟩
 | data ho hf k b qs hqu hk =>
   have h1 := hq (k, b) (by rw [hqu]; exact List.mem_cons_self)
   exact sSend_data hT hv hL hts hdt hd k b qs ho hf hqu h1.1 hk h1.2 hse (by omega) (by omega)
 | rekey ho hf b qs hqu =>
   have h1 := hq (3, b) (by rw [hqu]; exact List.mem_cons_self)
   exact sSend_rekey hT hv hL hts hdt hd 3 b qs ho hf hqu rfl he h1.2 hse (by omega) (by omega)
theorem take_ex (s : STab) (S : Ses) (f : Frm) (r : Option (Nat × Nat × Bytes)) : ∃ s' S' m n e, TakeR s S f r s' S' m n e := by
 by_cases ho : S.over = true
 · exact ⟨_, _, _, _, _, .over ho⟩
 have ho : S.over = false := by simpa using ho
 by_cases hw : f.src ≠ S.peer ∨ f.dst ≠ S.me ∨ f.sid ≠ S.sid
 · exact ⟨_, _, _, _, _, .wrong ho hw⟩
 have hF : ForS S f := ⟨ho, Decidable.byContradiction fun h => hw (.inl h), Decidable.byContradiction fun h => hw (.inr (.inl h)), Decidable.byContradiction fun h => hw (.inr (.inr h))⟩
 by_cases h4 : f.epoch = (S.ei : Int)
 rotate_left
 · by_cases hlt : f.epoch < (S.ei : Int) /\ f.seq <= (S.got : Int)
   · exact ⟨_, _, _, _, _, .old hF hlt.1 hlt.2⟩
   · exact ⟨_, _, _, _, _, .epoch hF h4 hlt⟩
 cases r with
 | none => exact ⟨_, _, _, _, _, .shut hF h4 rfl⟩
 | some r =>
   obtain ⟨k, n, b⟩ := r
   by_cases hk2 : k = 2
   · subst hk2; exact ⟨_, _, _, _, _, .mark hF h4 n b rfl⟩
   by_cases hle : n <= S.got
   · exact ⟨_, _, _, _, _, .again hF h4 k n b rfl hk2 hle⟩
   by_cases hlt : S.got + 1 < n
   · exact ⟨_, _, _, _, _, .ahead hF h4 k n b rfl hk2 hlt⟩
   obtain rfl : n = S.got + 1 := by omega
   by_cases hk3 : k = 3
   · subst hk3; exact ⟨_, _, _, _, _, .rekey hF h4 b rfl⟩
   · exact ⟨_, _, _, _, _, .data hF h4 k b rfl hk2 hk3⟩
theorem take_of (hT : (rTab F tb s).Φ w) (hv : (rS G tb sb L S).Φ w) (hL : (rF L).Φ w) (hts : (rTab F tb s).dj (rS G tb sb L S)) (hdt : (rF L).dj (rTab F tb s)) (hd : (rF L).dj (rS G tb sb L S))
   (hR : TakeR s S f r s' S' b' m' er) (Ab : Option Addr) (cb : Nat) (hmf : (Value.slice Ab f.box.length cb, f.box) ∈ L) (hnil : (Value.slice none 0 0, ([] : Bytes)) ∈ L) (hr : Said s S f r)
   (hnk : s.keys.length < 800000) (hnb : s.boxes.length < 800000) (hbl : ∀ b ∈ s.boxes, b.body.length <= 1000000) (hse : S.sent < 900000) (hgo : S.got < 800000) (hei : S.ei < 64) (hfq : S.frame.isSome -> S.queue ≠ []) :
   Calls Try.prog 12 #[pt sb 0, .agg (f.cells (.slice Ab f.box.length cb)).toArray] w (Post2 F G tb sb w L s' S' (fun L' u => ∃ cs, u = .tuple #[.agg cs.toArray, .int .i64 er] /\ ComeAt L' b' m' cs)) := by
 cases hR with
 | over ho => exact sTake_over hT hv hL hts hdt hd f Ab cb hmf hnil hnk hnb hbl ho
 | wrong ho hw =>
   by_cases h1 : f.src = S.peer
   rotate_left
   · exact sTake_src hT hv hL hts hdt hd f Ab cb hmf hnil hnk hnb hbl ho (ba_ne h1)
   by_cases h2 : f.dst = S.me
   rotate_left
   · exact sTake_dst hT hv hL hts hdt hd f Ab cb hmf hnil hnk hnb hbl ho h1 (ba_ne h2)
   by_cases h3 : f.sid = S.sid
   rotate_left
   · exact sTake_sid hT hv hL hts hdt hd f Ab cb hmf hnil hnk hnb hbl ho h1 h2 h3
   rcases hw with hw | hw | hw
   · exact absurd h1 hw
   · exact absurd h2 hw
   · exact absurd h3 hw
 | old h hlt hle => exact sTake_old hT hv hL hts hdt hd f Ab cb hmf hnil hnk hnb hbl h.ho h.h1 h.h2 h.h3 hlt hle (by omega)
 | epoch h hne hn =>
   by_cases hlt : f.epoch < (S.ei : Int)
   · exact sTake_early hT hv hL hts hdt hd f Ab cb hmf hnil hnk hnb hbl h.ho h.h1 h.h2 h.h3 hlt (by have : ¬ f.seq <= (S.got : Int) := fun h2 => hn ⟨hlt, h2⟩; omega)
   · exact sTake_late hT hv hL hts hdt hd f Ab cb hmf hnil hnk hnb hbl h.ho h.h1 h.h2 h.h3 (by omega)
 | shut h he hrn =>
   subst hrn
   rcases hr with hr | ⟨k, n, b, hk, hn, hb, hop, hwr⟩
   · exact sTake_shut hT hv hL hts hdt hd f Ab cb hmf hnil hnk hnb hbl h.ho h.h1 h.h2 h.h3 he hr
   · exact sTake_other hT hv hL hts hdt hd f Ab cb hmf hnil hnk hnb hbl h.ho h.h1 h.h2 h.h3 he k n b hk (by omega) hb hop hwr
 | mark h he n b hrn =>
   subst hrn
   obtain ⟨hk, hn, hb, hop, hseq⟩ := hr
   unfold markedR
   cases hf : S.frame with
   | none => exact sTake_mark0 hT hv hL hts hdt hd f Ab cb hmf hnil hnk hnb hbl h.ho h.h1 h.h2 h.h3 he n b (by omega) hb hop hseq hf
   | some g =>
     by_cases hne : n = S.sent + 1
     · rw [if_pos ⟨rfl, hne⟩]
       cases hqu : S.queue with
       | nil => exact absurd hqu (hfq (by rw [hf]; rfl))
       | cons p qs => exact sTake_mark2 hT hv hL hts hdt hd f Ab cb hmf hnil hnk hnb hbl h.ho h.h1 h.h2 h.h3 he n b (by omega) hb hop hseq g p qs hf hqu hne (by omega)
     · rw [if_neg (fun h => hne h.2)]
       exact sTake_mark1 hT hv hL hts hdt hd f Ab cb hmf hnil hnk hnb hbl h.ho h.h1 h.h2 h.h3 he n b (by omega) hb hop hseq g hf hne (by omega)
 | again h he k n b hrn hk2 hle =>
   subst hrn
   obtain ⟨hk, hn, hb, hop, hseq⟩ := hr
   exact sTake_again hT hv hL hts hdt hd f Ab cb hmf hnil hnk hnb hbl h.ho h.h1 h.h2 h.h3 he k n b hk (by omega) hb hop hseq hk2 hle (by omega)
 | ahead h he k n b hrn hk2 hlt =>
   subst hrn
   obtain ⟨hk, hn, hb, hop, hseq⟩ := hr
   exact sTake_ahead hT hv hL hts hdt hd f Ab cb hmf hnil hnk hnb hbl h.ho h.h1 h.h2 h.h3 he k n b hk (by omega) hb hop hseq hk2 hlt (by omega)
 | data h he k b hrn hk2 hk3 =>
   subst hrn
   obtain ⟨hk, hn, hb, hop, hseq⟩ := hr
   exact sTake_data hT hv hL hts hdt hd f Ab cb hmf hnil hnk hnb hbl h.ho h.h1 h.h2 h.h3 he k _ b hk (by omega) hb hop hseq hk2 hk3 rfl (by omega)
 | rekey h he b hrn =>
   subst hrn
   obtain ⟨hk, hn, hb, hop, hseq⟩ := hr
   exact sTake_rekey hT hv hL hts hdt hd f Ab cb hmf hnil hnk hnb hbl h.ho h.h1 h.h2 h.h3 he _ b (by omega) hb hop hseq rfl (by omega) hei
theorem sPush_ok (hv : (rS G tb sb L S).Φ w) (hL : (rF L).Φ w) (hd : (rF L).dj (rS G tb sb L S)) (b : Bytes) (A : Option Addr) (c : Nat) (hb : SB w (.slice A b.length c) b) (hbd : (rSB (.slice A b.length c) b).dj (rS G tb sb L S)) (h : b.length <= 2048) (ho : S.over = false) (h8 : S.queue.length < 8) :
   Calls Try.prog 9 #[pt sb 0, .slice A b.length c] w (SPostR G tb sb w L (.int .i64 0) { S with queue := S.queue ++ [(1, b)] }) := by
 have := sPush_in hv hL hd b A c hb hbd (by omega) (by omega)
 rwa [show pushR S 1 b = (0, { S with queue := S.queue ++ [(1, b)] }) from (if_neg (by rw [ho]; decide)).trans (if_neg (by omega))] at this
theorem sPush_full (hv : (rS G tb sb L S).Φ w) (hL : (rF L).Φ w) (hd : (rF L).dj (rS G tb sb L S)) (b : Bytes) (A : Option Addr) (c : Nat) (hb : SB w (.slice A b.length c) b) (hbd : (rSB (.slice A b.length c) b).dj (rS G tb sb L S)) (h : b.length <= 2048) (ho : S.over = false) (h8 : S.queue.length = 8) :
   Calls Try.prog 9 #[pt sb 0, .slice A b.length c] w (SPostR G tb sb w L (.int .i64 8) S) := by
 have := sPush_in hv hL hd b A c hb hbd (by omega) (by omega)
 rwa [show pushR S 1 b = (8, S) from (if_neg (by rw [ho]; decide)).trans (if_pos h8)] at this
theorem sRekey_ok (hv : (rS G tb sb L S).Φ w) (hL : (rF L).Φ w) (hd : (rF L).dj (rS G tb sb L S)) (hn : (Value.slice none 0 0, ([] : Bytes)) ∈ L) (ho : S.over = false) (h8 : S.queue.length < 8) :
   Calls Try.prog 22 #[pt sb 0] w (SPostR G tb sb w L (.int .i64 0) { S with queue := S.queue ++ [(3, [])] }) := by
 have := sRekey_any hv hL hd hn (by omega)
 rwa [show pushR S 3 [] = (0, { S with queue := S.queue ++ [(3, [])] }) from (if_neg (by rw [ho]; decide)).trans (if_neg (by omega))] at this
theorem sRekey_full (hv : (rS G tb sb L S).Φ w) (hL : (rF L).Φ w) (hd : (rF L).dj (rS G tb sb L S)) (hn : (Value.slice none 0 0, ([] : Bytes)) ∈ L) (ho : S.over = false) (h8 : S.queue.length = 8) :
   Calls Try.prog 22 #[pt sb 0] w (SPostR G tb sb w L (.int .i64 8) S) := by
 have := sRekey_any hv hL hd hn (by omega)
 rwa [show pushR S 3 [] = (8, S) from (if_neg (by rw [ho]; decide)).trans (if_pos h8)] at this
end
/-- What step leaves. -/
def StepPost (n : Nat) (G : Nat -> Prop) (p : Nat) (w : World) (L : List (Value × Bytes)) (e : Ending) (w' : World) : Prop :=
 e = .returned (.bool true) /\ ∃ G' L' T' Wa' Wb', TI sAnn sBob (n + 1) T' Wa' Wb' /\ Cnt (n + 1) T' Wa' Wb' /\ LExt G w L L' /\ Hp G w w' [rF L'] [rT G' p L' T']
end
end Go.Proofs.Ytjalodhdjollhaa
