/- The walks of record: seal, of a session that is only read. -/
import Derived.Test.YtjalodhdjollhaaCA7
set_option maxRecDepth 100000
set_option maxHeartbeats 4000000
namespace Go.Proofs.Ytjalodhdjollhaa
section
open Go.RowKit Go.QT
/-- A record's value: its kind, its number, its bytes. -/
def contV (k n : Nat) (b : Bytes) : DVal := .mk 2 1 0 [] [.mk 0 0 k [] [], .mk 0 0 n [] [], .mk 1 0 0 b []]
theorem cont_right (k n : Nat) (b : Bytes) : rightV (contV k n b) 1 = true := by
 simp [contV, rightV, rightL]
theorem cont_num {k n : Nat} (b : Bytes) (hk : k < 18446744073709551616) (hn : n < 18446744073709551616) : numV (contV k n b) = true := by
 simp [contV, numV, numL, hk, hn]
theorem wrV_le (v : DVal) : (wrV v).length <= 10 + (bodyV v).length := by
 rw [wrV_eq, List.length_append]; have := headB_len v.kind v.tag (bodyV v).length; omega
theorem cont_len (k n : Nat) (b : Bytes) : (wrV (contV k n b)).length <= 56 + b.length := by
 have h0 := wrV_le (contV k n b)
 have e : bodyV (contV k n b) = wrV (.mk 0 0 k [] []) ++ (wrV (.mk 0 0 n [] []) ++ (wrV (.mk 1 0 0 b []) ++ [])) := rfl
 have h1 := wrV_le (.mk 0 0 k [] [])
 have h2 := wrV_le (.mk 0 0 n [] [])
 have h3 := wrV_le (.mk 1 0 0 b [])
 have e1 : bodyV (.mk 0 0 k [] []) = shortB k := rfl
 have e2 : bodyV (.mk 0 0 n [] []) = shortB n := rfl
 have e3 : bodyV (.mk 1 0 0 b []) = b := rfl
 have s1 := shortB_len k
 have s2 := shortB_len n
 rw [e1] at h1; rw [e2] at h2; rw [e3] at h3
 rw [e] at h0
 simp only [List.length_append, List.length_nil] at h0
 omega
section
variable {F0 : Nat -> Prop} {w0 w w' : World} {ro rs : List Res} {o : Oper} {a : Act} {P : Program}
theorem x_raw (h : Hp F0 w0 w ro rs) {b : Bytes} (fn : FuncId) (al : List Value) (hp : pureVal P (execOp a.eval o) = some (.enter fn al.toArray)) (hc : Calls P fn al.toArray w (RawPost w b)) :
   OpTo P o a w (fun u w' => ∃ A c, u = .agg #[.int .i64 1, .int .i64 0, .int .u64 0, .slice A b.length c, .slice none 0 0] /\ Hp F0 w0 w' ro (rSB (.slice A b.length c) b :: rs)) :=
 OpTo.enter fn al hp hc fun e w' hq => by
   obtain ⟨A, c, he, hs, hb, hF⟩ := hq
   exact ⟨_, he, A, c, rfl, h.newS hb (rSB _ b) hs (fun q hq => hF q hq.2)⟩
theorem x_wr (h : Hp F0 w0 w ro rs) {l : Bytes} (fn : FuncId) (al : List Value) (hp : pureVal P (execOp a.eval o) = some (.enter fn al.toArray)) (hc : Calls P fn al.toArray w (WrPost w l)) :
   OpTo P o a w (fun u w' => ∃ A c, u = .tuple #[.slice A l.length c, .int .i64 0] /\ Hp F0 w0 w' ro (rOB (.slice A l.length c) l :: rs)) :=
 OpTo.enter fn al hp hc fun e w' hq => by
   obtain ⟨A, c, he, h2⟩ := hq
   exact ⟨_, he, A, c, rfl, h.call0 h2⟩
/-- A record's value in memory. -/
theorem dv_cont {w : World} {g k n : Nat} {b : Bytes} {v : Value} (hk : k < 18446744073709551616) (hn : n < 18446744073709551616)
   (hb : Blk w g 100 [.int .i64 0, .int .i64 0, .int .u64 (k : Int), .slice none 0 0, .slice none 0 0, .int .i64 0, .int .i64 0, .int .u64 (n : Int), .slice none 0 0, .slice none 0 0, .int .i64 1, .int .i64 0, .int .u64 0, v, .slice none 0 0]) (hs : SB w v b) :
   (rDV (fun q => q = g ∨ (rSB v b).F q) [.int .i64 2, .int .i64 1, .int .u64 0, .slice none 0 0, .slice (some ⟨g, 0, none⟩) 3 3] (contV k n b)).Φ w := by
 have h1 : (rDV (fun _ => False) [.int .i64 0, .int .i64 0, .int .u64 (k : Int), .slice none 0 0, .slice none 0 0] (.mk 0 0 k [] [])).Φ w := dv_num w k hk
 have h2 : (rDV (fun _ => False) [.int .i64 0, .int .i64 0, .int .u64 (n : Int), .slice none 0 0, .slice none 0 0] (.mk 0 0 n [] [])).Φ w := dv_num w n hn
 have h3 := dv_raw hs
 have e : ∀ j u, ([.int .i64 0, .int .i64 0, .int .u64 (k : Int), .slice none 0 0, .slice none 0 0, .int .i64 0, .int .i64 0, .int .u64 (n : Int), .slice none 0 0, .slice none 0 0, .int .i64 1, .int .i64 0, .int .u64 0, v, .slice none 0 0] : List Value)[j]? = some u -> w.cell? ⟨g, j, none⟩ = some u := fun j u hu => by rw [hb.cell, hu]
 refine dv_seq (F := fun q => q = g ∨ (rSB v b).F q) (xs := [[.int .i64 0, .int .i64 0, .int .u64 (k : Int), .slice none 0 0, .slice none 0 0], [.int .i64 0, .int .i64 0, .int .u64 (n : Int), .slice none 0 0, .slice none 0 0], [.int .i64 1, .int .i64 0, .int .u64 0, v, .slice none 0 0]])
   (ts := [.mk 0 0 k [] [], .mk 0 0 n [] [], .mk 1 0 0 b []]) (t := 1) ⟨⟨by simp, by unfold maxLen; omega, by simp, fun _ => ⟨g, 0, rfl, hb.lt, fun i x hx j u hu => ?_⟩⟩, fun _ q hq => .inl (by simpa [ownA] using hq.symm)⟩ rfl ⟨fun q hq => ?_, fun i x u hx hu => ?_⟩
 · match i, hx with
   | 0, hx =>
     have hx := Option.some.inj hx; subst hx
     have hj := (List.getElem?_eq_some_iff.1 hu).1
     refine e _ u ?_
     match j, hj with
     | 0, _ => exact hu
     | 1, _ => exact hu
     | 2, _ => exact hu
     | 3, _ => exact hu
     | 4, _ => exact hu
   | 1, hx =>
     have hx := Option.some.inj hx; subst hx
     have hj := (List.getElem?_eq_some_iff.1 hu).1
     refine e _ u ?_
     match j, hj with
     | 0, _ => exact hu
     | 1, _ => exact hu
     | 2, _ => exact hu
     | 3, _ => exact hu
     | 4, _ => exact hu
   | 2, hx =>
     have hx := Option.some.inj hx; subst hx
     have hj := (List.getElem?_eq_some_iff.1 hu).1
     refine e _ u ?_
     match j, hj with
     | 0, _ => exact hu
     | 1, _ => exact hu
     | 2, _ => exact hu
     | 3, _ => exact hu
     | 4, _ => exact hu
 · rcases hq with rfl | hq
   · exact hb.lt
   · exact (rSB v b).lt hs q hq
 · match i, hx, hu with
   | 0, hx, hu =>
     have hx := Option.some.inj hx; have hu := Option.some.inj hu; subst hx; subst hu
     exact h1.2.mono fun q hq => hq.elim
   | 1, hx, hu =>
     have hx := Option.some.inj hx; have hu := Option.some.inj hu; subst hx; subst hu
     exact h2.2.mono fun q hq => hq.elim
   | 2, hx, hu =>
     have hx := Option.some.inj hx; have hu := Option.some.inj hu; subst hx; subst hu
     exact h3.2.mono fun q hq => .inr hq
end
end
section
open Go.RowKit Go.QT
/-- A sealed frame: the table, and the frame. -/
def sealT (s : STab) (S : Ses) (k n : Nat) (b : Bytes) : STab := (s.made (deriveF S.ko ⟨#[117, 115, 101]⟩)).seal (mkB 107 (s.num (deriveF S.ko ⟨#[117, 115, 101]⟩))) 14 (wrV (contV k n b))
def sealF (s : STab) (S : Ses) (n : Nat) : Frm := ⟨S.me, S.peer, S.sid, (S.eo : Int), (n : Int), mkB 98 (s.boxes.length + 1)⟩
/-- What seal leaves. -/
def SealPostR (F G : Nat -> Prop) (tb sb : Nat) (w : World) (L : List (Value × Bytes)) (s' : STab) (S : Ses) (f : Frm) (e : Ending) (w' : World) : Prop :=
 ∃ A c F' G' L', e = .returned (.tuple #[.agg (f.cells (.slice A f.box.length c)).toArray, .int .i64 0]) /\ (Value.slice A f.box.length c, f.box) ∈ L' /\ LExt (fun q => F q ∨ G q) w L L' /\ Hp (fun q => F q ∨ G q) w w' [rF L'] [rTab F' tb s', rS G' tb sb L' S]
theorem sseal_any {F G : Nat -> Prop} {tb sb : Nat} {s : STab} {L : List (Value × Bytes)} {S : Ses} {w : World} (hT : (rTab F tb s).Φ w) (hv : (rS G tb sb L S).Φ w) (hL : (rF L).Φ w) (hts : (rTab F tb s).dj (rS G tb sb L S)) (hdt : (rF L).dj (rTab F tb s)) (hd : (rF L).dj (rS G tb sb L S)) (k n : Nat) (b : Bytes) (Ab : Option Addr) (cb : Nat) (hm : (Value.slice Ab b.length cb, b) ∈ L) (hk : k < 1000) (hn : n < 1000000) (hb : b.length <= 2048) (ho : S.over = false) (hnk : s.keys.length < 900000) (hnb : s.boxes.length < 900000) :
   Calls Try.prog 29 #[pt sb 0, .int .u64 (k : Int), .int .i64 (n : Int), .slice Ab b.length cb] w (SealPostR F G tb sb w L (sealT s S k n b) S (sealF s S n)) := by
 have h00 := twoF hT hv hL hts hdt hd
 obtain ⟨c1, c2, A, cap, xs, fb, bx, hS, hG, h01⟩ := h00.openS 1 rfl
 obtain ⟨me, peer, sid, ko, eo, ki, ei, qu, sent, got, fr, ov⟩ := S
 obtain rfl : ov = false := ho
 obtain ⟨Ko, rfl⟩ := kl_of ko hS.ko
 obtain ⟨Ki, rfl⟩ := kl_of ki hS.ki
 have hcl := cont_len k n b
 have h01 := h01.roF 0 rfl hm
 have h0 := h01
 refine enter 64 Try.func29 rfl rfl ?_
 refine wp_reset 68 [(0, (pt sb 0)), (1, (Value.int .u64 ((k : Int)))), (2, (Value.int .i64 ((n : Int)))), (3, (Value.slice Ab b.length cb))] (fun x0 => ?_)
 refine wp_seq_k fun K1 hK1 => reg_lit ?_
 refine wq_to (some 8) (xN h0 38 ([(Value.string ByteArray.empty), (Value.string ByteArray.empty), (Value.int .i64 0), (Value.int .i64 0), (Value.int .i64 0), (Value.slice none 0 0)])) ?_
 rintro _ w2 ⟨g2, rfl, h2⟩
 refine wq_p 1 [(9, (Value.int .i64 0))] ?_
 refine wl_end rfl (seq_n hK1 (wp_seq_k fun K3 hK3 => reg_lit ?_))
 refine wq_p 3 [(16, (pt sb 4)), (15, (pt sb 0)), (14, (pt sb 0))] (wq_v (some 17) (pt c1 0) (eL (h2.at_ 1 rfl) 73 (.tmp 16) 4 _) ?_)
 refine wq_to (some 18) (x_rkey h2 6 2 rfl rfl (by kernel_rfl) (by kernel_rfl) (by omega)) ?_
 rintro _ w4 ⟨K4, F4, s4, rfl, hK4, hs4, h4⟩
 have e4 := made_boxes hs4
 have hnb2 : s4.boxes.length < 1000000 := by rw [e4.1]; omega
 refine wq_p 3 [(20, (Value.int .i64 0)), (19, (Value.agg (vb (kl K4)).toArray)), (13, (Value.tuple #[(Value.agg (vb (kl K4)).toArray), (Value.int .i64 0)]))] ?_
 refine wq_to (some 10) (xN h4 59 (vb (List.replicate 16 0))) ?_
 rintro _ w5 ⟨g5, rfl, h5⟩
 refine wq_to none (xSs h5 0 59 (.tmp 10) (.tmp 19) 0 (vb (kl K4)) (vb (kl K4))) ?_
 rintro _ w6 h6
 refine wq_p 1 [(11, (Value.int .i64 0))] ?_
 refine wl_end rfl (seq_n hK3 (wp_seq_k fun K7 hK7 => wp_seq_k fun K8 hK8 => reg_lit ?_))
 refine wq_p 2 [(22, (Value.bool false)), (21, (Value.int .i64 0))] ?_
 refine wl_end rfl (seq_n hK8 (cF (wp_skip (seq_n hK7 (wp_seq_k fun K9 hK9 => reg_lit ?_)))))
 refine wq_p 1 [(26, (Value.int .u64 ((k : Int))))] ?_
 refine wq_to (some 27) (x_dp h6 43 [(Value.int .u64 ((k : Int)))] (by kernel_rfl) (dnum_any k _)) ?_
 rintro _ w10 ⟨rfl, h10⟩
 refine wq_p 1 [(28, (Value.int .i64 ((n : Int))))] (wq_v (some 29) (Value.int .u64 ((n : Int))) (eqI (Value.int .u64 (IntKind.u64.wrap ((n : Int)))) (wrap_u64_is (by omega) (by omega))) ?_)
 refine wq_to (some 30) (x_dp h10 43 [(Value.int .u64 ((n : Int)))] (by kernel_rfl) (dnum_any n _)) ?_
 rintro _ w11 ⟨rfl, h11⟩
 refine wq_p 1 [(31, (Value.slice Ab b.length cb))] ?_
 refine wq_to (some 32) (x_raw h11 44 [(Value.slice Ab b.length cb)] (by kernel_rfl) (draw_any (Value.slice Ab b.length cb) b _ (h11.rd 0 rfl) (by omega))) ?_
 rintro _ w12 ⟨A12, c12, rfl, h12⟩
 refine wq_to (some 33) (x_bs h12 100 ([(Value.int .i64 0), (Value.int .i64 0), (Value.int .u64 ((k : Int))), (Value.slice none 0 0), (Value.slice none 0 0), (Value.int .i64 0), (Value.int .i64 0), (Value.int .u64 ((n : Int))), (Value.slice none 0 0), (Value.slice none 0 0), (Value.int .i64 1), (Value.int .i64 0), (Value.int .u64 0), (Value.slice A12 b.length c12), (Value.slice none 0 0)]) 3 (by kernel_rfl)) ?_
 rintro _ w13 ⟨g13, rfl, h13⟩
 refine wq_to (some 34) (x_dp h13 42 [(Value.int .i64 1), (Value.slice (some ⟨g13, 0, none⟩) 3 3)] (by kernel_rfl) (dseq_any 1 (some ⟨g13, 0, none⟩) 3 3 _)) ?_
 rintro _ w14 ⟨rfl, h14⟩
 refine wq_to (some 35) (x_wr h14 41 [(Value.agg ([(Value.int .i64 2), (Value.int .i64 1), (Value.int .u64 0), (Value.slice none 0 0), (Value.slice (some ⟨g13, 0, none⟩) 3 3)]).toArray)] (by kernel_rfl) (Write_any _ _ (contV k n b) _ (dv_cont (by omega) (by omega) (h14.at_ 0 rfl) (h14.at_ 1 rfl)) (cont_right k n b) (by omega))) ?_
 rintro _ w15 ⟨A15, c15, rfl, h15⟩
 refine wq_p 5 [(11, (Value.int .i64 0)), (12, (Value.slice A15 ((wrV (contV k n b)).length) c15)), (37, (Value.int .i64 0)), (36, (Value.slice A15 ((wrV (contV k n b)).length) c15)), (25, (Value.tuple #[(Value.slice A15 ((wrV (contV k n b)).length) c15), (Value.int .i64 0)]))] ?_
 refine wl_end rfl (seq_n hK9 (wp_seq_k fun K16 hK16 => wp_seq_k fun K17 hK17 => ?_))
 refine wp_reset 68 [(0, (pt sb 0)), (1, (Value.int .u64 ((k : Int)))), (2, (Value.int .i64 ((n : Int)))), (3, (Value.slice Ab b.length cb)), (8, (pt g2 0)), (9, (Value.int .i64 0)), (10, (pt g5 0)), (11, (Value.int .i64 0)), (12, (Value.slice A15 ((wrV (contV k n b)).length) c15)), (22, (Value.bool false))] (fun x18 => ?_)
 refine reg_lit ?_
 refine wq_p 2 [(39, (Value.bool false)), (38, (Value.int .i64 0))] ?_
 refine wl_end rfl (seq_n hK17 (cF (wp_skip (seq_n hK16 (wp_seq_k fun K19 hK19 => ?_)))))
 refine pR_go h15 26 (fun W => (rBlk sb 77 ([(Value.iface 28 (pt tb 0)), (Value.string me), (Value.string peer), (Value.int .i64 sid), (pt c1 0), (pt c2 0), (Value.slice A qu.length cap), (Value.int .i64 ((sent : Int))), (Value.int .i64 ((got : Int))), (frV fb), (Value.bool false)])).Φ W /\ (rBlk g5 59 (vb (kl K4))).Φ W /\ True) [(43, [0], 0), (44, [42], 1), (45, [43], 2), (46, [44], 4), (47, [0], 0), (48, [46], 16), (49, [47], 32), (50, [48], 64), (51, [0], 0), (52, [50], 256), (53, [51], 512), (54, [52], 1024), (55, [0], 0), (56, [54], 4096), (57, [55], 8192), (58, [56], 16384), (59, [57], 32768), (60, [2], 0), (61, [0], 0), (62, [60], 262144), (63, [61], 524288), (64, [62], 1048576), (65, [10], 0), (66, [12], 0), (67, [63, 64, 65], 14745600), (68, [45, 49, 53, 58, 59, 66], 16976008), (0, [8, 67], 67108863), (10, [], 134217727)] rfl (fun _ d _ _ _ h => by cases d <;> exact h) ?_
 intro hs20 w20 h20
 refine pR_p 11 [0, 1, 2, 4, 5, 6, 8, 9, 10, 12, 13, 14, 17, 18, 19, 20, 23] [(65, (Value.slice A15 ((wrV (contV k n b)).length) c15)), (62, (pt sb 0)), (61, (pt sb 0)), (60, (pt sb 0)), (59, (Value.int .i64 ((n : Int)))), (56, (pt sb 4)), (55, (pt sb 0)), (54, (pt sb 0)), (52, (pt sb 3)), (51, (pt sb 0)), (50, (pt sb 0)), (48, (pt sb 2)), (47, (pt sb 0)), (46, (pt sb 0)), (44, (pt sb 1)), (43, (pt sb 0)), (42, (pt sb 0))] 10385271 hs20 ⟨h20.at_ 5 rfl, h20.at_ 3 rfl, trivial⟩ ?_
 refine pR_v 3 (some 45) (Value.string me) 10385279 rfl hs20 ⟨h20.at_ 5 rfl, h20.at_ 3 rfl, trivial⟩ (fun W hW => eL hW.1 9 (.tmp 44) 1 _) ?_
 refine pR_v 7 (some 49) (Value.string peer) 10385407 rfl hs20 ⟨h20.at_ 5 rfl, h20.at_ 3 rfl, trivial⟩ (fun W hW => eL hW.1 9 (.tmp 48) 2 _) ?_
 refine pR_v 11 (some 53) (Value.int .i64 sid) 10387455 rfl hs20 ⟨h20.at_ 5 rfl, h20.at_ 3 rfl, trivial⟩ (fun W hW => eL hW.1 2 (.tmp 52) 3 _) ?_
 refine pR_v 15 (some 57) (pt c1 0) 10420223 rfl hs20 ⟨h20.at_ 5 rfl, h20.at_ 3 rfl, trivial⟩ (fun W hW => eL hW.1 73 (.tmp 56) 4 _) ?_
 refine pR_v 21 (some 63) (Value.iface 28 (pt tb 0)) 12517375 rfl hs20 ⟨h20.at_ 5 rfl, h20.at_ 3 rfl, trivial⟩ (fun W hW => eL hW.1 72 (.tmp 62) 0 _) ?_
 refine pR_v 22 (some 64) (Value.agg (vb (kl K4)).toArray) 16711679 rfl hs20 ⟨h20.at_ 5 rfl, h20.at_ 3 rfl, trivial⟩ (fun W hW => eLs hW.2.1 59 (.tmp 10) 0 (vb (kl K4))) ?_
 refine pR_to 16 (some 58) 16777215 rfl hs20 (x_repoch h20 6 rfl (by kernel_rfl)) ?_
 rintro _ w21 ⟨rfl, h21⟩
 refine ⟨fun _ => ⟨h21.at_ 5 rfl, h21.at_ 3 rfl, trivial⟩, ?_⟩
 refine pR_to 24 (some 66) 33554431 rfl hs20 (x_sealS h21 10 rfl K4 14 (wrV (contV k n b)) (Value.slice A15 ((wrV (contV k n b)).length) c15) (by kernel_rfl) (OB.sb (h21.at_ 0 rfl)) (by omega) hnb2) ?_
 rintro _ w22 ⟨A22, c22, F22, s22, rfl, hs22, h22⟩
 refine ⟨fun _ => ⟨h22.at_ 6 rfl, h22.at_ 4 rfl, trivial⟩, ?_⟩
 refine pR_p 2 [25] [(67, (Value.agg ([(Value.string me), (Value.string peer), (Value.int .i64 sid), (Value.int .i64 ((eo : Int))), (Value.int .i64 ((n : Int))), (Value.slice A22 16 c22)]).toArray))] 67108863 hs20 ⟨h22.at_ 6 rfl, h22.at_ 4 rfl, trivial⟩ ?_
 refine pR_to 26 none 134217727 rfl hs20 (xSs h22 5 38 (.tmp 8) (.tmp 67) 0 ([(Value.string me), (Value.string peer), (Value.int .i64 sid), (Value.int .i64 ((eo : Int))), (Value.int .i64 ((n : Int))), (Value.slice A22 16 c22)]) ([(Value.string me), (Value.string peer), (Value.int .i64 sid), (Value.int .i64 ((eo : Int))), (Value.int .i64 ((n : Int))), (Value.slice A22 16 c22)])) ?_
 rintro _ w23 h23
 refine ⟨fun h => absurd h (by decide), ?_⟩
 refine pR_to 27 (some 9) 268435455 rfl hs20 (OpTo.run (Value.int .i64 0) (pureOp_run (by kernel_rfl) _) (R := fun v w => v = (Value.int .i64 0) /\ w23 = w) ⟨rfl, rfl⟩) ?_
 rintro _ _ ⟨rfl, rfl⟩
 refine ⟨fun h => absurd h (by decide), ?_⟩
 refine pR_done hs20 ?_ _
 refine seq_n hK19 (wp_ret ?_)
 refine post_2 rfl (by kernel_rfl) (rce (h23.at_ 5 rfl)) (rtm (Value.int .i64 0)) ?_
 have hz1 := (show Hp _ _ _ _ (lSes tb sb c1 c2 A cap xs fb bx (Ses.mk me peer sid (kl Ko) eo (kl Ki) ei qu sent got fr false) ++ [rTab F22 tb s22, rSB (Value.slice A22 16 c22) (mkB 98 (s4.boxes.length + 1))]) from h23.sel [6, 7, 8, 9, 10, 11, 0] [1] rfl rfl rfl).closeS hS
 have hx1 := hz1.lext (LExt.refl (fun q => F q ∨ G q) w L) 2 (v := (Value.slice A22 16 c22)) (b := mkB 98 (s4.boxes.length + 1)) rfl (fun _ hq => hq)
 have hz2 := (hz1.freeze 0 rfl 2 (v := (Value.slice A22 16 c22)) (b := mkB 98 (s4.boxes.length + 1)) rfl (fun hb => hb) (fun _ hq => hq)).monoS 0 rfl (L' := ((Value.slice A22 16 c22), mkB 98 (s4.boxes.length + 1)) :: L) (fun p hp => List.mem_cons_of_mem _ hp)
 have ebx : mkB 98 (s4.boxes.length + 1) = mkB 98 (s.boxes.length + 1) := by rw [e4.1]
 have elk : (mkB 98 (s.boxes.length + 1)).length = 16 := mkB_len _ _
 rw [hs22, hs4, hK4] at hz2
 rw [← hs4, ebx] at hz2
 rw [ebx] at hx1
 rw [hs4] at hz2
 refine ⟨A22, c22, F22, _, _, ?_, ?_, hx1, hz2.sel [1, 0] [0] rfl rfl rfl⟩
 · show _ = Ending.returned (.tuple #[.agg (Frm.cells _ (.slice _ (mkB 98 (s.boxes.length + 1)).length _)).toArray, _])
   rw [elk]; rfl
 · show (Value.slice _ (mkB 98 (s.boxes.length + 1)).length _, _) ∈ _
   rw [elk]; exact List.mem_cons_self
end
section
open Go.RowKit Go.QT
/-- What a call leaves that holds the table and a session: R says what it answers. -/
def Post2 (F G : Nat -> Prop) (tb sb : Nat) (w : World) (L : List (Value × Bytes)) (s' : STab) (S' : Ses) (R : List (Value × Bytes) -> Value -> Prop) (e : Ending) (w' : World) : Prop :=
 ∃ u F' G' L', e = .returned u /\ R L' u /\ LExt (fun q => F q ∨ G q) w L L' /\ Hp (fun q => F q ∨ G q) w w' [rF L'] [rTab F' tb s', rS G' tb sb L' S']
def FrmAt (L : List (Value × Bytes)) (f : Frm) (cs : List Value) : Prop := ∃ A c, cs = f.cells (.slice A f.box.length c) /\ (Value.slice A f.box.length c, f.box) ∈ L
theorem FrOk.noneE {L : List (Value × Bytes)} {fb : Option Nat} {v : Value} (h : FrOk L none fb v) : fb = none := by
 cases fb with
 | none => rfl
 | some g => exact h.elim
theorem FrOk.someE {L : List (Value × Bytes)} {f : Frm} {fb : Option Nat} {v : Value} (h : FrOk L (some f) fb v) : ∃ g, fb = some g := by
 cases fb with
 | none => exact h.elim
 | some g => exact ⟨g, rfl⟩
section
variable {F0 F G : Nat -> Prop} {w0 w w' : World} {ro rs : List Res} {tb sb : Nat} {s s' : STab} {L L' : List (Value × Bytes)} {S S' : Ses} {o : Oper} {a : Act} {P : Program} {R : List (Value × Bytes) -> Value -> Prop}
theorem seal2 {f : Frm} {e : Ending} (h : SealPostR F G tb sb w L s' S f e w') : Post2 F G tb sb w L s' S (fun L' u => ∃ cs, u = .tuple #[.agg cs.toArray, .int .i64 0] /\ FrmAt L' f cs) e w' := by
 obtain ⟨A, c, F', G', L', he, hm, hx, h2⟩ := h
 exact ⟨_, F', G', L', he, ⟨_, rfl, A, c, rfl, hm⟩, hx, h2⟩
theorem LExt.then2 (h : Hp F0 w0 w ro rs) (i j : Nat) {r t : Res} (hi : rs[i]? = some r) (hj : rs[j]? = some t) (hL : LExt (fun q => r.F q ∨ t.F q) w L L') {L0 : List (Value × Bytes)} (h0 : LExt F0 w0 L0 L) : LExt F0 w0 L0 L' :=
 ⟨fun p hp => hL.sub p (h0.sub p hp), fun q hq => by
   rcases hL.new q hq with h1 | (h1 | h1) | h1
   · exact h0.new q h1
   · exact .inr (h.mine i r hi q h1)
   · exact .inr (h.mine j t hj q h1)
   · exact .inr (.inr (Nat.le_trans h.size h1))⟩
theorem x_two (h : Hp F0 w0 w ro rs) (i j : Nat) (hi : rs[i]? = some (rTab F tb s)) (hj : rs[j]? = some (rS G tb sb L S)) (hij : decide (i ≠ j) = true) (k : Nat) (hk : ro[k]? = some (rF L)) (fn : FuncId) (al : List Value) (hp : pureVal P (execOp a.eval o) = some (.enter fn al.toArray)) (hc : Calls P fn al.toArray w (Post2 F G tb sb w L s' S' R)) :
   OpTo P o a w (fun u w' => ∃ F' G' L', R L' u /\ (∀ p, p ∈ L -> p ∈ L') /\ (∀ L0, LExt F0 w0 L0 L -> LExt F0 w0 L0 L') /\ Hp F0 w0 w' (rF L' :: ro) ((rs.set i (rTab F' tb s')).set j (rS G' tb sb L' S'))) :=
 OpTo.enter fn al hp hc fun e w' hq => by
   obtain ⟨u, F', G', L', he, hR, hL, h2⟩ := hq
   exact ⟨u, he, F', G', L', hR, hL.sub, fun L0 h0 => LExt.then2 h i j hi hj hL h0, h.callF2 i j hi hj (of_decide_eq_true hij) k hk h2 hL⟩
end
end
section
open Go.RowKit Go.QT
/-- What has come, with the mark f that answers. -/
def comeM (cs : List Value) : List Value := [.slice none 0 0, .bool false] ++ cs ++ [.bool true]
theorem sanswer_any {F G : Nat -> Prop} {tb sb : Nat} {s : STab} {L : List (Value × Bytes)} {S : Ses} {w : World} (hT : (rTab F tb s).Φ w) (hv : (rS G tb sb L S).Φ w) (hL : (rF L).Φ w) (hts : (rTab F tb s).dj (rS G tb sb L S)) (hdt : (rF L).dj (rTab F tb s)) (hd : (rF L).dj (rS G tb sb L S)) (hnil : (Value.slice none 0 0, ([] : Bytes)) ∈ L) (hg : S.got < 1000000) (ho : S.over = false) (hnk : s.keys.length < 900000) (hnb : s.boxes.length < 900000) :
   Calls Try.prog 32 #[pt sb 0] w (Post2 F G tb sb w L (sealT s S 2 S.got []) S (fun L' u => ∃ cs, u = .agg (comeM cs).toArray /\ FrmAt L' (sealF s S S.got) cs)) := by
 have h00 := twoF hT hv hL hts hdt hd
 have h0 := h00
 refine enter 18 Try.func32 rfl rfl ?_
 refine wp_reset 19 [(0, (pt sb 0))] (fun x0 => ?_)
 refine wp_seq_k fun K1 hK1 => reg_lit ?_
 refine wq_to (some 2) (xN h0 42 ([(Value.slice none 0 0), (Value.bool false), (Value.string ByteArray.empty), (Value.string ByteArray.empty), (Value.int .i64 0), (Value.int .i64 0), (Value.int .i64 0), (Value.slice none 0 0), (Value.bool false)])) ?_
 rintro _ w2 ⟨g2, rfl, h2⟩
 refine wl_end rfl (seq_n hK1 (wp_seq_k fun K3 hK3 => ?_))
 obtain ⟨c1_4, c2_4, A_4, cap_4, xs_4, fb_4, bx_4, hS_4, hG_4, h4⟩ := h2.openS 2 rfl
 clear hG_4
 refine reg_lit ?_
 refine wq_p 4 [(9, (pt sb 8)), (8, (pt sb 0)), (7, (pt sb 0)), (6, (pt sb 0))] (wq_v (some 10) (Value.int .i64 ((S.got : Int))) (eL (h4.at_ 0 rfl) 2 (.tmp 9) 8 _) ?_)
 have h5 := (show Hp _ _ _ _ (lSes tb sb c1_4 c2_4 A_4 cap_4 xs_4 fb_4 bx_4 S ++ [rBlk g2 42 ([(Value.slice none 0 0), (Value.bool false), (Value.string ByteArray.empty), (Value.string ByteArray.empty), (Value.int .i64 0), (Value.int .i64 0), (Value.int .i64 0), (Value.slice none 0 0), (Value.bool false)]), rTab F tb s]) from h4.sel [0, 1, 2, 3, 4, 5, 6] [0] rfl rfl rfl).closeS hS_4
 refine wq_to (some 11) (x_two h5 2 0 rfl rfl rfl 0 rfl 29 [(pt sb 0), (Value.int .u64 2), (Value.int .i64 ((S.got : Int))), (Value.slice none 0 0)] (by kernel_rfl) ((sseal_any (h5.at_ 2 rfl) (h5.at_ 0 rfl) (h5.rd 0 rfl) (h5.dis 2 0 _ _ rfl rfl (by decide)) (h5.rdis 0 2 _ _ rfl rfl) (h5.rdis 0 0 _ _ rfl rfl) 2 S.got [] none 0 hnil (by omega) hg (by simp) ho hnk hnb).mono fun _ _ hq => seal2 hq)) ?_
 rintro _ w6 ⟨F6, G6, L6, ⟨_, rfl, A6, c6, rfl, hm6⟩, hs6, hx6, h6⟩
 refine wq_p 3 [(13, (Value.int .i64 0)), (12, (Value.agg ([(Value.string S.me), (Value.string S.peer), (Value.int .i64 S.sid), (Value.int .i64 ((S.eo : Int))), (Value.int .i64 ((S.got : Int))), (Value.slice A6 16 c6)]).toArray)), (5, (Value.tuple #[(Value.agg ([(Value.string S.me), (Value.string S.peer), (Value.int .i64 S.sid), (Value.int .i64 ((S.eo : Int))), (Value.int .i64 ((S.got : Int))), (Value.slice A6 16 c6)]).toArray), (Value.int .i64 0)]))] ?_
 refine wq_to (some 3) (xN h6 38 ([(Value.string ByteArray.empty), (Value.string ByteArray.empty), (Value.int .i64 0), (Value.int .i64 0), (Value.int .i64 0), (Value.slice none 0 0)])) ?_
 rintro _ w7 ⟨g7, rfl, h7⟩
 refine wq_to none (xSs h7 0 38 (.tmp 3) (.tmp 12) 0 ([(Value.string S.me), (Value.string S.peer), (Value.int .i64 S.sid), (Value.int .i64 ((S.eo : Int))), (Value.int .i64 ((S.got : Int))), (Value.slice A6 16 c6)]) ([(Value.string S.me), (Value.string S.peer), (Value.int .i64 S.sid), (Value.int .i64 ((S.eo : Int))), (Value.int .i64 ((S.got : Int))), (Value.slice A6 16 c6)])) ?_
 rintro _ w8 h8
 refine wq_p 1 [(4, (Value.int .i64 0))] ?_
 refine wl_end rfl (seq_n hK3 (wp_seq_k fun K9 hK9 => wp_seq_k fun K10 hK10 => reg_lit ?_))
 refine wq_p 2 [(15, (Value.bool false)), (14, (Value.int .i64 0))] ?_
 refine wl_end rfl (seq_n hK10 (cF (wp_skip (seq_n hK9 (wp_seq_k fun K11 hK11 => reg_lit ?_)))))
 refine wq_v (some 17) (Value.agg ([(Value.string S.me), (Value.string S.peer), (Value.int .i64 S.sid), (Value.int .i64 ((S.eo : Int))), (Value.int .i64 ((S.got : Int))), (Value.slice A6 16 c6)]).toArray) (eLs (h8.at_ 0 rfl) 38 (.tmp 3) 0 ([(Value.string S.me), (Value.string S.peer), (Value.int .i64 S.sid), (Value.int .i64 ((S.eo : Int))), (Value.int .i64 ((S.got : Int))), (Value.slice A6 16 c6)])) (wq_p 1 [(18, (Value.agg ([(Value.slice none 0 0), (Value.bool false), (Value.string S.me), (Value.string S.peer), (Value.int .i64 S.sid), (Value.int .i64 ((S.eo : Int))), (Value.int .i64 ((S.got : Int))), (Value.slice A6 16 c6), (Value.bool true)]).toArray))] ?_)
 refine wq_to none (xSs h8 2 42 (.tmp 2) (.tmp 18) 0 ([(Value.slice none 0 0), (Value.bool false), (Value.string S.me), (Value.string S.peer), (Value.int .i64 S.sid), (Value.int .i64 ((S.eo : Int))), (Value.int .i64 ((S.got : Int))), (Value.slice A6 16 c6), (Value.bool true)]) ([(Value.slice none 0 0), (Value.bool false), (Value.string S.me), (Value.string S.peer), (Value.int .i64 S.sid), (Value.int .i64 ((S.eo : Int))), (Value.int .i64 ((S.got : Int))), (Value.slice A6 16 c6), (Value.bool true)])) ?_
 rintro _ w12 h12
 refine wl_end rfl (seq_n hK11 (wp_ret ?_))
 refine post_1 rfl (by kernel_rfl) (rce (h12.at_ 2 rfl)) ?_
 exact ⟨_, _, _, _, rfl, ⟨_, rfl, A6, c6, rfl, hm6⟩, (hx6 _ (LExt.refl (fun q => F q ∨ G q) w L)), h12.sel [3, 1] [0] rfl rfl rfl⟩
end
section
open Go.RowKit Go.QT
def zFrm : List Value := [.string ByteArray.empty, .string ByteArray.empty, .int .i64 0, .int .i64 0, .int .i64 0, .slice none 0 0]
theorem sSend_over {F G : Nat -> Prop} {tb sb : Nat} {s : STab} {L : List (Value × Bytes)} {S : Ses} {w : World} (hT : (rTab F tb s).Φ w) (hv : (rS G tb sb L S).Φ w) (hL : (rF L).Φ w) (hts : (rTab F tb s).dj (rS G tb sb L S)) (hdt : (rF L).dj (rTab F tb s)) (hd : (rF L).dj (rS G tb sb L S)) (ho : S.over = true) :
   Calls Try.prog 11 #[pt sb 0] w (Post2 F G tb sb w L s S (fun _ u => u = .tuple #[.agg zFrm.toArray, .bool false])) := by
 have h00 := twoF hT hv hL hts hdt hd
 have h0 := h00
 refine enter 94 Try.func11 rfl rfl ?_
 refine wp_reset 95 [(0, (pt sb 0))] (fun x0 => ?_)
 refine wp_seq_k fun K1 hK1 => reg_lit ?_
 refine wq_to (some 2) (xN h0 38 ([(Value.string ByteArray.empty), (Value.string ByteArray.empty), (Value.int .i64 0), (Value.int .i64 0), (Value.int .i64 0), (Value.slice none 0 0)])) ?_
 rintro _ w2 ⟨g2, rfl, h2⟩
 refine wq_p 1 [(3, (Value.bool false))] ?_
 refine wl_end rfl (seq_n hK1 (wp_seq_k fun K3 hK3 => wp_seq_k fun K4 hK4 => ?_))
 obtain ⟨c1_5, c2_5, A_5, cap_5, xs_5, fb_5, bx_5, hS_5, hG_5, h5⟩ := h2.openS 2 rfl
 clear hG_5
 refine reg_lit ?_
 refine wq_p 3 [(8, (pt sb 10)), (7, (pt sb 0)), (6, (pt sb 0))] (wq_v (some 9) (Value.bool S.over) (eL (h5.at_ 0 rfl) 4 (.tmp 8) 10 _) ?_)
 refine wl_end rfl (seq_n hK4 ?_)
 refine wp_cond_true (by rw [ho]; kernel_rfl) ?_
 refine wp_seq_k fun K6 hK6 => reg_lit ?_
 refine wq_p 1 [(10, (Value.agg ([(Value.string ByteArray.empty), (Value.string ByteArray.empty), (Value.int .i64 0), (Value.int .i64 0), (Value.int .i64 0), (Value.slice none 0 0)]).toArray))] ?_
 refine wq_to none (xSs h5 5 38 (.tmp 2) (.tmp 10) 0 ([(Value.string ByteArray.empty), (Value.string ByteArray.empty), (Value.int .i64 0), (Value.int .i64 0), (Value.int .i64 0), (Value.slice none 0 0)]) ([(Value.string ByteArray.empty), (Value.string ByteArray.empty), (Value.int .i64 0), (Value.int .i64 0), (Value.int .i64 0), (Value.slice none 0 0)])) ?_
 rintro _ w7 h7
 refine wq_p 1 [(3, (Value.bool false))] ?_
 refine wl_end rfl (seq_n hK6 (wp_ret (seq_r ?_)))
 refine post_2 rfl (by kernel_rfl) (rce (h7.at_ 5 rfl)) (rtm (Value.bool false)) ?_
 have h8 := (show Hp _ _ _ _ (lSes tb sb c1_5 c2_5 A_5 cap_5 xs_5 fb_5 bx_5 S ++ [rBlk g2 38 ([(Value.string ByteArray.empty), (Value.string ByteArray.empty), (Value.int .i64 0), (Value.int .i64 0), (Value.int .i64 0), (Value.slice none 0 0)]), rTab F tb s]) from h7.sel [0, 1, 2, 3, 4, 5, 6] [0] rfl rfl rfl).closeS hS_5
 exact ⟨_, _, _, _, rfl, rfl, (LExt.refl (fun q => F q ∨ G q) w L), h8.sel [2, 0] [0] rfl rfl rfl⟩
theorem sSend_frame {F G : Nat -> Prop} {tb sb : Nat} {s : STab} {L : List (Value × Bytes)} {S : Ses} {w : World} (hT : (rTab F tb s).Φ w) (hv : (rS G tb sb L S).Φ w) (hL : (rF L).Φ w) (hts : (rTab F tb s).dj (rS G tb sb L S)) (hdt : (rF L).dj (rTab F tb s)) (hd : (rF L).dj (rS G tb sb L S)) (f : Frm) (ho : S.over = false) (hf : S.frame = some f) :
   Calls Try.prog 11 #[pt sb 0] w (Post2 F G tb sb w L s S (fun L' u => ∃ cs, u = .tuple #[.agg cs.toArray, .bool true] /\ FrmAt L' f cs)) := by
 have h00 := twoF hT hv hL hts hdt hd
 obtain ⟨me, peer, sid, ko, eo, ki, ei, qu, sent, got, fr, ov⟩ := S
 obtain rfl : ov = false := ho
 obtain ⟨Ko, hKo⟩ := kl_of ko (rS_ko hv)
 obtain ⟨Ki, hKi⟩ := kl_of ki (rS_ki hv)
 subst hKo; subst hKi
 obtain rfl : fr = some f := hf
 have h0 := h00
 refine enter 94 Try.func11 rfl rfl ?_
 refine wp_reset 95 [(0, (pt sb 0))] (fun x0 => ?_)
 refine wp_seq_k fun K1 hK1 => reg_lit ?_
 refine wq_to (some 2) (xN h0 38 ([(Value.string ByteArray.empty), (Value.string ByteArray.empty), (Value.int .i64 0), (Value.int .i64 0), (Value.int .i64 0), (Value.slice none 0 0)])) ?_
 rintro _ w2 ⟨g2, rfl, h2⟩
 refine wq_p 1 [(3, (Value.bool false))] ?_
 refine wl_end rfl (seq_n hK1 (wp_seq_k fun K3 hK3 => wp_seq_k fun K4 hK4 => ?_))
 obtain ⟨c1_5, c2_5, A_5, cap_5, xs_5, fb_5, bx_5, hS_5, hG_5, h5⟩ := h2.openS 2 rfl
 clear hG_5
 obtain ⟨g_5, rfl⟩ := hS_5.f.someE
 obtain ⟨⟨Af_5, cf_5, rfl⟩, hfm_5⟩ := hS_5.f
 refine reg_lit ?_
 refine wq_p 3 [(8, (pt sb 10)), (7, (pt sb 0)), (6, (pt sb 0))] (wq_v (some 9) (Value.bool false) (eL (h5.at_ 0 rfl) 4 (.tmp 8) 10 _) ?_)
 refine wl_end rfl (seq_n hK4 (cF (wp_skip (seq_n hK3 (wp_seq_k fun K6 hK6 => wp_seq_k fun K7 hK7 => reg_lit ?_)))))
 refine wq_p 3 [(13, (pt sb 9)), (12, (pt sb 0)), (11, (pt sb 0))] (wq_v (some 14) (pt g_5 0) (eL (h5.at_ 0 rfl) 75 (.tmp 13) 9 _) (wq_p 9 [(23, (Value.bool false)), (22, undef), (21, undef), (20, undef), (19, undef), (18, undef), (17, undef), (16, (Value.bool false)), (15, (Value.bool false))] ?_))
 refine wl_end rfl (seq_n hK7 (cF (wp_skip (seq_n hK6 (wp_seq_k fun K8 hK8 => wp_seq_k fun K9 hK9 => reg_lit ?_)))))
 refine wq_p 3 [(85, (pt sb 9)), (84, (pt sb 0)), (83, (pt sb 0))] (wq_v (some 86) (pt g_5 0) (eL (h5.at_ 0 rfl) 75 (.tmp 85) 9 _) (wq_p 1 [(87, (Value.bool false))] ?_))
 refine wl_end rfl (seq_n hK9 (cF (wp_skip (seq_n hK8 (wp_seq_k fun K10 hK10 => reg_lit ?_)))))
 refine wq_p 3 [(91, (pt sb 9)), (90, (pt sb 0)), (89, (pt sb 0))] (wq_v (some 92) (pt g_5 0) (eL (h5.at_ 0 rfl) 75 (.tmp 91) 9 _) (wq_p 1 [(93, (pt g_5 0))] (wq_v (some 94) (Value.agg ([(Value.string f.src), (Value.string f.dst), (Value.int .i64 f.sid), (Value.int .i64 f.epoch), (Value.int .i64 f.seq), (Value.slice Af_5 f.box.length cf_5)]).toArray) (eLs (h5.at_ 4 rfl) 38 (.tmp 93) 0 ([(Value.string f.src), (Value.string f.dst), (Value.int .i64 f.sid), (Value.int .i64 f.epoch), (Value.int .i64 f.seq), (Value.slice Af_5 f.box.length cf_5)])) ?_)))
 refine wq_to none (xSs h5 5 38 (.tmp 2) (.tmp 94) 0 ([(Value.string f.src), (Value.string f.dst), (Value.int .i64 f.sid), (Value.int .i64 f.epoch), (Value.int .i64 f.seq), (Value.slice Af_5 f.box.length cf_5)]) ([(Value.string f.src), (Value.string f.dst), (Value.int .i64 f.sid), (Value.int .i64 f.epoch), (Value.int .i64 f.seq), (Value.slice Af_5 f.box.length cf_5)])) ?_
 rintro _ w11 h11
 refine wq_p 1 [(3, (Value.bool true))] ?_
 refine wl_end rfl (seq_n hK10 (wp_ret ?_))
 refine post_2 rfl (by kernel_rfl) (rce (h11.at_ 5 rfl)) (rtm (Value.bool true)) ?_
 have h12 := (show Hp _ _ _ _ (lSes tb sb c1_5 c2_5 A_5 cap_5 xs_5 (some g_5) (.slice Af_5 f.box.length cf_5) ((Ses.mk me peer sid (kl Ko) eo (kl Ki) ei qu sent got (some f) false)) ++ [rBlk g2 38 ([(Value.string f.src), (Value.string f.dst), (Value.int .i64 f.sid), (Value.int .i64 f.epoch), (Value.int .i64 f.seq), (Value.slice Af_5 f.box.length cf_5)]), rTab F tb s]) from h11.sel [0, 1, 2, 3, 4, 5, 6] [0] rfl rfl rfl).closeS hS_5
 exact ⟨_, _, _, _, rfl, ⟨_, rfl, Af_5, cf_5, rfl, hfm_5⟩, (LExt.refl (fun q => F q ∨ G q) w L), h12.sel [2, 0] [0] rfl rfl rfl⟩
theorem sSend_none {F G : Nat -> Prop} {tb sb : Nat} {s : STab} {L : List (Value × Bytes)} {S : Ses} {w : World} (hT : (rTab F tb s).Φ w) (hv : (rS G tb sb L S).Φ w) (hL : (rF L).Φ w) (hts : (rTab F tb s).dj (rS G tb sb L S)) (hdt : (rF L).dj (rTab F tb s)) (hd : (rF L).dj (rS G tb sb L S)) (ho : S.over = false) (hf : S.frame = none) (hq : S.queue = []) :
   Calls Try.prog 11 #[pt sb 0] w (Post2 F G tb sb w L s S (fun _ u => u = .tuple #[.agg zFrm.toArray, .bool false])) := by
 have h00 := twoF hT hv hL hts hdt hd
 obtain ⟨me, peer, sid, ko, eo, ki, ei, qu, sent, got, fr, ov⟩ := S
 obtain rfl : ov = false := ho
 obtain ⟨Ko, hKo⟩ := kl_of ko (rS_ko hv)
 obtain ⟨Ki, hKi⟩ := kl_of ki (rS_ki hv)
 subst hKo; subst hKi
 obtain rfl : fr = none := hf
 obtain rfl : qu = [] := hq
 have h0 := h00
 refine enter 94 Try.func11 rfl rfl ?_
 refine wp_reset 95 [(0, (pt sb 0))] (fun x0 => ?_)
 refine wp_seq_k fun K1 hK1 => reg_lit ?_
 refine wq_to (some 2) (xN h0 38 ([(Value.string ByteArray.empty), (Value.string ByteArray.empty), (Value.int .i64 0), (Value.int .i64 0), (Value.int .i64 0), (Value.slice none 0 0)])) ?_
 rintro _ w2 ⟨g2, rfl, h2⟩
 refine wq_p 1 [(3, (Value.bool false))] ?_
 refine wl_end rfl (seq_n hK1 (wp_seq_k fun K3 hK3 => wp_seq_k fun K4 hK4 => ?_))
 obtain ⟨c1_5, c2_5, A_5, cap_5, xs_5, fb_5, bx_5, hS_5, hG_5, h5⟩ := h2.openS 2 rfl
 clear hG_5
 obtain rfl : fb_5 = none := hS_5.f.noneE
 refine reg_lit ?_
 refine wq_p 3 [(8, (pt sb 10)), (7, (pt sb 0)), (6, (pt sb 0))] (wq_v (some 9) (Value.bool false) (eL (h5.at_ 0 rfl) 4 (.tmp 8) 10 _) ?_)
 refine wl_end rfl (seq_n hK4 (cF (wp_skip (seq_n hK3 (wp_seq_k fun K6 hK6 => wp_seq_k fun K7 hK7 => reg_lit ?_)))))
 refine wq_p 3 [(13, (pt sb 9)), (12, (pt sb 0)), (11, (pt sb 0))] (wq_v (some 14) (Value.pointer none) (eL (h5.at_ 0 rfl) 75 (.tmp 13) 9 _) (wq_p 5 [(19, (pt sb 6)), (18, (pt sb 0)), (17, (pt sb 0)), (16, (Value.bool true)), (15, (Value.bool true))] (wq_v (some 20) (Value.slice A_5 (([] : List (Nat × Bytes)).length) cap_5) (eL (h5.at_ 0 rfl) 74 (.tmp 19) 6 _) ?_)))
 refine wq_p 1 [(21, (Value.int .i64 ((([] : List (Nat × Bytes)).length : Int))))] (wq_v (some 22) (.bool false) (eqI (Value.bool (decide ((([] : List (Nat × Bytes)).length : Int) > 0))) rfl) (wq_p 1 [(23, (Value.bool false))] ?_))
 refine wl_end rfl (seq_n hK7 (cF (wp_skip (seq_n hK6 (wp_seq_k fun K8 hK8 => wp_seq_k fun K9 hK9 => reg_lit ?_)))))
 refine wq_p 3 [(85, (pt sb 9)), (84, (pt sb 0)), (83, (pt sb 0))] (wq_v (some 86) (Value.pointer none) (eL (h5.at_ 0 rfl) 75 (.tmp 85) 9 _) (wq_p 1 [(87, (Value.bool true))] ?_))
 refine wl_end rfl (seq_n hK9 (cT (wp_seq_k fun K10 hK10 => reg_lit ?_)))
 refine wq_p 1 [(88, (Value.agg ([(Value.string ByteArray.empty), (Value.string ByteArray.empty), (Value.int .i64 0), (Value.int .i64 0), (Value.int .i64 0), (Value.slice none 0 0)]).toArray))] ?_
 refine wq_to none (xSs h5 5 38 (.tmp 2) (.tmp 88) 0 ([(Value.string ByteArray.empty), (Value.string ByteArray.empty), (Value.int .i64 0), (Value.int .i64 0), (Value.int .i64 0), (Value.slice none 0 0)]) ([(Value.string ByteArray.empty), (Value.string ByteArray.empty), (Value.int .i64 0), (Value.int .i64 0), (Value.int .i64 0), (Value.slice none 0 0)])) ?_
 rintro _ w11 h11
 refine wq_p 1 [(3, (Value.bool false))] ?_
 refine wl_end rfl (seq_n hK10 (wp_ret (seq_r ?_)))
 refine post_2 rfl (by kernel_rfl) (rce (h11.at_ 5 rfl)) (rtm (Value.bool false)) ?_
 have h12 := (show Hp _ _ _ _ (lSes tb sb c1_5 c2_5 A_5 cap_5 xs_5 none bx_5 ((Ses.mk me peer sid (kl Ko) eo (kl Ki) ei ([] : List (Nat × Bytes)) sent got none false)) ++ [rBlk g2 38 ([(Value.string ByteArray.empty), (Value.string ByteArray.empty), (Value.int .i64 0), (Value.int .i64 0), (Value.int .i64 0), (Value.slice none 0 0)]), rTab F tb s]) from h11.sel [0, 1, 2, 3, 4, 5, 6] [0] rfl rfl rfl).closeS hS_5
 exact ⟨_, _, _, _, rfl, rfl, (LExt.refl (fun q => F q ∨ G q) w L), h12.sel [2, 0] [0] rfl rfl rfl⟩
end
section
open Go.RowKit Go.QT
/-- What a call leaves that holds the table alone. -/
def Post1 (F : Nat -> Prop) (tb : Nat) (w : World) (L : List (Value × Bytes)) (s' : STab) (R : List (Value × Bytes) -> Value -> Prop) (e : Ending) (w' : World) : Prop :=
 ∃ u F' L', e = .returned u /\ R L' u /\ LExt F w L L' /\ Hp F w w' [rF L'] [rTab F' tb s']
section
variable {F0 F : Nat -> Prop} {w0 w : World} {ro rs : List Res} {tb cb : Nat} {s s' : STab} {L : List (Value × Bytes)} {o : Oper} {a : Act} {P : Program} {R : List (Value × Bytes) -> Value -> Prop} {K : Fin 16 -> UInt8} {e : Int}
theorem x_one (h : Hp F0 w0 w ro rs) (i : Nat) (hi : rs[i]? = some (rTab F tb s)) (k : Nat) (hk : ro[k]? = some (rF L)) (fn : FuncId) (al : List Value) (hp : pureVal P (execOp a.eval o) = some (.enter fn al.toArray)) (hc : Calls P fn al.toArray w (Post1 F tb w L s' R)) :
   OpTo P o a w (fun u w' => ∃ F' L', R L' u /\ (∀ p, p ∈ L -> p ∈ L') /\ (∀ L0, LExt F0 w0 L0 L -> LExt F0 w0 L0 L') /\ Hp F0 w0 w' (rF L' :: ro) (rs.set i (rTab F' tb s'))) :=
 OpTo.enter fn al hp hc fun e w' hq => by
   obtain ⟨u, F', L', he, hR, hL, h2⟩ := hq
   exact ⟨u, he, F', L', hR, hL.sub, fun L0 h0 => LExt.then h i hi hL h0, h.callF i hi k hk h2 hL⟩
theorem x_rkeyR (h : Hp F0 w0 w ro rs) (i j : Nat) (hi : rs[i]? = some (rTab F tb s)) (hj : ro[j]? = some (rBlk cb 106 ([Value.iface 28 (pt tb 0)] ++ vb (kl K) ++ [Value.int .i64 e, Value.bool false]))) (hp : pureVal Try.prog (execOp a.eval o) = some (.enter 40 #[pt cb 0])) (hn : s.keys.length < 1000000) :
   OpTo Try.prog o a w (fun u w' => ∃ K' F' s', u = .tuple #[.agg (vb (kl K')).toArray, .int .i64 0] /\ kl K' = mkB 107 (s.num (deriveF (kl K) ⟨#[117, 115, 101]⟩)) /\ s' = s.made (deriveF (kl K) ⟨#[117, 115, 101]⟩) /\ Hp F0 w0 w' ro (rs.set i (rTab F' tb s'))) :=
 OpTo.enter 40 [pt cb 0] hp (rkey_any F tb s cb K e w (h.rd j hj) (h.own i _ hi) (fun hF => h.rdis j i _ _ hj hi cb rfl hF) hn) fun e w' hq => by
   obtain ⟨K', F', s', he, h1, h2, h3⟩ := hq
   exact ⟨_, he, K', F', s', rfl, h1, h2, h.upd i hi h3.fr (rTab F' tb s') (h3.own 0 _ rfl) (h3.mine 0 _ rfl)⟩
end
theorem sseal_ro {F : Nat -> Prop} {tb sb : Nat} {s : STab} {L : List (Value × Bytes)} {me peer : ByteArray} {sid : Int} {Ko : Fin 16 -> UInt8} {eo sent got : Nat} {ki : Bytes} {ei : Nat} {qu : List (Nat × Bytes)} {fr : Option Frm} {w : World} {c1 c2 : Nat} {qv fv : Value}
   (hT : (rTab F tb s).Φ w) (h1 : Blk w sb 77 [.iface 28 (pt tb 0), .string me, .string peer, .int .i64 sid, pt c1 0, pt c2 0, qv, .int .i64 (sent : Int), .int .i64 (got : Int), fv, .bool false]) (h2 : Blk w c1 106 ([Value.iface 28 (pt tb 0)] ++ vb (kl Ko) ++ [Value.int .i64 (eo : Int), Value.bool false])) (hL : (rF L).Φ w)
   (hd1 : ¬ F sb) (hd2 : ¬ F c1) (hdt : (rF L).dj (rTab F tb s)) (k n : Nat) (b : Bytes) (Ab : Option Addr) (cb : Nat) (hm : (Value.slice Ab b.length cb, b) ∈ L) (hk : k < 1000) (hn : n < 1000000) (hb : b.length <= 2048) (hnk : s.keys.length < 900000) (hnb : s.boxes.length < 900000) :
   Calls Try.prog 29 #[pt sb 0, .int .u64 (k : Int), .int .i64 (n : Int), .slice Ab b.length cb] w (Post1 F tb w L (sealT s (Ses.mk me peer sid (kl Ko) eo ki ei qu sent got fr false) k n b) (fun L' u => ∃ cs, u = .tuple #[.agg cs.toArray, .int .i64 0] /\ FrmAt L' (sealF s (Ses.mk me peer sid (kl Ko) eo ki ei qu sent got fr false) n) cs)) := by
 have hcl := cont_len k n b
 have one : ∀ {r : Res}, (r.dj (rTab F tb s)) -> ∀ (j : Nat) (t : Res), [rTab F tb s][j]? = some t -> r.dj t := fun hr j t hj => by
   match j, hj with
   | 0, hj => injection hj with hj; subst hj; exact hr
 have h01 := ((((Hp.one (rTab F tb s) hT).addR (rF L) hL (one hdt)).addR (rBlk c1 106 _) h2 (one (fun q hq hF => hd2 (hq ▸ hF)))).addR (rBlk sb 77 _) h1 (one (fun q hq hF => hd1 (hq ▸ hF)))).roF 2 rfl hm
 have h0 := h01
 refine enter 64 Try.func29 rfl rfl ?_
 refine wp_reset 68 [(0, (pt sb 0)), (1, (Value.int .u64 ((k : Int)))), (2, (Value.int .i64 ((n : Int)))), (3, (Value.slice Ab b.length cb))] (fun x0 => ?_)
 refine wp_seq_k fun K1 hK1 => reg_lit ?_
 refine wq_to (some 8) (xN h0 38 ([(Value.string ByteArray.empty), (Value.string ByteArray.empty), (Value.int .i64 0), (Value.int .i64 0), (Value.int .i64 0), (Value.slice none 0 0)])) ?_
 rintro _ w2 ⟨g2, rfl, h2⟩
 refine wq_p 1 [(9, (Value.int .i64 0))] ?_
 refine wl_end rfl (seq_n hK1 (wp_seq_k fun K3 hK3 => reg_lit ?_))
 refine wq_p 3 [(16, (pt sb 4)), (15, (pt sb 0)), (14, (pt sb 0))] (wq_v (some 17) (pt c1 0) (eL (h2.rd 1 rfl) 73 (.tmp 16) 4 _) ?_)
 refine wq_to (some 18) (x_rkeyR h2 1 2 rfl rfl (by kernel_rfl) (by omega)) ?_
 rintro _ w4 ⟨K4, F4, s4, rfl, hK4, hs4, h4⟩
 have e4 := made_boxes hs4
 have hnb2 : s4.boxes.length < 1000000 := by rw [e4.1]; omega
 refine wq_p 3 [(20, (Value.int .i64 0)), (19, (Value.agg (vb (kl K4)).toArray)), (13, (Value.tuple #[(Value.agg (vb (kl K4)).toArray), (Value.int .i64 0)]))] ?_
 refine wq_to (some 10) (xN h4 59 (vb (List.replicate 16 0))) ?_
 rintro _ w5 ⟨g5, rfl, h5⟩
 refine wq_to none (xSs h5 0 59 (.tmp 10) (.tmp 19) 0 (vb (kl K4)) (vb (kl K4))) ?_
 rintro _ w6 h6
 refine wq_p 1 [(11, (Value.int .i64 0))] ?_
 refine wl_end rfl (seq_n hK3 (wp_seq_k fun K7 hK7 => wp_seq_k fun K8 hK8 => reg_lit ?_))
 refine wq_p 2 [(22, (Value.bool false)), (21, (Value.int .i64 0))] ?_
 refine wl_end rfl (seq_n hK8 (cF (wp_skip (seq_n hK7 (wp_seq_k fun K9 hK9 => reg_lit ?_)))))
 refine wq_p 1 [(26, (Value.int .u64 ((k : Int))))] ?_
 refine wq_to (some 27) (x_dp h6 43 [(Value.int .u64 ((k : Int)))] (by kernel_rfl) (dnum_any k _)) ?_
 rintro _ w10 ⟨rfl, h10⟩
 refine wq_p 1 [(28, (Value.int .i64 ((n : Int))))] (wq_v (some 29) (Value.int .u64 ((n : Int))) (eqI (Value.int .u64 (IntKind.u64.wrap ((n : Int)))) (wrap_u64_is (by omega) (by omega))) ?_)
 refine wq_to (some 30) (x_dp h10 43 [(Value.int .u64 ((n : Int)))] (by kernel_rfl) (dnum_any n _)) ?_
 rintro _ w11 ⟨rfl, h11⟩
 refine wq_p 1 [(31, (Value.slice Ab b.length cb))] ?_
 refine wq_to (some 32) (x_raw h11 44 [(Value.slice Ab b.length cb)] (by kernel_rfl) (draw_any (Value.slice Ab b.length cb) b _ (h11.rd 0 rfl) (by omega))) ?_
 rintro _ w12 ⟨A12, c12, rfl, h12⟩
 refine wq_to (some 33) (x_bs h12 100 ([(Value.int .i64 0), (Value.int .i64 0), (Value.int .u64 ((k : Int))), (Value.slice none 0 0), (Value.slice none 0 0), (Value.int .i64 0), (Value.int .i64 0), (Value.int .u64 ((n : Int))), (Value.slice none 0 0), (Value.slice none 0 0), (Value.int .i64 1), (Value.int .i64 0), (Value.int .u64 0), (Value.slice A12 b.length c12), (Value.slice none 0 0)]) 3 (by kernel_rfl)) ?_
 rintro _ w13 ⟨g13, rfl, h13⟩
 refine wq_to (some 34) (x_dp h13 42 [(Value.int .i64 1), (Value.slice (some ⟨g13, 0, none⟩) 3 3)] (by kernel_rfl) (dseq_any 1 (some ⟨g13, 0, none⟩) 3 3 _)) ?_
 rintro _ w14 ⟨rfl, h14⟩
 refine wq_to (some 35) (x_wr h14 41 [(Value.agg ([(Value.int .i64 2), (Value.int .i64 1), (Value.int .u64 0), (Value.slice none 0 0), (Value.slice (some ⟨g13, 0, none⟩) 3 3)]).toArray)] (by kernel_rfl) (Write_any _ _ (contV k n b) _ (dv_cont (by omega) (by omega) (h14.at_ 0 rfl) (h14.at_ 1 rfl)) (cont_right k n b) (by omega))) ?_
 rintro _ w15 ⟨A15, c15, rfl, h15⟩
 refine wq_p 5 [(11, (Value.int .i64 0)), (12, (Value.slice A15 ((wrV (contV k n b)).length) c15)), (37, (Value.int .i64 0)), (36, (Value.slice A15 ((wrV (contV k n b)).length) c15)), (25, (Value.tuple #[(Value.slice A15 ((wrV (contV k n b)).length) c15), (Value.int .i64 0)]))] ?_
 refine wl_end rfl (seq_n hK9 (wp_seq_k fun K16 hK16 => wp_seq_k fun K17 hK17 => ?_))
 refine wp_reset 68 [(0, (pt sb 0)), (1, (Value.int .u64 ((k : Int)))), (2, (Value.int .i64 ((n : Int)))), (3, (Value.slice Ab b.length cb)), (8, (pt g2 0)), (9, (Value.int .i64 0)), (10, (pt g5 0)), (11, (Value.int .i64 0)), (12, (Value.slice A15 ((wrV (contV k n b)).length) c15)), (22, (Value.bool false))] (fun x18 => ?_)
 refine reg_lit ?_
 refine wq_p 2 [(39, (Value.bool false)), (38, (Value.int .i64 0))] ?_
 refine wl_end rfl (seq_n hK17 (cF (wp_skip (seq_n hK16 (wp_seq_k fun K19 hK19 => ?_)))))
 refine pR_go h15 26 (fun W => (rBlk sb 77 ([(Value.iface 28 (pt tb 0)), (Value.string me), (Value.string peer), (Value.int .i64 sid), (pt c1 0), (pt c2 0), qv, (Value.int .i64 ((sent : Int))), (Value.int .i64 ((got : Int))), fv, (Value.bool false)])).Φ W /\ (rBlk g5 59 (vb (kl K4))).Φ W /\ True) [(43, [0], 0), (44, [42], 1), (45, [43], 2), (46, [44], 4), (47, [0], 0), (48, [46], 16), (49, [47], 32), (50, [48], 64), (51, [0], 0), (52, [50], 256), (53, [51], 512), (54, [52], 1024), (55, [0], 0), (56, [54], 4096), (57, [55], 8192), (58, [56], 16384), (59, [57], 32768), (60, [2], 0), (61, [0], 0), (62, [60], 262144), (63, [61], 524288), (64, [62], 1048576), (65, [10], 0), (66, [12], 0), (67, [63, 64, 65], 14745600), (68, [45, 49, 53, 58, 59, 66], 16976008), (0, [8, 67], 67108863), (10, [], 134217727)] rfl (fun _ d _ _ _ h => by cases d <;> exact h) ?_
 intro hs20 w20 h20
 refine pR_p 11 [0, 1, 2, 4, 5, 6, 8, 9, 10, 12, 13, 14, 17, 18, 19, 20, 23] [(65, (Value.slice A15 ((wrV (contV k n b)).length) c15)), (62, (pt sb 0)), (61, (pt sb 0)), (60, (pt sb 0)), (59, (Value.int .i64 ((n : Int)))), (56, (pt sb 4)), (55, (pt sb 0)), (54, (pt sb 0)), (52, (pt sb 3)), (51, (pt sb 0)), (50, (pt sb 0)), (48, (pt sb 2)), (47, (pt sb 0)), (46, (pt sb 0)), (44, (pt sb 1)), (43, (pt sb 0)), (42, (pt sb 0))] 10385271 hs20 ⟨h20.rd 1 rfl, h20.at_ 3 rfl, trivial⟩ ?_
 refine pR_v 3 (some 45) (Value.string me) 10385279 rfl hs20 ⟨h20.rd 1 rfl, h20.at_ 3 rfl, trivial⟩ (fun W hW => eL hW.1 9 (.tmp 44) 1 _) ?_
 refine pR_v 7 (some 49) (Value.string peer) 10385407 rfl hs20 ⟨h20.rd 1 rfl, h20.at_ 3 rfl, trivial⟩ (fun W hW => eL hW.1 9 (.tmp 48) 2 _) ?_
 refine pR_v 11 (some 53) (Value.int .i64 sid) 10387455 rfl hs20 ⟨h20.rd 1 rfl, h20.at_ 3 rfl, trivial⟩ (fun W hW => eL hW.1 2 (.tmp 52) 3 _) ?_
 refine pR_v 15 (some 57) (pt c1 0) 10420223 rfl hs20 ⟨h20.rd 1 rfl, h20.at_ 3 rfl, trivial⟩ (fun W hW => eL hW.1 73 (.tmp 56) 4 _) ?_
 refine pR_v 21 (some 63) (Value.iface 28 (pt tb 0)) 12517375 rfl hs20 ⟨h20.rd 1 rfl, h20.at_ 3 rfl, trivial⟩ (fun W hW => eL hW.1 72 (.tmp 62) 0 _) ?_
 refine pR_v 22 (some 64) (Value.agg (vb (kl K4)).toArray) 16711679 rfl hs20 ⟨h20.rd 1 rfl, h20.at_ 3 rfl, trivial⟩ (fun W hW => eLs hW.2.1 59 (.tmp 10) 0 (vb (kl K4))) ?_
 refine pR_to 16 (some 58) 16777215 rfl hs20 (x_repR h20 2 (kl Ko) (kl_len _) rfl (by kernel_rfl)) ?_
 rintro _ w21 ⟨rfl, h21⟩
 refine ⟨fun _ => ⟨h21.rd 1 rfl, h21.at_ 3 rfl, trivial⟩, ?_⟩
 refine pR_to 24 (some 66) 33554431 rfl hs20 (x_sealS h21 5 rfl K4 14 (wrV (contV k n b)) (Value.slice A15 ((wrV (contV k n b)).length) c15) (by kernel_rfl) (OB.sb (h21.at_ 0 rfl)) (by omega) hnb2) ?_
 rintro _ w22 ⟨A22, c22, F22, s22, rfl, hs22, h22⟩
 refine ⟨fun _ => ⟨h22.rd 1 rfl, h22.at_ 4 rfl, trivial⟩, ?_⟩
 refine pR_p 2 [25] [(67, (Value.agg ([(Value.string me), (Value.string peer), (Value.int .i64 sid), (Value.int .i64 ((eo : Int))), (Value.int .i64 ((n : Int))), (Value.slice A22 16 c22)]).toArray))] 67108863 hs20 ⟨h22.rd 1 rfl, h22.at_ 4 rfl, trivial⟩ ?_
 refine pR_to 26 none 134217727 rfl hs20 (xSs h22 5 38 (.tmp 8) (.tmp 67) 0 ([(Value.string me), (Value.string peer), (Value.int .i64 sid), (Value.int .i64 ((eo : Int))), (Value.int .i64 ((n : Int))), (Value.slice A22 16 c22)]) ([(Value.string me), (Value.string peer), (Value.int .i64 sid), (Value.int .i64 ((eo : Int))), (Value.int .i64 ((n : Int))), (Value.slice A22 16 c22)])) ?_
 rintro _ w23 h23
 refine ⟨fun h => absurd h (by decide), ?_⟩
 refine pR_to 27 (some 9) 268435455 rfl hs20 (OpTo.run (Value.int .i64 0) (pureOp_run (by kernel_rfl) _) (R := fun v w => v = (Value.int .i64 0) /\ w23 = w) ⟨rfl, rfl⟩) ?_
 rintro _ _ ⟨rfl, rfl⟩
 refine ⟨fun h => absurd h (by decide), ?_⟩
 refine pR_done hs20 ?_ _
 refine seq_n hK19 (wp_ret ?_)
 refine post_2 rfl (by kernel_rfl) (rce (h23.at_ 5 rfl)) (rtm (Value.int .i64 0)) ?_
 have hz1 := h23.sel [6, 0] [3] (ro' := [rF L]) (rs' := [rTab F22 tb s22, rSB (Value.slice A22 16 c22) (mkB 98 (s4.boxes.length + 1))]) rfl rfl rfl
 have hx1 := hz1.lext (LExt.refl F w L) 1 (v := (Value.slice A22 16 c22)) (b := mkB 98 (s4.boxes.length + 1)) rfl (fun _ hq => hq)
 have hz2 := hz1.freeze 0 rfl 1 (v := (Value.slice A22 16 c22)) (b := mkB 98 (s4.boxes.length + 1)) rfl (fun hb => hb) (fun _ hq => hq)
 have ebx : mkB 98 (s4.boxes.length + 1) = mkB 98 (s.boxes.length + 1) := by rw [e4.1]
 have elk : (mkB 98 (s.boxes.length + 1)).length = 16 := mkB_len _ _
 rw [hs22, hs4, hK4] at hz2
 rw [← hs4, ebx] at hz2
 rw [ebx] at hx1
 rw [hs4] at hz2
 refine ⟨_, F22, _, rfl, ⟨_, rfl, A22, c22, ?_, ?_⟩, hx1, hz2.sel [0] [0] rfl rfl rfl⟩
 · show _ = Frm.cells _ (.slice _ (mkB 98 (s.boxes.length + 1)).length _)
   rw [elk]; rfl
 · show (Value.slice _ (mkB 98 (s.boxes.length + 1)).length _, _) ∈ _
   rw [elk]; exact List.mem_cons_self
end
end Go.Proofs.Ytjalodhdjollhaa
