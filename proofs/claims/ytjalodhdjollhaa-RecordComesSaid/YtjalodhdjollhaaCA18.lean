/- What the laws of record are asked, as it comes in: opened. -/
import Derived.ProofKit
import Derived.Carry
import Derived.ChangeShapes
import Derived.Deep.Slices
import Derived.ChangeMaps5
import Derived.Test.YtjalodhdjollhaaCA17
set_option maxRecDepth 100000
set_option maxHeartbeats 4000000
namespace Go.Proofs.Ytjalodhdjollhaa
section
open Go.Value renaming int -> iV, slice -> lV, string -> sV, bool -> bV, agg -> aV
open Go.RowKit Go.QT
abbrev hiB : Bytes := [104, 105]
/-- The first end, once it has let "hi" wait. -/
def sA1 : Ses := { sA0 with queue := sA0.queue ++ [(1, hiB)] }
theorem recI1 : RecI sTab0 sA1 sB0 ⟨[(1, hiB)], [sA0.ko]⟩ ⟨[], [sA0.ki]⟩ := ti0.inv.push (k := 1) (c := hiB) (by decide) (.inl rfl) (by decide)
theorem alive20_any (w : World) : Calls Try.prog 7 #[] w fun e w' => e = .returned (.bool true) /\ Below w.heap.size w w' := by
 obtain ⟨L, hLe⟩ : ∃ L : List (Value × Bytes), L = [(lV none 0 0, [])] := ⟨_, rfl⟩
 have hnil : (lV none 0 0, ([] : Bytes)) ∈ L := by rw [hLe]; exact List.mem_cons_self
 have hL : (rF L).Φ w := fun p hp => by
   rw [hLe] at hp
   rw [List.mem_singleton.1 hp]
   exact SB.nil _ _ (Nat.zero_le _) _
 have h0 := Hp.ro1 (rF L) hL
 refine enter 125 Try.func7 rfl rfl ?_
 refine wp_reset 125 [] (fun x0 => ?_)
 refine wp_seq_k fun K1 hK1 => reg_lit ?_
 refine wq_p 1 [(0, (bV false))] ?_
 refine wl_end rfl (seq_n hK1 (wp_seq_k fun K2 hK2 => reg_lit ?_))
 refine wq_to (some 15) (x_snew h0 (by kernel_rfl)) ?_
 rintro _ w3 ⟨tb3, F3, rfl, h3⟩
 refine wq_p 1 [(1, (pt tb3 0))] ?_
 refine wl_end rfl (seq_n hK2 (wp_seq_k fun K4 hK4 => reg_lit ?_))
 refine wq_p 1 [(16, (pt tb3 0))] ?_
 refine wq_to (some 17) (x_fresh h3 0 rfl  (by kernel_rfl) (by decide)) ?_
 rintro _ w5 ⟨K5, F5, s5, rfl, hK5, hs5, h5⟩
 obtain rfl : s5 = STab.empty.add SFrom.fresh := hs5
 have hK0 : kl K5 = mkB 107 1 := hK5
 refine wq_to (some 2) (xN h5 59 (vb (List.replicate 16 0))) ?_
 rintro _ w6 ⟨g6, rfl, h6⟩
 refine wq_to none (xSs h6 0 59 (.tmp 2) (.tmp 17) 0 (vb (kl K5)) (vb (kl K5))) ?_
 rintro _ w7 h7
 refine wl_end rfl (seq_n hK4 (wp_seq_k fun K8 hK8 => ?_))
 refine pR_go h7 9 (fun W => (rBlk g6 59 (vb (kl K5))).Φ W /\ True) [(19, [1], 0), (20, [18], 1), (21, [2], 0), (22, [19, 20], 6), (23, [1], 0), (24, [22], 16), (25, [2], 0), (26, [23, 24], 104), (4, [21], 143), (5, [25], 511)] rfl (fun _ d _ _ _ h => by cases d <;> exact h) ?_
 intro hs9 w9 h9
 refine pR_p 6 [0, 1, 4, 5] [(23, (Value.iface 28 (pt tb3 0))), (22, (pt tb3 0)), (19, (Value.iface 28 (pt tb3 0))), (18, (pt tb3 0))] 51 hs9 ⟨h9.at_ 0 rfl, trivial⟩ ?_
 refine pR_v 2 (some 20) (aV (vb (kl K5)).toArray) 55 rfl hs9 ⟨h9.at_ 0 rfl, trivial⟩ (fun W hW => eLs hW.1 59 (.tmp 2) 0 (vb (kl K5))) ?_
 refine pR_v 6 (some 24) (aV (vb (kl K5)).toArray) 119 rfl hs9 ⟨h9.at_ 0 rfl, trivial⟩ (fun W hW => eLs hW.1 59 (.tmp 2) 0 (vb (kl K5))) ?_
 refine pR_to 3 (some 21) 127 rfl hs9 (x_sNew (s' := (newKeys (STab.empty.add SFrom.fresh) (kl K5)).2.2) (S := (Ses.mk (⟨#[97, 110, 110]⟩) (⟨#[98, 111, 98]⟩) 7 (newKeys (STab.empty.add SFrom.fresh) (kl K5)).1 0 (newKeys (STab.empty.add SFrom.fresh) (kl K5)).2.1 0 [] 0 0 none false)) h9 1 rfl L 25 [(Value.iface 28 (pt tb3 0)), (sV (⟨#[97, 110, 110]⟩)), (sV (⟨#[98, 111, 98]⟩)), (iV .i64 7), (aV (vb (kl K5)).toArray), (bV true)] (by kernel_rfl) (sNew_true _ tb3 _ K5 (⟨#[97, 110, 110]⟩) (⟨#[98, 111, 98]⟩) 7 _ (h9.at_ 1 rfl) (by decide))) ?_
 rintro _ w10 ⟨sb10, G10, F10, rfl, h10⟩
 refine ⟨fun _ => ⟨h10.at_ 2 rfl, trivial⟩, ?_⟩
 have hnk2 : (newKeys (STab.empty.add SFrom.fresh) (kl K5)).2.2.keys.length < 900000 := by rw [hK0]; exact Nat.lt_of_le_of_lt (Nat.le_of_eq keys0) (by decide)
 refine pR_to 7 (some 25) 255 rfl hs9 (x_sNew (s' := (newKeys (newKeys (STab.empty.add SFrom.fresh) (kl K5)).2.2 (kl K5)).2.2) (S := (Ses.mk (⟨#[98, 111, 98]⟩) (⟨#[97, 110, 110]⟩) 7 (newKeys (newKeys (STab.empty.add SFrom.fresh) (kl K5)).2.2 (kl K5)).2.1 0 (newKeys (newKeys (STab.empty.add SFrom.fresh) (kl K5)).2.2 (kl K5)).1 0 [] 0 0 none false)) h10 0 rfl L 25 [(Value.iface 28 (pt tb3 0)), (sV (⟨#[98, 111, 98]⟩)), (sV (⟨#[97, 110, 110]⟩)), (iV .i64 7), (aV (vb (kl K5)).toArray), (bV false)] (by kernel_rfl) (sNew_false _ tb3 _ K5 (⟨#[98, 111, 98]⟩) (⟨#[97, 110, 110]⟩) 7 _ (h10.at_ 0 rfl) hnk2)) ?_
 rintro _ w11 ⟨sb11, G11, F11, rfl, h11⟩
 refine ⟨fun _ => ⟨h11.at_ 3 rfl, trivial⟩, ?_⟩
 refine pR_p 1 [8] [(3, (pt sb10 0))] 511 hs9 ⟨h11.at_ 3 rfl, trivial⟩ ?_
 refine pR_to 9 (some 4) 1023 rfl hs9 (OpTo.run (pt sb11 0) (pureOp_run (by kernel_rfl) _) (R := fun v w => v = (pt sb11 0) /\ w11 = w) ⟨rfl, rfl⟩) ?_
 rintro _ _ ⟨rfl, rfl⟩
 refine ⟨fun h => absurd h (by decide), ?_⟩
 refine pR_done hs9 ?_ _
 refine seq_n hK8 (wp_seq_k fun K12 hK12 => wp_seq_k fun K13 hK13 => ?_)
 have hz0 := h11
 rw [hK0, newKeys_again] at hz0
 have h14 := hz0.sel [0, 2, 1] [0] (ro' := [rF L]) (rs' := [rTab F11 tb3 sTab0, rS G10 tb3 sb10 L sA0, rS G11 tb3 sb11 L sB0]) rfl rfl rfl
 refine reg_lit ?_
 refine wq_p 8 [(33, (pt sb10 0)), (32, (bV false)), (31, (bV false)), (30, (bV false)), (29, (pt sb11 0)), (28, (bV false)), (27, (bV false)), (26, (pt sb10 0))] ?_
 refine wq_to (some 34) (x_bsl h14 [104, 105] (by kernel_rfl)) ?_
 rintro _ w15 ⟨g15, rfl, hw15, hg15, hq15, h15⟩
 refine wq_to (some 35) (x_bcv hq15 [104, 105] hw15 g15 hg15 (.tmp 34) (by kernel_rfl) (by kernel_rfl) (by decide)) ?_
 rintro _ w16 ⟨rfl, h16⟩
 refine wq_to (some 36) (x_ses h16 1 rfl 1 rfl 9 [(pt sb10 0), (lV (some ⟨g15, 0, none⟩) 2 2)] (by kernel_rfl) (sPush_ok (h16.at_ 1 rfl) (h16.rd 1 rfl) (h16.rdis 1 1 _ _ rfl rfl) hiB _ _ (h16.rd 0 rfl) (h16.rdis 0 1 _ _ rfl rfl) (by decide) rfl (by decide))) ?_
 rintro _ w17 ⟨G17, L17, rfl, hs17, hx17, h17⟩
 refine wq_p 2 [(38, (bV false)), (37, (bV false))] ?_
 refine wl_end rfl (seq_n hK13 (cF (wp_skip (seq_n hK12 (wp_seq_k fun K18 hK18 => ?_)))))
 refine wp_reset 125 [(0, (bV false)), (1, (pt tb3 0)), (2, (pt g6 0)), (3, (pt sb10 0)), (4, (pt sb11 0)), (38, (bV false))] (fun x19 => ?_)
 have hm1 := recI1.smallS (by decide) (by decide)
 obtain ⟨s2, a2, m2, hr2⟩ := send_ex sTab0 sA1
 obtain ⟨W2, hS2⟩ := recI1.send hr2 (by rw [keys0]; decide) (by decide)
 obtain ⟨f, rfl⟩ : ∃ f, m2 = some f := Option.isSome_iff_exists.1 (hS2.is.trans (decide_eq_true (by decide)))
 have hf2 : a2.frame = some f := hS2.fr f rfl
 have hR2 : RecI s2 a2 sB0 W2 ⟨[], [sA0.ki]⟩ := hS2.inv
 have hP2 : W2.P = [(1, hiB)] := hS2.p
 have hse2 : a2.sent = 0 := hS2.sent
 have hks2 : s2.keys.length <= 5 := by have := hS2.ks; rw [keys0] at this; omega
 have hbs2 : s2.boxes.length <= 1 := by have := hS2.bs; rw [boxes0] at this; simpa using this
 obtain ⟨s3, b3, r3, m3, g3, e3, hE3⟩ := hR2.exch (by omega) (by omega) (by omega) hf2 hS2.me hS2.peer hS2.sid
 obtain ⟨k3, c3, hp3, rfl, hm3⟩ := hE3.new hse2.symm
 rw [hP2, hse2] at hp3
 obtain ⟨rfl, rfl⟩ : k3 = 1 /\ c3 = hiB := by injection hp3 with hp3; injection hp3 with h1 h2; exact ⟨h1.symm, h2.symm⟩
 obtain rfl : m3 = some hiB := hm3
 have hT3 := hR2.symm.took hE3.take hE3.told (by omega) (by decide)
 have hR3 : RecI s3 a2 b3 W2 ⟨[], [sA0.ki]⟩ := hT3.inv.symm
 have hks3 : s3.keys.length <= 9 := by have := hT3.ks; omega
 have hbs3 : s3.boxes.length <= 2 := by have := hT3.bs; omega
 obtain ⟨s4, b4, r4, m4, g4, e4, hE4⟩ := hR3.exch (by omega) (by omega) (by omega) hf2 (hS2.me.trans hT3.peer.symm) (hS2.peer.trans hT3.me.symm) (hS2.sid.trans hT3.sid.symm)
 obtain ⟨rfl, rfl⟩ := hE4.old (by rw [hE3.got]; omega)
 have hgot3 := hE3.got
 have hT4 := hR3.symm.took hE4.take hE4.told (by omega) (by omega)
 have hR4 : RecI s4 a2 b4 W2 ⟨[], [sA0.ki]⟩ := hT4.inv.symm
 have hks4 : s4.keys.length <= 13 := by have := hT4.ks; omega
 have hbs4 : s4.boxes.length <= 3 := by have := hT4.bs; omega
 have hmk := hE3.mark.grow hE4.take.grow hT4.me hT4.peer hT4.sid hT4.eo hT4.ko
 have hei : a2.ei = b4.eo := by
   have h1 := hR4.ba.ei
   have h2 := hR4.ba.eo
   simp only [List.take_nil] at h1 h2
   rw [h1, h2]
 have hi1 : b4.me = a2.peer := (hT4.me.trans hT3.me).trans hS2.peer.symm
 have hi2 : b4.peer = a2.me := (hT4.peer.trans hT3.peer).trans hS2.me.symm
 have hi3 : b4.sid = a2.sid := (hT4.sid.trans hT3.sid).trans hS2.sid.symm
 obtain ⟨r5, hsd5, htd5, hr5⟩ := (hR4.back hf2 hmk (by omega) (by omega) hE4.got hi1 hi2 hi3).1 hei
 have hT5 := hR4.took hr5 htd5 (by omega) (by have : a2.got = 0 := hS2.got; omega)
 have hR5 : RecI (openT s4 a2) (markR a2) b4 W2 ⟨[], [sA0.ki]⟩ := hT5.inv
 have hks5 : (openT s4 a2).keys.length <= 17 := by have := hT5.ks; omega
 have hbs5 : (openT s4 a2).boxes.length <= 4 := by have := hT5.bs; omega
 obtain ⟨s6, a6, m6, hr6⟩ := send_ex (openT s4 a2) (markR a2)
 have hse5 : (markR a2).sent <= 1 := by show a2.sent + 1 <= 1; omega
 obtain ⟨W6, hS6⟩ := hR5.send hr6 (by omega) (by omega)
 have hq5 : (markR a2).queue = [] := by show a2.queue.tail = []; rw [hS2.q]; rfl
 obtain rfl : m6 = none := by
   have := hS6.is
   rw [hq5] at this
   cases m6 with
   | none => rfl
   | some x => exact absurd (show true = decide (([] : List (Nat × Bytes)) ≠ []) from this) (by decide)
 have hPl : W2.P.length <= 60 := by rw [hP2]; decide
 have hm2 := hR2.symm.smallS (by decide) hPl
 have hm3b := hR3.symm.smallS (by decide) hPl
 have hm4 := hR4.smallS hPl (by decide)
 have hm5 := hR5.smallS hPl (by decide)
 have hsq : f.seq = 1 := by have := (hR2.ab.fr f hf2).seq; rw [hse2] at this; exact this
 have hq6 : a6.queue = [] := hS6.q.trans hq5
 have hpe : a6.peer = sBob := (hS6.peer.trans hT5.peer).trans hS2.peer
 have hsi : b4.sid = 7 := (hT4.sid.trans hT3.sid)
 refine reg_lit ?_
 refine wq_p 1 [(40, (pt sb10 0))] ?_
 refine wq_to (some 41) (x_two h17 0 1 rfl rfl (by kernel_rfl) 0 rfl 11 [(pt sb10 0)] (by kernel_rfl) (send_of (h17.at_ 0 rfl) (h17.at_ 1 rfl) (h17.rd 0 rfl) (h17.dis 0 1 _ _ rfl rfl (by decide)) (h17.rdis 0 0 _ _ rfl rfl) (h17.rdis 0 1 _ _ rfl rfl) hr2 hm1.q (by decide) (by decide) (by rw [keys0]; decide) (by rw [boxes0]; decide))) ?_
 rintro _ w20 ⟨F20, G20, L20, ⟨_, rfl, Af20, cf20, rfl, hmf20⟩, hs20, hx20, h20⟩
 refine wq_p 3 [(43, (bV true)), (42, (aV ([(sV f.src), (sV f.dst), (iV .i64 f.sid), (iV .i64 f.epoch), (iV .i64 f.seq), (lV Af20 f.box.length cf20)]).toArray)), (39, (Value.tuple #[(aV ([(sV f.src), (sV f.dst), (iV .i64 f.sid), (iV .i64 f.epoch), (iV .i64 f.seq), (lV Af20 f.box.length cf20)]).toArray), (bV true)]))] ?_
 refine wq_to (some 5) (xN h20 38 ([(sV ByteArray.empty), (sV ByteArray.empty), (iV .i64 0), (iV .i64 0), (iV .i64 0), (lV none 0 0)])) ?_
 rintro _ w21 ⟨g21, rfl, h21⟩
 refine wq_to none (xSs h21 0 38 (.tmp 5) (.tmp 42) 0 ([(sV f.src), (sV f.dst), (iV .i64 f.sid), (iV .i64 f.epoch), (iV .i64 f.seq), (lV Af20 f.box.length cf20)]) ([(sV f.src), (sV f.dst), (iV .i64 f.sid), (iV .i64 f.epoch), (iV .i64 f.seq), (lV Af20 f.box.length cf20)])) ?_
 rintro _ w22 h22
 refine wq_p 1 [(6, (bV true))] ?_
 refine wl_end rfl (seq_n hK18 (wp_seq_k fun K23 hK23 => ?_))
 refine wp_reset 125 [(0, (bV false)), (1, (pt tb3 0)), (2, (pt g6 0)), (3, (pt sb10 0)), (4, (pt sb11 0)), (5, (pt g21 0)), (6, (bV true)), (38, (bV false))] (fun x24 => ?_)
 refine reg_lit ?_
 refine wq_p 1 [(45, (pt sb11 0))] (wq_v (some 46) (aV ([(sV f.src), (sV f.dst), (iV .i64 f.sid), (iV .i64 f.epoch), (iV .i64 f.seq), (lV Af20 f.box.length cf20)]).toArray) (eLs (h22.at_ 0 rfl) 38 (.tmp 5) 0 ([(sV f.src), (sV f.dst), (iV .i64 f.sid), (iV .i64 f.epoch), (iV .i64 f.seq), (lV Af20 f.box.length cf20)])) ?_)
 have hq25 := h22.monoS 3 rfl (fun p hp => (hs20 _ (hs17 _ hp)))
 refine wq_to (some 47) (x_two hq25 1 3 rfl rfl (by kernel_rfl) 0 rfl 12 [(pt sb11 0), (aV ([(sV f.src), (sV f.dst), (iV .i64 f.sid), (iV .i64 f.epoch), (iV .i64 f.seq), (lV Af20 f.box.length cf20)]).toArray)] (by kernel_rfl) (take_of (hq25.at_ 1 rfl) (hq25.at_ 3 rfl) (hq25.rd 0 rfl) (hq25.dis 1 3 _ _ rfl rfl (by decide)) (hq25.rdis 0 1 _ _ rfl rfl) (hq25.rdis 0 3 _ _ rfl rfl) hE3.take Af20 cf20 hmf20 (hs20 _ (hs17 _ hnil)) hE3.said (by omega) (by omega) hR2.bodiesS (by decide) (by decide) (by decide) hm2.fq)) ?_
 rintro _ w26 ⟨F26, G26, L26, ⟨_, rfl, Ac26, cc26, _, rfl, hmc26, Ag26, cg26, rfl, hmg26⟩, hs26, hx26, h26⟩
 refine wq_p 3 [(49, (iV .i64 0)), (48, (aV ([(lV Ac26 2 cc26), (bV true), (sV g3.src), (sV g3.dst), (iV .i64 g3.sid), (iV .i64 g3.epoch), (iV .i64 g3.seq), (lV Ag26 g3.box.length cg26), (bV true)]).toArray)), (44, (Value.tuple #[(aV ([(lV Ac26 2 cc26), (bV true), (sV g3.src), (sV g3.dst), (iV .i64 g3.sid), (iV .i64 g3.epoch), (iV .i64 g3.seq), (lV Ag26 g3.box.length cg26), (bV true)]).toArray), (iV .i64 0)]))] ?_
 refine wq_to (some 7) (xN h26 42 ([(lV none 0 0), (bV false), (sV ByteArray.empty), (sV ByteArray.empty), (iV .i64 0), (iV .i64 0), (iV .i64 0), (lV none 0 0), (bV false)])) ?_
 rintro _ w27 ⟨g27, rfl, h27⟩
 refine wq_to none (xSs h27 0 42 (.tmp 7) (.tmp 48) 0 ([(lV Ac26 2 cc26), (bV true), (sV g3.src), (sV g3.dst), (iV .i64 g3.sid), (iV .i64 g3.epoch), (iV .i64 g3.seq), (lV Ag26 g3.box.length cg26), (bV true)]) ([(lV Ac26 2 cc26), (bV true), (sV g3.src), (sV g3.dst), (iV .i64 g3.sid), (iV .i64 g3.epoch), (iV .i64 g3.seq), (lV Ag26 g3.box.length cg26), (bV true)])) ?_
 rintro _ w28 h28
 refine wq_p 1 [(8, (iV .i64 0))] ?_
 refine wl_end rfl (seq_n hK23 (wp_seq_k fun K29 hK29 => reg_lit ?_))
 refine wq_p 1 [(51, (pt sb11 0))] (wq_v (some 52) (aV ([(sV f.src), (sV f.dst), (iV .i64 f.sid), (iV .i64 f.epoch), (iV .i64 f.seq), (lV Af20 f.box.length cf20)]).toArray) (eLs (h28.at_ 1 rfl) 38 (.tmp 5) 0 ([(sV f.src), (sV f.dst), (iV .i64 f.sid), (iV .i64 f.epoch), (iV .i64 f.seq), (lV Af20 f.box.length cf20)])) ?_)
 refine wq_to (some 53) (x_two h28 2 4 rfl rfl (by kernel_rfl) 0 rfl 12 [(pt sb11 0), (aV ([(sV f.src), (sV f.dst), (iV .i64 f.sid), (iV .i64 f.epoch), (iV .i64 f.seq), (lV Af20 f.box.length cf20)]).toArray)] (by kernel_rfl) (take_of (h28.at_ 2 rfl) (h28.at_ 4 rfl) (h28.rd 0 rfl) (h28.dis 2 4 _ _ rfl rfl (by decide)) (h28.rdis 0 2 _ _ rfl rfl) (h28.rdis 0 4 _ _ rfl rfl) hE4.take Af20 cf20 (hs26 _ hmf20) (hs26 _ (hs20 _ (hs17 _ hnil))) hE4.said (by omega) (by omega) hR3.bodiesS (by have := hm3b.sent; omega) (by omega) (by have := hm3b.ei; omega) hm3b.fq)) ?_
 rintro _ w30 ⟨F30, G30, L30, ⟨_, rfl, Ac30, cc30, _, rfl, hmc30, Ag30, cg30, rfl, hmg30⟩, hs30, hx30, h30⟩
 refine wq_p 3 [(55, (iV .i64 18)), (54, (aV ([(lV Ac30 0 cc30), (bV false), (sV g4.src), (sV g4.dst), (iV .i64 g4.sid), (iV .i64 g4.epoch), (iV .i64 g4.seq), (lV Ag30 g4.box.length cg30), (bV true)]).toArray)), (50, (Value.tuple #[(aV ([(lV Ac30 0 cc30), (bV false), (sV g4.src), (sV g4.dst), (iV .i64 g4.sid), (iV .i64 g4.epoch), (iV .i64 g4.seq), (lV Ag30 g4.box.length cg30), (bV true)]).toArray), (iV .i64 18)]))] ?_
 refine wq_to (some 9) (xN h30 42 ([(lV none 0 0), (bV false), (sV ByteArray.empty), (sV ByteArray.empty), (iV .i64 0), (iV .i64 0), (iV .i64 0), (lV none 0 0), (bV false)])) ?_
 rintro _ w31 ⟨g31, rfl, h31⟩
 refine wq_to none (xSs h31 0 42 (.tmp 9) (.tmp 54) 0 ([(lV Ac30 0 cc30), (bV false), (sV g4.src), (sV g4.dst), (iV .i64 g4.sid), (iV .i64 g4.epoch), (iV .i64 g4.seq), (lV Ag30 g4.box.length cg30), (bV true)]) ([(lV Ac30 0 cc30), (bV false), (sV g4.src), (sV g4.dst), (iV .i64 g4.sid), (iV .i64 g4.epoch), (iV .i64 g4.seq), (lV Ag30 g4.box.length cg30), (bV true)])) ?_
 rintro _ w32 h32
 refine wq_p 1 [(10, (iV .i64 18))] ?_
 refine wl_end rfl (seq_n hK29 (wp_seq_k fun K33 hK33 => reg_lit ?_))
 refine wq_p 2 [(58, (pt g27 2)), (57, (pt sb10 0))] (wq_v (some 59) (aV ([(sV g3.src), (sV g3.dst), (iV .i64 g3.sid), (iV .i64 g3.epoch), (iV .i64 g3.seq), (lV Ag26 g3.box.length cg26)]).toArray) (eLs (h32.at_ 1 rfl) 38 (.tmp 58) 2 ([(sV g3.src), (sV g3.dst), (iV .i64 g3.sid), (iV .i64 g3.epoch), (iV .i64 g3.seq), (lV Ag26 g3.box.length cg26)])) ?_)
 have hq34 := h32.monoS 4 rfl (fun p hp => (hs30 _ (hs26 _ hp)))
 refine wq_to (some 60) (x_two hq34 3 4 rfl rfl (by kernel_rfl) 0 rfl 12 [(pt sb10 0), (aV ([(sV g3.src), (sV g3.dst), (iV .i64 g3.sid), (iV .i64 g3.epoch), (iV .i64 g3.seq), (lV Ag26 g3.box.length cg26)]).toArray)] (by kernel_rfl) (take_of (hq34.at_ 3 rfl) (hq34.at_ 4 rfl) (hq34.rd 0 rfl) (hq34.dis 3 4 _ _ rfl rfl (by decide)) (hq34.rdis 0 3 _ _ rfl rfl) (hq34.rdis 0 4 _ _ rfl rfl) hr5 Ag26 cg26 (hs30 _ hmg26) (hs30 _ (hs26 _ (hs20 _ (hs17 _ hnil)))) hsd5 (by omega) (by omega) hR4.bodiesS (by have := hm4.sent; omega) (by have := hm4.got; omega) (by have := hm4.ei; omega) hm4.fq)) ?_
 rintro _ w35 ⟨F35, G35, L35, ⟨_, rfl, Ac35, cc35, _, rfl, hmc35, rfl⟩, hs35, hx35, h35⟩
 refine wq_p 3 [(62, (iV .i64 0)), (61, (aV ([(lV Ac35 0 cc35), (bV false), (sV ByteArray.empty), (sV ByteArray.empty), (iV .i64 0), (iV .i64 0), (iV .i64 0), (lV none 0 0), (bV false)]).toArray)), (56, (Value.tuple #[(aV ([(lV Ac35 0 cc35), (bV false), (sV ByteArray.empty), (sV ByteArray.empty), (iV .i64 0), (iV .i64 0), (iV .i64 0), (lV none 0 0), (bV false)]).toArray), (iV .i64 0)]))] ?_
 refine wq_to (some 11) (xN h35 42 ([(lV none 0 0), (bV false), (sV ByteArray.empty), (sV ByteArray.empty), (iV .i64 0), (iV .i64 0), (iV .i64 0), (lV none 0 0), (bV false)])) ?_
 rintro _ w36 ⟨g36, rfl, h36⟩
 refine wq_to none (xSs h36 0 42 (.tmp 11) (.tmp 61) 0 ([(lV Ac35 0 cc35), (bV false), (sV ByteArray.empty), (sV ByteArray.empty), (iV .i64 0), (iV .i64 0), (iV .i64 0), (lV none 0 0), (bV false)]) ([(lV Ac35 0 cc35), (bV false), (sV ByteArray.empty), (sV ByteArray.empty), (iV .i64 0), (iV .i64 0), (iV .i64 0), (lV none 0 0), (bV false)])) ?_
 rintro _ w37 h37
 refine wq_p 1 [(12, (iV .i64 0))] ?_
 refine wl_end rfl (seq_n hK33 (wp_seq_k fun K38 hK38 => reg_lit ?_))
 refine wq_p 1 [(64, (pt sb10 0))] ?_
 refine wq_to (some 65) (x_two h37 4 5 rfl rfl (by kernel_rfl) 0 rfl 11 [(pt sb10 0)] (by kernel_rfl) (send_of (h37.at_ 4 rfl) (h37.at_ 5 rfl) (h37.rd 0 rfl) (h37.dis 4 5 _ _ rfl rfl (by decide)) (h37.rdis 0 4 _ _ rfl rfl) (h37.rdis 0 5 _ _ rfl rfl) hr6 hm5.q (by omega) (by have := hm5.eo; omega) (by omega) (by omega))) ?_
 rintro _ w39 ⟨F39, G39, L39, ⟨_, rfl, rfl⟩, hs39, hx39, h39⟩
 refine wq_p 3 [(67, (bV false)), (66, (aV ([(sV ByteArray.empty), (sV ByteArray.empty), (iV .i64 0), (iV .i64 0), (iV .i64 0), (lV none 0 0)]).toArray)), (63, (Value.tuple #[(aV ([(sV ByteArray.empty), (sV ByteArray.empty), (iV .i64 0), (iV .i64 0), (iV .i64 0), (lV none 0 0)]).toArray), (bV false)]))] ?_
 refine wq_to (some 13) (xN h39 38 ([(sV ByteArray.empty), (sV ByteArray.empty), (iV .i64 0), (iV .i64 0), (iV .i64 0), (lV none 0 0)])) ?_
 rintro _ w40 ⟨g40, rfl, h40⟩
 refine wq_to none (xSs h40 0 38 (.tmp 13) (.tmp 66) 0 ([(sV ByteArray.empty), (sV ByteArray.empty), (iV .i64 0), (iV .i64 0), (iV .i64 0), (lV none 0 0)]) ([(sV ByteArray.empty), (sV ByteArray.empty), (iV .i64 0), (iV .i64 0), (iV .i64 0), (lV none 0 0)])) ?_
 rintro _ w41 h41
 refine wq_p 1 [(14, (bV false))] ?_
 refine wl_end rfl (seq_n hK38 (wp_seq_k fun K42 hK42 => ?_))
 refine wp_reset 125 [(0, (bV false)), (1, (pt tb3 0)), (2, (pt g6 0)), (3, (pt sb10 0)), (4, (pt sb11 0)), (5, (pt g21 0)), (6, (bV true)), (7, (pt g27 0)), (8, (iV .i64 0)), (10, (iV .i64 18)), (11, (pt g36 0)), (12, (iV .i64 0)), (14, (bV false)), (38, (bV false))] (fun x43 => ?_)
 have h44 := h41.roF 0 rfl (hs39 _ (hs35 _ (hs30 _ hmc26)))
 refine reg_lit ?_
 refine wq_p 7 [(74, (pt g27 1)), (73, (bV true)), (72, (bV true)), (71, (bV true)), (70, (iV .i64 0)), (69, (bV true)), (68, (bV true))] (wq_v (some 75) (bV true) (eL (h44.at_ 3 rfl) 4 (.tmp 74) 1 _) (wq_p 3 [(78, (pt g27 0)), (77, (bV true)), (76, (bV true))] (wq_v (some 79) (lV Ac26 2 cc26) (eL (h44.at_ 3 rfl) 26 (.tmp 78) 0 _) ?_)))
 refine wq_to (some 80) (x_bsl h44 [104, 105] (by kernel_rfl)) ?_
 rintro _ w45 ⟨g45, rfl, hw45, hg45, hq45, h45⟩
 refine wq_to (some 81) (x_bcv hq45 [104, 105] hw45 g45 hg45 (.tmp 80) (by kernel_rfl) (by kernel_rfl) (by decide)) ?_
 rintro _ w46 ⟨rfl, h46⟩
 refine wq_to (some 82) (x_same h46 hiB ([104, 105]) (lV Ac26 2 cc26) (lV (some ⟨g45, 0, none⟩) 2 2) (by kernel_rfl) (h46.rd 1 rfl) (h46.rd 0 rfl) true (by decide)) ?_
 rintro _ w47 ⟨rfl, h47⟩
 refine wq_p 3 [(85, (pt g27 8)), (84, (bV true)), (83, (bV true))] (wq_v (some 86) (bV true) (eL (h47.at_ 3 rfl) 4 (.tmp 85) 8 _) (wq_p 11 [(97, (pt g36 1)), (96, (bV true)), (95, (bV true)), (94, (bV true)), (93, (iV .i64 0)), (92, (bV true)), (91, (bV true)), (90, (bV true)), (89, (iV .i64 18)), (88, (bV true)), (87, (bV true))] (wq_v (some 98) (bV false) (eL (h47.at_ 1 rfl) 4 (.tmp 97) 1 _) ?_)))
 refine wq_p 8 [(106, (pt sb10 0)), (105, (bV true)), (104, (bV true)), (103, (bV true)), (102, (bV false)), (101, (bV true)), (100, (bV true)), (99, (bV true))] ?_
 refine wq_to (some 107) (x_dp h47 10 [(pt sb10 0)] (by kernel_rfl) (waits_any (h47.at_ 6 rfl))) ?_
 rintro _ w48 ⟨rfl, h48⟩
 refine wq_v (some 108) (.bool true) (eqI (bV (((a6.queue.length : Int)) == 0)) (congrArg bV (by rw [hq6]; rfl))) (wq_p 3 [(111, (pt sb10 0)), (110, (bV true)), (109, (bV true))] ?_)
 refine wq_to (some 112) (x_dp h48 26 [(pt sb10 0)] (by kernel_rfl) (peer_any (h48.at_ 6 rfl))) ?_
 rintro _ w49 ⟨rfl, h49⟩
 refine wq_v (some 113) (.bool true) (eqI (bV ((a6.peer).toList == (⟨#[98, 111, 98]⟩ : ByteArray).toList)) (congrArg bV (by rw [hpe]; exact beq_iff_eq.2 rfl))) (wq_p 3 [(116, (pt sb11 0)), (115, (bV true)), (114, (bV true))] ?_)
 refine wq_to (some 117) (x_dp h49 27 [(pt sb11 0)] (by kernel_rfl) (sid_any (h49.at_ 7 rfl))) ?_
 rintro _ w50 ⟨rfl, h50⟩
 refine wq_v (some 118) (.bool true) (eqI (bV (b4.sid == 7)) (congrArg bV (by rw [hsi]; rfl))) (wq_p 3 [(121, (pt g21 4)), (120, (bV true)), (119, (bV true))] (wq_v (some 122) (iV .i64 f.seq) (eL (h50.at_ 4 rfl) 2 (.tmp 121) 4 _) (wq_v (some 123) (.bool true) (eqI (bV (f.seq == 1)) (congrArg bV (by rw [hsq]; rfl))) ?_)))
 refine wq_p 2 [(0, (bV true)), (124, (bV true))] ?_
 refine wl_end rfl (seq_n hK42 (wp_ret ?_))
 refine post_1 rfl (by kernel_rfl) (rtm (bV true)) ?_
 exact ⟨rfl, h50.below0⟩
end
section
open Go.ChangeShapes Go.WideShapes Go.ChangeAt Go.RowKit
set_option maxRecDepth 100000
variable {H : Type} {enc : TypeId × Value -> H} {w : World} {base : Nat} {spare : Nat -> Bool} {held : Bool}
theorem c22 : Try.prog.cellsOf 58 = 16 := by kernel_rfl
theorem c5 : Try.prog.cellsOf 5 = 1 := by kernel_rfl
end
section
open Go.ChangeShapes Go.WideShapes Go.ChangeAt Go.RowKit
theorem Try.own : ownKnob Try.prog.godebug = none := by kernel_rfl
theorem Try.laidOut : laidOutB Try.prog = true := by kernel_rfl
section
variable {H : Type} {enc : TypeId × Value -> H} {P : Program}
theorem trodAll_stays {W W' : World} {sp' : Nat -> Bool} (hl : laidOutB P = true) : ∀ (ts : List TypeId) (vs : List Value) (ds : List (DataW H)) (ps : List MemPlace),
   (ts.all fun t => P.readableRec t && decide (t < P.types.size)) = true -> DataW.TrodAll enc P W 0 (fun _ => true) true ts vs ds ps ->
   (∀ p ∈ ps, W.sameAt W' p) -> (∀ p ∈ ps, sp' p.block = true) -> DataW.TrodAll enc P W' 0 sp' true ts vs ds ps
 | [], _, _, _, _, h, _, _ => by
   obtain ⟨rfl, rfl, rfl⟩ := trodAll_nil h
   exact rfl
 | t :: ts, _, _, _, ht, h, hs, hsp => by
   obtain ⟨v, vs, d, ds, a, b, rfl, rfl, rfl, h1, h2⟩ := trodAll_cons h
   rw [List.all_cons, Bool.and_eq_true, Bool.and_eq_true, decide_eq_true_eq] at ht
   exact ⟨a, b, WideElems.Trod_stays hl ht.1.1 ht.1.2 h1 (fun p hp => hs p (by simp [hp])) (fun p hp => hsp p (by simp [hp])),
     trodAll_stays hl ts vs ds b ht.2 h2 (fun p hp => hs p (by simp [hp])) (fun p hp => hsp p (by simp [hp])), rfl⟩
theorem post_of_below {f : Func} {s : ChangeSpec} {apart fresh handsOn again : Bool} {W W' : World} {args : Array Value} {v : Value} {ds gs : List (DataW H)} {before pa pv : List MemPlace}
   (hW : DataW.Whole enc P f.params.toList s.vars apart W args.toList ds gs before)
   (hres : ∀ (b : Nat) (sp : Nat -> Bool) (hd : Bool), DataW.TrodAll enc P W' b sp hd f.resultTypes.toList (v.resultList f.resultTypes.size) (s.fn H (ds ++ gs)).results [])
   (hargs : ∀ sp : Nat -> Bool, (∀ p ∈ before, sp p.block = true) -> DataW.TrodAll enc P W' 0 sp true f.params.toList args.toList (s.fn H (ds ++ gs)).args pa)
   (hvars : ∀ sp : Nat -> Bool, (∀ p ∈ before, sp p.block = true) -> DataW.TrodVars enc P W' sp s.vars (s.fn H (ds ++ gs)).vars pv)
   (hps : before = pa ++ pv) (hb : Below W.heap.size W W')
   (hok : ∀ (j : Nat) (t : TypeId) (r : Value), f.resultTypes[j]? = some t -> (v.resultList f.resultTypes.size)[j]? = some r -> Value.okWide P W' .any 0 t r) :
   s.post enc P f apart fresh handsOn again W args v W' := by
 have hlt : ∀ p ∈ before, p.block < W.heap.size := fun p hp => hW.lt p hp
 have hold : ∀ p ∈ before, (fun b => decide (b < W.heap.size)) p.block = true := fun p hp => by simpa using hlt p hp
 refine ⟨ds, gs, before, [], pa, pv, hW, hres _ _ _, hargs _ hold, hvars _ hold, World.keptBut_mono (fun p hp => ⟨hp, ?_⟩) (hb.frame (· ∈ before)), fun _ => ?_⟩
 · rw [hps, List.mem_append] at hp
   exact Or.inr hp
 · obtain ⟨_, _, _, _, _, hz, hn⟩ := hW
   refine ⟨hok, _, _, ([] ++ pa) ++ pv, ⟨[] ++ pa, pv, trodAll_append (hargs _ (fun _ _ => rfl)) (hres _ _ _), hvars _ (fun _ _ => rfl), rfl, ?_, ?_⟩, ?_⟩
   · intro b off hp
     have hin : MemPlace.cell b off ∈ before := by rw [hps]; simpa using hp
     rw [hb.frozen (hlt _ hin)]
     exact hz b off hin
   · intro ha
     have := hn ha
     rw [hps] at this
     simpa using this
   · intro p hp _
     rw [hps]
     simpa using hp
/-- A law's post: it returned true, and what was there is as it was. -/
theorem law_post {f : Func} {s : ChangeSpec} {apart fresh handsOn again : Bool} {W W' : World} {args : Array Value} {ds gs : List (DataW H)} {before : List MemPlace} {tb : TypeId}
   (hl : laidOutB P = true) (hts : (f.params.toList.all fun t => P.readableRec t && decide (t < P.types.size)) = true) (htb : P.underlying tb = some .bool) (hr : f.resultTypes = #[tb]) (hv : s.vars = [])
   (hfn : ∀ ds : List (DataW H), ds.length = f.params.size -> s.fn H ds = ⟨[.lit (.bool true)], ds, []⟩)
   (hW : DataW.Whole enc P f.params.toList s.vars apart W args.toList ds gs before) (hb : Below W.heap.size W W') :
   s.post enc P f apart fresh handsOn again W args (.bool true) W' := by
 have hW' := hW
 have hlt : ∀ p ∈ before, p.block < W.heap.size := fun p hp => hW.lt p hp
 obtain ⟨p, q, hA, hV, rfl, hfz, hnd⟩ := hW
 rw [hv] at hV
 obtain ⟨rfl, rfl⟩ := trodVars_none hV
 have hlen : ds.length = f.params.size := by
   have : ∀ (ts : List TypeId) (vs : List Value) (ds : List (DataW H)) (p : List MemPlace), DataW.TrodAll enc P W 0 (fun _ => true) true ts vs ds p -> ds.length = ts.length := by
     intro ts
     induction ts with
     | nil => intro vs ds p h; obtain ⟨rfl, rfl, rfl⟩ := trodAll_nil h; rfl
     | cons t ts ih =>
       intro vs ds p h
       obtain ⟨v, vs, d, ds, a, b, rfl, rfl, rfl, h1, h2⟩ := trodAll_cons h
       simp [ih _ _ _ h2]
   simpa using this _ _ _ _ hA
 simp only [List.append_nil] at hW' hlt
 have hds : s.fn H (ds ++ []) = ⟨[.lit (.bool true)], ds, []⟩ := by rw [List.append_nil]; exact hfn ds hlen
 refine post_of_below (pa := p) (pv := []) (gs := []) hW' ?_ ?_ ?_ (by simp) hb ?_
 · intro b sp hd
   rw [hds, hr]
   exact trodAll_mk1 (shut_bool htb true)
 · intro sp hsp
   rw [hds]
   exact trodAll_stays hl _ _ _ _ hts hA (fun x hx => hb.same (hlt x hx)) hsp
 · intro sp _
   rw [hds, hv]
   exact rfl
 · exact ok_one hr rfl (okWide_bool_mk htb true)
end
section
variable {H : Type} {enc : TypeId × Value -> H} {w : World} {base : Nat}
end
end
section
open Go.ChangeShapes
variable {H : Type} {enc : TypeId × Value -> H} {P : Program} {w : World} {base : Nat} {spare : Nat -> Bool} {held : Bool}
end
section
open Go.ChangeShapes Go.WideShapes Go.ChangeAt Go.RowKit Go.QT
set_option maxRecDepth 100000
theorem c20B : Try.prog.cellsOf 5 = 1 := by kernel_rfl
theorem list_of {α : Type} (n : Nat) (p : Nat -> α -> Prop) (h : ∀ i, i < n -> ∃ z, p i z) : ∃ st : List α, st.length = n /\ ∀ i z, st[i]? = some z -> p i z := by
 induction n with
 | zero => exact ⟨[], rfl, by simp⟩
 | succ n ih =>
   obtain ⟨st, hl, hst⟩ := ih fun i hi => h i (by omega)
   obtain ⟨z, hz⟩ := h n (by omega)
   refine ⟨st ++ [z], by simp [hl], fun i y hy => ?_⟩
   by_cases hi : i < st.length
   · rw [List.getElem?_append_left hi] at hy; exact hst i y hy
   · have e : i = st.length := by
       have := (List.getElem?_eq_some_iff.1 hy).1
       simp at this; omega
     subst e
     rw [List.getElem?_append_right (Nat.le_refl _), Nat.sub_self] at hy
     have hy : z = y := by simpa using hy
     subst hy; rw [hl]; exact hz
section
variable {H : Type} {enc : TypeId × Value -> H} {w : World} {base : Nat}
theorem sb_of_trod' {fuel : Nat} {c : Value} {x : DataW H × List MemPlace} {sp : Nat -> Bool} (hf : DataW.trod enc Try.prog w base sp true fuel 26 [c] = some x) : ∃ l : Bytes, SB w c l := by
 rcases open_ints Try.underlying26 Try.underlying5 c20B hf with ⟨hcs, hx⟩ | ⟨a, len, cap, zs, hcs, _, hl, hm, hz, hx, hcell, hwz⟩
 · have : c = .slice none 0 0 := by simpa using hcs
   subst this
   exact ⟨[], SB.nil _ _ (Nat.zero_le _) _⟩
 · have : c = .slice (some a) len cap := by simpa using hcs
   subst this
   have hzl : len <= zs.length := by rw [hz]; split <;> omega
   refine ⟨(zs.take len).map toB, some a, cap, ?_, ?_, hm, ?_⟩
   · simp; omega
   · simp; omega
   intro hne
   have hlen : 0 < len := by
     rcases Nat.eq_zero_or_pos len with h0 | h0
     · subst h0; simp at hne
     · exact h0
   obtain ⟨ab, ao, spot⟩ := a
   have h0 := hcell 0 (by omega)
   have hspot : spot = none := by simpa [Addr.add] using World.cell?_spot h0
   subst hspot
   refine ⟨ab, ao, rfl, ?_, fun i hi => ?_⟩
   · rcases Nat.lt_or_ge ab w.heap.size with h' | h'
     · exact h'
     · rw [Addr.add_lit] at h0
       simp [World.cell?, Array.getElem?_eq_none h'] at h0
   · have hi' : i < len := by simpa [Nat.min_eq_left hzl] using hi
     have hc := hcell i (by omega)
     rw [Addr.add_lit] at hc
     rw [hc]
     have e : zs.getD i 0 = zs[i]'(by omega) := by simp [List.getD, List.getElem?_eq_getElem (show i < zs.length by omega)]
     have hb : 0 <= zs.getD i 0 /\ zs.getD i 0 <= 255 := by rw [List.getD_eq_getElem?_getD]; exact range_u8 hwz i
     have e2 : gb ((zs.take len).map toB) i = toB (zs.getD i 0) := by
       rw [e]
       simp [gb, hi', show i < zs.length by omega]
     rw [e2, ub_u8 (by omega) (by omega)]
theorem stpFields : (Try.prog.fieldsOf 50).toList.map (fun f => (f.type, f.offset)) = [(3, 0), (3, 1), (3, 2), (26, 3)] := by kernel_rfl
theorem stpUnd : Try.prog.underlying 50 = some (.struct (Try.prog.fieldsOf 50)) := by kernel_rfl
theorem stpCellsOf : Try.prog.cellsOf 50 = 4 := by kernel_rfl
theorem c20I : Try.prog.cellsOf 3 = 1 := by kernel_rfl
theorem c20S : Try.prog.cellsOf 26 = 1 := by kernel_rfl
theorem u20I : Try.prog.underlying 3 = some (.int .i64) := by kernel_rfl
theorem u20St : Try.prog.underlying 47 = some (.slice 50) := by kernel_rfl
theorem stp_of {fuel : Nat} {cs : List Value} {x : DataW H × List MemPlace} {sp : Nat -> Bool} (hf : DataW.trod enc Try.prog w base sp true fuel 50 cs = some x) : ∃ (z : Stp) (v : Value), cs = [.int .i64 z.kind, .int .i64 z.at_, .int .i64 z.turn, v] /\ SB w v z.body := by
 obtain ⟨xs, n, rfl, _, hl, hxl, hx⟩ := DataW.trod_struct stpUnd hf
 rw [stpCellsOf] at hl
 have hfl : (Try.prog.fieldsOf 50).size = 4 := by
   have := congrArg List.length stpFields
   simpa using this
 have fld : ∀ (i : Nat) (t o : Nat), ((Try.prog.fieldsOf 50).toList.map (fun f => (f.type, f.offset)))[i]? = some (t, o) -> i < 4 -> ∃ y, DataW.trod enc Try.prog w base sp true n t ((cs.drop o).take (Try.prog.cellsOf t)) = some y := by
   intro i t o h hi
   rw [List.getElem?_map, Option.map_eq_some_iff] at h
   obtain ⟨f, hf1, hf2⟩ := h
   injection hf2 with h1 h2
   have := hx i f (by rw [← Array.getElem?_toList]; exact hf1)
   rw [h1, h2, List.getElem?_eq_getElem (by omega)] at this
   exact ⟨_, this⟩
 rw [stpFields] at fld
 match cs, hl with
 | [c0, c1, c2, c3], _ =>
   obtain ⟨y0, h0⟩ := fld 0 3 0 rfl (by omega)
   obtain ⟨y1, h1⟩ := fld 1 3 1 rfl (by omega)
   obtain ⟨y2, h2⟩ := fld 2 3 2 rfl (by omega)
   obtain ⟨y3, h3⟩ := fld 3 26 3 rfl (by omega)
   rw [c20I] at h0 h1 h2
   rw [c20S] at h3
   obtain ⟨k, e0, _, _⟩ := DataW.trod_int u20I h0
   obtain ⟨a, e1, _, _⟩ := DataW.trod_int u20I h1
   obtain ⟨b, e2, _, _⟩ := DataW.trod_int u20I h2
   simp at e0 e1 e2
   subst e0; subst e1; subst e2
   obtain ⟨l, hs⟩ := sb_of_trod' (c := c3) (by simpa using h3)
   exact ⟨⟨k, a, b, l⟩, c3, rfl, hs⟩
/-- A row of elements of some cells each, as it comes in. -/
theorem open_row {α : Type} {E S sz : Nat} (cells : α -> List Value) (Q : α -> Prop) (hu : Try.prog.underlying S = some (.slice E)) (hsz : Try.prog.cellsOf E = sz) (hpos : 0 < sz) (hlen : ∀ z, (cells z).length = sz)
   (hel : ∀ {fuel : Nat} {cs : List Value} {x : DataW H × List MemPlace} {sp : Nat -> Bool}, cs.length = sz -> DataW.trod enc Try.prog w base sp true fuel E cs = some x -> ∃ z, cs = cells z /\ Q z)
   {b0 : Nat} {v : Value} {d : DataW H} {p : List MemPlace} {sp : Nat -> Bool} (hv : Value.okWide Try.prog w .any b0 S v) (h : DataW.Trod enc Try.prog w base sp true S v d p) :
   ∃ A c st, v = .slice A (List.length st) c /\ RV w sz A c (st.map cells) /\ ∀ z ∈ st, Q z := by
 obtain ⟨a1, len, cap, rfl⟩ := okWide_slice hu hv
 obtain ⟨fuel, hf⟩ := h
 rcases Go.Deep.open_slice hu hf with ⟨hcs, _⟩ | ⟨a, len', cap', m, n, D, Pl, hcs, _, hl, hm, hmm, _, hx⟩
 · simp [Value.cells] at hcs
   obtain ⟨rfl, rfl, rfl⟩ := hcs
   exact ⟨none, 0, [], rfl, ⟨by simp, Nat.zero_le _, by simp, by simp⟩, by simp⟩
 · simp [Value.cells] at hcs
   obtain ⟨rfl, rfl, rfl⟩ := hcs
   have hml : len <= m := by rw [hmm]; split <;> omega
   obtain ⟨st, hlen2, hst⟩ := list_of len (fun i z => w.cells? base (a.add (i * sz)) sz = some (cells z) /\ Q z) fun i hi => by
     obtain ⟨cs', h1, h2⟩ := hx i (by omega)
     rw [hsz] at h1
     obtain ⟨z, rfl, hs⟩ := hel (World.cells?_some h1).2.1 h2
     exact ⟨z, h1, hs⟩
   subst hlen2
   refine ⟨some a, cap, st, rfl, ⟨by simpa using hl, hm, ?_, ?_⟩, fun z hz => ?_⟩
   · intro y hy
     rw [List.mem_map] at hy
     obtain ⟨z, _, rfl⟩ := hy
     exact hlen z
   · intro hne
     have hpos2 : 0 < st.length := by
       rcases Nat.eq_zero_or_pos st.length with h0 | h0
       · exact absurd (by rw [List.eq_nil_of_length_eq_zero h0]; rfl) hne
       · exact h0
     have hz0 := (hst 0 _ (List.getElem?_eq_getElem hpos2)).1
     obtain ⟨_, _, hc0⟩ := World.cells?_some hz0
     obtain ⟨ab, ao, spot⟩ := a
     have h00 := hc0 0 (by omega)
     have hl0 := hlen st[0]
     have h01 : w.cell? (((⟨ab, ao, spot⟩ : Addr).add (0 * sz)).add 0) = some ((cells st[0])[0]'(by omega)) := by rw [h00, List.getElem?_eq_getElem (by omega)]
     have hspot : spot = none := by simpa [Addr.add] using World.cell?_spot h01
     subst hspot
     refine ⟨ab, ao, rfl, ?_, fun i y hy j u hu => ?_⟩
     · rcases Nat.lt_or_ge ab w.heap.size with h' | h'
       · exact h'
       · rw [Addr.add_lit, Addr.add_lit] at h01
         simp [World.cell?, Array.getElem?_eq_none h'] at h01
     · rw [List.getElem?_map, Option.map_eq_some_iff] at hy
       obtain ⟨z, hz, rfl⟩ := hy
       obtain ⟨_, _, hc⟩ := World.cells?_some (hst i z hz).1
       have hj : j < sz := by have := (List.getElem?_eq_some_iff.1 hu).1; rw [hlen z] at this; exact this
       have := hc j hj
       rw [Addr.add_lit, Addr.add_lit] at this
       rw [this]; exact hu
   · obtain ⟨i, hi⟩ := List.getElem?_of_mem hz
     exact (hst i z hi).2
/-- The bytes of a script, that nobody turns. -/
theorem open_stps {b0 : Nat} {v : Value} {d : DataW H} {p : List MemPlace} {sp : Nat -> Bool} (hv : Value.okWide Try.prog w .any b0 47 v) (h : DataW.Trod enc Try.prog w base sp true 47 v d p) :
   ∃ A c xs st L, v = .slice A (List.length st) c /\ RV w 4 A c xs /\ RowOk (StAt L) xs st /\ (rF L).Φ w /\ (Value.slice none 0 0, ([] : Bytes)) ∈ L := by
 obtain ⟨A, c, zs, rfl, hr, hq⟩ := open_row (α := Stp × Value) (fun z => [.int .i64 z.1.kind, .int .i64 z.1.at_, .int .i64 z.1.turn, z.2]) (fun z => SB w z.2 z.1.body) u20St stpCellsOf (by omega) (fun _ => rfl) (fun _ hf => by
   obtain ⟨z, v, e, hs⟩ := stp_of hf; exact ⟨(z, v), e, hs⟩) hv h
 refine ⟨A, c, _, zs.map (·.1), (Value.slice none 0 0, []) :: zs.map (fun z => (z.2, z.1.body)), by rw [List.length_map], hr, ⟨by simp, fun i x a hx ha => ?_⟩, fun p hp => ?_, List.mem_cons_self⟩
 · rw [List.getElem?_map, Option.map_eq_some_iff] at hx ha
   obtain ⟨z, hz, rfl⟩ := hx
   obtain ⟨z', hz', rfl⟩ := ha
   rw [hz] at hz'
   obtain rfl := Option.some.inj hz'
   have hm := List.mem_of_getElem? hz
   obtain ⟨A1, c1, e, _⟩ := hq z hm
   exact ⟨A1, c1, by rw [e], List.mem_cons_of_mem _ (List.mem_map.2 ⟨z, hm, by rw [e]⟩)⟩
 · rcases List.mem_cons.1 hp with rfl | hp
   · exact SB.nil _ _ (Nat.zero_le _) _
   · obtain ⟨z, hz, rfl⟩ := List.mem_map.1 hp
     exact hq z hz
end
end
end Go.Proofs.Ytjalodhdjollhaa
