/- Steps and plain functions for the walks of mac.Derive, Text. (Texts laid one behind the other: ShaD, ShaO, MacX, MacS, MacY.) -/
import Derived.Test.YtpkelokaammmjaaDoorCA4
/-! The walks of New, Digest, Of. -/
section
namespace Go.Proofs.YtpkelokaammmjaaDoor
open Go.RowKit Go.QT
def SNewPost (w : World) (e : Ending) (w' : World) : Prop := ∃ g, e = .returned (pt g 0) ∧ Hp (fun _ => False) w w' [] [rBlk g 92 (vw shaH0.l ++ [.slice none 0 0, .int .u64 ((0 : Nat) : Int)]), rOC (.slice none 0 0) []]
set_option maxRecDepth 100000 in
set_option maxHeartbeats 4000000 in
theorem snew_any (w : World) : Calls Tryd.prog 49 #[] w (SNewPost w) := by
  have h0 := (Hp.nil (fun _ => False) w).ocNil
  refine enter 4 Tryd.func49 rfl rfl ?_
  refine wp_reset 4 [] (fun x0 => ?_)
  refine wp_seq_k ?_
  intro K1 hK1
  refine reg_lit ?_
  refine wq_p 1 [(0, (Value.pointer none))] ?_
  refine wl_end rfl ?_
  refine seq_n hK1 ?_
  refine wp_seq_k ?_
  intro K2 hK2
  refine reg_lit ?_
  refine wq_v (some 1) (Value.agg (vw shaH0.l).toArray) (pureOp_run (by kernel_rfl) _) ?_
  refine wq_p 1 [(2, (Value.agg (vw shaH0.l ++ [(Value.slice none 0 0), (Value.int .u64 0)]).toArray))] ?_
  refine wq_to (some 3) (x_new h0 92 (vw shaH0.l ++ [(Value.slice none 0 0), (Value.int .u64 0)]) (fun r => pt r 0) (by kernel_rfl)) ?_
  rintro _ w3 ⟨g3, rfl, h3⟩
  refine wq_p 1 [(0, (pt g3 0))] ?_
  refine wl_end rfl ?_
  refine seq_n hK2 ?_
  refine wp_ret ?_
  refine post_1 rfl (by kernel_rfl) (rtmp (v := (pt g3 0)) (by kernel_rfl)) ?_
  have hz := h3.sel [0, 1] [] (rs' := [rBlk g3 92 (vw shaH0.l ++ [.slice none 0 0, .int .u64 0]), rOC (.slice none 0 0) []]) (by decide) rfl rfl
  exact ⟨_, rfl, by simpa using hz⟩
set_option maxRecDepth 100000 in
set_option maxHeartbeats 4000000 in
theorem sdigest_any (g : Nat) (H : S8) (v : Value) (l : Bytes) (N : Nat) (w : World) (hh : Hp (fun _ => False) w w [rSB v l, rBlk g 92 (vw H.l ++ [v, .int .u64 ((N : Nat) : Int)])] [])
    (hN : N < 576460752303423488) (hl : l.length < 64) : Calls Tryd.prog 51 #[pt g 0] w (BPost w (outW (absb ((l ++ padR l N).length / 64) H (l ++ padR l N)).l)) := by
  obtain ⟨A, c, rfl, hc1, hc2⟩ := sb_form (hh.rd 0 rfl)
  have h0 := hh
  refine enter 53 Tryd.func51 rfl rfl ?_
  refine wp_reset 54 [(0, (pt g 0))] (fun x0 => ?_)
  refine wp_seq_k ?_
  intro K1 hK1
  refine reg_lit ?_
  refine wq_p 1 [(2, (Value.slice none 0 0))] ?_
  refine wl_end rfl ?_
  refine seq_n hK1 ?_
  refine wp_seq_k ?_
  intro K2 hK2
  have h3 := h0.ocNil
  
  refine pR_go h3 15 (fun W => (rBlk g 92 (vw H.l ++ [(Value.slice A l.length c), (Value.int .u64 (((N : Nat) : Int)))])).Φ W ∧ True) [(9, [0], 0), (10, [8], 1), (11, [9], 2), (12, [10], 4), (13, [0], 0), (14, [12], 16), (15, [13], 32), (16, [14], 64), (17, [15], 128), (18, [0], 0), (19, [17], 512), (20, [18], 1024), (21, [19], 2048), (22, [11, 16, 20], 4360), (4, [], 0), (0, [3, 21], 32767)] rfl (fun _ d _ _ _ h => by cases d <;> exact h) ?_
  intro hs4 w4 h4
  refine pR_p 7 [0, 1, 2, 4, 5, 6, 9, 10, 11] [(19, (pt g 9)), (18, (pt g 0)), (17, (pt g 0)), (14, (pt g 8)), (13, (pt g 0)), (12, (pt g 0)), (10, (pt g 0)), (9, (pt g 0)), (8, (pt g 0))] 3703 hs4 ⟨h4.rd 1 rfl, trivial⟩ ?_
  refine pR_v 3 (some 11) (Value.agg (vw H.l).toArray) 3711 rfl hs4 ⟨h4.rd 1 rfl, trivial⟩ (fun W hW => e_loads hW.1 90 (.tmp 10) (by kernel_rfl) 0 (vw H.l) (by kernel_rfl) (by kernel_rfl) (by kernel_rfl)) ?_
  refine pR_v 7 (some 15) (Value.slice A l.length c) 3839 rfl hs4 ⟨h4.rd 1 rfl, trivial⟩ (fun W hW => e_load hW.1 22 (.tmp 14) (by kernel_rfl) 8 (Value.slice A l.length c) (by kernel_rfl) (by kernel_rfl) (by kernel_rfl)) ?_
  refine pR_v 12 (some 20) (Value.int .u64 (((N : Nat) : Int))) 7935 rfl hs4 ⟨h4.rd 1 rfl, trivial⟩ (fun W hW => e_load hW.1 34 (.tmp 19) (by kernel_rfl) 9 (Value.int .u64 (((N : Nat) : Int))) (by kernel_rfl) (by kernel_rfl) (by kernel_rfl)) ?_
  refine pR_or 8 14 hs4 ?_ ?_
  ·
   refine pR_op 8 (some 16) 8191 rfl (x_appC h4 0 rfl (.const (Value.slice none 0 0)) (.tmp 15) (by kernel_rfl) (Value.slice A l.length c) (by kernel_rfl) (by kernel_rfl) (h4.rd 0 rfl) (by first | omega | (simp; omega) | (simp [put8_len]; omega) | (rw [hlo, outW_len]; simp [put8_len]; omega)) (l) (l.length) rfl rfl) ?_
   rintro _ w5 ⟨A5, c5, rfl, h5⟩
   refine ⟨fun _ => ⟨h5.rd 1 rfl, trivial⟩, ?_⟩
   refine pR_p 2 [13] [(21, (Value.agg (vw H.l ++ [(Value.slice A5 l.length c5), (Value.int .u64 (((N : Nat) : Int)))]).toArray))] 16383 hs4 ⟨h5.rd 1 rfl, trivial⟩ ?_
   refine pR_to 14 (some 3) 32767 rfl hs4 (x_new h5 92 ([(Value.int .u32 0), (Value.int .u32 0), (Value.int .u32 0), (Value.int .u32 0), (Value.int .u32 0), (Value.int .u32 0), (Value.int .u32 0), (Value.int .u32 0), (Value.slice none 0 0), (Value.int .u64 0)]) (fun r => pt r 0) (by kernel_rfl)) ?_
   rintro _ w6 ⟨g6, rfl, h6⟩
   refine ⟨fun _ => ⟨h6.rd 1 rfl, trivial⟩, ?_⟩
   refine pR_to 15 none 65535 rfl hs4 (x_stores h6 0 rfl 92 (.tmp 3) (.tmp 21) (by kernel_rfl) 0 (vw H.l ++ [(Value.slice A5 l.length c5), (Value.int .u64 (((N : Nat) : Int)))]) (vw H.l ++ [(Value.slice A5 l.length c5), (Value.int .u64 (((N : Nat) : Int)))]) (by kernel_rfl) (by kernel_rfl) (by kernel_rfl) (by kernel_rfl) (by kernel_rfl) (by kernel_rfl)) ?_
   rintro _ w7 h7
   refine ⟨fun h => absurd h (by decide), ?_⟩
   refine pR_done hs4 ?_ _
   refine seq_n hK2 ?_
   refine wp_seq_k ?_
   intro K8 hK8
   refine reg_lit ?_
   refine wq_p 1 [(22, (pt g6 8))] ?_
   refine wq_v (some 23) (Value.slice A5 l.length c5) (e_load (h7.at_ 0 rfl) 22 (.tmp 22) (by kernel_rfl) 8 (Value.slice A5 l.length c5) (by kernel_rfl) (by kernel_rfl) (by kernel_rfl)) ?_
   refine wq_p 1 [(24, (Value.int .i64 ((l.length : Int))))] ?_
   refine wq_v (some 25) (Value.int .i64 (((119 - (l.length) : Nat) : Int))) (exec_sub _ _ _ _ rfl 119 ((l.length : Int)) (by kernel_rfl) (by kernel_rfl) (((119 - (l.length) : Nat) : Int)) (by omega) (by omega) (by omega) _) ?_
   refine wq_v (some 26) (Value.int .i64 (((((119 - (l.length))) % 64 : Nat) : Int))) (e_rem (.tmp 25) (.const (Value.int .i64 64)) _ _ rfl (((119 - (l.length)))) 64 (by kernel_rfl) (by kernel_rfl) (by omega) _) ?_
   refine wq_v (some 27) (Value.int .i64 (1 + ((((119 - (l.length))) % 64 : Nat) : Int))) (exec_add _ _ _ _ rfl 1 (((((119 - (l.length))) % 64 : Nat) : Int)) (by kernel_rfl) (by kernel_rfl) (1 + ((((119 - (l.length))) % 64 : Nat) : Int)) (by omega) (by omega) (by omega) _) ?_
   refine wq_to (some 28) (x_make h7 (.tmp 27) (.tmp 27) (by kernel_rfl) (1 + ((((119 - (l.length))) % 64))) (by kernel_rfl) (by kernel_rfl) (by omega)) ?_
   rintro _ w9 ⟨g9, rfl, h9⟩
   refine wq_p 1 [(4, (Value.slice (some ⟨g9, 0, none⟩) ((1 + ((((119 - (l.length))) % 64)))) ((1 + ((((119 - (l.length))) % 64))))))] ?_
   refine wl_end rfl ?_
   refine seq_n hK8 ?_
   refine wp_seq_k ?_
   intro K10 hK10
   refine reg_lit ?_
   refine wq_p 1 [(29, (Value.slice (some ⟨g9, 0, none⟩) ((1 + ((((119 - (l.length))) % 64)))) ((1 + ((((119 - (l.length))) % 64))))))] ?_
   refine wq_v (some 30) (eAt (some ⟨g9, 0, none⟩) (0 * 1 + 0)) (e_idxN (SB.rvn (OB.sb (h9.at_ 0 rfl))).2 0 ((1 + ((((119 - (l.length))) % 64)))) (SB.rvn (OB.sb (h9.at_ 0 rfl))).1 (by first | omega | (simp; omega)) 22 (.tmp 29) (.const (Value.int .i64 0)) (by kernel_rfl) .i64 (by kernel_rfl) (by kernel_rfl) 5 (by kernel_rfl) (by kernel_rfl) _) ?_
   refine wq_to none (x_storeB h9 0 rfl 0 (by first | omega | (simp; omega)) 5 (.tmp 30) (.const (Value.int .u8 128)) (by kernel_rfl) ((128 : UInt8)) (by kernel_rfl) (by kernel_rfl) (by kernel_rfl)) ?_
   rintro _ w11 h11
   refine wl_end rfl ?_
   refine seq_n hK10 ?_
   refine wp_seq_k ?_
   intro K12 hK12
   refine reg_lit ?_
   refine wq_p 4 [(34, (pt g 9)), (33, (pt g 0)), (32, (pt g 0)), (31, (Value.slice (some ⟨g9, 0, none⟩) ((1 + ((((119 - (l.length))) % 64)))) ((1 + ((((119 - (l.length))) % 64))))))] ?_
   refine wq_v (some 35) (Value.int .u64 (((N : Nat) : Int))) (e_load (h11.rd 1 rfl) 34 (.tmp 34) (by kernel_rfl) 9 (Value.int .u64 (((N : Nat) : Int))) (by kernel_rfl) (by kernel_rfl) (by kernel_rfl)) ?_
   refine wq_v (some 36) (Value.int .u64 (((8 * (((N))) : Nat) : Int))) (e_mul64 _ _ _ _ rfl 8 (((N))) (by kernel_rfl) (by kernel_rfl) (8 * (((N)))) rfl (by omega) _) ?_
   refine wq_to (some 37) (x_bytesE h11 20 [(Value.int .u64 (((8 * (((N))) : Nat) : Int)))] (by kernel_rfl) (put_any (((8 * (((N)))))) _) (put8 (((8 * (((N))))))) ((put8 (((8 * (((N))))))).length) rfl rfl) ?_
   rintro _ w13 ⟨A13, c13, rfl, h13⟩
   refine wq_to (some 38) (x_bs h13 22 ([(Value.slice (some ⟨g9, 0, none⟩) ((1 + ((((119 - (l.length))) % 64)))) ((1 + ((((119 - (l.length))) % 64))))), (Value.slice A13 ((put8 (((8 * (((N))))))).length) c13)]) 2 (by kernel_rfl)) ?_
   rintro _ w14 ⟨g14, rfl, h14⟩
   refine wq_to (some 39) (x_bytesE h14 25 [(Value.slice (some ⟨g14, 0, none⟩) 2 2)] (by kernel_rfl) (joined_any (Value.slice (some ⟨g14, 0, none⟩) 2 2) [(List.replicate (1 + ((((119 - (l.length))) % 64))) 0).set 0 ((128 : UInt8)), put8 (((8 * (((N))))))] _ (bs2 (h14.at_ 0 rfl) (OB.sb (h14.at_ 2 rfl)) (OB.sb (h14.at_ 1 rfl))) (by simp only [List.flatten_cons, List.flatten_nil, List.length_append, List.length_set, List.length_replicate, put8_len, List.length_nil]; omega)) (((List.replicate (1 + ((((119 - (l.length))) % 64))) 0).set 0 ((128 : UInt8))) ++ (put8 (((8 * (((N)))))))) ((((List.replicate (1 + ((((119 - (l.length))) % 64))) 0).set 0 ((128 : UInt8))) ++ (put8 (((8 * (((N)))))))).length) (by simp) rfl) ?_
   rintro _ w15 ⟨A15, c15, rfl, h15⟩
   refine wq_to (some 40) (x_write h15 4 5 (H := H) (N := ((N))) rfl rfl (by decide) (Value.slice A15 ((((List.replicate (1 + ((((119 - (l.length))) % 64))) 0).set 0 ((128 : UInt8))) ++ (put8 (((8 * (((N)))))))).length) c15) (((List.replicate (1 + ((((119 - (l.length))) % 64))) 0).set 0 ((128 : UInt8))) ++ (put8 (((8 * (((N)))))))) (by kernel_rfl) (OB.sb (h15.at_ 0 rfl)) (djO h15 (i := 4) (k := 0) rfl rfl (by decide)) (djO h15 (i := 5) (k := 0) rfl rfl (by decide)) (by simp only [List.length_append, List.length_set, List.length_replicate, put8_len]; omega) (by simp only [List.length_append, List.length_set, List.length_replicate, put8_len]; omega)) ?_
   rintro _ w16 ⟨rfl, A16, n16, c16, H16, r16, hn16, hH16, hr16, h16⟩
   refine wl_end rfl ?_
   refine seq_n hK12 ?_
   refine wp_seq_k ?_
   intro K17 hK17
   refine wp_reset 54 [(0, (pt g 0)), (2, (Value.slice none 0 0)), (3, (pt g6 0)), (4, (Value.slice (some ⟨g9, 0, none⟩) ((1 + ((((119 - (l.length))) % 64)))) ((1 + ((((119 - (l.length))) % 64))))))] (fun x18 => ?_)
   refine reg_lit ?_
   refine wq_p 1 [(5, (Value.slice none 0 0))] ?_
   refine wl_end rfl ?_
   refine seq_n hK17 ?_
   refine wp_seq_k ?_
   intro K19 hK19
   refine wp_seq_k ?_
   intro K20 hK20
   have h21 := h16.obNil
   
   refine reg_lit ?_
   refine wq_p 1 [(41, (pt g6 0))] ?_
   refine wq_v (some 42) (Value.agg (vw H16.l).toArray) (e_loads (h21.at_ 5 rfl) 90 (.tmp 41) (by kernel_rfl) 0 (vw H16.l) (by kernel_rfl) (by kernel_rfl) (by kernel_rfl)) ?_
   refine wq_p 1 [(43, (Value.int .i64 0))] ?_
   refine wl_end rfl ?_
   refine seq_n hK20 ?_
   refine wp_block ?_
   refine wp_loopm (fun mM xX aA wL => ∃ (i : Nat) (A2 : Option Addr) (c2 : Nat) (lo : Bytes), (i ≤ 8) ∧ (lo = outW (H16.l.take i)) ∧ mM = 8 - (i) ∧ aA = patch xX 54 [(0, (pt g 0)), (2, (Value.slice none 0 0)), (3, (pt g6 0)), (4, (Value.slice (some ⟨g9, 0, none⟩) ((1 + ((((119 - (l.length))) % 64)))) ((1 + ((((119 - (l.length))) % 64)))))), (5, (Value.slice A2 ((lo).length) c2)), (42, (Value.agg (vw H16.l).toArray)), (43, (Value.int .i64 ((i : Int))))] ∧ Hp (fun _ => False) w wL [rSB ((Value.slice A l.length c)) l, rBlk g 92 (vw H.l ++ [(Value.slice A l.length c), (Value.int .u64 (((N : Nat) : Int)))])] [rOB ((Value.slice A2 ((lo).length) c2)) lo]) ⟨_, 0, none, 0, (([] : Bytes)), (by omega), rfl, rfl, (patch_eq _ 54 _ (by kernel_rfl) (by kernel_rfl) (by kernel_rfl)), h21.sel [0] [0, 1] (by kernel_rfl) rfl rfl⟩ ?_
   rintro _ x22 _ w22 ⟨i, A2, c2, lo, hi, hlo, rfl, rfl, h22⟩
   refine wp_seq_k ?_
   intro K23 hK23
   refine reg_lit ?_
   refine wq_p 1 [(44, (Value.bool (decide ((i : Int) < 8))))] ?_
   refine wl_end rfl ?_
   refine seq_n hK23 ?_
   refine wp_seq_k ?_
   intro K24 hK24
   refine wp_if ((i : Int) < 8) (by kernel_rfl) (fun b25 => ?_) (fun b25 => ?_)
   ·
    refine wp_skip ?_
    refine seq_n hK24 ?_
    refine wp_seq_k ?_
    intro K26 hK26
    refine wp_block ?_
    refine wp_seq_k ?_
    intro K27 hK27
    refine reg_lit ?_
    refine wq_v (some 45) (Value.int .u32 (uw (gw H16.l i))) (e_indexV 90 (.tmp 42) (.tmp 43) (by kernel_rfl) .i64 H16.l i (by kernel_rfl) (by kernel_rfl) (by first | omega | (simp only [S8.l_len]; omega)) 64 (by kernel_rfl) (by kernel_rfl) (by kernel_rfl) _) ?_
    refine wq_p 1 [(7, (Value.int .u32 (uw (gw H16.l i))))] ?_
    refine wl_end rfl ?_
    refine seq_n hK27 ?_
    refine reg_lit ?_
    refine wq_p 2 [(47, (Value.int .u32 (uw (gw H16.l i)))), (46, (Value.slice A2 ((lo).length) c2))] ?_
    refine wq_v (some 48) (Value.int .u64 ((((gw H16.l i)).toNat : Int))) (eq_is (v := Value.int .u64 (IntKind.u64.wrap (uw (gw H16.l i)))) (by kernel_rfl) (w_to64 (gw H16.l i))) ?_
    refine wq_to (some 49) (x_bytesE h22 20 [(Value.int .u64 ((((gw H16.l i)).toNat : Int)))] (by kernel_rfl) (put_any ((((gw H16.l i)).toNat)) _) (put8 ((((gw H16.l i)).toNat))) ((put8 ((((gw H16.l i)).toNat))).length) rfl rfl) ?_
    rintro _ w28 ⟨A28, c28, rfl, h28⟩
    refine wq_v (some 50) (cutS (Value.slice A28 ((put8 ((((gw H16.l i)).toNat))).length) c28) 4 ((put8 ((((gw H16.l i)).toNat))).length)) (e_cut_l (OB.sb (h28.at_ 0 rfl)) (.tmp 49) (.const (Value.int .i64 4)) (by kernel_rfl) (by kernel_rfl) .i64 4 (by kernel_rfl) (by first | omega | (simp only [put8_len]; omega) | (rw [put8_len]; decide)) _) ?_
    refine wq_to (some 51) (x_appG h28 1 rfl (.tmp 46) (.tmp 50) (by kernel_rfl) (cutS (Value.slice A28 ((put8 ((((gw H16.l i)).toNat))).length) c28) 4 ((put8 ((((gw H16.l i)).toNat))).length)) (by kernel_rfl) (by kernel_rfl) (SB.cut (OB.sb (h28.at_ 0 rfl)) 4 ((put8 ((((gw H16.l i)).toNat))).length) (by first | omega | (simp only [put8_len]; omega) | (rw [put8_len]; decide))) (by first | omega | (simp; omega) | (simp [put8_len]; omega) | (rw [hlo, outW_len]; simp [put8_len]; omega)) (lo ++ (((put8 ((((gw H16.l i)).toNat))).take ((put8 ((((gw H16.l i)).toNat))).length)).drop 4)) ((lo ++ (((put8 ((((gw H16.l i)).toNat))).take ((put8 ((((gw H16.l i)).toNat))).length)).drop 4)).length) rfl rfl) ?_
    rintro _ w29 ⟨A29, c29, rfl, h29⟩
    refine wq_p 1 [(5, (Value.slice A29 ((lo ++ (((put8 ((((gw H16.l i)).toNat))).take ((put8 ((((gw H16.l i)).toNat))).length)).drop 4)).length) c29))] ?_
    refine wl_end rfl ?_
    refine blk_n ?_
    refine seq_n hK26 ?_
    refine reg_lit ?_
    refine wq_v (some 52) (Value.int .i64 ((i : Int) + 1)) (exec_add _ _ _ _ rfl ((i : Int)) 1 (by kernel_rfl) (by kernel_rfl) ((i : Int) + 1) rfl (by omega) (by omega) _) ?_
    refine wq_p 1 [(43, (Value.int .i64 ((i : Int) + 1)))] ?_
    refine wl_end rfl ?_
    refine ⟨8 - (i + 1), (by omega), (i + 1), A29, c29, (lo ++ (((put8 ((((gw H16.l i)).toNat))).take ((put8 ((((gw H16.l i)).toNat))).length)).drop 4)), (by omega), (by rw [hlo, ← outW_step _ _ (by rw [S8.l_len]; omega)]), rfl, (patch_eq _ 54 _ (by kernel_rfl) (by kernel_rfl) (by kernel_rfl)), h29.sel [1] [0, 1] (by kernel_rfl) rfl rfl⟩
   ·
    refine wp_exit ?_
    refine seq_e ?_
    refine seq_e ?_
    refine blk_e ?_
    refine seq_n hK19 ?_
    refine wp_seq_k ?_
    intro K30 hK30
    refine reg_lit ?_
    refine wq_p 2 [(2, (Value.slice A2 ((lo).length) c2)), (53, (Value.slice A2 ((lo).length) c2))] ?_
    refine wl_end rfl ?_
    refine seq_n hK30 ?_
    refine wp_ret ?_
    refine post_1 rfl (by kernel_rfl) (rtmp (v := (Value.slice A2 ((lo).length) c2)) (by kernel_rfl)) ?_
    exact bpost_of h22 0 rfl (by rw [hlo, show i = H16.l.length by rw [S8.l_len]; omega, List.take_length, hH16, pad_set]; rfl)
  ·
   refine pR_op 14 (some 3) 24319 rfl (x_new h4 92 ([(Value.int .u32 0), (Value.int .u32 0), (Value.int .u32 0), (Value.int .u32 0), (Value.int .u32 0), (Value.int .u32 0), (Value.int .u32 0), (Value.int .u32 0), (Value.slice none 0 0), (Value.int .u64 0)]) (fun r => pt r 0) (by kernel_rfl)) ?_
   rintro _ w31 ⟨g31, rfl, h31⟩
   refine ⟨fun _ => ⟨h31.rd 1 rfl, trivial⟩, ?_⟩
   refine pR_to 8 (some 16) 24575 rfl hs4 (x_appC h31 1 rfl (.const (Value.slice none 0 0)) (.tmp 15) (by kernel_rfl) (Value.slice A l.length c) (by kernel_rfl) (by kernel_rfl) (h31.rd 0 rfl) (by first | omega | (simp; omega) | (simp [put8_len]; omega) | (rw [hlo, outW_len]; simp [put8_len]; omega)) (l) (l.length) rfl rfl) ?_
   rintro _ w32 ⟨A32, c32, rfl, h32⟩
   refine ⟨fun _ => ⟨h32.rd 1 rfl, trivial⟩, ?_⟩
   refine pR_p 1 [13] [(21, (Value.agg (vw H.l ++ [(Value.slice A32 l.length c32), (Value.int .u64 (((N : Nat) : Int)))]).toArray))] 32767 hs4 ⟨h32.rd 1 rfl, trivial⟩ ?_
   refine pR_to 15 none 65535 rfl hs4 (x_stores h32 0 rfl 92 (.tmp 3) (.tmp 21) (by kernel_rfl) 0 (vw H.l ++ [(Value.slice A32 l.length c32), (Value.int .u64 (((N : Nat) : Int)))]) (vw H.l ++ [(Value.slice A32 l.length c32), (Value.int .u64 (((N : Nat) : Int)))]) (by kernel_rfl) (by kernel_rfl) (by kernel_rfl) (by kernel_rfl) (by kernel_rfl) (by kernel_rfl)) ?_
   rintro _ w33 h33
   refine ⟨fun h => absurd h (by decide), ?_⟩
   refine pR_done hs4 ?_ _
   refine seq_n hK2 ?_
   refine wp_seq_k ?_
   intro K34 hK34
   refine reg_lit ?_
   refine wq_p 1 [(22, (pt g31 8))] ?_
   refine wq_v (some 23) (Value.slice A32 l.length c32) (e_load (h33.at_ 0 rfl) 22 (.tmp 22) (by kernel_rfl) 8 (Value.slice A32 l.length c32) (by kernel_rfl) (by kernel_rfl) (by kernel_rfl)) ?_
   refine wq_p 1 [(24, (Value.int .i64 ((l.length : Int))))] ?_
   refine wq_v (some 25) (Value.int .i64 (((119 - (l.length) : Nat) : Int))) (exec_sub _ _ _ _ rfl 119 ((l.length : Int)) (by kernel_rfl) (by kernel_rfl) (((119 - (l.length) : Nat) : Int)) (by omega) (by omega) (by omega) _) ?_
   refine wq_v (some 26) (Value.int .i64 (((((119 - (l.length))) % 64 : Nat) : Int))) (e_rem (.tmp 25) (.const (Value.int .i64 64)) _ _ rfl (((119 - (l.length)))) 64 (by kernel_rfl) (by kernel_rfl) (by omega) _) ?_
   refine wq_v (some 27) (Value.int .i64 (1 + ((((119 - (l.length))) % 64 : Nat) : Int))) (exec_add _ _ _ _ rfl 1 (((((119 - (l.length))) % 64 : Nat) : Int)) (by kernel_rfl) (by kernel_rfl) (1 + ((((119 - (l.length))) % 64 : Nat) : Int)) (by omega) (by omega) (by omega) _) ?_
   refine wq_to (some 28) (x_make h33 (.tmp 27) (.tmp 27) (by kernel_rfl) (1 + ((((119 - (l.length))) % 64))) (by kernel_rfl) (by kernel_rfl) (by omega)) ?_
   rintro _ w35 ⟨g35, rfl, h35⟩
   refine wq_p 1 [(4, (Value.slice (some ⟨g35, 0, none⟩) ((1 + ((((119 - (l.length))) % 64)))) ((1 + ((((119 - (l.length))) % 64))))))] ?_
   refine wl_end rfl ?_
   refine seq_n hK34 ?_
   refine wp_seq_k ?_
   intro K36 hK36
   refine reg_lit ?_
   refine wq_p 1 [(29, (Value.slice (some ⟨g35, 0, none⟩) ((1 + ((((119 - (l.length))) % 64)))) ((1 + ((((119 - (l.length))) % 64))))))] ?_
   refine wq_v (some 30) (eAt (some ⟨g35, 0, none⟩) (0 * 1 + 0)) (e_idxN (SB.rvn (OB.sb (h35.at_ 0 rfl))).2 0 ((1 + ((((119 - (l.length))) % 64)))) (SB.rvn (OB.sb (h35.at_ 0 rfl))).1 (by first | omega | (simp; omega)) 22 (.tmp 29) (.const (Value.int .i64 0)) (by kernel_rfl) .i64 (by kernel_rfl) (by kernel_rfl) 5 (by kernel_rfl) (by kernel_rfl) _) ?_
   refine wq_to none (x_storeB h35 0 rfl 0 (by first | omega | (simp; omega)) 5 (.tmp 30) (.const (Value.int .u8 128)) (by kernel_rfl) ((128 : UInt8)) (by kernel_rfl) (by kernel_rfl) (by kernel_rfl)) ?_
   rintro _ w37 h37
   refine wl_end rfl ?_
   refine seq_n hK36 ?_
   refine wp_seq_k ?_
   intro K38 hK38
   refine reg_lit ?_
   refine wq_p 4 [(34, (pt g 9)), (33, (pt g 0)), (32, (pt g 0)), (31, (Value.slice (some ⟨g35, 0, none⟩) ((1 + ((((119 - (l.length))) % 64)))) ((1 + ((((119 - (l.length))) % 64))))))] ?_
   refine wq_v (some 35) (Value.int .u64 (((N : Nat) : Int))) (e_load (h37.rd 1 rfl) 34 (.tmp 34) (by kernel_rfl) 9 (Value.int .u64 (((N : Nat) : Int))) (by kernel_rfl) (by kernel_rfl) (by kernel_rfl)) ?_
   refine wq_v (some 36) (Value.int .u64 (((8 * (((N))) : Nat) : Int))) (e_mul64 _ _ _ _ rfl 8 (((N))) (by kernel_rfl) (by kernel_rfl) (8 * (((N)))) rfl (by omega) _) ?_
   refine wq_to (some 37) (x_bytesE h37 20 [(Value.int .u64 (((8 * (((N))) : Nat) : Int)))] (by kernel_rfl) (put_any (((8 * (((N)))))) _) (put8 (((8 * (((N))))))) ((put8 (((8 * (((N))))))).length) rfl rfl) ?_
   rintro _ w39 ⟨A39, c39, rfl, h39⟩
   refine wq_to (some 38) (x_bs h39 22 ([(Value.slice (some ⟨g35, 0, none⟩) ((1 + ((((119 - (l.length))) % 64)))) ((1 + ((((119 - (l.length))) % 64))))), (Value.slice A39 ((put8 (((8 * (((N))))))).length) c39)]) 2 (by kernel_rfl)) ?_
   rintro _ w40 ⟨g40, rfl, h40⟩
   refine wq_to (some 39) (x_bytesE h40 25 [(Value.slice (some ⟨g40, 0, none⟩) 2 2)] (by kernel_rfl) (joined_any (Value.slice (some ⟨g40, 0, none⟩) 2 2) [(List.replicate (1 + ((((119 - (l.length))) % 64))) 0).set 0 ((128 : UInt8)), put8 (((8 * (((N))))))] _ (bs2 (h40.at_ 0 rfl) (OB.sb (h40.at_ 2 rfl)) (OB.sb (h40.at_ 1 rfl))) (by simp only [List.flatten_cons, List.flatten_nil, List.length_append, List.length_set, List.length_replicate, put8_len, List.length_nil]; omega)) (((List.replicate (1 + ((((119 - (l.length))) % 64))) 0).set 0 ((128 : UInt8))) ++ (put8 (((8 * (((N)))))))) ((((List.replicate (1 + ((((119 - (l.length))) % 64))) 0).set 0 ((128 : UInt8))) ++ (put8 (((8 * (((N)))))))).length) (by simp) rfl) ?_
   rintro _ w41 ⟨A41, c41, rfl, h41⟩
   refine wq_to (some 40) (x_write h41 4 5 (H := H) (N := ((N))) rfl rfl (by decide) (Value.slice A41 ((((List.replicate (1 + ((((119 - (l.length))) % 64))) 0).set 0 ((128 : UInt8))) ++ (put8 (((8 * (((N)))))))).length) c41) (((List.replicate (1 + ((((119 - (l.length))) % 64))) 0).set 0 ((128 : UInt8))) ++ (put8 (((8 * (((N)))))))) (by kernel_rfl) (OB.sb (h41.at_ 0 rfl)) (djO h41 (i := 4) (k := 0) rfl rfl (by decide)) (djO h41 (i := 5) (k := 0) rfl rfl (by decide)) (by simp only [List.length_append, List.length_set, List.length_replicate, put8_len]; omega) (by simp only [List.length_append, List.length_set, List.length_replicate, put8_len]; omega)) ?_
   rintro _ w42 ⟨rfl, A42, n42, c42, H42, r42, hn42, hH42, hr42, h42⟩
   refine wl_end rfl ?_
   refine seq_n hK38 ?_
   refine wp_seq_k ?_
   intro K43 hK43
   refine wp_reset 54 [(0, (pt g 0)), (2, (Value.slice none 0 0)), (3, (pt g31 0)), (4, (Value.slice (some ⟨g35, 0, none⟩) ((1 + ((((119 - (l.length))) % 64)))) ((1 + ((((119 - (l.length))) % 64))))))] (fun x44 => ?_)
   refine reg_lit ?_
   refine wq_p 1 [(5, (Value.slice none 0 0))] ?_
   refine wl_end rfl ?_
   refine seq_n hK43 ?_
   refine wp_seq_k ?_
   intro K45 hK45
   refine wp_seq_k ?_
   intro K46 hK46
   have h47 := h42.obNil
   
   refine reg_lit ?_
   refine wq_p 1 [(41, (pt g31 0))] ?_
   refine wq_v (some 42) (Value.agg (vw H42.l).toArray) (e_loads (h47.at_ 5 rfl) 90 (.tmp 41) (by kernel_rfl) 0 (vw H42.l) (by kernel_rfl) (by kernel_rfl) (by kernel_rfl)) ?_
   refine wq_p 1 [(43, (Value.int .i64 0))] ?_
   refine wl_end rfl ?_
   refine seq_n hK46 ?_
   refine wp_block ?_
   refine wp_loopm (fun mM xX aA wL => ∃ (i : Nat) (A2 : Option Addr) (c2 : Nat) (lo : Bytes), (i ≤ 8) ∧ (lo = outW (H42.l.take i)) ∧ mM = 8 - (i) ∧ aA = patch xX 54 [(0, (pt g 0)), (2, (Value.slice none 0 0)), (3, (pt g31 0)), (4, (Value.slice (some ⟨g35, 0, none⟩) ((1 + ((((119 - (l.length))) % 64)))) ((1 + ((((119 - (l.length))) % 64)))))), (5, (Value.slice A2 ((lo).length) c2)), (42, (Value.agg (vw H42.l).toArray)), (43, (Value.int .i64 ((i : Int))))] ∧ Hp (fun _ => False) w wL [rSB ((Value.slice A l.length c)) l, rBlk g 92 (vw H.l ++ [(Value.slice A l.length c), (Value.int .u64 (((N : Nat) : Int)))])] [rOB ((Value.slice A2 ((lo).length) c2)) lo]) ⟨_, 0, none, 0, (([] : Bytes)), (by omega), rfl, rfl, (patch_eq _ 54 _ (by kernel_rfl) (by kernel_rfl) (by kernel_rfl)), h47.sel [0] [0, 1] (by kernel_rfl) rfl rfl⟩ ?_
   rintro _ x48 _ w48 ⟨i, A2, c2, lo, hi, hlo, rfl, rfl, h48⟩
   refine wp_seq_k ?_
   intro K49 hK49
   refine reg_lit ?_
   refine wq_p 1 [(44, (Value.bool (decide ((i : Int) < 8))))] ?_
   refine wl_end rfl ?_
   refine seq_n hK49 ?_
   refine wp_seq_k ?_
   intro K50 hK50
   refine wp_if ((i : Int) < 8) (by kernel_rfl) (fun b51 => ?_) (fun b51 => ?_)
   ·
    refine wp_skip ?_
    refine seq_n hK50 ?_
    refine wp_seq_k ?_
    intro K52 hK52
    refine wp_block ?_
    refine wp_seq_k ?_
    intro K53 hK53
    refine reg_lit ?_
    refine wq_v (some 45) (Value.int .u32 (uw (gw H42.l i))) (e_indexV 90 (.tmp 42) (.tmp 43) (by kernel_rfl) .i64 H42.l i (by kernel_rfl) (by kernel_rfl) (by first | omega | (simp only [S8.l_len]; omega)) 64 (by kernel_rfl) (by kernel_rfl) (by kernel_rfl) _) ?_
    refine wq_p 1 [(7, (Value.int .u32 (uw (gw H42.l i))))] ?_
    refine wl_end rfl ?_
    refine seq_n hK53 ?_
    refine reg_lit ?_
    refine wq_p 2 [(47, (Value.int .u32 (uw (gw H42.l i)))), (46, (Value.slice A2 ((lo).length) c2))] ?_
    refine wq_v (some 48) (Value.int .u64 ((((gw H42.l i)).toNat : Int))) (eq_is (v := Value.int .u64 (IntKind.u64.wrap (uw (gw H42.l i)))) (by kernel_rfl) (w_to64 (gw H42.l i))) ?_
    refine wq_to (some 49) (x_bytesE h48 20 [(Value.int .u64 ((((gw H42.l i)).toNat : Int)))] (by kernel_rfl) (put_any ((((gw H42.l i)).toNat)) _) (put8 ((((gw H42.l i)).toNat))) ((put8 ((((gw H42.l i)).toNat))).length) rfl rfl) ?_
    rintro _ w54 ⟨A54, c54, rfl, h54⟩
    refine wq_v (some 50) (cutS (Value.slice A54 ((put8 ((((gw H42.l i)).toNat))).length) c54) 4 ((put8 ((((gw H42.l i)).toNat))).length)) (e_cut_l (OB.sb (h54.at_ 0 rfl)) (.tmp 49) (.const (Value.int .i64 4)) (by kernel_rfl) (by kernel_rfl) .i64 4 (by kernel_rfl) (by first | omega | (simp only [put8_len]; omega) | (rw [put8_len]; decide)) _) ?_
    refine wq_to (some 51) (x_appG h54 1 rfl (.tmp 46) (.tmp 50) (by kernel_rfl) (cutS (Value.slice A54 ((put8 ((((gw H42.l i)).toNat))).length) c54) 4 ((put8 ((((gw H42.l i)).toNat))).length)) (by kernel_rfl) (by kernel_rfl) (SB.cut (OB.sb (h54.at_ 0 rfl)) 4 ((put8 ((((gw H42.l i)).toNat))).length) (by first | omega | (simp only [put8_len]; omega) | (rw [put8_len]; decide))) (by first | omega | (simp; omega) | (simp [put8_len]; omega) | (rw [hlo, outW_len]; simp [put8_len]; omega)) (lo ++ (((put8 ((((gw H42.l i)).toNat))).take ((put8 ((((gw H42.l i)).toNat))).length)).drop 4)) ((lo ++ (((put8 ((((gw H42.l i)).toNat))).take ((put8 ((((gw H42.l i)).toNat))).length)).drop 4)).length) rfl rfl) ?_
    rintro _ w55 ⟨A55, c55, rfl, h55⟩
    refine wq_p 1 [(5, (Value.slice A55 ((lo ++ (((put8 ((((gw H42.l i)).toNat))).take ((put8 ((((gw H42.l i)).toNat))).length)).drop 4)).length) c55))] ?_
    refine wl_end rfl ?_
    refine blk_n ?_
    refine seq_n hK52 ?_
    refine reg_lit ?_
    refine wq_v (some 52) (Value.int .i64 ((i : Int) + 1)) (exec_add _ _ _ _ rfl ((i : Int)) 1 (by kernel_rfl) (by kernel_rfl) ((i : Int) + 1) rfl (by omega) (by omega) _) ?_
    refine wq_p 1 [(43, (Value.int .i64 ((i : Int) + 1)))] ?_
    refine wl_end rfl ?_
    refine ⟨8 - (i + 1), (by omega), (i + 1), A55, c55, (lo ++ (((put8 ((((gw H42.l i)).toNat))).take ((put8 ((((gw H42.l i)).toNat))).length)).drop 4)), (by omega), (by rw [hlo, ← outW_step _ _ (by rw [S8.l_len]; omega)]), rfl, (patch_eq _ 54 _ (by kernel_rfl) (by kernel_rfl) (by kernel_rfl)), h55.sel [1] [0, 1] (by kernel_rfl) rfl rfl⟩
   ·
    refine wp_exit ?_
    refine seq_e ?_
    refine seq_e ?_
    refine blk_e ?_
    refine seq_n hK45 ?_
    refine wp_seq_k ?_
    intro K56 hK56
    refine reg_lit ?_
    refine wq_p 2 [(2, (Value.slice A2 ((lo).length) c2)), (53, (Value.slice A2 ((lo).length) c2))] ?_
    refine wl_end rfl ?_
    refine seq_n hK56 ?_
    refine wp_ret ?_
    refine post_1 rfl (by kernel_rfl) (rtmp (v := (Value.slice A2 ((lo).length) c2)) (by kernel_rfl)) ?_
    exact bpost_of h48 0 rfl (by rw [hlo, show i = H42.l.length by rw [S8.l_len]; omega, List.take_length, hH42, pad_set]; rfl)
end Go.Proofs.YtpkelokaammmjaaDoor
end
/-! The walk of Of. -/
section
namespace Go.Proofs.YtpkelokaammmjaaDoor
open Go.RowKit Go.QT
section
variable {P : Program} {o : Oper} {a : Act} {w w' : World} {F0 : Nat → Prop} {w0 : World} {ro rs : List Res}
theorem x_snew (h : Hp F0 w0 w ro rs) (hp : pureVal Tryd.prog (execOp a.eval o) = some (.enter 49 #[])) :
    OpTo Tryd.prog o a w (fun u w' => ∃ g, u = pt g 0 ∧ Hp F0 w0 w' ro (rBlk g 92 (vw shaH0.l ++ [.slice none 0 0, .int .u64 ((0 : Nat) : Int)]) :: rOC (.slice none 0 0) [] :: rs)) :=
  OpTo.enter 49 [] hp (snew_any w) fun e w' hq => by
    obtain ⟨g, he, hc⟩ := hq
    exact ⟨_, he, g, rfl, h.call0 hc⟩
theorem x_sdigest (h : Hp F0 w0 w ro rs) (i j : Nat) {g : Nat} {H : S8} {v : Value} {l : Bytes} {N : Nat} (hi : rs[i]? = some (rBlk g 92 (vw H.l ++ [v, .int .u64 ((N : Nat) : Int)]))) (hj : rs[j]? = some (rOC v l))
    (hp : pureVal Tryd.prog (execOp a.eval o) = some (.enter 51 #[pt g 0])) (hN : N < 576460752303423488) (hl : l.length < 64) (r : Bytes) (hr : r = outW (absb ((l ++ padR l N).length / 64) H (l ++ padR l N)).l) :
    OpTo Tryd.prog o a w (fun u w' => ∃ A cc, u = .slice A r.length cc ∧ Hp F0 w0 w' ro (rOB (.slice A r.length cc) r :: rs)) :=
  x_bytesE h 51 [pt g 0] hp (sdigest_any g H v l N w ((Hp.ro1 (rBlk g 92 (vw H.l ++ [v, .int .u64 ((N : Nat) : Int)])) (h.own i _ hi)).addR (rSB v l) (OC.sb (h.own j _ hj)) (by simp)) hN hl) r _ hr rfl
end
set_option maxRecDepth 100000 in
set_option maxHeartbeats 4000000 in
theorem of_any (v : Value) (ls : List Bytes) (w : World) (hv : SS w v ls) (hl : ls.flatten.length ≤ 1099511627776) : Calls Tryd.prog 35 #[v] w (BPost w (shaF ls.flatten)) := by
  obtain ⟨A, c, rfl, hc1, hc2, hcell⟩ := hv
  unfold maxLen at hc2
  have h0 := Hp.nil (fun _ => False) w
  refine enter 18 Tryd.func35 rfl rfl ?_
  refine wp_reset 19 [(0, (Value.slice A ls.length c))] (fun x0 => ?_)
  refine wp_seq_k ?_
  intro K1 hK1
  refine reg_lit ?_
  refine wq_p 1 [(2, (Value.slice none 0 0))] ?_
  refine wl_end rfl ?_
  refine seq_n hK1 ?_
  refine wp_seq_k ?_
  intro K2 hK2
  refine reg_lit ?_
  refine wq_to (some 6) (x_snew h0 (by kernel_rfl)) ?_
  rintro _ w3 ⟨g3, rfl, h3⟩
  refine wq_p 1 [(3, (pt g3 0))] ?_
  refine wl_end rfl ?_
  refine seq_n hK2 ?_
  refine wp_seq_k ?_
  intro K4 hK4
  refine wp_seq_k ?_
  intro K5 hK5
  refine reg_lit ?_
  refine wq_p 3 [(9, (Value.int .i64 0)), (8, (Value.int .i64 ((ls.length : Int)))), (7, (Value.slice A ls.length c))] ?_
  refine wl_end rfl ?_
  refine seq_n hK5 ?_
  refine wp_block ?_
  refine wp_loopm (fun mM xX aA wL => ∃ (k : Nat) (A1 : Option Addr) (n1 : Nat) (c1 : Nat) (H : S8) (r : Bytes) (M : Bytes) (N : Nat), (k ≤ ls.length) ∧ (n1 = (r : Bytes).length) ∧ (M = joinTo ls k) ∧ (N = (M : Bytes).length) ∧ (H = absb ((M : Bytes).length / 64) shaH0 M) ∧ (r = (M : Bytes).drop (64 * ((M : Bytes).length / 64))) ∧ mM = ls.length - (k) ∧ aA = patch xX 19 [(0, (Value.slice A ls.length c)), (2, (Value.slice none 0 0)), (3, (pt g3 0)), (7, (Value.slice A ls.length c)), (8, (Value.int .i64 ((ls.length : Int)))), (9, (Value.int .i64 ((k : Int))))] ∧ Hp (fun _ => False) w wL [] [rBlk g3 92 (vw H.l ++ [(Value.slice A1 n1 c1), (Value.int .u64 (((N : Nat) : Int)))]), rOC ((Value.slice A1 n1 c1)) r]) ⟨_, 0, none, 0, 0, shaH0, (([] : Bytes)), (([] : Bytes)), 0, (by omega), rfl, rfl, rfl, rfl, rfl, rfl, (patch_eq _ 19 _ (by kernel_rfl) (by kernel_rfl) (by kernel_rfl)), h3.sel [0, 1] [] (by kernel_rfl) rfl rfl⟩ ?_
  rintro _ x6 _ w6 ⟨k, A1, n1, c1, H, r, M, N, hk, hn, hM, hN, hH, hr, rfl, rfl, h6⟩
  refine wp_seq_k ?_
  intro K7 hK7
  refine reg_lit ?_
  refine wq_p 1 [(10, (Value.bool (decide ((k : Int) < (ls.length : Int)))))] ?_
  refine wl_end rfl ?_
  refine seq_n hK7 ?_
  refine wp_seq_k ?_
  intro K8 hK8
  refine wp_if ((k : Int) < (ls.length : Int)) (by kernel_rfl) (fun b9 => ?_) (fun b9 => ?_)
  ·
   refine wp_skip ?_
   refine seq_n hK8 ?_
   refine wp_seq_k ?_
   intro K10 hK10
   refine wp_block ?_
   refine wp_seq_k ?_
   intro K11 hK11
   obtain ⟨b, o, u, hA, hlt, hc, hs⟩ := hcell k (by omega)
   have hle := joinTo_le ls (k + 1) (by omega)
   rw [joinTo, List.length_append, ← hM] at hle
   have hrl := congrArg List.length hr
   rw [List.length_drop] at hrl
   
   refine reg_lit ?_
   refine wq_v (some 11) (pt b (o + k)) (e_idxSS (n := ls.length) (c := c) b o k hA 76 (.tmp 7) (.tmp 9) (by kernel_rfl) (by kernel_rfl) (by kernel_rfl) (by omega) 22 (by kernel_rfl) (by kernel_rfl) _) ?_
   refine wq_v (some 12) u (e_loadC ((h6.below0.cell (p := ⟨b, o + k, none⟩) hlt).trans hc) 22 (.tmp 11) (by kernel_rfl) (by kernel_rfl) (by kernel_rfl)) ?_
   refine wq_p 1 [(5, u)] ?_
   refine wl_end rfl ?_
   refine seq_n hK11 ?_
   refine reg_lit ?_
   refine wq_p 2 [(14, u), (13, (pt g3 0))] ?_
   refine wq_to (some 15) (x_write h6 0 1 (H := H) (N := ((N))) rfl rfl (by decide) u (ls.getD k []) (by kernel_rfl) (hs.below h6.below0) (djW h6 (i := 0) rfl hs) (djW h6 (i := 1) rfl hs) (by omega) (by omega)) ?_
   rintro _ w12 ⟨rfl, A12, n12, c12, H12, r12, hn12, hH12, hr12, h12⟩
   refine wl_end rfl ?_
   refine blk_n ?_
   refine seq_n hK10 ?_
   refine reg_lit ?_
   refine wq_v (some 16) (Value.int .i64 ((k : Int) + 1)) (exec_add _ _ _ _ rfl ((k : Int)) 1 (by kernel_rfl) (by kernel_rfl) ((k : Int) + 1) rfl (by omega) (by omega) _) ?_
   refine wq_p 1 [(9, (Value.int .i64 ((k : Int) + 1)))] ?_
   refine wl_end rfl ?_
   refine ⟨ls.length - (k + 1), (by omega), (k + 1), A12, n12, c12, H12, r12, ((M ++ ls.getD k [])), ((N + (ls.getD k []).length)), (by omega), hn12, (by rw [hM]; rfl), (by rw [List.length_append, hN]), (by rw [hH12, hH, (absb_more shaH0 M _ r hr).1]), (by rw [hr12, (absb_more shaH0 M _ r hr).2]), rfl, (patch_eq _ 19 _ (by kernel_rfl) (by kernel_rfl) (by kernel_rfl)), h12.sel [0, 1] [] (by kernel_rfl) rfl rfl⟩
  ·
   refine wp_exit ?_
   refine seq_e ?_
   refine seq_e ?_
   refine blk_e ?_
   refine seq_n hK4 ?_
   refine wp_seq_k ?_
   intro K13 hK13
   have hle := joinTo_le ls k hk
   rw [← hM] at hle
   have hrl := congrArg List.length hr
   rw [List.length_drop] at hrl
   refine reg_lit ?_
   refine wq_p 1 [(17, (pt g3 0))] ?_
   refine wq_to (some 18) (x_sdigest h6 0 1 (H := H) (N := ((N))) rfl rfl (by kernel_rfl) (by omega) (by omega) (shaF ls.flatten) (by rw [show ls.flatten = M by rw [hM, show k = ls.length by omega, joinTo_all], ← sha_fin M r H hr hH, hN])) ?_
   rintro _ w14 ⟨A14, c14, rfl, h14⟩
   refine wq_p 1 [(2, (Value.slice A14 ((shaF ls.flatten).length) c14))] ?_
   refine wl_end rfl ?_
   refine seq_n hK13 ?_
   refine wp_ret ?_
   refine post_1 rfl (by kernel_rfl) (rtmp (v := (Value.slice A14 ((shaF ls.flatten).length) c14)) (by kernel_rfl)) ?_
   exact bpost_of h14 0 rfl rfl
end Go.Proofs.YtpkelokaammmjaaDoor
end
/-! Steps for the walks of mac: rows behind a row, Of's and Sum's calls, bytes held against bytes. -/
section
namespace Go.Proofs.YtpkelokaammmjaaDoor
open Go.RowKit Go.QT
theorem b_xor (a b : UInt8) : Value.int .u8 (bits .xor .u8 (ub a) (ub b)) = Value.int .u8 (ub (a ^^^ b)) := congrArg (Value.int .u8) (bits_xor8 a b)
theorem gb_ge (l : Bytes) (i : Nat) (h : l.length ≤ i) : gb l i = 0 := by simp [gb, List.getElem?_eq_none h]
theorem flat1 (vs : List Value) : (vs.map fun x => [x]).flatten = vs := by
  induction vs with
  | nil => rfl
  | cons x l ih => simp [ih]
theorem SB.one {w : World} {v : Value} {l : Bytes} (h : SB w v l) : v.oneCell' = true := by
  obtain ⟨A, c, rfl, _⟩ := h; rfl
theorem SS.vals {w : World} {A : Option Addr} {n c : Nat} {ls : List Bytes} (h : SS w (.slice A n c) ls) : n = ls.length ∧ ∃ vs : List Value, vs.length = ls.length ∧ Reads w w.heap.size 1 A ls.length vs ∧ (∀ (i : Nat) (v : Value) (l : Bytes), vs[i]? = some v → ls[i]? = some l → SB w v l) ∧ ls.length ≤ maxLen := by
  obtain ⟨A', c', e, h1, h2, h3⟩ := h
  injection e with e1 e2 e3
  subst e1; subst e3
  refine ⟨e2, ?_⟩
  by_cases h0 : ls.length = 0
  · refine ⟨[], by simpa using h0.symm, ⟨by simp [h0], fun h => by omega⟩, by simp, by omega⟩
  · obtain ⟨b, o, _, hA, hlt, _, _⟩ := h3 0 (by omega)
    subst hA
    have hall : ∀ i, i < ls.length → ∃ u, w.cell? ⟨b, o + i, none⟩ = some u ∧ SB w u (ls.getD i []) := by
      intro i hi
      obtain ⟨b', o', u, e, _, hc, hs⟩ := h3 i hi
      injection e with e
      injection e with e1 e2
      subst e1; subst e2
      exact ⟨u, hc, hs⟩
    refine ⟨(List.range ls.length).map fun i => (w.cell? ⟨b, o + i, none⟩).getD undef, by simp, ⟨by simp, fun _ => ⟨_, rfl, hlt, fun j u hu => ?_⟩⟩, fun i v l hv hl => ?_, by omega⟩
    · have hj : j < ls.length := by have := (List.getElem?_eq_some_iff.1 hu).1; simpa using this
      obtain ⟨u', hc, _⟩ := hall j hj
      have : u' = u := by simpa [hj, hc] using hu
      rw [Addr.add_lit, hc, this]
    · have hi : i < ls.length := (List.getElem?_eq_some_iff.1 hl).1
      obtain ⟨u', hc, hs⟩ := hall i hi
      have : u' = v := by simpa [hi, hc] using hv
      have e : ls.getD i [] = l := by simp [List.getD, hl]
      rw [this, e] at hs
      exact hs
section
variable {o : Oper} {a : Act} {w w' : World} {F0 : Nat → Prop} {w0 : World} {ro rs : List Res}
/-- A row of values becomes one of the call's own. -/
theorem Hp.blkRow (h : Hp F0 w0 w ro rs) (i : Nat) {g : Nat} {u1 : Value} (hi : rs[i]? = some (rBlk g 22 [u1])) (h1 : u1.oneCell' = true) : Hp F0 w0 w ro (rs.set i (rOV 22 1 (.slice (some ⟨g, 0, none⟩) 1 1) ([u1].map fun x => [x]))) := by
  have hb : Blk w g 22 [u1] := h.own i _ hi
  refine h.upd i hi (Fr.refl _ _) _ ⟨⟨by simp, .inr ⟨g, 1, #[u1], rfl, Nat.zero_le _, hb, Nat.le_refl _, by decide, rfl, by simp⟩⟩, by simp, ?_⟩ (fun q hq => .inl ?_)
  · intro x hx u hu
    simp at hx; subst hx
    simp at hu; subst hu
    exact h1
  · have : g = q := by simpa [rOV, Value.ownBlock] using hq
    exact this.symm
theorem bss_info : (Tryd.prog.info? 22).map (fun i => (i.zero, i.size, i.bytes)) = some (some (.slice none 0 0), 1, 24) := by kernel_rfl
theorem bss_und : Tryd.prog.underlying 76 = some (.slice 22) := by kernel_rfl
theorem x_appRow (h : Hp F0 w0 w ro rs) (i : Nat) {v : Value} {us vs : List Value} (hi : rs[i]? = some (rOV 22 1 v (us.map fun x => [x]))) (s x : Operand) (ho : o.op = .call { callee := .builtin .append, args := #[s, x], argTypes := #[76, 76] })
    {A : Option Addr} {m c B : Nat} (hs : a.eval s = v) (hx : a.eval x = .slice A m c) (hr : Reads w B 1 A m vs) (h1 : ∀ u ∈ vs, u.oneCell' = true) (hlen : us.length + m ≤ 1000000) :
    OpTo Tryd.prog o a w (fun u w' => ∃ A c n, u = .slice A n c ∧ n = us.length + m ∧ Hp F0 w0 w' ro (rs.set i (rOV 22 1 (.slice A n c) ((us ++ vs).map fun x => [x])))) := by
  have hv : OV w 0 22 1 v (us.map fun x => [x]) := h.own i _ hi
  obtain ⟨i0, hi0, hz0, hz1, hz2⟩ := info_parts bss_info
  have hvl : vs.length = m := by simpa using hr.1
  have hown : w.ownsRow 0 22 1 v us.length us := by
    have := hv.own
    rw [flat1] at this
    simpa using this
  obtain ⟨v', w', hrun, h2, h3, h4⟩ := run_append_any (P := Tryd.prog) w 0 76 o.type 22 i0 _ 1 24 bss_und hi0 hz0 hz1 hz2 rfl (by omega) v us.length us hown B A m c vs hr h1 (by unfold maxLen; omega) (by omega) (Nat.zero_le _)
  have hov : OV w' 0 22 1 v' ((us ++ vs).map fun x => [x]) := by
    refine ⟨?_, fun x hx => by simp only [List.mem_map] at hx; obtain ⟨y, _, rfl⟩ := hx; rfl, fun x hx u hu => ?_⟩
    · rw [flat1]
      simpa [hvl] using h2
    · simp only [List.mem_map] at hx
      obtain ⟨y, hy, rfl⟩ := hx
      simp at hu; subst hu
      rcases List.mem_append.1 hy with hy | hy
      · exact hv.one [u] (by simp; exact hy) u (by simp)
      · exact h1 u hy
  obtain ⟨A', c', e, _, _⟩ := hov.form
  have hrun' : (execOp a.eval o).run Tryd.prog w = .ok (.value v') w' := by
    unfold execOp
    simp only [ho, resolve, invoke, builtin, Sem.run_bind, Sem.run_pure, Result.andThen_ok, List.map_toArray, List.map_cons, List.map_nil, hs, hx, hrun]
  subst e
  refine OpTo.run _ hrun' ⟨A', c', _, rfl, by simp [hvl], h.upd i hi (Fr.of_grown h3 (fun q hq => .inl hq)) _ hov (fun q hq => ?_)⟩
  rcases h4 with h4 | h4
  · left; show v.ownBlock = some q; rw [← h4]; exact hq
  · right
    have : (Value.slice A' ((us ++ vs).map fun x => [x]).length c').ownBlock = some q := hq
    rw [h4] at this
    injection this with this
    omega
/-- Such a row reads as rows of bytes. -/
theorem SS.row {v : Value} {us : List Value} {ls : List Bytes} (h : OV w 0 22 1 v (us.map fun x => [x])) (hl : us.length = ls.length) (hs : ∀ (i : Nat) (u : Value) (l : Bytes), us[i]? = some u → ls[i]? = some l → SB w u l) : SS w v ls := by
  obtain ⟨A, c, e, h1, h2⟩ := h.form
  subst e
  refine ⟨A, c, by simp [hl], by simpa [hl] using h1, h2, fun i hi => ?_⟩
  obtain ⟨g, cap, e, _, hlt, _, _, cur, hB, hcur⟩ := h.at_ (i := i) (by simpa [hl] using hi)
  injection e with e1 e2 e3
  have hu : i < us.length := by omega
  refine ⟨g, 0, us[i], e1, hlt, ?_, hs i _ _ (List.getElem?_eq_getElem hu) (by simp [List.getD, hi])⟩
  have := hcur 0 (by omega)
  rw [hB.cell, Nat.zero_add]
  simpa using this
theorem sb_cons {u : Value} {l : Bytes} {vs : List Value} {ls : List Bytes} (h : SB w u l) (hs : ∀ (i : Nat) (v : Value) (m : Bytes), vs[i]? = some v → ls[i]? = some m → SB w v m) : ∀ (i : Nat) (v : Value) (m : Bytes), ([u] ++ vs)[i]? = some v → (l :: ls)[i]? = some m → SB w v m := by
  intro i v m hv hm
  cases i with
  | zero => simp at hv hm; subst hv; subst hm; exact h
  | succ i => exact hs i v m (by simpa using hv) (by simpa using hm)
theorem vals_one {vs : List Value} {ls : List Bytes} (hs : ∀ (i : Nat) (v : Value) (m : Bytes), vs[i]? = some v → ls[i]? = some m → SB w v m) (hl : vs.length = ls.length) : ∀ u ∈ vs, u.oneCell' = true := by
  intro u hu
  obtain ⟨i, hi, rfl⟩ := List.getElem_of_mem hu
  exact (hs i _ _ (List.getElem?_eq_getElem hi) (List.getElem?_eq_getElem (hl ▸ hi))).one
end
end Go.Proofs.YtpkelokaammmjaaDoor
end
/-! The walk of mac.Sum. -/
section
namespace Go.Proofs.YtpkelokaammmjaaDoor
open Go.RowKit Go.QT
theorem mac_len (k m : Bytes) : (macF k m).length = 32 := sha_len _
theorem key64_le (k : Bytes) (h : ¬ k.length > 64) : key64 k = k := if_pos (by omega)
theorem key64_gt (k : Bytes) (h : k.length > 64) : key64 k = shaF k := if_neg (by omega)
set_option maxRecDepth 100000 in
set_option maxHeartbeats 4000000 in
theorem sum_any (kv : Value) (k : Bytes) (v : Value) (ls : List Bytes) (w : World) (hk : SB w kv k) (hv : SS w v ls) (hkl : k.length ≤ 1073741824) (hn : ls.length ≤ 1000) (hl : ls.flatten.length ≤ 1073741824) :
    Calls Tryd.prog 26 #[kv, v] w (BPost w (macF k ls.flatten)) := by
  obtain ⟨A, c, rfl, hc1, hc2⟩ := sb_form hk
  obtain ⟨B, n, d, rfl⟩ : ∃ B n d, v = .slice B n d := by obtain ⟨B, d, e, _⟩ := hv; exact ⟨B, _, d, e⟩
  obtain ⟨rfl, vs, hvl, hrd, hvs, hlm⟩ := hv.vals
  have h0 := Hp.ro1 (rSB (.slice A k.length c) k) hk
  refine enter 47 Tryd.func26 rfl rfl ?_
  refine wp_reset 49 [(0, (Value.slice A k.length c)), (1, (Value.slice B ls.length d))] (fun x0 => ?_)
  refine wp_seq_k ?_
  intro K1 hK1
  refine reg_lit ?_
  refine wq_p 1 [(4, (Value.slice none 0 0))] ?_
  refine wl_end rfl ?_
  refine seq_n hK1 ?_
  refine wp_seq_k ?_
  intro K2 hK2
  refine wp_seq_k ?_
  intro K3 hK3
  refine reg_lit ?_
  refine wq_p 3 [(11, (Value.bool (decide ((k.length : Int) > 64)))), (10, (Value.int .i64 ((k.length : Int)))), (9, (Value.slice A k.length c))] ?_
  refine wl_end rfl ?_
  refine seq_n hK3 ?_
  refine wp_if ((k.length : Int) > 64) (by kernel_rfl) (fun b4 => ?_) (fun b4 => ?_)
  ·
   refine reg_lit ?_
   refine wq_p 1 [(12, (Value.slice A k.length c))] ?_
   refine wq_to (some 13) (x_bs h0 22 ([(Value.slice A k.length c)]) 1 (by kernel_rfl)) ?_
   rintro _ w5 ⟨g5, rfl, h5⟩
   refine wq_to (some 14) (x_bytesE h5 35 [(Value.slice (some ⟨g5, 0, none⟩) 1 1)] (by kernel_rfl) (of_any (Value.slice (some ⟨g5, 0, none⟩) 1 1) [k] _ (bs1 (h5.at_ 0 rfl) (h5.rd 0 rfl)) (by simp only [List.flatten_cons, List.flatten_nil, List.length_append, List.length_nil]; omega)) (shaF (k)) (32) (by simp) (sha_len _).symm) ?_
   rintro _ w6 ⟨A6, c6, rfl, h6⟩
   refine wq_p 1 [(0, (Value.slice A6 32 c6))] ?_
   refine wl_end rfl ?_
   refine seq_n hK2 ?_
   refine wp_seq_k ?_
   intro K7 hK7
   refine pR_go h6 3 (fun W => True) [(16, [], 0), (17, [], 0), (6, [15], 1), (7, [16], 7)] rfl (fun _ d _ _ _ h => by cases d <;> exact h) ?_
   intro hs8 w8 h8
   refine pR_or 0 1 hs8 ?_ ?_
   ·
    refine pR_op 0 (some 15) 1 rfl (x_make h8 (.const (Value.int .i64 64)) (.const (Value.int .i64 64)) (by kernel_rfl) 64 (by kernel_rfl) (by kernel_rfl) (by omega)) ?_
    rintro _ w9 ⟨g9, rfl, h9⟩
    refine ⟨fun _ => trivial, ?_⟩
    refine pR_p 2 [2] [(5, (Value.slice (some ⟨g9, 0, none⟩) 64 64))] 5 hs8 trivial ?_
    refine pR_to 1 (some 16) 7 rfl hs8 (x_make h9 (.const (Value.int .i64 64)) (.const (Value.int .i64 64)) (by kernel_rfl) 64 (by kernel_rfl) (by kernel_rfl) (by omega)) ?_
    rintro _ w10 ⟨g10, rfl, h10⟩
    refine ⟨fun _ => trivial, ?_⟩
    refine pR_to 3 (some 6) 15 rfl hs8 (OpTo.run (Value.slice (some ⟨g10, 0, none⟩) 64 64) (pureOp_run (by kernel_rfl) _) (R := fun v w => v = (Value.slice (some ⟨g10, 0, none⟩) 64 64) ∧ w10 = w) ⟨rfl, rfl⟩) ?_
    rintro _ _ ⟨rfl, rfl⟩
    refine ⟨fun h => absurd h (by decide), ?_⟩
    refine pR_done hs8 ?_ _
    refine seq_n hK7 ?_
    refine wp_seq_k ?_
    intro K11 hK11
    refine wp_seq_k ?_
    intro K12 hK12
    refine reg_lit ?_
    refine wq_p 3 [(19, (Value.int .i64 0)), (18, (Value.int .i64 64)), (17, (Value.slice (some ⟨g9, 0, none⟩) 64 64))] ?_
    refine wl_end rfl ?_
    refine seq_n hK12 ?_
    refine wp_block ?_
    refine wp_loopm (fun mM xX aA wL => ∃ (i : Nat) (li : Bytes) (lo : Bytes), (i ≤ 64) ∧ (li = padS (shaF (k)) 54 (i)) ∧ (lo = padS (shaF (k)) 92 (i)) ∧ ((li : Bytes).length = 64) ∧ ((lo : Bytes).length = 64) ∧ mM = 64 - (i) ∧ aA = patch xX 49 [(0, (Value.slice A6 32 c6)), (1, (Value.slice B ls.length d)), (4, (Value.slice none 0 0)), (5, (Value.slice (some ⟨g9, 0, none⟩) 64 64)), (6, (Value.slice (some ⟨g10, 0, none⟩) 64 64)), (11, (Value.bool (decide ((k.length : Int) > 64)))), (18, (Value.int .i64 64)), (19, (Value.int .i64 ((i : Int))))] ∧ Hp (fun _ => False) w wL [rSB ((Value.slice A k.length c)) k] [rOB ((Value.slice (some ⟨g9, 0, none⟩) 64 64)) li, rOB ((Value.slice (some ⟨g10, 0, none⟩) 64 64)) lo, rOB ((Value.slice A6 32 c6)) (shaF (k))]) ⟨_, 0, ((List.replicate 64 0)), ((List.replicate 64 0)), (by omega), rfl, rfl, rfl, rfl, rfl, (patch_eq _ 49 _ (by kernel_rfl) (by kernel_rfl) (by kernel_rfl)), h10.sel [1, 0, 2] [0] (by kernel_rfl) rfl rfl⟩ ?_
    rintro _ x13 _ w13 ⟨i, li, lo, hi, hI, hO, hli, hlo, rfl, rfl, h13⟩
    refine wp_seq_k ?_
    intro K14 hK14
    refine reg_lit ?_
    refine wq_p 1 [(20, (Value.bool (decide ((i : Int) < 64))))] ?_
    refine wl_end rfl ?_
    refine seq_n hK14 ?_
    refine wp_seq_k ?_
    intro K15 hK15
    refine wp_if ((i : Int) < 64) (by kernel_rfl) (fun b16 => ?_) (fun b16 => ?_)
    ·
     refine wp_skip ?_
     refine seq_n hK15 ?_
     refine wp_seq_k ?_
     intro K17 hK17
     refine wp_block ?_
     refine wp_seq_k ?_
     intro K18 hK18
     refine reg_lit ?_
     refine wq_p 2 [(7, (Value.int .i64 ((i : Int)))), (21, (Value.int .i64 ((i : Int))))] ?_
     refine wl_end rfl ?_
     refine seq_n hK18 ?_
     refine wp_seq_k ?_
     intro K19 hK19
     refine reg_lit ?_
     refine wq_p 1 [(8, (Value.int .u8 0))] ?_
     refine wl_end rfl ?_
     refine seq_n hK19 ?_
     refine wp_seq_k ?_
     intro K20 hK20
     refine wp_seq_k ?_
     intro K21 hK21
     refine reg_lit ?_
     refine wq_p 4 [(25, (Value.bool (decide ((i : Int) < 32)))), (24, (Value.int .i64 32)), (23, (Value.slice A6 32 c6)), (22, (Value.int .i64 ((i : Int))))] ?_
     refine wl_end rfl ?_
     refine seq_n hK21 ?_
     refine wp_if ((i : Int) < 32) (by kernel_rfl) (fun b22 => ?_) (fun b22 => ?_)
     ·
      refine reg_lit ?_
      refine wq_p 2 [(27, (Value.int .i64 ((i : Int)))), (26, (Value.slice A6 32 c6))] ?_
      refine wq_v (some 28) (eAt A6 (i * 1 + 0)) (e_idxN (SB.rvn (OB.sb (h13.at_ 2 rfl))).2 i 32 (SB.rvn (OB.sb (h13.at_ 2 rfl))).1 (by first | omega | (rw [hli]; omega) | (rw [hlo]; omega) | (rw [sha_len]; omega)) 22 (.tmp 26) (.tmp 27) (by kernel_rfl) .i64 (by kernel_rfl) (by kernel_rfl) 5 (by kernel_rfl) (by kernel_rfl) _) ?_
      refine wq_v (some 29) (Value.int .u8 (ub (gb (shaF (k)) (i)))) (e_elemN (SB.rvn (OB.sb (h13.at_ 2 rfl))).2 i 0 ([(Value.int .u8 (ub (gb (shaF (k)) (i))))]) (bx_get _ _ (by first | omega | (rw [hli]; omega) | (rw [hlo]; omega) | (rw [sha_len]; omega))) 5 (.tmp 28) (by kernel_rfl) (Value.int .u8 (ub (gb (shaF (k)) (i)))) (by kernel_rfl) (by kernel_rfl) (by kernel_rfl)) ?_
      refine wq_p 1 [(8, (Value.int .u8 (ub (gb (shaF (k)) (i)))))] ?_
      refine wl_end rfl ?_
      refine seq_n hK20 ?_
      refine reg_lit ?_
      refine wq_p 5 [(34, (Value.int .u8 (ub (gb (shaF (k)) (i))))), (33, (Value.int .i64 ((i : Int)))), (32, (Value.slice (some ⟨g10, 0, none⟩) 64 64)), (31, (Value.int .i64 ((i : Int)))), (30, (Value.slice (some ⟨g9, 0, none⟩) 64 64))] ?_
      refine wq_v (some 35) (Value.int .u8 (ub (((gb (shaF (k)) (i))) ^^^ (54 : UInt8)))) (eq_is (v := Value.int .u8 (bits .xor .u8 (ub ((gb (shaF (k)) (i)))) (ub (54 : UInt8)))) (by kernel_rfl) (b_xor ((gb (shaF (k)) (i))) (54 : UInt8))) ?_
      refine wq_p 1 [(36, (Value.int .u8 (ub (gb (shaF (k)) (i)))))] ?_
      refine wq_v (some 37) (Value.int .u8 (ub (((gb (shaF (k)) (i))) ^^^ (92 : UInt8)))) (eq_is (v := Value.int .u8 (bits .xor .u8 (ub ((gb (shaF (k)) (i)))) (ub (92 : UInt8)))) (by kernel_rfl) (b_xor ((gb (shaF (k)) (i))) (92 : UInt8))) ?_
      refine wq_v (some 38) (eAt (some ⟨g9, 0, none⟩) (i * 1 + 0)) (e_idxN (SB.rvn (OB.sb (h13.at_ 0 rfl))).2 i 64 (SB.rvn (OB.sb (h13.at_ 0 rfl))).1 (by first | omega | (rw [hli]; omega) | (rw [hlo]; omega) | (rw [sha_len]; omega)) 22 (.tmp 30) (.tmp 31) (by kernel_rfl) .i64 (by kernel_rfl) (by kernel_rfl) 5 (by kernel_rfl) (by kernel_rfl) _) ?_
      refine wq_to none (x_storeB h13 0 rfl i (by first | omega | (rw [hli]; omega) | (rw [hlo]; omega) | (rw [sha_len]; omega)) 5 (.tmp 38) (.tmp 35) (by kernel_rfl) ((((gb (shaF (k)) (i))) ^^^ (54 : UInt8))) (by kernel_rfl) (by kernel_rfl) (by kernel_rfl)) ?_
      rintro _ w23 h23
      refine wq_v (some 39) (eAt (some ⟨g10, 0, none⟩) (i * 1 + 0)) (e_idxN (SB.rvn (OB.sb (h23.at_ 1 rfl))).2 i 64 (SB.rvn (OB.sb (h23.at_ 1 rfl))).1 (by first | omega | (rw [hli]; omega) | (rw [hlo]; omega) | (rw [sha_len]; omega)) 22 (.tmp 32) (.tmp 33) (by kernel_rfl) .i64 (by kernel_rfl) (by kernel_rfl) 5 (by kernel_rfl) (by kernel_rfl) _) ?_
      refine wq_to none (x_storeB h23 1 rfl i (by first | omega | (rw [hli]; omega) | (rw [hlo]; omega) | (rw [sha_len]; omega)) 5 (.tmp 39) (.tmp 37) (by kernel_rfl) ((((gb (shaF (k)) (i))) ^^^ (92 : UInt8))) (by kernel_rfl) (by kernel_rfl) (by kernel_rfl)) ?_
      rintro _ w24 h24
      refine wl_end rfl ?_
      refine blk_n ?_
      refine seq_n hK17 ?_
      refine reg_lit ?_
      refine wq_v (some 40) (Value.int .i64 ((i : Int) + 1)) (exec_add _ _ _ _ rfl ((i : Int)) 1 (by kernel_rfl) (by kernel_rfl) ((i : Int) + 1) rfl (by omega) (by omega) _) ?_
      refine wq_p 1 [(19, (Value.int .i64 ((i : Int) + 1)))] ?_
      refine wl_end rfl ?_
      refine ⟨64 - (i + 1), (by omega), (i + 1), (li.set i ((((gb (shaF (k)) (i))) ^^^ (54 : UInt8)))), (lo.set i ((((gb (shaF (k)) (i))) ^^^ (92 : UInt8)))), (by omega), (by rw [hI]; first | rfl | (rw [padS, gb_ge (shaF (k)) i (by first | omega | (rw [sha_len]; omega))])), (by rw [hO]; first | rfl | (rw [padS, gb_ge (shaF (k)) i (by first | omega | (rw [sha_len]; omega))])), (by rw [List.length_set]; exact hli), (by rw [List.length_set]; exact hlo), rfl, (patch_eq _ 49 _ (by kernel_rfl) (by kernel_rfl) (by kernel_rfl)), h24.sel [0, 1, 2] [0] (by kernel_rfl) rfl rfl⟩
     ·
      refine wp_skip ?_
      refine seq_n hK20 ?_
      refine reg_lit ?_
      refine wq_p 5 [(34, (Value.int .u8 0)), (33, (Value.int .i64 ((i : Int)))), (32, (Value.slice (some ⟨g10, 0, none⟩) 64 64)), (31, (Value.int .i64 ((i : Int)))), (30, (Value.slice (some ⟨g9, 0, none⟩) 64 64))] ?_
      refine wq_v (some 35) (Value.int .u8 (ub ((0 : UInt8) ^^^ (54 : UInt8)))) (eq_is (v := Value.int .u8 (bits .xor .u8 (ub (0 : UInt8)) (ub (54 : UInt8)))) (by kernel_rfl) (b_xor (0 : UInt8) (54 : UInt8))) ?_
      refine wq_p 1 [(36, (Value.int .u8 0))] ?_
      refine wq_v (some 37) (Value.int .u8 (ub ((0 : UInt8) ^^^ (92 : UInt8)))) (eq_is (v := Value.int .u8 (bits .xor .u8 (ub (0 : UInt8)) (ub (92 : UInt8)))) (by kernel_rfl) (b_xor (0 : UInt8) (92 : UInt8))) ?_
      refine wq_v (some 38) (eAt (some ⟨g9, 0, none⟩) (i * 1 + 0)) (e_idxN (SB.rvn (OB.sb (h13.at_ 0 rfl))).2 i 64 (SB.rvn (OB.sb (h13.at_ 0 rfl))).1 (by first | omega | (rw [hli]; omega) | (rw [hlo]; omega) | (rw [sha_len]; omega)) 22 (.tmp 30) (.tmp 31) (by kernel_rfl) .i64 (by kernel_rfl) (by kernel_rfl) 5 (by kernel_rfl) (by kernel_rfl) _) ?_
      refine wq_to none (x_storeB h13 0 rfl i (by first | omega | (rw [hli]; omega) | (rw [hlo]; omega) | (rw [sha_len]; omega)) 5 (.tmp 38) (.tmp 35) (by kernel_rfl) (((0 : UInt8) ^^^ (54 : UInt8))) (by kernel_rfl) (by kernel_rfl) (by kernel_rfl)) ?_
      rintro _ w25 h25
      refine wq_v (some 39) (eAt (some ⟨g10, 0, none⟩) (i * 1 + 0)) (e_idxN (SB.rvn (OB.sb (h25.at_ 1 rfl))).2 i 64 (SB.rvn (OB.sb (h25.at_ 1 rfl))).1 (by first | omega | (rw [hli]; omega) | (rw [hlo]; omega) | (rw [sha_len]; omega)) 22 (.tmp 32) (.tmp 33) (by kernel_rfl) .i64 (by kernel_rfl) (by kernel_rfl) 5 (by kernel_rfl) (by kernel_rfl) _) ?_
      refine wq_to none (x_storeB h25 1 rfl i (by first | omega | (rw [hli]; omega) | (rw [hlo]; omega) | (rw [sha_len]; omega)) 5 (.tmp 39) (.tmp 37) (by kernel_rfl) (((0 : UInt8) ^^^ (92 : UInt8))) (by kernel_rfl) (by kernel_rfl) (by kernel_rfl)) ?_
      rintro _ w26 h26
      refine wl_end rfl ?_
      refine blk_n ?_
      refine seq_n hK17 ?_
      refine reg_lit ?_
      refine wq_v (some 40) (Value.int .i64 ((i : Int) + 1)) (exec_add _ _ _ _ rfl ((i : Int)) 1 (by kernel_rfl) (by kernel_rfl) ((i : Int) + 1) rfl (by omega) (by omega) _) ?_
      refine wq_p 1 [(19, (Value.int .i64 ((i : Int) + 1)))] ?_
      refine wl_end rfl ?_
      refine ⟨64 - (i + 1), (by omega), (i + 1), (li.set i (((0 : UInt8) ^^^ (54 : UInt8)))), (lo.set i (((0 : UInt8) ^^^ (92 : UInt8)))), (by omega), (by rw [hI]; first | rfl | (rw [padS, gb_ge (shaF (k)) i (by first | omega | (rw [sha_len]; omega))])), (by rw [hO]; first | rfl | (rw [padS, gb_ge (shaF (k)) i (by first | omega | (rw [sha_len]; omega))])), (by rw [List.length_set]; exact hli), (by rw [List.length_set]; exact hlo), rfl, (patch_eq _ 49 _ (by kernel_rfl) (by kernel_rfl) (by kernel_rfl)), h26.sel [0, 1, 2] [0] (by kernel_rfl) rfl rfl⟩
    ·
     refine wp_exit ?_
     refine seq_e ?_
     refine seq_e ?_
     refine blk_e ?_
     refine seq_n hK11 ?_
     refine wp_seq_k ?_
     intro K27 hK27
     obtain rfl : i = 64 := by omega
     
     refine reg_lit ?_
     refine wq_p 2 [(42, (Value.slice (some ⟨g9, 0, none⟩) 64 64)), (41, (Value.slice (some ⟨g10, 0, none⟩) 64 64))] ?_
     refine wq_to (some 43) (x_bs h13 22 ([(Value.slice (some ⟨g9, 0, none⟩) 64 64)]) 1 (by kernel_rfl)) ?_
     rintro _ w28 ⟨g28, rfl, h28⟩
     refine wq_p 1 [(44, (Value.slice B ls.length d))] ?_
     have h29 := h28.blkRow 0 (u1 := (Value.slice (some ⟨g9, 0, none⟩) 64 64)) rfl rfl
     refine wq_to (some 45) (x_appRow h29 0 (us := [(Value.slice (some ⟨g9, 0, none⟩) 64 64)]) (vs := vs) rfl (.tmp 43) (.tmp 44) (by kernel_rfl) (A := B) (m := ls.length) (c := d) (B := w.heap.size) (by kernel_rfl) (by kernel_rfl) (hrd.below h29.below0) (vals_one hvs hvl) (by show 1 + ls.length ≤ 1000000; omega)) ?_
     rintro _ w30 ⟨A30, c30, n30, rfl, hn30, h30⟩
     refine wq_to (some 46) (x_bytesE h30 35 [(Value.slice A30 n30 c30)] (by kernel_rfl) (of_any (Value.slice A30 n30 c30) (li :: ls) _ (SS.row (h30.at_ 0 rfl) (by simp [hvl]) (sb_cons (OB.sb (h30.at_ 1 rfl)) fun i v m h1 h2 => (hvs i v m h1 h2).below h30.below0)) (by simp only [List.flatten_cons, List.length_append]; omega)) (shaF (li ++ ls.flatten)) (32) (by rw [List.flatten_cons]) (sha_len _).symm) ?_
     rintro _ w31 ⟨A31, c31, rfl, h31⟩
     refine wq_to (some 47) (x_bs h31 22 ([(Value.slice (some ⟨g10, 0, none⟩) 64 64), (Value.slice A31 32 c31)]) 2 (by kernel_rfl)) ?_
     rintro _ w32 ⟨g32, rfl, h32⟩
     refine wq_to (some 48) (x_bytesE h32 35 [(Value.slice (some ⟨g32, 0, none⟩) 2 2)] (by kernel_rfl) (of_any (Value.slice (some ⟨g32, 0, none⟩) 2 2) [lo, shaF (li ++ ls.flatten)] _ (bs2 (h32.at_ 0 rfl) (OB.sb (h32.at_ 4 rfl)) (OB.sb (h32.at_ 1 rfl))) (by simp only [List.flatten_cons, List.flatten_nil, List.length_append, List.length_nil, sha_len]; omega)) (shaF (lo ++ (shaF (li ++ ls.flatten)))) (32) (by simp) (sha_len _).symm) ?_
     rintro _ w33 ⟨A33, c33, rfl, h33⟩
     refine wq_p 1 [(4, (Value.slice A33 32 c33))] ?_
     refine wl_end rfl ?_
     refine seq_n hK27 ?_
     refine wp_ret ?_
     refine post_1 rfl (by kernel_rfl) (rtmp (v := (Value.slice A33 32 c33)) (by kernel_rfl)) ?_
     exact bpost_of h33 0 rfl (by unfold macF padK; rw [key64_gt k (by omega), hO, hI])
   ·
    refine pR_op 1 (some 16) 2 rfl (x_make h8 (.const (Value.int .i64 64)) (.const (Value.int .i64 64)) (by kernel_rfl) 64 (by kernel_rfl) (by kernel_rfl) (by omega)) ?_
    rintro _ w34 ⟨g34, rfl, h34⟩
    refine ⟨fun _ => trivial, ?_⟩
    refine pR_to 0 (some 15) 3 rfl hs8 (x_make h34 (.const (Value.int .i64 64)) (.const (Value.int .i64 64)) (by kernel_rfl) 64 (by kernel_rfl) (by kernel_rfl) (by omega)) ?_
    rintro _ w35 ⟨g35, rfl, h35⟩
    refine ⟨fun _ => trivial, ?_⟩
    refine pR_p 1 [2] [(5, (Value.slice (some ⟨g35, 0, none⟩) 64 64))] 7 hs8 trivial ?_
    refine pR_to 3 (some 6) 15 rfl hs8 (OpTo.run (Value.slice (some ⟨g34, 0, none⟩) 64 64) (pureOp_run (by kernel_rfl) _) (R := fun v w => v = (Value.slice (some ⟨g34, 0, none⟩) 64 64) ∧ w35 = w) ⟨rfl, rfl⟩) ?_
    rintro _ _ ⟨rfl, rfl⟩
    refine ⟨fun h => absurd h (by decide), ?_⟩
    refine pR_done hs8 ?_ _
    refine seq_n hK7 ?_
    refine wp_seq_k ?_
    intro K36 hK36
    refine wp_seq_k ?_
    intro K37 hK37
    refine reg_lit ?_
    refine wq_p 3 [(19, (Value.int .i64 0)), (18, (Value.int .i64 64)), (17, (Value.slice (some ⟨g35, 0, none⟩) 64 64))] ?_
    refine wl_end rfl ?_
    refine seq_n hK37 ?_
    refine wp_block ?_
    refine wp_loopm (fun mM xX aA wL => ∃ (i : Nat) (li : Bytes) (lo : Bytes), (i ≤ 64) ∧ (li = padS (shaF (k)) 54 (i)) ∧ (lo = padS (shaF (k)) 92 (i)) ∧ ((li : Bytes).length = 64) ∧ ((lo : Bytes).length = 64) ∧ mM = 64 - (i) ∧ aA = patch xX 49 [(0, (Value.slice A6 32 c6)), (1, (Value.slice B ls.length d)), (4, (Value.slice none 0 0)), (5, (Value.slice (some ⟨g35, 0, none⟩) 64 64)), (6, (Value.slice (some ⟨g34, 0, none⟩) 64 64)), (11, (Value.bool (decide ((k.length : Int) > 64)))), (18, (Value.int .i64 64)), (19, (Value.int .i64 ((i : Int))))] ∧ Hp (fun _ => False) w wL [rSB ((Value.slice A k.length c)) k] [rOB ((Value.slice (some ⟨g35, 0, none⟩) 64 64)) li, rOB ((Value.slice (some ⟨g34, 0, none⟩) 64 64)) lo, rOB ((Value.slice A6 32 c6)) (shaF (k))]) ⟨_, 0, ((List.replicate 64 0)), ((List.replicate 64 0)), (by omega), rfl, rfl, rfl, rfl, rfl, (patch_eq _ 49 _ (by kernel_rfl) (by kernel_rfl) (by kernel_rfl)), h35.sel [0, 1, 2] [0] (by kernel_rfl) rfl rfl⟩ ?_
    rintro _ x38 _ w38 ⟨i, li, lo, hi, hI, hO, hli, hlo, rfl, rfl, h38⟩
    refine wp_seq_k ?_
    intro K39 hK39
    refine reg_lit ?_
    refine wq_p 1 [(20, (Value.bool (decide ((i : Int) < 64))))] ?_
    refine wl_end rfl ?_
    refine seq_n hK39 ?_
    refine wp_seq_k ?_
    intro K40 hK40
    refine wp_if ((i : Int) < 64) (by kernel_rfl) (fun b41 => ?_) (fun b41 => ?_)
    ·
     refine wp_skip ?_
     refine seq_n hK40 ?_
     refine wp_seq_k ?_
     intro K42 hK42
     refine wp_block ?_
     refine wp_seq_k ?_
     intro K43 hK43
     refine reg_lit ?_
     refine wq_p 2 [(7, (Value.int .i64 ((i : Int)))), (21, (Value.int .i64 ((i : Int))))] ?_
     refine wl_end rfl ?_
     refine seq_n hK43 ?_
     refine wp_seq_k ?_
     intro K44 hK44
     refine reg_lit ?_
     refine wq_p 1 [(8, (Value.int .u8 0))] ?_
     refine wl_end rfl ?_
     refine seq_n hK44 ?_
     refine wp_seq_k ?_
     intro K45 hK45
     refine wp_seq_k ?_
     intro K46 hK46
     refine reg_lit ?_
     refine wq_p 4 [(25, (Value.bool (decide ((i : Int) < 32)))), (24, (Value.int .i64 32)), (23, (Value.slice A6 32 c6)), (22, (Value.int .i64 ((i : Int))))] ?_
     refine wl_end rfl ?_
     refine seq_n hK46 ?_
     refine wp_if ((i : Int) < 32) (by kernel_rfl) (fun b47 => ?_) (fun b47 => ?_)
     ·
      refine reg_lit ?_
      refine wq_p 2 [(27, (Value.int .i64 ((i : Int)))), (26, (Value.slice A6 32 c6))] ?_
      refine wq_v (some 28) (eAt A6 (i * 1 + 0)) (e_idxN (SB.rvn (OB.sb (h38.at_ 2 rfl))).2 i 32 (SB.rvn (OB.sb (h38.at_ 2 rfl))).1 (by first | omega | (rw [hli]; omega) | (rw [hlo]; omega) | (rw [sha_len]; omega)) 22 (.tmp 26) (.tmp 27) (by kernel_rfl) .i64 (by kernel_rfl) (by kernel_rfl) 5 (by kernel_rfl) (by kernel_rfl) _) ?_
      refine wq_v (some 29) (Value.int .u8 (ub (gb (shaF (k)) (i)))) (e_elemN (SB.rvn (OB.sb (h38.at_ 2 rfl))).2 i 0 ([(Value.int .u8 (ub (gb (shaF (k)) (i))))]) (bx_get _ _ (by first | omega | (rw [hli]; omega) | (rw [hlo]; omega) | (rw [sha_len]; omega))) 5 (.tmp 28) (by kernel_rfl) (Value.int .u8 (ub (gb (shaF (k)) (i)))) (by kernel_rfl) (by kernel_rfl) (by kernel_rfl)) ?_
      refine wq_p 1 [(8, (Value.int .u8 (ub (gb (shaF (k)) (i)))))] ?_
      refine wl_end rfl ?_
      refine seq_n hK45 ?_
      refine reg_lit ?_
      refine wq_p 5 [(34, (Value.int .u8 (ub (gb (shaF (k)) (i))))), (33, (Value.int .i64 ((i : Int)))), (32, (Value.slice (some ⟨g34, 0, none⟩) 64 64)), (31, (Value.int .i64 ((i : Int)))), (30, (Value.slice (some ⟨g35, 0, none⟩) 64 64))] ?_
      refine wq_v (some 35) (Value.int .u8 (ub (((gb (shaF (k)) (i))) ^^^ (54 : UInt8)))) (eq_is (v := Value.int .u8 (bits .xor .u8 (ub ((gb (shaF (k)) (i)))) (ub (54 : UInt8)))) (by kernel_rfl) (b_xor ((gb (shaF (k)) (i))) (54 : UInt8))) ?_
      refine wq_p 1 [(36, (Value.int .u8 (ub (gb (shaF (k)) (i)))))] ?_
      refine wq_v (some 37) (Value.int .u8 (ub (((gb (shaF (k)) (i))) ^^^ (92 : UInt8)))) (eq_is (v := Value.int .u8 (bits .xor .u8 (ub ((gb (shaF (k)) (i)))) (ub (92 : UInt8)))) (by kernel_rfl) (b_xor ((gb (shaF (k)) (i))) (92 : UInt8))) ?_
      refine wq_v (some 38) (eAt (some ⟨g35, 0, none⟩) (i * 1 + 0)) (e_idxN (SB.rvn (OB.sb (h38.at_ 0 rfl))).2 i 64 (SB.rvn (OB.sb (h38.at_ 0 rfl))).1 (by first | omega | (rw [hli]; omega) | (rw [hlo]; omega) | (rw [sha_len]; omega)) 22 (.tmp 30) (.tmp 31) (by kernel_rfl) .i64 (by kernel_rfl) (by kernel_rfl) 5 (by kernel_rfl) (by kernel_rfl) _) ?_
      refine wq_to none (x_storeB h38 0 rfl i (by first | omega | (rw [hli]; omega) | (rw [hlo]; omega) | (rw [sha_len]; omega)) 5 (.tmp 38) (.tmp 35) (by kernel_rfl) ((((gb (shaF (k)) (i))) ^^^ (54 : UInt8))) (by kernel_rfl) (by kernel_rfl) (by kernel_rfl)) ?_
      rintro _ w48 h48
      refine wq_v (some 39) (eAt (some ⟨g34, 0, none⟩) (i * 1 + 0)) (e_idxN (SB.rvn (OB.sb (h48.at_ 1 rfl))).2 i 64 (SB.rvn (OB.sb (h48.at_ 1 rfl))).1 (by first | omega | (rw [hli]; omega) | (rw [hlo]; omega) | (rw [sha_len]; omega)) 22 (.tmp 32) (.tmp 33) (by kernel_rfl) .i64 (by kernel_rfl) (by kernel_rfl) 5 (by kernel_rfl) (by kernel_rfl) _) ?_
      refine wq_to none (x_storeB h48 1 rfl i (by first | omega | (rw [hli]; omega) | (rw [hlo]; omega) | (rw [sha_len]; omega)) 5 (.tmp 39) (.tmp 37) (by kernel_rfl) ((((gb (shaF (k)) (i))) ^^^ (92 : UInt8))) (by kernel_rfl) (by kernel_rfl) (by kernel_rfl)) ?_
      rintro _ w49 h49
      refine wl_end rfl ?_
      refine blk_n ?_
      refine seq_n hK42 ?_
      refine reg_lit ?_
      refine wq_v (some 40) (Value.int .i64 ((i : Int) + 1)) (exec_add _ _ _ _ rfl ((i : Int)) 1 (by kernel_rfl) (by kernel_rfl) ((i : Int) + 1) rfl (by omega) (by omega) _) ?_
      refine wq_p 1 [(19, (Value.int .i64 ((i : Int) + 1)))] ?_
      refine wl_end rfl ?_
      refine ⟨64 - (i + 1), (by omega), (i + 1), (li.set i ((((gb (shaF (k)) (i))) ^^^ (54 : UInt8)))), (lo.set i ((((gb (shaF (k)) (i))) ^^^ (92 : UInt8)))), (by omega), (by rw [hI]; first | rfl | (rw [padS, gb_ge (shaF (k)) i (by first | omega | (rw [sha_len]; omega))])), (by rw [hO]; first | rfl | (rw [padS, gb_ge (shaF (k)) i (by first | omega | (rw [sha_len]; omega))])), (by rw [List.length_set]; exact hli), (by rw [List.length_set]; exact hlo), rfl, (patch_eq _ 49 _ (by kernel_rfl) (by kernel_rfl) (by kernel_rfl)), h49.sel [0, 1, 2] [0] (by kernel_rfl) rfl rfl⟩
     ·
      refine wp_skip ?_
      refine seq_n hK45 ?_
      refine reg_lit ?_
      refine wq_p 5 [(34, (Value.int .u8 0)), (33, (Value.int .i64 ((i : Int)))), (32, (Value.slice (some ⟨g34, 0, none⟩) 64 64)), (31, (Value.int .i64 ((i : Int)))), (30, (Value.slice (some ⟨g35, 0, none⟩) 64 64))] ?_
      refine wq_v (some 35) (Value.int .u8 (ub ((0 : UInt8) ^^^ (54 : UInt8)))) (eq_is (v := Value.int .u8 (bits .xor .u8 (ub (0 : UInt8)) (ub (54 : UInt8)))) (by kernel_rfl) (b_xor (0 : UInt8) (54 : UInt8))) ?_
      refine wq_p 1 [(36, (Value.int .u8 0))] ?_
      refine wq_v (some 37) (Value.int .u8 (ub ((0 : UInt8) ^^^ (92 : UInt8)))) (eq_is (v := Value.int .u8 (bits .xor .u8 (ub (0 : UInt8)) (ub (92 : UInt8)))) (by kernel_rfl) (b_xor (0 : UInt8) (92 : UInt8))) ?_
      refine wq_v (some 38) (eAt (some ⟨g35, 0, none⟩) (i * 1 + 0)) (e_idxN (SB.rvn (OB.sb (h38.at_ 0 rfl))).2 i 64 (SB.rvn (OB.sb (h38.at_ 0 rfl))).1 (by first | omega | (rw [hli]; omega) | (rw [hlo]; omega) | (rw [sha_len]; omega)) 22 (.tmp 30) (.tmp 31) (by kernel_rfl) .i64 (by kernel_rfl) (by kernel_rfl) 5 (by kernel_rfl) (by kernel_rfl) _) ?_
      refine wq_to none (x_storeB h38 0 rfl i (by first | omega | (rw [hli]; omega) | (rw [hlo]; omega) | (rw [sha_len]; omega)) 5 (.tmp 38) (.tmp 35) (by kernel_rfl) (((0 : UInt8) ^^^ (54 : UInt8))) (by kernel_rfl) (by kernel_rfl) (by kernel_rfl)) ?_
      rintro _ w50 h50
      refine wq_v (some 39) (eAt (some ⟨g34, 0, none⟩) (i * 1 + 0)) (e_idxN (SB.rvn (OB.sb (h50.at_ 1 rfl))).2 i 64 (SB.rvn (OB.sb (h50.at_ 1 rfl))).1 (by first | omega | (rw [hli]; omega) | (rw [hlo]; omega) | (rw [sha_len]; omega)) 22 (.tmp 32) (.tmp 33) (by kernel_rfl) .i64 (by kernel_rfl) (by kernel_rfl) 5 (by kernel_rfl) (by kernel_rfl) _) ?_
      refine wq_to none (x_storeB h50 1 rfl i (by first | omega | (rw [hli]; omega) | (rw [hlo]; omega) | (rw [sha_len]; omega)) 5 (.tmp 39) (.tmp 37) (by kernel_rfl) (((0 : UInt8) ^^^ (92 : UInt8))) (by kernel_rfl) (by kernel_rfl) (by kernel_rfl)) ?_
      rintro _ w51 h51
      refine wl_end rfl ?_
      refine blk_n ?_
      refine seq_n hK42 ?_
      refine reg_lit ?_
      refine wq_v (some 40) (Value.int .i64 ((i : Int) + 1)) (exec_add _ _ _ _ rfl ((i : Int)) 1 (by kernel_rfl) (by kernel_rfl) ((i : Int) + 1) rfl (by omega) (by omega) _) ?_
      refine wq_p 1 [(19, (Value.int .i64 ((i : Int) + 1)))] ?_
      refine wl_end rfl ?_
      refine ⟨64 - (i + 1), (by omega), (i + 1), (li.set i (((0 : UInt8) ^^^ (54 : UInt8)))), (lo.set i (((0 : UInt8) ^^^ (92 : UInt8)))), (by omega), (by rw [hI]; first | rfl | (rw [padS, gb_ge (shaF (k)) i (by first | omega | (rw [sha_len]; omega))])), (by rw [hO]; first | rfl | (rw [padS, gb_ge (shaF (k)) i (by first | omega | (rw [sha_len]; omega))])), (by rw [List.length_set]; exact hli), (by rw [List.length_set]; exact hlo), rfl, (patch_eq _ 49 _ (by kernel_rfl) (by kernel_rfl) (by kernel_rfl)), h51.sel [0, 1, 2] [0] (by kernel_rfl) rfl rfl⟩
    ·
     refine wp_exit ?_
     refine seq_e ?_
     refine seq_e ?_
     refine blk_e ?_
     refine seq_n hK36 ?_
     refine wp_seq_k ?_
     intro K52 hK52
     obtain rfl : i = 64 := by omega
     
     refine reg_lit ?_
     refine wq_p 2 [(42, (Value.slice (some ⟨g35, 0, none⟩) 64 64)), (41, (Value.slice (some ⟨g34, 0, none⟩) 64 64))] ?_
     refine wq_to (some 43) (x_bs h38 22 ([(Value.slice (some ⟨g35, 0, none⟩) 64 64)]) 1 (by kernel_rfl)) ?_
     rintro _ w53 ⟨g53, rfl, h53⟩
     refine wq_p 1 [(44, (Value.slice B ls.length d))] ?_
     have h54 := h53.blkRow 0 (u1 := (Value.slice (some ⟨g35, 0, none⟩) 64 64)) rfl rfl
     refine wq_to (some 45) (x_appRow h54 0 (us := [(Value.slice (some ⟨g35, 0, none⟩) 64 64)]) (vs := vs) rfl (.tmp 43) (.tmp 44) (by kernel_rfl) (A := B) (m := ls.length) (c := d) (B := w.heap.size) (by kernel_rfl) (by kernel_rfl) (hrd.below h54.below0) (vals_one hvs hvl) (by show 1 + ls.length ≤ 1000000; omega)) ?_
     rintro _ w55 ⟨A55, c55, n55, rfl, hn55, h55⟩
     refine wq_to (some 46) (x_bytesE h55 35 [(Value.slice A55 n55 c55)] (by kernel_rfl) (of_any (Value.slice A55 n55 c55) (li :: ls) _ (SS.row (h55.at_ 0 rfl) (by simp [hvl]) (sb_cons (OB.sb (h55.at_ 1 rfl)) fun i v m h1 h2 => (hvs i v m h1 h2).below h55.below0)) (by simp only [List.flatten_cons, List.length_append]; omega)) (shaF (li ++ ls.flatten)) (32) (by rw [List.flatten_cons]) (sha_len _).symm) ?_
     rintro _ w56 ⟨A56, c56, rfl, h56⟩
     refine wq_to (some 47) (x_bs h56 22 ([(Value.slice (some ⟨g34, 0, none⟩) 64 64), (Value.slice A56 32 c56)]) 2 (by kernel_rfl)) ?_
     rintro _ w57 ⟨g57, rfl, h57⟩
     refine wq_to (some 48) (x_bytesE h57 35 [(Value.slice (some ⟨g57, 0, none⟩) 2 2)] (by kernel_rfl) (of_any (Value.slice (some ⟨g57, 0, none⟩) 2 2) [lo, shaF (li ++ ls.flatten)] _ (bs2 (h57.at_ 0 rfl) (OB.sb (h57.at_ 4 rfl)) (OB.sb (h57.at_ 1 rfl))) (by simp only [List.flatten_cons, List.flatten_nil, List.length_append, List.length_nil, sha_len]; omega)) (shaF (lo ++ (shaF (li ++ ls.flatten)))) (32) (by simp) (sha_len _).symm) ?_
     rintro _ w58 ⟨A58, c58, rfl, h58⟩
     refine wq_p 1 [(4, (Value.slice A58 32 c58))] ?_
     refine wl_end rfl ?_
     refine seq_n hK52 ?_
     refine wp_ret ?_
     refine post_1 rfl (by kernel_rfl) (rtmp (v := (Value.slice A58 32 c58)) (by kernel_rfl)) ?_
     exact bpost_of h58 0 rfl (by unfold macF padK; rw [key64_gt k (by omega), hO, hI])
  ·
   refine wp_skip ?_
   refine seq_n hK2 ?_
   refine wp_seq_k ?_
   intro K59 hK59
   refine pR_go h0 3 (fun W => True) [(16, [], 0), (17, [], 0), (6, [15], 1), (7, [16], 7)] rfl (fun _ d _ _ _ h => by cases d <;> exact h) ?_
   intro hs60 w60 h60
   refine pR_or 0 1 hs60 ?_ ?_
   ·
    refine pR_op 0 (some 15) 1 rfl (x_make h60 (.const (Value.int .i64 64)) (.const (Value.int .i64 64)) (by kernel_rfl) 64 (by kernel_rfl) (by kernel_rfl) (by omega)) ?_
    rintro _ w61 ⟨g61, rfl, h61⟩
    refine ⟨fun _ => trivial, ?_⟩
    refine pR_p 2 [2] [(5, (Value.slice (some ⟨g61, 0, none⟩) 64 64))] 5 hs60 trivial ?_
    refine pR_to 1 (some 16) 7 rfl hs60 (x_make h61 (.const (Value.int .i64 64)) (.const (Value.int .i64 64)) (by kernel_rfl) 64 (by kernel_rfl) (by kernel_rfl) (by omega)) ?_
    rintro _ w62 ⟨g62, rfl, h62⟩
    refine ⟨fun _ => trivial, ?_⟩
    refine pR_to 3 (some 6) 15 rfl hs60 (OpTo.run (Value.slice (some ⟨g62, 0, none⟩) 64 64) (pureOp_run (by kernel_rfl) _) (R := fun v w => v = (Value.slice (some ⟨g62, 0, none⟩) 64 64) ∧ w62 = w) ⟨rfl, rfl⟩) ?_
    rintro _ _ ⟨rfl, rfl⟩
    refine ⟨fun h => absurd h (by decide), ?_⟩
    refine pR_done hs60 ?_ _
    refine seq_n hK59 ?_
    refine wp_seq_k ?_
    intro K63 hK63
    refine wp_seq_k ?_
    intro K64 hK64
    refine reg_lit ?_
    refine wq_p 3 [(19, (Value.int .i64 0)), (18, (Value.int .i64 64)), (17, (Value.slice (some ⟨g61, 0, none⟩) 64 64))] ?_
    refine wl_end rfl ?_
    refine seq_n hK64 ?_
    refine wp_block ?_
    refine wp_loopm (fun mM xX aA wL => ∃ (i : Nat) (li : Bytes) (lo : Bytes), (i ≤ 64) ∧ (li = padS k 54 (i)) ∧ (lo = padS k 92 (i)) ∧ ((li : Bytes).length = 64) ∧ ((lo : Bytes).length = 64) ∧ mM = 64 - (i) ∧ aA = patch xX 49 [(0, (Value.slice A k.length c)), (1, (Value.slice B ls.length d)), (4, (Value.slice none 0 0)), (5, (Value.slice (some ⟨g61, 0, none⟩) 64 64)), (6, (Value.slice (some ⟨g62, 0, none⟩) 64 64)), (11, (Value.bool (decide ((k.length : Int) > 64)))), (18, (Value.int .i64 64)), (19, (Value.int .i64 ((i : Int))))] ∧ Hp (fun _ => False) w wL [rSB ((Value.slice A k.length c)) k] [rOB ((Value.slice (some ⟨g61, 0, none⟩) 64 64)) li, rOB ((Value.slice (some ⟨g62, 0, none⟩) 64 64)) lo]) ⟨_, 0, ((List.replicate 64 0)), ((List.replicate 64 0)), (by omega), rfl, rfl, rfl, rfl, rfl, (patch_eq _ 49 _ (by kernel_rfl) (by kernel_rfl) (by kernel_rfl)), h62.sel [1, 0] [0] (by kernel_rfl) rfl rfl⟩ ?_
    rintro _ x65 _ w65 ⟨i, li, lo, hi, hI, hO, hli, hlo, rfl, rfl, h65⟩
    refine wp_seq_k ?_
    intro K66 hK66
    refine reg_lit ?_
    refine wq_p 1 [(20, (Value.bool (decide ((i : Int) < 64))))] ?_
    refine wl_end rfl ?_
    refine seq_n hK66 ?_
    refine wp_seq_k ?_
    intro K67 hK67
    refine wp_if ((i : Int) < 64) (by kernel_rfl) (fun b68 => ?_) (fun b68 => ?_)
    ·
     refine wp_skip ?_
     refine seq_n hK67 ?_
     refine wp_seq_k ?_
     intro K69 hK69
     refine wp_block ?_
     refine wp_seq_k ?_
     intro K70 hK70
     refine reg_lit ?_
     refine wq_p 2 [(7, (Value.int .i64 ((i : Int)))), (21, (Value.int .i64 ((i : Int))))] ?_
     refine wl_end rfl ?_
     refine seq_n hK70 ?_
     refine wp_seq_k ?_
     intro K71 hK71
     refine reg_lit ?_
     refine wq_p 1 [(8, (Value.int .u8 0))] ?_
     refine wl_end rfl ?_
     refine seq_n hK71 ?_
     refine wp_seq_k ?_
     intro K72 hK72
     refine wp_seq_k ?_
     intro K73 hK73
     refine reg_lit ?_
     refine wq_p 4 [(25, (Value.bool (decide ((i : Int) < (k.length : Int))))), (24, (Value.int .i64 ((k.length : Int)))), (23, (Value.slice A k.length c)), (22, (Value.int .i64 ((i : Int))))] ?_
     refine wl_end rfl ?_
     refine seq_n hK73 ?_
     refine wp_if ((i : Int) < (k.length : Int)) (by kernel_rfl) (fun b74 => ?_) (fun b74 => ?_)
     ·
      refine reg_lit ?_
      refine wq_p 2 [(27, (Value.int .i64 ((i : Int)))), (26, (Value.slice A k.length c))] ?_
      refine wq_v (some 28) (eAt A (i * 1 + 0)) (e_idxN (SB.rvn (h65.rd 0 rfl)).2 i k.length (SB.rvn (h65.rd 0 rfl)).1 (by first | omega | (rw [hli]; omega) | (rw [hlo]; omega) | (rw [sha_len]; omega)) 22 (.tmp 26) (.tmp 27) (by kernel_rfl) .i64 (by kernel_rfl) (by kernel_rfl) 5 (by kernel_rfl) (by kernel_rfl) _) ?_
      refine wq_v (some 29) (Value.int .u8 (ub (gb (k) (i)))) (e_elemN (SB.rvn (h65.rd 0 rfl)).2 i 0 ([(Value.int .u8 (ub (gb (k) (i))))]) (bx_get _ _ (by first | omega | (rw [hli]; omega) | (rw [hlo]; omega) | (rw [sha_len]; omega))) 5 (.tmp 28) (by kernel_rfl) (Value.int .u8 (ub (gb (k) (i)))) (by kernel_rfl) (by kernel_rfl) (by kernel_rfl)) ?_
      refine wq_p 1 [(8, (Value.int .u8 (ub (gb (k) (i)))))] ?_
      refine wl_end rfl ?_
      refine seq_n hK72 ?_
      refine reg_lit ?_
      refine wq_p 5 [(34, (Value.int .u8 (ub (gb (k) (i))))), (33, (Value.int .i64 ((i : Int)))), (32, (Value.slice (some ⟨g62, 0, none⟩) 64 64)), (31, (Value.int .i64 ((i : Int)))), (30, (Value.slice (some ⟨g61, 0, none⟩) 64 64))] ?_
      refine wq_v (some 35) (Value.int .u8 (ub (((gb (k) (i))) ^^^ (54 : UInt8)))) (eq_is (v := Value.int .u8 (bits .xor .u8 (ub ((gb (k) (i)))) (ub (54 : UInt8)))) (by kernel_rfl) (b_xor ((gb (k) (i))) (54 : UInt8))) ?_
      refine wq_p 1 [(36, (Value.int .u8 (ub (gb (k) (i)))))] ?_
      refine wq_v (some 37) (Value.int .u8 (ub (((gb (k) (i))) ^^^ (92 : UInt8)))) (eq_is (v := Value.int .u8 (bits .xor .u8 (ub ((gb (k) (i)))) (ub (92 : UInt8)))) (by kernel_rfl) (b_xor ((gb (k) (i))) (92 : UInt8))) ?_
      refine wq_v (some 38) (eAt (some ⟨g61, 0, none⟩) (i * 1 + 0)) (e_idxN (SB.rvn (OB.sb (h65.at_ 0 rfl))).2 i 64 (SB.rvn (OB.sb (h65.at_ 0 rfl))).1 (by first | omega | (rw [hli]; omega) | (rw [hlo]; omega) | (rw [sha_len]; omega)) 22 (.tmp 30) (.tmp 31) (by kernel_rfl) .i64 (by kernel_rfl) (by kernel_rfl) 5 (by kernel_rfl) (by kernel_rfl) _) ?_
      refine wq_to none (x_storeB h65 0 rfl i (by first | omega | (rw [hli]; omega) | (rw [hlo]; omega) | (rw [sha_len]; omega)) 5 (.tmp 38) (.tmp 35) (by kernel_rfl) ((((gb (k) (i))) ^^^ (54 : UInt8))) (by kernel_rfl) (by kernel_rfl) (by kernel_rfl)) ?_
      rintro _ w75 h75
      refine wq_v (some 39) (eAt (some ⟨g62, 0, none⟩) (i * 1 + 0)) (e_idxN (SB.rvn (OB.sb (h75.at_ 1 rfl))).2 i 64 (SB.rvn (OB.sb (h75.at_ 1 rfl))).1 (by first | omega | (rw [hli]; omega) | (rw [hlo]; omega) | (rw [sha_len]; omega)) 22 (.tmp 32) (.tmp 33) (by kernel_rfl) .i64 (by kernel_rfl) (by kernel_rfl) 5 (by kernel_rfl) (by kernel_rfl) _) ?_
      refine wq_to none (x_storeB h75 1 rfl i (by first | omega | (rw [hli]; omega) | (rw [hlo]; omega) | (rw [sha_len]; omega)) 5 (.tmp 39) (.tmp 37) (by kernel_rfl) ((((gb (k) (i))) ^^^ (92 : UInt8))) (by kernel_rfl) (by kernel_rfl) (by kernel_rfl)) ?_
      rintro _ w76 h76
      refine wl_end rfl ?_
      refine blk_n ?_
      refine seq_n hK69 ?_
      refine reg_lit ?_
      refine wq_v (some 40) (Value.int .i64 ((i : Int) + 1)) (exec_add _ _ _ _ rfl ((i : Int)) 1 (by kernel_rfl) (by kernel_rfl) ((i : Int) + 1) rfl (by omega) (by omega) _) ?_
      refine wq_p 1 [(19, (Value.int .i64 ((i : Int) + 1)))] ?_
      refine wl_end rfl ?_
      refine ⟨64 - (i + 1), (by omega), (i + 1), (li.set i ((((gb (k) (i))) ^^^ (54 : UInt8)))), (lo.set i ((((gb (k) (i))) ^^^ (92 : UInt8)))), (by omega), (by rw [hI]; first | rfl | (rw [padS, gb_ge k i (by first | omega | (rw [sha_len]; omega))])), (by rw [hO]; first | rfl | (rw [padS, gb_ge k i (by first | omega | (rw [sha_len]; omega))])), (by rw [List.length_set]; exact hli), (by rw [List.length_set]; exact hlo), rfl, (patch_eq _ 49 _ (by kernel_rfl) (by kernel_rfl) (by kernel_rfl)), h76.sel [0, 1] [0] (by kernel_rfl) rfl rfl⟩
     ·
      refine wp_skip ?_
      refine seq_n hK72 ?_
      refine reg_lit ?_
      refine wq_p 5 [(34, (Value.int .u8 0)), (33, (Value.int .i64 ((i : Int)))), (32, (Value.slice (some ⟨g62, 0, none⟩) 64 64)), (31, (Value.int .i64 ((i : Int)))), (30, (Value.slice (some ⟨g61, 0, none⟩) 64 64))] ?_
      refine wq_v (some 35) (Value.int .u8 (ub ((0 : UInt8) ^^^ (54 : UInt8)))) (eq_is (v := Value.int .u8 (bits .xor .u8 (ub (0 : UInt8)) (ub (54 : UInt8)))) (by kernel_rfl) (b_xor (0 : UInt8) (54 : UInt8))) ?_
      refine wq_p 1 [(36, (Value.int .u8 0))] ?_
      refine wq_v (some 37) (Value.int .u8 (ub ((0 : UInt8) ^^^ (92 : UInt8)))) (eq_is (v := Value.int .u8 (bits .xor .u8 (ub (0 : UInt8)) (ub (92 : UInt8)))) (by kernel_rfl) (b_xor (0 : UInt8) (92 : UInt8))) ?_
      refine wq_v (some 38) (eAt (some ⟨g61, 0, none⟩) (i * 1 + 0)) (e_idxN (SB.rvn (OB.sb (h65.at_ 0 rfl))).2 i 64 (SB.rvn (OB.sb (h65.at_ 0 rfl))).1 (by first | omega | (rw [hli]; omega) | (rw [hlo]; omega) | (rw [sha_len]; omega)) 22 (.tmp 30) (.tmp 31) (by kernel_rfl) .i64 (by kernel_rfl) (by kernel_rfl) 5 (by kernel_rfl) (by kernel_rfl) _) ?_
      refine wq_to none (x_storeB h65 0 rfl i (by first | omega | (rw [hli]; omega) | (rw [hlo]; omega) | (rw [sha_len]; omega)) 5 (.tmp 38) (.tmp 35) (by kernel_rfl) (((0 : UInt8) ^^^ (54 : UInt8))) (by kernel_rfl) (by kernel_rfl) (by kernel_rfl)) ?_
      rintro _ w77 h77
      refine wq_v (some 39) (eAt (some ⟨g62, 0, none⟩) (i * 1 + 0)) (e_idxN (SB.rvn (OB.sb (h77.at_ 1 rfl))).2 i 64 (SB.rvn (OB.sb (h77.at_ 1 rfl))).1 (by first | omega | (rw [hli]; omega) | (rw [hlo]; omega) | (rw [sha_len]; omega)) 22 (.tmp 32) (.tmp 33) (by kernel_rfl) .i64 (by kernel_rfl) (by kernel_rfl) 5 (by kernel_rfl) (by kernel_rfl) _) ?_
      refine wq_to none (x_storeB h77 1 rfl i (by first | omega | (rw [hli]; omega) | (rw [hlo]; omega) | (rw [sha_len]; omega)) 5 (.tmp 39) (.tmp 37) (by kernel_rfl) (((0 : UInt8) ^^^ (92 : UInt8))) (by kernel_rfl) (by kernel_rfl) (by kernel_rfl)) ?_
      rintro _ w78 h78
      refine wl_end rfl ?_
      refine blk_n ?_
      refine seq_n hK69 ?_
      refine reg_lit ?_
      refine wq_v (some 40) (Value.int .i64 ((i : Int) + 1)) (exec_add _ _ _ _ rfl ((i : Int)) 1 (by kernel_rfl) (by kernel_rfl) ((i : Int) + 1) rfl (by omega) (by omega) _) ?_
      refine wq_p 1 [(19, (Value.int .i64 ((i : Int) + 1)))] ?_
      refine wl_end rfl ?_
      refine ⟨64 - (i + 1), (by omega), (i + 1), (li.set i (((0 : UInt8) ^^^ (54 : UInt8)))), (lo.set i (((0 : UInt8) ^^^ (92 : UInt8)))), (by omega), (by rw [hI]; first | rfl | (rw [padS, gb_ge k i (by first | omega | (rw [sha_len]; omega))])), (by rw [hO]; first | rfl | (rw [padS, gb_ge k i (by first | omega | (rw [sha_len]; omega))])), (by rw [List.length_set]; exact hli), (by rw [List.length_set]; exact hlo), rfl, (patch_eq _ 49 _ (by kernel_rfl) (by kernel_rfl) (by kernel_rfl)), h78.sel [0, 1] [0] (by kernel_rfl) rfl rfl⟩
    ·
     refine wp_exit ?_
     refine seq_e ?_
     refine seq_e ?_
     refine blk_e ?_
     refine seq_n hK63 ?_
     refine wp_seq_k ?_
     intro K79 hK79
     obtain rfl : i = 64 := by omega
     
     refine reg_lit ?_
     refine wq_p 2 [(42, (Value.slice (some ⟨g61, 0, none⟩) 64 64)), (41, (Value.slice (some ⟨g62, 0, none⟩) 64 64))] ?_
     refine wq_to (some 43) (x_bs h65 22 ([(Value.slice (some ⟨g61, 0, none⟩) 64 64)]) 1 (by kernel_rfl)) ?_
     rintro _ w80 ⟨g80, rfl, h80⟩
     refine wq_p 1 [(44, (Value.slice B ls.length d))] ?_
     have h81 := h80.blkRow 0 (u1 := (Value.slice (some ⟨g61, 0, none⟩) 64 64)) rfl rfl
     refine wq_to (some 45) (x_appRow h81 0 (us := [(Value.slice (some ⟨g61, 0, none⟩) 64 64)]) (vs := vs) rfl (.tmp 43) (.tmp 44) (by kernel_rfl) (A := B) (m := ls.length) (c := d) (B := w.heap.size) (by kernel_rfl) (by kernel_rfl) (hrd.below h81.below0) (vals_one hvs hvl) (by show 1 + ls.length ≤ 1000000; omega)) ?_
     rintro _ w82 ⟨A82, c82, n82, rfl, hn82, h82⟩
     refine wq_to (some 46) (x_bytesE h82 35 [(Value.slice A82 n82 c82)] (by kernel_rfl) (of_any (Value.slice A82 n82 c82) (li :: ls) _ (SS.row (h82.at_ 0 rfl) (by simp [hvl]) (sb_cons (OB.sb (h82.at_ 1 rfl)) fun i v m h1 h2 => (hvs i v m h1 h2).below h82.below0)) (by simp only [List.flatten_cons, List.length_append]; omega)) (shaF (li ++ ls.flatten)) (32) (by rw [List.flatten_cons]) (sha_len _).symm) ?_
     rintro _ w83 ⟨A83, c83, rfl, h83⟩
     refine wq_to (some 47) (x_bs h83 22 ([(Value.slice (some ⟨g62, 0, none⟩) 64 64), (Value.slice A83 32 c83)]) 2 (by kernel_rfl)) ?_
     rintro _ w84 ⟨g84, rfl, h84⟩
     refine wq_to (some 48) (x_bytesE h84 35 [(Value.slice (some ⟨g84, 0, none⟩) 2 2)] (by kernel_rfl) (of_any (Value.slice (some ⟨g84, 0, none⟩) 2 2) [lo, shaF (li ++ ls.flatten)] _ (bs2 (h84.at_ 0 rfl) (OB.sb (h84.at_ 4 rfl)) (OB.sb (h84.at_ 1 rfl))) (by simp only [List.flatten_cons, List.flatten_nil, List.length_append, List.length_nil, sha_len]; omega)) (shaF (lo ++ (shaF (li ++ ls.flatten)))) (32) (by simp) (sha_len _).symm) ?_
     rintro _ w85 ⟨A85, c85, rfl, h85⟩
     refine wq_p 1 [(4, (Value.slice A85 32 c85))] ?_
     refine wl_end rfl ?_
     refine seq_n hK79 ?_
     refine wp_ret ?_
     refine post_1 rfl (by kernel_rfl) (rtmp (v := (Value.slice A85 32 c85)) (by kernel_rfl)) ?_
     exact bpost_of h85 0 rfl (by unfold macF padK; rw [key64_le k (by omega), hO, hI])
   ·
    refine pR_op 1 (some 16) 2 rfl (x_make h60 (.const (Value.int .i64 64)) (.const (Value.int .i64 64)) (by kernel_rfl) 64 (by kernel_rfl) (by kernel_rfl) (by omega)) ?_
    rintro _ w86 ⟨g86, rfl, h86⟩
    refine ⟨fun _ => trivial, ?_⟩
    refine pR_to 0 (some 15) 3 rfl hs60 (x_make h86 (.const (Value.int .i64 64)) (.const (Value.int .i64 64)) (by kernel_rfl) 64 (by kernel_rfl) (by kernel_rfl) (by omega)) ?_
    rintro _ w87 ⟨g87, rfl, h87⟩
    refine ⟨fun _ => trivial, ?_⟩
    refine pR_p 1 [2] [(5, (Value.slice (some ⟨g87, 0, none⟩) 64 64))] 7 hs60 trivial ?_
    refine pR_to 3 (some 6) 15 rfl hs60 (OpTo.run (Value.slice (some ⟨g86, 0, none⟩) 64 64) (pureOp_run (by kernel_rfl) _) (R := fun v w => v = (Value.slice (some ⟨g86, 0, none⟩) 64 64) ∧ w87 = w) ⟨rfl, rfl⟩) ?_
    rintro _ _ ⟨rfl, rfl⟩
    refine ⟨fun h => absurd h (by decide), ?_⟩
    refine pR_done hs60 ?_ _
    refine seq_n hK59 ?_
    refine wp_seq_k ?_
    intro K88 hK88
    refine wp_seq_k ?_
    intro K89 hK89
    refine reg_lit ?_
    refine wq_p 3 [(19, (Value.int .i64 0)), (18, (Value.int .i64 64)), (17, (Value.slice (some ⟨g87, 0, none⟩) 64 64))] ?_
    refine wl_end rfl ?_
    refine seq_n hK89 ?_
    refine wp_block ?_
    refine wp_loopm (fun mM xX aA wL => ∃ (i : Nat) (li : Bytes) (lo : Bytes), (i ≤ 64) ∧ (li = padS k 54 (i)) ∧ (lo = padS k 92 (i)) ∧ ((li : Bytes).length = 64) ∧ ((lo : Bytes).length = 64) ∧ mM = 64 - (i) ∧ aA = patch xX 49 [(0, (Value.slice A k.length c)), (1, (Value.slice B ls.length d)), (4, (Value.slice none 0 0)), (5, (Value.slice (some ⟨g87, 0, none⟩) 64 64)), (6, (Value.slice (some ⟨g86, 0, none⟩) 64 64)), (11, (Value.bool (decide ((k.length : Int) > 64)))), (18, (Value.int .i64 64)), (19, (Value.int .i64 ((i : Int))))] ∧ Hp (fun _ => False) w wL [rSB ((Value.slice A k.length c)) k] [rOB ((Value.slice (some ⟨g87, 0, none⟩) 64 64)) li, rOB ((Value.slice (some ⟨g86, 0, none⟩) 64 64)) lo]) ⟨_, 0, ((List.replicate 64 0)), ((List.replicate 64 0)), (by omega), rfl, rfl, rfl, rfl, rfl, (patch_eq _ 49 _ (by kernel_rfl) (by kernel_rfl) (by kernel_rfl)), h87.sel [0, 1] [0] (by kernel_rfl) rfl rfl⟩ ?_
    rintro _ x90 _ w90 ⟨i, li, lo, hi, hI, hO, hli, hlo, rfl, rfl, h90⟩
    refine wp_seq_k ?_
    intro K91 hK91
    refine reg_lit ?_
    refine wq_p 1 [(20, (Value.bool (decide ((i : Int) < 64))))] ?_
    refine wl_end rfl ?_
    refine seq_n hK91 ?_
    refine wp_seq_k ?_
    intro K92 hK92
    refine wp_if ((i : Int) < 64) (by kernel_rfl) (fun b93 => ?_) (fun b93 => ?_)
    ·
     refine wp_skip ?_
     refine seq_n hK92 ?_
     refine wp_seq_k ?_
     intro K94 hK94
     refine wp_block ?_
     refine wp_seq_k ?_
     intro K95 hK95
     refine reg_lit ?_
     refine wq_p 2 [(7, (Value.int .i64 ((i : Int)))), (21, (Value.int .i64 ((i : Int))))] ?_
     refine wl_end rfl ?_
     refine seq_n hK95 ?_
     refine wp_seq_k ?_
     intro K96 hK96
     refine reg_lit ?_
     refine wq_p 1 [(8, (Value.int .u8 0))] ?_
     refine wl_end rfl ?_
     refine seq_n hK96 ?_
     refine wp_seq_k ?_
     intro K97 hK97
     refine wp_seq_k ?_
     intro K98 hK98
     refine reg_lit ?_
     refine wq_p 4 [(25, (Value.bool (decide ((i : Int) < (k.length : Int))))), (24, (Value.int .i64 ((k.length : Int)))), (23, (Value.slice A k.length c)), (22, (Value.int .i64 ((i : Int))))] ?_
     refine wl_end rfl ?_
     refine seq_n hK98 ?_
     refine wp_if ((i : Int) < (k.length : Int)) (by kernel_rfl) (fun b99 => ?_) (fun b99 => ?_)
     ·
      refine reg_lit ?_
      refine wq_p 2 [(27, (Value.int .i64 ((i : Int)))), (26, (Value.slice A k.length c))] ?_
      refine wq_v (some 28) (eAt A (i * 1 + 0)) (e_idxN (SB.rvn (h90.rd 0 rfl)).2 i k.length (SB.rvn (h90.rd 0 rfl)).1 (by first | omega | (rw [hli]; omega) | (rw [hlo]; omega) | (rw [sha_len]; omega)) 22 (.tmp 26) (.tmp 27) (by kernel_rfl) .i64 (by kernel_rfl) (by kernel_rfl) 5 (by kernel_rfl) (by kernel_rfl) _) ?_
      refine wq_v (some 29) (Value.int .u8 (ub (gb (k) (i)))) (e_elemN (SB.rvn (h90.rd 0 rfl)).2 i 0 ([(Value.int .u8 (ub (gb (k) (i))))]) (bx_get _ _ (by first | omega | (rw [hli]; omega) | (rw [hlo]; omega) | (rw [sha_len]; omega))) 5 (.tmp 28) (by kernel_rfl) (Value.int .u8 (ub (gb (k) (i)))) (by kernel_rfl) (by kernel_rfl) (by kernel_rfl)) ?_
      refine wq_p 1 [(8, (Value.int .u8 (ub (gb (k) (i)))))] ?_
      refine wl_end rfl ?_
      refine seq_n hK97 ?_
      refine reg_lit ?_
      refine wq_p 5 [(34, (Value.int .u8 (ub (gb (k) (i))))), (33, (Value.int .i64 ((i : Int)))), (32, (Value.slice (some ⟨g86, 0, none⟩) 64 64)), (31, (Value.int .i64 ((i : Int)))), (30, (Value.slice (some ⟨g87, 0, none⟩) 64 64))] ?_
      refine wq_v (some 35) (Value.int .u8 (ub (((gb (k) (i))) ^^^ (54 : UInt8)))) (eq_is (v := Value.int .u8 (bits .xor .u8 (ub ((gb (k) (i)))) (ub (54 : UInt8)))) (by kernel_rfl) (b_xor ((gb (k) (i))) (54 : UInt8))) ?_
      refine wq_p 1 [(36, (Value.int .u8 (ub (gb (k) (i)))))] ?_
      refine wq_v (some 37) (Value.int .u8 (ub (((gb (k) (i))) ^^^ (92 : UInt8)))) (eq_is (v := Value.int .u8 (bits .xor .u8 (ub ((gb (k) (i)))) (ub (92 : UInt8)))) (by kernel_rfl) (b_xor ((gb (k) (i))) (92 : UInt8))) ?_
      refine wq_v (some 38) (eAt (some ⟨g87, 0, none⟩) (i * 1 + 0)) (e_idxN (SB.rvn (OB.sb (h90.at_ 0 rfl))).2 i 64 (SB.rvn (OB.sb (h90.at_ 0 rfl))).1 (by first | omega | (rw [hli]; omega) | (rw [hlo]; omega) | (rw [sha_len]; omega)) 22 (.tmp 30) (.tmp 31) (by kernel_rfl) .i64 (by kernel_rfl) (by kernel_rfl) 5 (by kernel_rfl) (by kernel_rfl) _) ?_
      refine wq_to none (x_storeB h90 0 rfl i (by first | omega | (rw [hli]; omega) | (rw [hlo]; omega) | (rw [sha_len]; omega)) 5 (.tmp 38) (.tmp 35) (by kernel_rfl) ((((gb (k) (i))) ^^^ (54 : UInt8))) (by kernel_rfl) (by kernel_rfl) (by kernel_rfl)) ?_
      rintro _ w100 h100
      refine wq_v (some 39) (eAt (some ⟨g86, 0, none⟩) (i * 1 + 0)) (e_idxN (SB.rvn (OB.sb (h100.at_ 1 rfl))).2 i 64 (SB.rvn (OB.sb (h100.at_ 1 rfl))).1 (by first | omega | (rw [hli]; omega) | (rw [hlo]; omega) | (rw [sha_len]; omega)) 22 (.tmp 32) (.tmp 33) (by kernel_rfl) .i64 (by kernel_rfl) (by kernel_rfl) 5 (by kernel_rfl) (by kernel_rfl) _) ?_
      refine wq_to none (x_storeB h100 1 rfl i (by first | omega | (rw [hli]; omega) | (rw [hlo]; omega) | (rw [sha_len]; omega)) 5 (.tmp 39) (.tmp 37) (by kernel_rfl) ((((gb (k) (i))) ^^^ (92 : UInt8))) (by kernel_rfl) (by kernel_rfl) (by kernel_rfl)) ?_
      rintro _ w101 h101
      refine wl_end rfl ?_
      refine blk_n ?_
      refine seq_n hK94 ?_
      refine reg_lit ?_
      refine wq_v (some 40) (Value.int .i64 ((i : Int) + 1)) (exec_add _ _ _ _ rfl ((i : Int)) 1 (by kernel_rfl) (by kernel_rfl) ((i : Int) + 1) rfl (by omega) (by omega) _) ?_
      refine wq_p 1 [(19, (Value.int .i64 ((i : Int) + 1)))] ?_
      refine wl_end rfl ?_
      refine ⟨64 - (i + 1), (by omega), (i + 1), (li.set i ((((gb (k) (i))) ^^^ (54 : UInt8)))), (lo.set i ((((gb (k) (i))) ^^^ (92 : UInt8)))), (by omega), (by rw [hI]; first | rfl | (rw [padS, gb_ge k i (by first | omega | (rw [sha_len]; omega))])), (by rw [hO]; first | rfl | (rw [padS, gb_ge k i (by first | omega | (rw [sha_len]; omega))])), (by rw [List.length_set]; exact hli), (by rw [List.length_set]; exact hlo), rfl, (patch_eq _ 49 _ (by kernel_rfl) (by kernel_rfl) (by kernel_rfl)), h101.sel [0, 1] [0] (by kernel_rfl) rfl rfl⟩
     ·
      refine wp_skip ?_
      refine seq_n hK97 ?_
      refine reg_lit ?_
      refine wq_p 5 [(34, (Value.int .u8 0)), (33, (Value.int .i64 ((i : Int)))), (32, (Value.slice (some ⟨g86, 0, none⟩) 64 64)), (31, (Value.int .i64 ((i : Int)))), (30, (Value.slice (some ⟨g87, 0, none⟩) 64 64))] ?_
      refine wq_v (some 35) (Value.int .u8 (ub ((0 : UInt8) ^^^ (54 : UInt8)))) (eq_is (v := Value.int .u8 (bits .xor .u8 (ub (0 : UInt8)) (ub (54 : UInt8)))) (by kernel_rfl) (b_xor (0 : UInt8) (54 : UInt8))) ?_
      refine wq_p 1 [(36, (Value.int .u8 0))] ?_
      refine wq_v (some 37) (Value.int .u8 (ub ((0 : UInt8) ^^^ (92 : UInt8)))) (eq_is (v := Value.int .u8 (bits .xor .u8 (ub (0 : UInt8)) (ub (92 : UInt8)))) (by kernel_rfl) (b_xor (0 : UInt8) (92 : UInt8))) ?_
      refine wq_v (some 38) (eAt (some ⟨g87, 0, none⟩) (i * 1 + 0)) (e_idxN (SB.rvn (OB.sb (h90.at_ 0 rfl))).2 i 64 (SB.rvn (OB.sb (h90.at_ 0 rfl))).1 (by first | omega | (rw [hli]; omega) | (rw [hlo]; omega) | (rw [sha_len]; omega)) 22 (.tmp 30) (.tmp 31) (by kernel_rfl) .i64 (by kernel_rfl) (by kernel_rfl) 5 (by kernel_rfl) (by kernel_rfl) _) ?_
      refine wq_to none (x_storeB h90 0 rfl i (by first | omega | (rw [hli]; omega) | (rw [hlo]; omega) | (rw [sha_len]; omega)) 5 (.tmp 38) (.tmp 35) (by kernel_rfl) (((0 : UInt8) ^^^ (54 : UInt8))) (by kernel_rfl) (by kernel_rfl) (by kernel_rfl)) ?_
      rintro _ w102 h102
      refine wq_v (some 39) (eAt (some ⟨g86, 0, none⟩) (i * 1 + 0)) (e_idxN (SB.rvn (OB.sb (h102.at_ 1 rfl))).2 i 64 (SB.rvn (OB.sb (h102.at_ 1 rfl))).1 (by first | omega | (rw [hli]; omega) | (rw [hlo]; omega) | (rw [sha_len]; omega)) 22 (.tmp 32) (.tmp 33) (by kernel_rfl) .i64 (by kernel_rfl) (by kernel_rfl) 5 (by kernel_rfl) (by kernel_rfl) _) ?_
      refine wq_to none (x_storeB h102 1 rfl i (by first | omega | (rw [hli]; omega) | (rw [hlo]; omega) | (rw [sha_len]; omega)) 5 (.tmp 39) (.tmp 37) (by kernel_rfl) (((0 : UInt8) ^^^ (92 : UInt8))) (by kernel_rfl) (by kernel_rfl) (by kernel_rfl)) ?_
      rintro _ w103 h103
      refine wl_end rfl ?_
      refine blk_n ?_
      refine seq_n hK94 ?_
      refine reg_lit ?_
      refine wq_v (some 40) (Value.int .i64 ((i : Int) + 1)) (exec_add _ _ _ _ rfl ((i : Int)) 1 (by kernel_rfl) (by kernel_rfl) ((i : Int) + 1) rfl (by omega) (by omega) _) ?_
      refine wq_p 1 [(19, (Value.int .i64 ((i : Int) + 1)))] ?_
      refine wl_end rfl ?_
      refine ⟨64 - (i + 1), (by omega), (i + 1), (li.set i (((0 : UInt8) ^^^ (54 : UInt8)))), (lo.set i (((0 : UInt8) ^^^ (92 : UInt8)))), (by omega), (by rw [hI]; first | rfl | (rw [padS, gb_ge k i (by first | omega | (rw [sha_len]; omega))])), (by rw [hO]; first | rfl | (rw [padS, gb_ge k i (by first | omega | (rw [sha_len]; omega))])), (by rw [List.length_set]; exact hli), (by rw [List.length_set]; exact hlo), rfl, (patch_eq _ 49 _ (by kernel_rfl) (by kernel_rfl) (by kernel_rfl)), h103.sel [0, 1] [0] (by kernel_rfl) rfl rfl⟩
    ·
     refine wp_exit ?_
     refine seq_e ?_
     refine seq_e ?_
     refine blk_e ?_
     refine seq_n hK88 ?_
     refine wp_seq_k ?_
     intro K104 hK104
     obtain rfl : i = 64 := by omega
     
     refine reg_lit ?_
     refine wq_p 2 [(42, (Value.slice (some ⟨g87, 0, none⟩) 64 64)), (41, (Value.slice (some ⟨g86, 0, none⟩) 64 64))] ?_
     refine wq_to (some 43) (x_bs h90 22 ([(Value.slice (some ⟨g87, 0, none⟩) 64 64)]) 1 (by kernel_rfl)) ?_
     rintro _ w105 ⟨g105, rfl, h105⟩
     refine wq_p 1 [(44, (Value.slice B ls.length d))] ?_
     have h106 := h105.blkRow 0 (u1 := (Value.slice (some ⟨g87, 0, none⟩) 64 64)) rfl rfl
     refine wq_to (some 45) (x_appRow h106 0 (us := [(Value.slice (some ⟨g87, 0, none⟩) 64 64)]) (vs := vs) rfl (.tmp 43) (.tmp 44) (by kernel_rfl) (A := B) (m := ls.length) (c := d) (B := w.heap.size) (by kernel_rfl) (by kernel_rfl) (hrd.below h106.below0) (vals_one hvs hvl) (by show 1 + ls.length ≤ 1000000; omega)) ?_
     rintro _ w107 ⟨A107, c107, n107, rfl, hn107, h107⟩
     refine wq_to (some 46) (x_bytesE h107 35 [(Value.slice A107 n107 c107)] (by kernel_rfl) (of_any (Value.slice A107 n107 c107) (li :: ls) _ (SS.row (h107.at_ 0 rfl) (by simp [hvl]) (sb_cons (OB.sb (h107.at_ 1 rfl)) fun i v m h1 h2 => (hvs i v m h1 h2).below h107.below0)) (by simp only [List.flatten_cons, List.length_append]; omega)) (shaF (li ++ ls.flatten)) (32) (by rw [List.flatten_cons]) (sha_len _).symm) ?_
     rintro _ w108 ⟨A108, c108, rfl, h108⟩
     refine wq_to (some 47) (x_bs h108 22 ([(Value.slice (some ⟨g86, 0, none⟩) 64 64), (Value.slice A108 32 c108)]) 2 (by kernel_rfl)) ?_
     rintro _ w109 ⟨g109, rfl, h109⟩
     refine wq_to (some 48) (x_bytesE h109 35 [(Value.slice (some ⟨g109, 0, none⟩) 2 2)] (by kernel_rfl) (of_any (Value.slice (some ⟨g109, 0, none⟩) 2 2) [lo, shaF (li ++ ls.flatten)] _ (bs2 (h109.at_ 0 rfl) (OB.sb (h109.at_ 4 rfl)) (OB.sb (h109.at_ 1 rfl))) (by simp only [List.flatten_cons, List.flatten_nil, List.length_append, List.length_nil, sha_len]; omega)) (shaF (lo ++ (shaF (li ++ ls.flatten)))) (32) (by simp) (sha_len _).symm) ?_
     rintro _ w110 ⟨A110, c110, rfl, h110⟩
     refine wq_p 1 [(4, (Value.slice A110 32 c110))] ?_
     refine wl_end rfl ?_
     refine seq_n hK104 ?_
     refine wp_ret ?_
     refine post_1 rfl (by kernel_rfl) (rtmp (v := (Value.slice A110 32 c110)) (by kernel_rfl)) ?_
     exact bpost_of h110 0 rfl (by unfold macF padK; rw [key64_le k (by omega), hO, hI])
end Go.Proofs.YtpkelokaammmjaaDoor
end
/-! Steps and plain functions for the walks of mac.Derive, Text. -/
section
namespace Go.Proofs.YtpkelokaammmjaaDoor
open Go.RowKit Go.QT
/-- The key that a key has for a label. -/
def derF (k l : Bytes) : Bytes := (macF k (l ++ [0, 1])).take 16
theorem der_len (k l : Bytes) : (derF k l).length = 16 := by unfold derF; rw [List.length_take, mac_len]; rfl
/-- A password's sums. -/
def uN (p u : Bytes) : Nat → Bytes
  | 0 => u
  | n + 1 => macF p (uN p u n)
def xorS (t u : Bytes) : Nat → Bytes
  | 0 => List.replicate 32 0
  | i + 1 => (xorS t u i).set i (gb t i ^^^ gb u i)
theorem xorS_len (t u : Bytes) (i : Nat) : (xorS t u i).length = 32 := by
  induction i with
  | zero => rfl
  | succ i ih => simp only [xorS, List.length_set, ih]
def tN (p u : Bytes) : Nat → Bytes
  | 0 => u
  | n + 1 => xorS (tN p u n) (uN p u (n + 1)) 32
theorem tN_len (p u : Bytes) (hu : u.length = 32) (n : Nat) : (tN p u n).length = 32 := by
  cases n with
  | zero => exact hu
  | succ n => exact xorS_len _ _ _
theorem uN_len (p u : Bytes) (hu : u.length = 32) (n : Nat) : (uN p u n).length = 32 := by
  cases n with
  | zero => exact hu
  | succ n => exact mac_len _ _
/-- The key of a password. -/
def textS (p s : Bytes) : Bytes := (tN p (macF p (s ++ [0, 0, 0, 1])) 15).take 16
theorem text_len (p s : Bytes) : (textS p s).length = 16 := by unfold textS; rw [List.length_take, tN_len _ _ (mac_len _ _)]; rfl
section
variable {o : Oper} {a : Act} {w w' : World} {F0 : Nat → Prop} {w0 : World} {ro rs : List Res}
/-- octet.Key of sixteen bytes. -/
theorem x_okey (h : Hp F0 w0 w ro rs) (l : Bytes) (bv : Value) (hp : pureVal Tryd.prog (execOp a.eval o) = some (.enter 27 #[bv])) (hb : SB w bv l) (hl : l.length = 16) :
    OpTo Tryd.prog o a w (fun u w' => ∃ K, u = .tuple #[.agg (vb (kl K)).toArray, .bool true] ∧ kl K = l ∧ Hp F0 w0 w' ro rs) :=
  OpTo.enter 27 [bv] hp (okey_any bv l w hb) fun e w' hq => by
    obtain ⟨K, hK⟩ := kl_of l hl
    obtain ⟨he, hbl⟩ := hq
    rw [if_pos hl, decide_eq_true hl] at he
    exact ⟨_, he, K, by rw [hK], hK.symm, h.below hbl⟩
/-- []byte(s). -/
theorem x_convN (h : Hp F0 w0 w ro rs) (x : Operand) (ho : o.op = .convert 9 22 x) (s : ByteArray) (hx : a.eval x = .string s) (hs : s.size ≤ 1048576) (l : Bytes) (hl : l = s.data.toList) (n : Nat) (hn : n = l.length) :
    OpTo Tryd.prog o a w (fun u w' => ∃ A cc, u = .slice A n cc ∧ Hp F0 w0 w' (rSB (.slice A n cc) l :: ro) rs) := by
  subst hl; subst hn
  refine (x_conv h x ho s hx (by unfold maxLen; omega)).mono fun u w' hq => ?_
  obtain ⟨A, cc, rfl, h'⟩ := hq
  exact ⟨A, cc, rfl, h'⟩
theorem Hp.shareO (h : Hp F0 w0 w ro rs) (i : Nat) {v : Value} {l : Bytes} (hi : rs[i]? = some (rOB v l)) : Hp F0 w0 w (rSB v l :: ro) (rs.eraseIdx i) :=
  ((h.share i hi).sub 0 rfl (rSB v l) (OB.sb (h.own i _ hi)) (fun _q hq => hq.2)).dropR 1
theorem bsize (s : ByteArray) : s.data.toList.length = s.size := by cases s; simp [ByteArray.size]
end
end Go.Proofs.YtpkelokaammmjaaDoor
end
