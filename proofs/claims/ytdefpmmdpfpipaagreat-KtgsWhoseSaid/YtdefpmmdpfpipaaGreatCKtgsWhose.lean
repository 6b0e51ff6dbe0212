/- The row of KtgsWhose: for every input the law returns true and what came in reads as it did. -/
import Derived.ChangeMaps5
import Derived.Test.YtdefpmmdpfpipaaGreatCA14
set_option maxRecDepth 100000
set_option maxHeartbeats 4000000
namespace Go.Proofs.YtdefpmmdpfpipaaGreat
section
open Go.Value renaming int -> iV, slice -> lV, string -> sV, bool -> bV, agg -> aV
open Go.RowKit Go.QT
theorem near_at {t : Int} (h : 0 <= t /\ t <= 1023) : nearF t t = true := by
 unfold nearF; exact decide_eq_true ⟨by omega, by omega, by omega, by omega, by omega, by omega⟩
/-- Of what bytes nothing is opened. -/
theorem op_none {s : STab} {k b : Bytes} {u : Int} (h : ∀ n x, b = mkB 98 n -> 1 <= n -> s.boxes[n - 1]? = some x -> ¬ (x.by_ = k /\ x.usage = u)) : openTh s k u b = .inl 13 := by
 cases hm : markOf b with
 | none => exact openTh_nomark s k u hm
 | some p =>
   obtain ⟨kd, n⟩ := p
   obtain ⟨-, -, -, hb⟩ := markOf_spec hm
   by_cases hk : kd = 98 /\ 1 <= n
   · have hbx := sl_some (s := s) hm hk.1 hk.2
     cases hx : s.boxes[n - 1]? with
     | none => unfold openTh STab.open_; rw [hbx, hx]; rfl
     | some x => exact op_bxno (hbx.trans hx) (h n x (by rw [hb, hk.1]) hk.2 hx)
   · unfold openTh STab.open_; rw [sl_none hm hk]; rfl
theorem whose_else {s : STab} {kk ka kb_ K1 K2 : Fin 16 -> UInt8} {b0 b1 b2 b3 b4 b5 ba c1 c2 L : Bytes} (hl : s.boxes = (sO kk ka kb_ b0 b1 b2 b3 b4 b5).boxes ++ [⟨kl K1, 7, ba⟩] ++ [⟨kl K2, 2, c1⟩] ++ [⟨kl K1, 8, c2⟩]) (hkk : kl kk = mkB 107 1) (hK2 : kl K2 = mkB 107 5) (hx : L ≠ mkB 98 2) (hy : L ≠ mkB 98 5) : openTh s (kl kk) 2 L = .inl 13 := by
 refine op_none fun n x hn h1 hx' => ?_
 rw [hl] at hx'
 rcases (by omega : n = 1 ∨ n = 2 ∨ n = 3 ∨ n = 4 ∨ n = 5 ∨ n = 6 ∨ n = 7 ∨ n = 8 ∨ n = 9 ∨ 10 <= n) with rfl | rfl | rfl | rfl | rfl | rfl | rfl | rfl | rfl | h
 · cases hx'; exact fun h => absurd h.2 (show ¬ ((1 : Int) = 2) by decide)
 · exact absurd hn hx
 · cases hx'; exact fun h => absurd h.2 (show ¬ ((3 : Int) = 2) by decide)
 · cases hx'; exact fun h => absurd h.2 (show ¬ ((1 : Int) = 2) by decide)
 · exact absurd hn hy
 · cases hx'; exact fun h => absurd h.2 (show ¬ ((3 : Int) = 2) by decide)
 · cases hx'; exact fun h => absurd h.2 (show ¬ ((7 : Int) = 2) by decide)
 · cases hx'; exact fun h => absurd (hkk.symm.trans (h.1.symm.trans hK2)) (show ¬ (mkB 107 1 = mkB 107 5) from by decide +kernel)
 · cases hx'; exact fun h => absurd h.2 (show ¬ ((8 : Int) = 2) by decide)
 · have e : (sO kk ka kb_ b0 b1 b2 b3 b4 b5).boxes.length = 6 := rfl
   rw [List.getElem?_eq_none (by simp only [List.length_append, List.length_cons, List.length_nil, e]; omega)] at hx'
   cases hx'
theorem x_whose {o : Oper} {a : Act} {F0 : Nat -> Prop} {w0 w : World} {ro rs : List Res} {v bv : Value} {sv : Nat} (h : Hp F0 w0 w ro rs) (hp : pureVal Tryz.prog (execOp a.eval o) = some (.enter 13 #[pt sv 0, bv])) (hc : Calls Tryz.prog 13 #[pt sv 0, bv] w (DPost w v)) : OpTo Tryz.prog o a w (fun u w' => u = v /\ Hp F0 w0 w' ro rs) := x_dp h 13 [pt sv 0, bv] hp hc
theorem box_ways (L : Bytes) : L = mkB 98 2 ∨ L = mkB 98 5 ∨ (L ≠ mkB 98 2 /\ L ≠ mkB 98 5) := by
 by_cases h : L = mkB 98 2
 · exact .inl h
 · by_cases h2 : L = mkB 98 5
   · exact .inr (.inl h2)
   · exact .inr (.inr ⟨h, h2⟩)
theorem ktgsWhose_any {L : Bytes} {P : Option Addr} {pc : Nat} {w : World} (hv : SB w (.slice P L.length pc) L) (La Rn_ Ot_ At_ Lt : Int) (mesh : Bool) : Calls Tryz.prog 3 #[.agg #[.int .i64 La, .int .i64 Rn_, .int .i64 Ot_, .bool mesh, .int .i64 At_, .int .i64 Lt], .slice P L.length pc] w (DPost w (.bool true)) := by
 obtain ⟨at_, hat⟩ : ∃ x, x = bits .and .i64 At_ 1023 := ⟨_, rfl⟩
 obtain ⟨Li, hLi⟩ : ∃ x, x = 1 + bits .and .i64 La 511 := ⟨_, rfl⟩
 obtain ⟨Ri, hRi⟩ : ∃ x, x = bits .and .i64 Rn_ 4095 := ⟨_, rfl⟩
 obtain ⟨Oi, hOi⟩ : ∃ x, x = 1 + bits .and .i64 Ot_ 511 := ⟨_, rfl⟩
 have hopn : ∀ w, Calls Tryz.prog 10 #[.agg #[.int .i64 La, .int .i64 Rn_, .int .i64 Ot_, .bool true, .int .i64 At_, .int .i64 Lt]] w (OpnPost at_ Li Ri Oi true w) := by
   intro w
   have h := open15_any La Rn_ Ot_ At_ Lt true w
   rwa [← hat, ← hLi, ← hRi, ← hOi] at h
 have h0 := Hp.ro1 (rSB (.slice P L.length pc) L) hv
 refine mE 173 ?_
 refine mT (xN h0 23 ([(iV .i64 La), (iV .i64 Rn_), (iV .i64 Ot_), (bV mesh), (iV .i64 At_), (iV .i64 Lt)])) ?_
 rintro _ w2 ⟨g2, rfl, h2⟩
 refine mD h2 [] (alive15_any _) (fun w5 h5 => ?_)
 rcases (by omega : 100 < L.length ∨ L.length <= 100) with hq | hq
 ·
  refine mW 24 (v := (.bool true)) (eqI (bV (decide ((L.length : Int) > 100))) (by simp; omega)) ?_
  exact mQ h5
 ·
  refine mW 24 (v := (.bool false)) (eqI (bV (decide ((L.length : Int) > 100))) (by simp; omega)) ?_
  refine mT (xS h5 0 ([(iV .i64 La), (iV .i64 Rn_), (iV .i64 Ot_), (bV true), (iV .i64 At_), (iV .i64 Lt)])) ?_
  rintro _ w11 h11
  refine ma h11 0 ?_
  refine mT (x_open15 (at_ := at_) (L := Li) (Rn := Ri) (Ot := Oi) (mesh := true) h11 [(aV ([(iV .i64 La), (iV .i64 Rn_), (iV .i64 Ot_), (bV true), (iV .i64 At_), (iV .i64 Lt)]).toArray)] (by kernel_rfl) (hopn _)) ?_
  rintro _ w13 ⟨d, sv, kb, cb, bk, tb, bb, G, Gc, F, kk, ka, kb_, K1, K2, b0, b1, b2, b3, b4, b5, fl, R, A, B, c, c', mv, rfl, hT, ⟨hkk, hka, hkb, hK1, hK2⟩, ⟨hp0, hp1, hp2, hp3, hp4, hp5⟩, h13⟩
  have h14 := h13.share 7 rfl
  have h15 := h14.share 7 rfl
  have z1 := hT.at0
  have z2 := hT.l
  have z3 := hT.o
  have z4 := hT.r
  refine ma h15 7 ?_
  refine mW 32 (v := (iV .i64 at_)) (eqI (iV .i64 (bits .and .i64 At_ 1023)) (congrArg (iV .i64) hat.symm)) ?_
  refine mJ 2000010 (fun aJ wJ21 => ∃ (gJ20_0 : Nat) (gJ20_1 : Nat) (xJ21 : Nat -> Value), aJ = patch xJ21 173 [(1, (lV P L.length pc)), (4, (bV false)), (5, (pt d 0)), (6, (iV .i64 at_)), (7, (pt gJ20_0 0))] /\ Hp (fun _ => False) w wJ21 [rSB ((lV B 16 c')) (mkB 98 5), rSB ((lV A 16 c)) (mkB 98 2), rSB ((lV P L.length pc)) L] [rBlk gJ20_0 40 ([(sV (⟨#[98, 111, 98]⟩)), (iV .i64 0), (iV .i64 (at_ + 600)), (bV false), (bV true), (sV (⟨#[107, 100, 99]⟩)), (lV A 16 c), (lV none 0 0), (lV (some ⟨gJ20_1, 0, none⟩) 1 1)]), rBlk gJ20_1 35 ([(sV (⟨#[107, 100, 99]⟩)), (lV B 16 c')]), rBlk d 37 (dkC tb sv (rpC fl K1 1 bKDC at_ (min (at_ + 600) (at_ + Li)) R) (rpC 4 K2 1 bKDC at_ (min (at_ + 600) (at_ + Oi)) 0) (lV A 16 c) (lV B 16 c')), rBlk sv 73 ([(pt kb 0), (pt cb 0), (pt bk 0)]), rBlk kb 78 ([(Value.iface 28 (pt tb 0)), (pt bb 0)] ++ vb (kl kk)), rBs G bb [User.mk bANN ka Li Ri false, User.mk bBOB kb_ Oi 0 true], rCa Gc cb 64 [], rBlk bk 164 ([mv]), rTab F tb ((sO kk ka kb_ b0 b1 b2 b3 b4 b5)), rBlk g2 23 ([(iV .i64 La), (iV .i64 Rn_), (iV .i64 Ot_), (bV true), (iV .i64 At_), (iV .i64 Lt)])]) ?_ (fun hJ21 hhJ21 => ?_)
  ·
   rintro _ wJ21 ⟨gJ20_0, gJ20_1, xJ21, rfl, hJh21⟩
   refine mAt ?_
   have h23 := hJh21.share 1 rfl
   have h24 := h23.addQ1 2 1 0 (l := mkB 98 2) (m := mkB 98 5) (s := bKDC) rfl rfl rfl
   have hql : (qB bBOB 0 (at_ + 600) false true (mkB 98 2) [⟨bKDC, mkB 98 5, B, c'⟩]).length <= 4096 := qB_len (by decide) (by rw [mkB_len]; decide) (by simp [mkB_len]; decide) (by simp)
   refine ma h24 0 ?_
   obtain ⟨ba, hpa⟩ := pack_authent (s := bANN) (t := at_) (q := 1) (K := zK) (c := mkB 100 ((sO kk ka kb_ b0 b1 b2 b3 b4 b5).sumAt (qB bBOB 0 (at_ + 600) false true (mkB 98 2) [⟨bKDC, mkB 98 5, B, c'⟩]) + 1)) (rightM_is right_ann (by intro x hx; simp only [List.mem_cons, List.not_mem_nil, or_false] at hx; rcases hx with rfl | rfl <;> exact inN_is (by omega) (by omega))) (by decide) (by rw [mkB_len]; decide)
   refine mT (x_auth (nb := 6) (s2 := (((sO kk ka kb_ b0 b1 b2 b3 b4 b5).digest (qB bBOB 0 (at_ + 600) false true (mkB 98 2) [⟨bKDC, mkB 98 5, B, c'⟩])).seal (kl K1) 7 ba)) h24 7 rfl [(pt d 0), (Value.iface 40 (aV ([(sV (⟨#[98, 111, 98]⟩)), (iV .i64 0), (iV .i64 (at_ + 600)), (bV false), (bV true), (sV (⟨#[107, 100, 99]⟩)), (lV A 16 c), (lV none 0 0), (lV (some ⟨gJ20_1, 0, none⟩) 1 1)]).toArray)), (iV .i64 at_), (iV .i64 1)] (by kernel_rfl) (auth15_any (h24.carve1 7 rfl [(true, 1), (false, 0)] rfl rfl) ((roomO hp0 hp1 hp2 hp3 hp4 hp5).less (by decide)) (sumQ_any (xs := [⟨bKDC, mkB 98 5, B, c'⟩]) (D := none) (an := 0) (ca := 0) (Nat.zero_le _) ⟨Nat.le_refl _, fun x hx => by rw [List.mem_singleton.1 hx]; exact ⟨right_kdc, show (3 : Nat) <= 100000 by decide, by show (mkB 98 5).length <= 100000; rw [mkB_len]; decide⟩⟩ right_bob (show (3 : Nat) <= 300 by decide) rfl (inN_is (by omega) (by omega)) (by rw [mkB_len]; decide) hql) hpa)) ?_
   rintro _ w25 ⟨A25, c25, F25, rfl, h25⟩
   refine mT (xS h25 2 ([(sV (⟨#[98, 111, 98]⟩)), (iV .i64 0), (iV .i64 (at_ + 600)), (bV false), (bV true), (sV (⟨#[107, 100, 99]⟩)), (lV A 16 c), (lV A25 16 c25), (lV (some ⟨gJ20_1, 0, none⟩) 1 1)])) ?_
   rintro _ w26 h26
   obtain ⟨t1, ht1⟩ : ∃ t, t = (((sO kk ka kb_ b0 b1 b2 b3 b4 b5).digest (qB bBOB 0 (at_ + 600) false true (mkB 98 2) [⟨bKDC, mkB 98 5, B, c'⟩])).seal (kl K1) 7 ba) := ⟨_, rfl⟩
   have hx1 : t1.box (mkB 98 2) = some ⟨kl kk, 2, b1⟩ := by rw [ht1]; exact au_old bxOx
   have hy1 : t1.box (mkB 98 5) = some ⟨kl kk, 2, b4⟩ := by rw [ht1]; exact au_old bxOy
   have ha1 : t1.box (mkB 98 (6 + 1)) = some ⟨kl K1, 7, ba⟩ := by rw [ht1]; exact au_box rfl (by decide)
   have hk1 : SK t1 (qB bBOB 0 (at_ + 600) false true (mkB 98 2) [⟨bKDC, mkB 98 5, B, c'⟩]) ((sO kk ka kb_ b0 b1 b2 b3 b4 b5).sumAt (qB bBOB 0 (at_ + 600) false true (mkB 98 2) [⟨bKDC, mkB 98 5, B, c'⟩])) := by rw [ht1]; exact au_sk
   have hn1 : t1.keys.length = 5 := by rw [ht1]; exact au_keys rfl
   have hb1 : t1.boxes.length = 7 := by rw [ht1]; exact au_len rfl
   have hm1 : t1.sums.length <= 1 := by rw [ht1]; exact au_sums (Nat.le_refl 0)
   have hr1 : Room 800000 t1 := by rw [ht1]; exact (((roomO hp0 hp1 hp2 hp3 hp4 hp5).digest.seal _ _ (pack_le6 hpa)).less (by decide))
   have hl1 : t1.boxes = (sO kk ka kb_ b0 b1 b2 b3 b4 b5).boxes ++ [⟨kl K1, 7, ba⟩] := by rw [ht1]; exact (congrArg (· ++ [_]) dig_boxes)
   have h28 := h26
   rw [← ht1] at h28
   clear ht1
   obtain ⟨Kf, hKf⟩ := ex_key 6
   obtain ⟨c1, hc1⟩ := pack_inside (f := 2) (K := Kf) (s := bANN) (a := at_) (u := (min (min (at_ + 600) (min (at_ + 600) (at_ + Li))) (min (at_ + 600) (at_ + Oi)))) (r := 0) (rightM_is right_ann (by intro x hx; simp only [List.mem_cons, List.not_mem_nil, or_false] at hx; rcases hx with rfl | rfl | rfl | rfl <;> exact inN_is (by omega) (by omega))) (by decide)
   obtain ⟨c2, hc2⟩ := pack_reply (f := 2) (K := Kf) (n := 0) (s := bBOB) (a := at_) (u := (min (min (at_ + 600) (min (at_ + 600) (at_ + Li))) (min (at_ + 600) (at_ + Oi)))) (r := 0) (rightM_is right_bob (by intro x hx; simp only [List.mem_cons, List.not_mem_nil, or_false] at hx; rcases hx with rfl | rfl | rfl | rfl | rfl <;> exact inN_is (by omega) (by omega))) (by decide)
   obtain ⟨t2, ht2⟩ : ∃ t, t = (((t1.add SFrom.fresh).seal (kl K2) 2 c1).seal (kl K1) 8 c2) := ⟨_, rfl⟩
   have hx2 : t2.box (mkB 98 2) = some ⟨kl kk, 2, b1⟩ := by rw [ht2]; exact bx_seal (bx_seal hx1)
   have hy2 : t2.box (mkB 98 5) = some ⟨kl kk, 2, b4⟩ := by rw [ht2]; exact bx_seal (bx_seal hy1)
   have hi2 : t2.box (mkB 98 (7 + 1)) = some ⟨kl K2, 2, c1⟩ := by rw [ht2]; exact bx_seal (bx_newN (s := t1.add SFrom.fresh) hb1 (by decide))
   have ho2 : t2.box (mkB 98 (7 + 2)) = some ⟨kl K1, 8, c2⟩ := by rw [ht2]; exact bx_newN (s := (t1.add SFrom.fresh).seal (kl K2) 2 c1) (n := 8) (by rw [seal_len]; exact congrArg (· + 1) hb1) (by decide)
   have hr2 : Room 700000 t2 := by rw [ht2]; exact ((((hr1.add SFrom.fresh).seal _ _ (pack_le6 hc1)).seal _ _ (pack_le6 hc2)).less (by decide))
   have hn2 : t2.keys.length = 6 := by rw [ht2]; exact ((List.length_append).trans (congrArg (· + 1) hn1))
   have hl2 : t2.boxes = (sO kk ka kb_ b0 b1 b2 b3 b4 b5).boxes ++ [⟨kl K1, 7, ba⟩] ++ [⟨kl K2, 2, c1⟩] ++ [⟨kl K1, 8, c2⟩] := by rw [ht2]; exact (congrArg (· ++ [_]) (congrArg (· ++ [_]) hl1))
   refine mJ 2000012 (fun aJ wJ30 => ∃ (gJ29_0 : Nat) (AJ29_1 : Option Addr) (cJ29_2 : Nat) (BJ29_3 : Option Addr) (dJ29_4 : Nat) (FJ29_5 : Nat -> Prop) (GJ29_6 : Nat -> Prop) (xJ30 : Nat -> Value), aJ = patch xJ30 173 [(1, (lV P L.length pc)), (4, (bV false)), (5, (pt d 0)), (6, (iV .i64 at_)), (7, (pt gJ20_0 0)), (8, (pt gJ29_0 0)), (9, (iV .i64 0))] /\ Hp (fun _ => False) w wJ30 [rQx A c (mkB 98 2) (some ⟨gJ20_1, 0, none⟩) 1 [⟨bKDC, mkB 98 5, B, c'⟩], rBlk gJ20_1 35 ([(sV (⟨#[107, 100, 99]⟩)), (lV B 16 c')]), rSB ((lV B 16 c')) (mkB 98 5), rSB ((lV A 16 c)) (mkB 98 2), rSB ((lV P L.length pc)) L] [rBlk gJ29_0 43 ([(sV (⟨#[97, 110, 110]⟩)), (sV (⟨#[98, 111, 98]⟩)), (lV AJ29_1 16 cJ29_2), (lV BJ29_3 16 dJ29_4)]), rTab FJ29_5 tb t2, rCa GJ29_6 cb 64 [⟨bANN, at_, 1⟩], rSB ((lV AJ29_1 16 cJ29_2)) (mkB 98 (7 + 1)), rSB ((lV BJ29_3 16 dJ29_4)) (mkB 98 (7 + 2)), rSB ((lV A25 16 c25)) (mkB 98 (6 + 1)), rBlk gJ20_0 40 ([(sV (⟨#[98, 111, 98]⟩)), (iV .i64 0), (iV .i64 (at_ + 600)), (bV false), (bV true), (sV (⟨#[107, 100, 99]⟩)), (lV A 16 c), (lV A25 16 c25), (lV (some ⟨gJ20_1, 0, none⟩) 1 1)]), rBlk d 37 (dkC tb sv (rpC fl K1 1 bKDC at_ (min (at_ + 600) (at_ + Li)) R) (rpC 4 K2 1 bKDC at_ (min (at_ + 600) (at_ + Oi)) 0) (lV A 16 c) (lV B 16 c')), rBlk sv 73 ([(pt kb 0), (pt cb 0), (pt bk 0)]), rBlk kb 78 ([(Value.iface 28 (pt tb 0)), (pt bb 0)] ++ vb (kl kk)), rBs G bb [User.mk bANN ka Li Ri false, User.mk bBOB kb_ Oi 0 true], rBlk bk 164 ([mv]), rBlk g2 23 ([(iV .i64 La), (iV .i64 Rn_), (iV .i64 Ot_), (bV true), (iV .i64 At_), (iV .i64 Lt)])]) ?_ (fun hJ30 hhJ30 => ?_)
   ·
    rintro _ wJ30 ⟨gJ29_0, AJ29_1, cJ29_2, BJ29_3, dJ29_4, FJ29_5, GJ29_6, xJ30, rfl, hJh30⟩
    refine mAt ?_
    refine mJ 2000013 (fun aJ wJ33 => ∃ (xJ33 : Nat -> Value), aJ = patch xJ33 173 [(1, (lV P L.length pc)), (4, (bV false)), (5, (pt d 0)), (8, (pt gJ29_0 0)), (9, (iV .i64 0)), (10, (sV (⟨#[97, 110, 110]⟩))), (11, (iV .i64 0))] /\ Hp (fun _ => False) w wJ33 [rQx A c (mkB 98 2) (some ⟨gJ20_1, 0, none⟩) 1 [⟨bKDC, mkB 98 5, B, c'⟩], rBlk gJ20_1 35 ([(sV (⟨#[107, 100, 99]⟩)), (lV B 16 c')]), rSB ((lV B 16 c')) (mkB 98 5), rSB ((lV A 16 c)) (mkB 98 2), rSB ((lV P L.length pc)) L] [rBlk gJ29_0 43 ([(sV (⟨#[97, 110, 110]⟩)), (sV (⟨#[98, 111, 98]⟩)), (lV AJ29_1 16 cJ29_2), (lV BJ29_3 16 dJ29_4)]), rTab FJ29_5 tb t2, rCa GJ29_6 cb 64 [⟨bANN, at_, 1⟩], rSB ((lV AJ29_1 16 cJ29_2)) (mkB 98 (7 + 1)), rSB ((lV BJ29_3 16 dJ29_4)) (mkB 98 (7 + 2)), rSB ((lV A25 16 c25)) (mkB 98 (6 + 1)), rBlk gJ20_0 40 ([(sV (⟨#[98, 111, 98]⟩)), (iV .i64 0), (iV .i64 (at_ + 600)), (bV false), (bV true), (sV (⟨#[107, 100, 99]⟩)), (lV A 16 c), (lV A25 16 c25), (lV (some ⟨gJ20_1, 0, none⟩) 1 1)]), rBlk d 37 (dkC tb sv (rpC fl K1 1 bKDC at_ (min (at_ + 600) (at_ + Li)) R) (rpC 4 K2 1 bKDC at_ (min (at_ + 600) (at_ + Oi)) 0) (lV A 16 c) (lV B 16 c')), rBlk sv 73 ([(pt kb 0), (pt cb 0), (pt bk 0)]), rBlk kb 78 ([(Value.iface 28 (pt tb 0)), (pt bb 0)] ++ vb (kl kk)), rBs G bb [User.mk bANN ka Li Ri false, User.mk bBOB kb_ Oi 0 true], rBlk bk 164 ([mv]), rBlk g2 23 ([(iV .i64 La), (iV .i64 Rn_), (iV .i64 Ot_), (bV true), (iV .i64 At_), (iV .i64 Lt)])]) ?_ (fun hJ33 hhJ33 => ?_)
    ·
     rintro _ wJ33 ⟨xJ33, rfl, hJh33⟩
     refine mAt ?_
     refine mJ 2000014 (fun aJ wJ36 => ∃ (xJ36 : Nat -> Value), aJ = patch xJ36 173 [(1, (lV P L.length pc)), (4, (bV false)), (5, (pt d 0)), (8, (pt gJ29_0 0)), (9, (iV .i64 0)), (10, (sV (⟨#[97, 110, 110]⟩))), (11, (iV .i64 0)), (12, (sV (⟨#[98, 111, 98]⟩))), (13, (iV .i64 0))] /\ Hp (fun _ => False) w wJ36 [rQx A c (mkB 98 2) (some ⟨gJ20_1, 0, none⟩) 1 [⟨bKDC, mkB 98 5, B, c'⟩], rBlk gJ20_1 35 ([(sV (⟨#[107, 100, 99]⟩)), (lV B 16 c')]), rSB ((lV B 16 c')) (mkB 98 5), rSB ((lV A 16 c)) (mkB 98 2), rSB ((lV P L.length pc)) L] [rBlk gJ29_0 43 ([(sV (⟨#[97, 110, 110]⟩)), (sV (⟨#[98, 111, 98]⟩)), (lV AJ29_1 16 cJ29_2), (lV BJ29_3 16 dJ29_4)]), rTab FJ29_5 tb t2, rCa GJ29_6 cb 64 [⟨bANN, at_, 1⟩], rSB ((lV AJ29_1 16 cJ29_2)) (mkB 98 (7 + 1)), rSB ((lV BJ29_3 16 dJ29_4)) (mkB 98 (7 + 2)), rSB ((lV A25 16 c25)) (mkB 98 (6 + 1)), rBlk gJ20_0 40 ([(sV (⟨#[98, 111, 98]⟩)), (iV .i64 0), (iV .i64 (at_ + 600)), (bV false), (bV true), (sV (⟨#[107, 100, 99]⟩)), (lV A 16 c), (lV A25 16 c25), (lV (some ⟨gJ20_1, 0, none⟩) 1 1)]), rBlk d 37 (dkC tb sv (rpC fl K1 1 bKDC at_ (min (at_ + 600) (at_ + Li)) R) (rpC 4 K2 1 bKDC at_ (min (at_ + 600) (at_ + Oi)) 0) (lV A 16 c) (lV B 16 c')), rBlk sv 73 ([(pt kb 0), (pt cb 0), (pt bk 0)]), rBlk kb 78 ([(Value.iface 28 (pt tb 0)), (pt bb 0)] ++ vb (kl kk)), rBs G bb [User.mk bANN ka Li Ri false, User.mk bBOB kb_ Oi 0 true], rBlk bk 164 ([mv]), rBlk g2 23 ([(iV .i64 La), (iV .i64 Rn_), (iV .i64 Ot_), (bV true), (iV .i64 At_), (iV .i64 Lt)])]) ?_ (fun hJ36 hhJ36 => ?_)
     ·
      rintro _ wJ36 ⟨xJ36, rfl, hJh36⟩
      refine mAt ?_
      refine mJ 2000015 (fun aJ wJ39 => ∃ (xJ39 : Nat -> Value), aJ = patch xJ39 173 [(1, (lV P L.length pc)), (4, (bV false)), (5, (pt d 0)), (8, (pt gJ29_0 0)), (9, (iV .i64 0)), (10, (sV (⟨#[97, 110, 110]⟩))), (11, (iV .i64 0)), (12, (sV (⟨#[98, 111, 98]⟩))), (13, (iV .i64 0)), (14, (sV (⟨#[]⟩))), (15, (iV .i64 13))] /\ Hp (fun _ => False) w wJ39 [rQx A c (mkB 98 2) (some ⟨gJ20_1, 0, none⟩) 1 [⟨bKDC, mkB 98 5, B, c'⟩], rBlk gJ20_1 35 ([(sV (⟨#[107, 100, 99]⟩)), (lV B 16 c')]), rSB ((lV B 16 c')) (mkB 98 5), rSB ((lV A 16 c)) (mkB 98 2), rSB ((lV P L.length pc)) L] [rBlk gJ29_0 43 ([(sV (⟨#[97, 110, 110]⟩)), (sV (⟨#[98, 111, 98]⟩)), (lV AJ29_1 16 cJ29_2), (lV BJ29_3 16 dJ29_4)]), rTab FJ29_5 tb t2, rCa GJ29_6 cb 64 [⟨bANN, at_, 1⟩], rSB ((lV AJ29_1 16 cJ29_2)) (mkB 98 (7 + 1)), rSB ((lV BJ29_3 16 dJ29_4)) (mkB 98 (7 + 2)), rSB ((lV A25 16 c25)) (mkB 98 (6 + 1)), rBlk gJ20_0 40 ([(sV (⟨#[98, 111, 98]⟩)), (iV .i64 0), (iV .i64 (at_ + 600)), (bV false), (bV true), (sV (⟨#[107, 100, 99]⟩)), (lV A 16 c), (lV A25 16 c25), (lV (some ⟨gJ20_1, 0, none⟩) 1 1)]), rBlk d 37 (dkC tb sv (rpC fl K1 1 bKDC at_ (min (at_ + 600) (at_ + Li)) R) (rpC 4 K2 1 bKDC at_ (min (at_ + 600) (at_ + Oi)) 0) (lV A 16 c) (lV B 16 c')), rBlk sv 73 ([(pt kb 0), (pt cb 0), (pt bk 0)]), rBlk kb 78 ([(Value.iface 28 (pt tb 0)), (pt bb 0)] ++ vb (kl kk)), rBs G bb [User.mk bANN ka Li Ri false, User.mk bBOB kb_ Oi 0 true], rBlk bk 164 ([mv]), rBlk g2 23 ([(iV .i64 La), (iV .i64 Rn_), (iV .i64 Ot_), (bV true), (iV .i64 At_), (iV .i64 Lt)])]) ?_ (fun hJ39 hhJ39 => ?_)
      ·
       rintro _ wJ39 ⟨xJ39, rfl, hJh39⟩
       refine mAt ?_
       refine mJ 2000016 (fun aJ wJ42 => ∃ (xJ42 : Nat -> Value), aJ = patch xJ42 173 [(1, (lV P L.length pc)), (4, (bV false)), (5, (pt d 0)), (8, (pt gJ29_0 0)), (9, (iV .i64 0)), (10, (sV (⟨#[97, 110, 110]⟩))), (11, (iV .i64 0)), (12, (sV (⟨#[98, 111, 98]⟩))), (13, (iV .i64 0)), (14, (sV (⟨#[]⟩))), (15, (iV .i64 13)), (17, (iV .i64 13))] /\ Hp (fun _ => False) w wJ42 [rQx A c (mkB 98 2) (some ⟨gJ20_1, 0, none⟩) 1 [⟨bKDC, mkB 98 5, B, c'⟩], rBlk gJ20_1 35 ([(sV (⟨#[107, 100, 99]⟩)), (lV B 16 c')]), rSB ((lV B 16 c')) (mkB 98 5), rSB ((lV A 16 c)) (mkB 98 2), rSB ((lV P L.length pc)) L] [rBlk gJ29_0 43 ([(sV (⟨#[97, 110, 110]⟩)), (sV (⟨#[98, 111, 98]⟩)), (lV AJ29_1 16 cJ29_2), (lV BJ29_3 16 dJ29_4)]), rTab FJ29_5 tb t2, rCa GJ29_6 cb 64 [⟨bANN, at_, 1⟩], rSB ((lV AJ29_1 16 cJ29_2)) (mkB 98 (7 + 1)), rSB ((lV BJ29_3 16 dJ29_4)) (mkB 98 (7 + 2)), rSB ((lV A25 16 c25)) (mkB 98 (6 + 1)), rBlk gJ20_0 40 ([(sV (⟨#[98, 111, 98]⟩)), (iV .i64 0), (iV .i64 (at_ + 600)), (bV false), (bV true), (sV (⟨#[107, 100, 99]⟩)), (lV A 16 c), (lV A25 16 c25), (lV (some ⟨gJ20_1, 0, none⟩) 1 1)]), rBlk d 37 (dkC tb sv (rpC fl K1 1 bKDC at_ (min (at_ + 600) (at_ + Li)) R) (rpC 4 K2 1 bKDC at_ (min (at_ + 600) (at_ + Oi)) 0) (lV A 16 c) (lV B 16 c')), rBlk sv 73 ([(pt kb 0), (pt cb 0), (pt bk 0)]), rBlk kb 78 ([(Value.iface 28 (pt tb 0)), (pt bb 0)] ++ vb (kl kk)), rBs G bb [User.mk bANN ka Li Ri false, User.mk bBOB kb_ Oi 0 true], rBlk bk 164 ([mv]), rBlk g2 23 ([(iV .i64 La), (iV .i64 Rn_), (iV .i64 Ot_), (bV true), (iV .i64 At_), (iV .i64 Lt)])]) ?_ (fun hJ42 hhJ42 => ?_)
       ·
        rintro _ wJ42 ⟨xJ42, rfl, hJh42⟩
        refine mAt ?_
        rcases box_ways L with hq1 | hq1 | ⟨hq1, hq2⟩
        ·
         refine ma hJh42 7 ?_
         refine mT (x_whose (v := .tuple #[.string ⟨#[97, 110, 110]⟩, .int .i64 0]) hJh42 (by kernel_rfl) (whose_ok (l := L) (hJh42.carve0 [(true, 8), (true, 9), (true, 1), (false, 4)] rfl) hr2.ok (by rw [hq1, op_bx hx2 hp1]; rfl))) ?_
         rintro _ w45 ⟨rfl, h45⟩
         refine ma h45 7 ?_
         refine mT (x_same h45 L (mkB 98 2) (lV P L.length pc) (lV A 16 c) (by kernel_rfl) (h45.rd 4 rfl) (h45.rd 3 rfl) true (decide_eq_true hq1)) ?_
         rintro _ w48 ⟨rfl, h48⟩
         exact mQ h48
        ·
         refine ma hJh42 7 ?_
         refine mT (x_whose (v := .tuple #[.string ⟨#[98, 111, 98]⟩, .int .i64 0]) hJh42 (by kernel_rfl) (whose_ok (l := L) (hJh42.carve0 [(true, 8), (true, 9), (true, 1), (false, 4)] rfl) hr2.ok (by rw [hq1, op_bx hy2 hp4]; rfl))) ?_
         rintro _ w50 ⟨rfl, h50⟩
         refine ma h50 7 ?_
         refine mT (x_same h50 L (mkB 98 2) (lV P L.length pc) (lV A 16 c) (by kernel_rfl) (h50.rd 4 rfl) (h50.rd 3 rfl) false (decide_eq_false (by rw [hq1]; decide +kernel))) ?_
         rintro _ w53 ⟨rfl, h53⟩
         refine ma h53 7 ?_
         refine mT (x_same h53 L (mkB 98 5) (lV P L.length pc) (lV B 16 c') (by kernel_rfl) (h53.rd 4 rfl) (h53.rd 2 rfl) true (decide_eq_true hq1)) ?_
         rintro _ w54 ⟨rfl, h54⟩
         exact mQ h54
        ·
         refine ma hJh42 7 ?_
         refine mT (x_whose (v := .tuple #[.string ByteArray.empty, .int .i64 13]) hJh42 (by kernel_rfl) (whose_no (l := L) (hJh42.carve0 [(true, 8), (true, 9), (true, 1), (false, 4)] rfl) hr2.ok (by rw [whose_else hl2 hkk hK2 hq1 hq2]; rfl) (by decide))) ?_
         rintro _ w56 ⟨rfl, h56⟩
         refine ma h56 7 ?_
         refine mT (x_same h56 L (mkB 98 2) (lV P L.length pc) (lV A 16 c) (by kernel_rfl) (h56.rd 4 rfl) (h56.rd 3 rfl) false (decide_eq_false hq1)) ?_
         rintro _ w59 ⟨rfl, h59⟩
         refine ma h59 7 ?_
         refine mT (x_same h59 L (mkB 98 5) (lV P L.length pc) (lV B 16 c') (by kernel_rfl) (h59.rd 4 rfl) (h59.rd 2 rfl) false (decide_eq_false hq2)) ?_
         rintro _ w60 ⟨rfl, h60⟩
         refine mW 143 (v := (bV true)) (eqI (bV ((⟨#[97, 110, 110]⟩ : ByteArray).toList == (⟨#[97, 110, 110]⟩ : ByteArray).toList)) (by simp)) ?_
         refine mW 151 (v := (bV true)) (eqI (bV ((⟨#[98, 111, 98]⟩ : ByteArray).toList == (⟨#[98, 111, 98]⟩ : ByteArray).toList)) (by simp)) ?_
         refine mW 159 (v := (bV true)) (eqI (bV ((⟨#[]⟩ : ByteArray).toList == (⟨#[]⟩ : ByteArray).toList)) (by simp)) ?_
         refine mW 171 (v := (bV true)) (eqI (bV ((⟨#[]⟩ : ByteArray).toList == (⟨#[]⟩ : ByteArray).toList)) (by simp)) ?_
         exact mQ h60
       ·
        refine dG hJh39 12 11 (fun W => (rBlk d 37 (dkC tb sv (rpC fl K1 1 bKDC at_ (min (at_ + 600) (at_ + Li)) R) (rpC 4 K2 1 bKDC at_ (min (at_ + 600) (at_ + Oi)) 0) (lV A 16 c) (lV B 16 c'))).Φ W /\ (rBlk gJ29_0 43 ([(sV (⟨#[97, 110, 110]⟩)), (sV (⟨#[98, 111, 98]⟩)), (lV AJ29_1 16 cJ29_2), (lV BJ29_3 16 dJ29_4)])).Φ W /\ True) (fun w62 h62 => ⟨h62.at_ 7 rfl, h62.at_ 0 rfl, trivial⟩) ?_
        intro w62 h62
        refine dP 8 [0, 1, 2, 4] ?_
        refine dL 3 (fun W hW => hW.1) ?_
        refine dL 5 (fun W hW => hW.2.1) ?_
        refine dT 6 (x_whose (v := .tuple #[.string ByteArray.empty, .int .i64 13]) h62 (by kernel_rfl) (whose_no (l := mkB 98 (7 + 2)) (h62.carve0 [(true, 8), (true, 9), (true, 1), (true, 4)] rfl) hr2.ok (by rw [op_bxno ho2 (fun h => absurd h.2 (by decide))]; rfl) (by decide))) ?_
        rintro _ w63 ⟨rfl, h63⟩
        refine ⟨⟨h63.at_ 7 rfl, h63.at_ 0 rfl, trivial⟩, ?_⟩
        refine dP 1 [7, 8, 9, 10] ?_
        refine dN 11 ?_
        refine dX ?_
        exact mK hJ42 (hhJ42 _ _ ⟨_, pM, h63.sel [0, 1, 2, 3, 4, 5, 6, 7, 8, 9, 10, 11, 12] [0, 1, 2, 3, 4] (by kernel_rfl) rfl rfl⟩)
      ·
       refine dG hJh36 13 12 (fun W => (rBlk d 37 (dkC tb sv (rpC fl K1 1 bKDC at_ (min (at_ + 600) (at_ + Li)) R) (rpC 4 K2 1 bKDC at_ (min (at_ + 600) (at_ + Oi)) 0) (lV A 16 c) (lV B 16 c'))).Φ W /\ (rBlk gJ29_0 43 ([(sV (⟨#[97, 110, 110]⟩)), (sV (⟨#[98, 111, 98]⟩)), (lV AJ29_1 16 cJ29_2), (lV BJ29_3 16 dJ29_4)])).Φ W /\ True) (fun w64 h64 => ⟨h64.at_ 7 rfl, h64.at_ 0 rfl, trivial⟩) ?_
       intro w64 h64
       refine dP 8 [0, 1, 2, 4, 5] ?_
       refine dL 3 (fun W hW => hW.1) ?_
       refine dL 6 (fun W hW => hW.2.1) ?_
       refine dT 7 (x_whose (v := .tuple #[.string ByteArray.empty, .int .i64 13]) h64 (by kernel_rfl) (whose_no (l := mkB 98 (7 + 1)) (h64.carve0 [(true, 8), (true, 9), (true, 1), (true, 3)] rfl) hr2.ok (by rw [op_bxno hi2 (fun h => absurd (hkk.symm.trans (h.1.symm.trans hK2)) (show ¬ (mkB 107 1 = mkB 107 5) from by decide +kernel))]; rfl) (by decide))) ?_
       rintro _ w65 ⟨rfl, h65⟩
       refine ⟨⟨h65.at_ 7 rfl, h65.at_ 0 rfl, trivial⟩, ?_⟩
       refine dP 1 [8, 9, 10, 11] ?_
       refine dN 12 ?_
       refine dX ?_
       exact mK hJ39 (hhJ39 _ _ ⟨_, pM, h65.sel [0, 1, 2, 3, 4, 5, 6, 7, 8, 9, 10, 11, 12] [0, 1, 2, 3, 4] (by kernel_rfl) rfl rfl⟩)
     ·
      refine dG hJh33 15 14 (fun W => (rBlk d 37 (dkC tb sv (rpC fl K1 1 bKDC at_ (min (at_ + 600) (at_ + Li)) R) (rpC 4 K2 1 bKDC at_ (min (at_ + 600) (at_ + Oi)) 0) (lV A 16 c) (lV B 16 c'))).Φ W /\ True) (fun w66 h66 => ⟨h66.at_ 7 rfl, trivial⟩) ?_
      intro w66 h66
      refine dP 8 [0, 1, 2, 4, 5, 6, 7] ?_
      refine dLs 6 [3, 8] (fun W hW => hW.1) ?_
      refine dT 9 (x_whose (v := .tuple #[.string ⟨#[98, 111, 98]⟩, .int .i64 0]) h66 (by kernel_rfl) (whose_ok (l := mkB 98 5) (h66.carve0 [(true, 8), (true, 9), (true, 1), (false, 2)] rfl) hr2.ok (by rw [op_bx hy2 hp4]; rfl))) ?_
      rintro _ w67 ⟨rfl, h67⟩
      refine ⟨⟨h67.at_ 7 rfl, trivial⟩, ?_⟩
      refine dP 1 [10, 11, 12, 13] ?_
      refine dN 14 ?_
      refine dX ?_
      exact mK hJ36 (hhJ36 _ _ ⟨_, pM, h67.sel [0, 1, 2, 3, 4, 5, 6, 7, 8, 9, 10, 11, 12] [0, 1, 2, 3, 4] (by kernel_rfl) rfl rfl⟩)
    ·
     refine dG hJh30 15 14 (fun W => (rBlk d 37 (dkC tb sv (rpC fl K1 1 bKDC at_ (min (at_ + 600) (at_ + Li)) R) (rpC 4 K2 1 bKDC at_ (min (at_ + 600) (at_ + Oi)) 0) (lV A 16 c) (lV B 16 c'))).Φ W /\ True) (fun w68 h68 => ⟨h68.at_ 7 rfl, trivial⟩) ?_
     intro w68 h68
     refine dP 8 [0, 1, 2, 4, 5, 6, 7] ?_
     refine dLs 6 [3, 8] (fun W hW => hW.1) ?_
     refine dT 9 (x_whose (v := .tuple #[.string ⟨#[97, 110, 110]⟩, .int .i64 0]) h68 (by kernel_rfl) (whose_ok (l := mkB 98 2) (h68.carve0 [(true, 8), (true, 9), (true, 1), (false, 3)] rfl) hr2.ok (by rw [op_bx hx2 hp1]; rfl))) ?_
     rintro _ w69 ⟨rfl, h69⟩
     refine ⟨⟨h69.at_ 7 rfl, trivial⟩, ?_⟩
     refine dP 1 [10, 11, 12, 13] ?_
     refine dN 14 ?_
     refine dX ?_
     exact mK hJ33 (hhJ33 _ _ ⟨_, pM, h69.sel [0, 1, 2, 3, 4, 5, 6, 7, 8, 9, 10, 11, 12] [0, 1, 2, 3, 4] (by kernel_rfl) rfl rfl⟩)
   ·
    refine dG h28 13 12 (fun W => (rBlk d 37 (dkC tb sv (rpC fl K1 1 bKDC at_ (min (at_ + 600) (at_ + Li)) R) (rpC 4 K2 1 bKDC at_ (min (at_ + 600) (at_ + Oi)) 0) (lV A 16 c) (lV B 16 c'))).Φ W /\ (rBlk gJ20_0 40 ([(sV (⟨#[98, 111, 98]⟩)), (iV .i64 0), (iV .i64 (at_ + 600)), (bV false), (bV true), (sV (⟨#[107, 100, 99]⟩)), (lV A 16 c), (lV A25 16 c25), (lV (some ⟨gJ20_1, 0, none⟩) 1 1)])).Φ W /\ True) (fun w70 h70 => ⟨h70.at_ 3 rfl, h70.at_ 2 rfl, trivial⟩) ?_
    intro w70 h70
    refine dP 9 [0, 1, 2, 4] ?_
    refine dL 3 (fun W hW => hW.1) ?_
    refine dL 5 (fun W hW => hW.2.1) ?_
    refine dO 6 10 ?_ ?_
    ·
     refine oT (x_tgs (nb := 7) (s3 := t2) (sl2 := [⟨bANN, at_, 1⟩]) (c1 := bANN) (srv := ⟨#[98, 111, 98]⟩) h70 0 7 rfl rfl [(pt sv 0), (iV .i64 at_), (aV ([(sV (⟨#[98, 111, 98]⟩)), (iV .i64 0), (iV .i64 (at_ + 600)), (bV false), (bV true), (sV (⟨#[107, 100, 99]⟩)), (lV A 16 c), (lV A25 16 c25), (lV (some ⟨gJ20_1, 0, none⟩) 1 1)]).toArray)] rfl (by kernel_rfl) ((by rw [← hb1, ht2]; exact tgsMet_any (us_ := User.mk bBOB kb_ Oi 0 true) (au := mkB 98 (6 + 1)) (l := mkB 98 2) (pb := mkB 98 5) (h70.carve2 0 7 rfl rfl [(true, 4), (true, 5), (false, 3), (true, 1), (false, 0), (true, 6)] rfl rfl) (hr1.less (by decide)) (Nat.le_trans hm1 (by decide)) (op_bx hx1 hp1) (by omega) hk1 (op_bx ha1 hpa) (near_at (by omega)) (by simp) (by simp) (by decide) (by decide) (op_bx hy1 hp4) (by omega) (show (2 : Nat) <= 1000 by decide) place_bob.1 place_bob.2 rfl bob_ne right_bob (by decide) rfl (inN_is (by omega) (by omega)) (by rw [mkB_len]; decide) (by rw [mkB_len]; decide) hql (by omega) (hKf.trans (by rw [hn1])) hc1 hc2))) ?_
     rintro _ w71 ⟨A71, c71, B71, d71, F71, G71, _, rfl, rfl, h71⟩
     refine ⟨⟨h71.at_ 6 rfl, h71.at_ 5 rfl, trivial⟩, ?_⟩
     refine dP 3 [7, 8, 9] ?_
     refine dT 10 (xN h71 43 ([(sV ByteArray.empty), (sV ByteArray.empty), (lV none 0 0), (lV none 0 0)])) ?_
     rintro _ w72 ⟨g72, rfl, h72⟩
     refine ⟨⟨h72.at_ 7 rfl, h72.at_ 6 rfl, trivial⟩, ?_⟩
     refine dT 11 (xR h72 0 ([(sV (⟨#[97, 110, 110]⟩)), (sV (⟨#[98, 111, 98]⟩)), (lV A71 16 c71), (lV B71 16 d71)])) ?_
     rintro _ w73 h73
     refine ⟨⟨h73.at_ 7 rfl, h73.at_ 6 rfl, trivial⟩, ?_⟩
     refine dN 12 ?_
     refine dX ?_
     exact mK hJ30 (hhJ30 _ _ ⟨g72, A71, c71, B71, d71, F71, G71, _, pM, h73.sel [0, 1, 2, 3, 4, 5, 6, 7, 8, 9, 10, 11, 12] [0, 1, 2, 3, 4] (by kernel_rfl) rfl rfl⟩)
    ·
     refine oT (xN h70 43 ([(sV ByteArray.empty), (sV ByteArray.empty), (lV none 0 0), (lV none 0 0)])) ?_
     rintro _ w74 ⟨g74, rfl, h74⟩
     refine ⟨⟨h74.at_ 4 rfl, h74.at_ 3 rfl, trivial⟩, ?_⟩
     refine dT 6 (x_tgs (nb := 7) (s3 := t2) (sl2 := [⟨bANN, at_, 1⟩]) (c1 := bANN) (srv := ⟨#[98, 111, 98]⟩) h74 1 8 rfl rfl [(pt sv 0), (iV .i64 at_), (aV ([(sV (⟨#[98, 111, 98]⟩)), (iV .i64 0), (iV .i64 (at_ + 600)), (bV false), (bV true), (sV (⟨#[107, 100, 99]⟩)), (lV A 16 c), (lV A25 16 c25), (lV (some ⟨gJ20_1, 0, none⟩) 1 1)]).toArray)] rfl (by kernel_rfl) ((by rw [← hb1, ht2]; exact tgsMet_any (us_ := User.mk bBOB kb_ Oi 0 true) (au := mkB 98 (6 + 1)) (l := mkB 98 2) (pb := mkB 98 5) (h74.carve2 1 8 rfl rfl [(true, 5), (true, 6), (false, 3), (true, 2), (false, 0), (true, 7)] rfl rfl) (hr1.less (by decide)) (Nat.le_trans hm1 (by decide)) (op_bx hx1 hp1) (by omega) hk1 (op_bx ha1 hpa) (near_at (by omega)) (by simp) (by simp) (by decide) (by decide) (op_bx hy1 hp4) (by omega) (show (2 : Nat) <= 1000 by decide) place_bob.1 place_bob.2 rfl bob_ne right_bob (by decide) rfl (inN_is (by omega) (by omega)) (by rw [mkB_len]; decide) (by rw [mkB_len]; decide) hql (by omega) (hKf.trans (by rw [hn1])) hc1 hc2))) ?_
     rintro _ w75 ⟨A75, c75, B75, d75, F75, G75, _, rfl, rfl, h75⟩
     refine ⟨⟨h75.at_ 7 rfl, h75.at_ 6 rfl, trivial⟩, ?_⟩
     refine dP 2 [7, 8, 9] ?_
     refine dT 11 (xR h75 4 ([(sV (⟨#[97, 110, 110]⟩)), (sV (⟨#[98, 111, 98]⟩)), (lV A75 16 c75), (lV B75 16 d75)])) ?_
     rintro _ w76 h76
     refine ⟨⟨h76.at_ 7 rfl, h76.at_ 6 rfl, trivial⟩, ?_⟩
     refine dN 12 ?_
     refine dX ?_
     exact mK hJ30 (hhJ30 _ _ ⟨g74, A75, c75, B75, d75, F75, G75, _, pM, h76.sel [4, 0, 1, 2, 3, 5, 6, 7, 8, 9, 10, 11, 12] [0, 1, 2, 3, 4] (by kernel_rfl) rfl rfl⟩)
  ·
   refine dG h15 14 13 (fun W => (rBlk d 37 (dkC tb sv (rpC fl K1 1 bKDC at_ (min (at_ + 600) (at_ + Li)) R) (rpC 4 K2 1 bKDC at_ (min (at_ + 600) (at_ + Oi)) 0) (lV A 16 c) (lV B 16 c'))).Φ W /\ True) (fun w77 h77 => ⟨h77.at_ 0 rfl, trivial⟩) ?_
   intro w77 h77
   refine dP 7 [0, 2, 3, 4, 6, 7, 8] ?_
   refine dV 1 (fun W hW => exec_add _ _ _ _ bO at_ 600 (by kernel_rfl) (by kernel_rfl) (at_ + 600) rfl (by omega) (by omega) _) ?_
   refine dLs 4 [5, 9] (fun W hW => hW.1) ?_
   refine dO 10 12 ?_ ?_
   ·
    refine oT (x_bs h77 35 ([(sV (⟨#[107, 100, 99]⟩)), (lV B 16 c')]) 1 (by kernel_rfl)) ?_
    rintro _ w78 ⟨g78, rfl, h78⟩
    refine ⟨⟨h78.at_ 1 rfl, trivial⟩, ?_⟩
    refine dP 2 [11] ?_
    refine dT 12 (xN h78 40 ([(sV ByteArray.empty), (iV .i64 0), (iV .i64 0), (bV false), (bV false), (sV ByteArray.empty), (lV none 0 0), (lV none 0 0), (lV none 0 0)])) ?_
    rintro _ w79 ⟨g79, rfl, h79⟩
    refine ⟨⟨h79.at_ 2 rfl, trivial⟩, ?_⟩
    refine dE 13 (xR h79 0 ([(sV (⟨#[98, 111, 98]⟩)), (iV .i64 0), (iV .i64 (at_ + 600)), (bV false), (bV true), (sV (⟨#[107, 100, 99]⟩)), (lV A 16 c), (lV none 0 0), (lV (some ⟨g78, 0, none⟩) 1 1)])) ?_
    rintro _ w80 h80
    refine dX ?_
    exact mK hJ21 (hhJ21 _ _ ⟨g79, g78, _, pM, h80.sel [0, 1, 2, 3, 4, 5, 6, 7, 8, 9] [0, 1, 2] (by kernel_rfl) rfl rfl⟩)
   ·
    refine oT (xN h77 40 ([(sV ByteArray.empty), (iV .i64 0), (iV .i64 0), (bV false), (bV false), (sV ByteArray.empty), (lV none 0 0), (lV none 0 0), (lV none 0 0)])) ?_
    rintro _ w81 ⟨g81, rfl, h81⟩
    refine ⟨⟨h81.at_ 1 rfl, trivial⟩, ?_⟩
    refine dT 10 (x_bs h81 35 ([(sV (⟨#[107, 100, 99]⟩)), (lV B 16 c')]) 1 (by kernel_rfl)) ?_
    rintro _ w82 ⟨g82, rfl, h82⟩
    refine ⟨⟨h82.at_ 2 rfl, trivial⟩, ?_⟩
    refine dP 1 [11] ?_
    refine dE 13 (xR h82 1 ([(sV (⟨#[98, 111, 98]⟩)), (iV .i64 0), (iV .i64 (at_ + 600)), (bV false), (bV true), (sV (⟨#[107, 100, 99]⟩)), (lV A 16 c), (lV none 0 0), (lV (some ⟨g82, 0, none⟩) 1 1)])) ?_
    rintro _ w83 h83
    refine dX ?_
    exact mK hJ21 (hhJ21 _ _ ⟨g81, g82, _, pM, h83.sel [1, 0, 2, 3, 4, 5, 6, 7, 8, 9] [0, 1, 2] (by kernel_rfl) rfl rfl⟩)
theorem ktgsWhose_all (v : Value) (L : Bytes) (w : World) (hv : SB w v L) (La Rn_ Ot_ At_ Lt : Int) (mesh : Bool) : Calls Tryz.prog 3 #[.agg #[.int .i64 La, .int .i64 Rn_, .int .i64 Ot_, .bool mesh, .int .i64 At_, .int .i64 Lt], v] w (DPost w (.bool true)) := by
 obtain ⟨P, pc, rfl, _⟩ := id hv
 exact ktgsWhose_any hv La Rn_ Ot_ At_ Lt mesh
end
section
open Go.ChangeShapes Go.WideShapes Go.ChangeAt Go.RowKit
theorem ktgsWhose_lifted (os : Os) (started : os.Started) (H : Type) (enc : TypeId × Value -> H) :
   ReturnsInHanded {} Tryz.checked os 3 .any (Rows.ktgsWhoseSpec.pre6 enc Tryz.prog Tryz.f3 Rows.ktgsWhoseRow.domain false) (Rows.ktgsWhoseSpec.post enc Tryz.prog Tryz.f3 false true false false) := by
 refine returnsInHanded_of_change (C := Tryz.checked) Tryz.own started (by kernel_rfl) Tryz.func3
   (ChangeSpec.witness6 (enc := enc) (C := Tryz.checked) false ⟨#[], #[.agg #[.int .i64 0, .int .i64 0, .int .i64 0, .bool false, .int .i64 0, .int .i64 0], .slice none 0 0], []⟩ 8 (by kernel_rfl) (by kernel_rfl) (by kernel_rfl) (by kernel_rfl)) ?_
 intro W base args ds gs before hval0 hW hcnd _
 have hval : ∀ (j : Nat) t v, Tryz.f3.params[j]? = some t -> args[j]? = some v -> Value.okWide Tryz.prog W .any base t v := hval0
 have hpost : ∀ W', Below W.heap.size W W' -> Rows.ktgsWhoseSpec.post enc Tryz.prog Tryz.f3 false true false false W args (.bool true) W' := fun W' hb =>
   law_post Tryz.laidOut (by kernel_rfl) Tryz.underlying4 rfl rfl (fun ds hds => by
     have hn : ds.length = 2 := hds
     match ds, hn with
     | [_, _], _ => rfl) hW hb
 obtain ⟨p, q, hA0, hV, rfl, hfz, hnd⟩ := hW
 have hA : DataW.TrodAll enc Tryz.prog W 0 (fun _ => true) true Tryz.f3.params.toList args.toList ds p := hA0
 rw [Tryz.params3] at hA hval
 clear hA0 hval0
 obtain ⟨v0, v1, d0, d1, p0, p1, rfl, rfl, rfl, h0, h1⟩ := trodAll_two hA
 obtain ⟨n00, n01, n02, m03, n04, n05, rfl⟩ := open_rules (hval 0 23 v0 rfl rfl) h0
 obtain ⟨b1, hb1⟩ := open_bs (hval 1 24 v1 rfl rfl) h1
 refine (ktgsWhose_all v1 b1 W hb1 n00 n01 n02 n04 n05 m03).mono fun e W' ⟨he, hw⟩ => ?_
 subst he
 exact ⟨_, rfl, hpost W' hw⟩
theorem ktgsWhose_holds : Rows.KtgsWhoseSaid :=
 OpenClaim.holds_of_wide 3 Tryz.f3 rfl rfl rfl rfl rfl rfl rfl ⟨rfl, rfl, rfl, rfl, rfl⟩ rfl rfl rfl rfl rfl (by kernel_rfl) Tryz.func3 (by kernel_rfl)
   (of_decide_eq_true (by kernel_rfl)) (by unfold Func.isWrapper; first | (rw [if_pos (by decide +kernel)]; kernel_rfl) | (rw [if_neg (by decide +kernel)]; exact ⟨rfl, rfl⟩))
   (fun os started H enc _ => ktgsWhose_lifted os started H enc)
end
end Go.Proofs.YtdefpmmdpfpipaaGreat
