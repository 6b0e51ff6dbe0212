/- The row of KtgsReads: for every input the law returns true and what came in reads as it did. -/
import Derived.ChangeMaps5
import Derived.Test.YtdefpmmdpfpipaaGreatCA14
set_option maxRecDepth 100000
set_option maxHeartbeats 4000000
namespace Go.Proofs.YtdefpmmdpfpipaaGreat
section
open Go.RowKit Go.QT
theorem near_at {t : Int} (h : 0 <= t /\ t <= 1023) : nearF t t = true := by
 unfold nearF; exact decide_eq_true ⟨by omega, by omega, by omega, by omega, by omega, by omega⟩
end
section
open Go.Value renaming int -> iV, slice -> lV, string -> sV, bool -> bV, agg -> aV
open Go.RowKit Go.QT
theorem mk_ne {a b : Nat} (ha : a <= 1000) (hb : b <= 1000) (h : a ≠ b) : mkB 107 a ≠ mkB 107 b := by
 intro e
 have h1 := markOf_mkB (k := 107) (n := a) (.inl rfl) (by omega)
 have h2 := markOf_mkB (k := 107) (n := b) (.inl rfl) (by omega)
 rw [e, h2] at h1
 injection h1 with h1; injection h1 with _ h1; exact h h1.symm
theorem ktgsReads_any {w : World} (La Rn_ Ot_ At_ Lt : Int) (mesh : Bool) : Calls Tryz.prog 4 #[.agg #[.int .i64 La, .int .i64 Rn_, .int .i64 Ot_, .bool mesh, .int .i64 At_, .int .i64 Lt]] w (DPost w (.bool true)) := by
 obtain ⟨at_, hat⟩ : ∃ x, x = bits .and .i64 At_ 1023 := ⟨_, rfl⟩
 obtain ⟨Li, hLi⟩ : ∃ x, x = 1 + bits .and .i64 La 511 := ⟨_, rfl⟩
 obtain ⟨Ri, hRi⟩ : ∃ x, x = bits .and .i64 Rn_ 4095 := ⟨_, rfl⟩
 obtain ⟨Oi, hOi⟩ : ∃ x, x = 1 + bits .and .i64 Ot_ 511 := ⟨_, rfl⟩
 have hopn : ∀ w, Calls Tryz.prog 10 #[.agg #[.int .i64 La, .int .i64 Rn_, .int .i64 Ot_, .bool true, .int .i64 At_, .int .i64 Lt]] w (OpnPost at_ Li Ri Oi true w) := by
   intro w
   have h := open15_any La Rn_ Ot_ At_ Lt true w
   rwa [← hat, ← hLi, ← hRi, ← hOi] at h
 have h0 := Hp.nil (fun _ => False) w
 refine mE 123 ?_
 refine mT (xN h0 23 ([(iV .i64 La), (iV .i64 Rn_), (iV .i64 Ot_), (bV mesh), (iV .i64 At_), (iV .i64 Lt)])) ?_
 rintro _ w2 ⟨g2, rfl, h2⟩
 refine mD h2 [] (alive15_any _) (fun w5 h5 => ?_)
 refine mT (xS h5 0 ([(iV .i64 La), (iV .i64 Rn_), (iV .i64 Ot_), (bV true), (iV .i64 At_), (iV .i64 Lt)])) ?_
 rintro _ w7 h7
 refine ma h7 0 ?_
 refine mT (x_open15 (at_ := at_) (L := Li) (Rn := Ri) (Ot := Oi) (mesh := true) h7 [(aV ([(iV .i64 La), (iV .i64 Rn_), (iV .i64 Ot_), (bV true), (iV .i64 At_), (iV .i64 Lt)]).toArray)] (by kernel_rfl) (hopn _)) ?_
 rintro _ w9 ⟨d, sv, kb, cb, bk, tb, bb, G, Gc, F, kk, ka, kb_, K1, K2, b0, b1, b2, b3, b4, b5, fl, R, A, B, c, c', mv, rfl, hT, ⟨hkk, hka, hkb, hK1, hK2⟩, ⟨hp0, hp1, hp2, hp3, hp4, hp5⟩, h9⟩
 have h10 := h9.share 7 rfl
 have h11 := h10.share 7 rfl
 have z1 := hT.at0
 have z2 := hT.l
 have z3 := hT.o
 have z4 := hT.r
 refine ma h11 7 ?_
 refine mW 23 (v := (iV .i64 at_)) (eqI (iV .i64 (bits .and .i64 At_ 1023)) (congrArg (iV .i64) hat.symm)) ?_
 refine mJ 2000008 (fun aJ wJ17 => ∃ (gJ16_0 : Nat) (gJ16_1 : Nat) (xJ17 : Nat -> Value), aJ = patch xJ17 123 [(2, (bV false)), (3, (pt d 0)), (4, (iV .i64 at_)), (5, (pt gJ16_0 0))] /\ Hp (fun _ => False) w wJ17 [rSB ((lV B 16 c')) (mkB 98 5), rSB ((lV A 16 c)) (mkB 98 2)] [rBlk gJ16_0 40 ([(sV (⟨#[98, 111, 98]⟩)), (iV .i64 0), (iV .i64 (at_ + 600)), (bV false), (bV true), (sV (⟨#[107, 100, 99]⟩)), (lV A 16 c), (lV none 0 0), (lV (some ⟨gJ16_1, 0, none⟩) 1 1)]), rBlk gJ16_1 35 ([(sV (⟨#[107, 100, 99]⟩)), (lV B 16 c')]), rBlk d 37 (dkC tb sv (rpC fl K1 1 bKDC at_ (min (at_ + 600) (at_ + Li)) R) (rpC 4 K2 1 bKDC at_ (min (at_ + 600) (at_ + Oi)) 0) (lV A 16 c) (lV B 16 c')), rBlk sv 73 ([(pt kb 0), (pt cb 0), (pt bk 0)]), rBlk kb 78 ([(Value.iface 28 (pt tb 0)), (pt bb 0)] ++ vb (kl kk)), rBs G bb [User.mk bANN ka Li Ri false, User.mk bBOB kb_ Oi 0 true], rCa Gc cb 64 [], rBlk bk 164 ([mv]), rTab F tb ((sO kk ka kb_ b0 b1 b2 b3 b4 b5)), rBlk g2 23 ([(iV .i64 La), (iV .i64 Rn_), (iV .i64 Ot_), (bV true), (iV .i64 At_), (iV .i64 Lt)])]) ?_ (fun hJ17 hhJ17 => ?_)
 ·
  rintro _ wJ17 ⟨gJ16_0, gJ16_1, xJ17, rfl, hJh17⟩
  refine mAt ?_
  have h19 := hJh17.share 1 rfl
  have h20 := h19.addQ1 2 1 0 (l := mkB 98 2) (m := mkB 98 5) (s := bKDC) rfl rfl rfl
  have hql : (qB bBOB 0 (at_ + 600) false true (mkB 98 2) [⟨bKDC, mkB 98 5, B, c'⟩]).length <= 4096 := qB_len (by decide) (by rw [mkB_len]; decide) (by simp [mkB_len]; decide) (by simp)
  refine ma h20 0 ?_
  obtain ⟨ba, hpa⟩ := pack_authent (s := bANN) (t := at_) (q := 1) (K := zK) (c := mkB 100 ((sO kk ka kb_ b0 b1 b2 b3 b4 b5).sumAt (qB bBOB 0 (at_ + 600) false true (mkB 98 2) [⟨bKDC, mkB 98 5, B, c'⟩]) + 1)) (rightM_is right_ann (by intro x hx; simp only [List.mem_cons, List.not_mem_nil, or_false] at hx; rcases hx with rfl | rfl <;> exact inN_is (by omega) (by omega))) (by decide) (by rw [mkB_len]; decide)
  refine mT (x_auth (nb := 6) (s2 := (((sO kk ka kb_ b0 b1 b2 b3 b4 b5).digest (qB bBOB 0 (at_ + 600) false true (mkB 98 2) [⟨bKDC, mkB 98 5, B, c'⟩])).seal (kl K1) 7 ba)) h20 7 rfl [(pt d 0), (Value.iface 40 (aV ([(sV (⟨#[98, 111, 98]⟩)), (iV .i64 0), (iV .i64 (at_ + 600)), (bV false), (bV true), (sV (⟨#[107, 100, 99]⟩)), (lV A 16 c), (lV none 0 0), (lV (some ⟨gJ16_1, 0, none⟩) 1 1)]).toArray)), (iV .i64 at_), (iV .i64 1)] (by kernel_rfl) (auth15_any (h20.carve1 7 rfl [(true, 1), (false, 0)] rfl rfl) ((roomO hp0 hp1 hp2 hp3 hp4 hp5).less (by decide)) (sumQ_any (xs := [⟨bKDC, mkB 98 5, B, c'⟩]) (D := none) (an := 0) (ca := 0) (Nat.zero_le _) ⟨Nat.le_refl _, fun x hx => by rw [List.mem_singleton.1 hx]; exact ⟨right_kdc, show (3 : Nat) <= 100000 by decide, by show (mkB 98 5).length <= 100000; rw [mkB_len]; decide⟩⟩ right_bob (show (3 : Nat) <= 300 by decide) rfl (inN_is (by omega) (by omega)) (by rw [mkB_len]; decide) hql) hpa)) ?_
  rintro _ w21 ⟨A21, c21, F21, rfl, h21⟩
  refine mT (xS h21 2 ([(sV (⟨#[98, 111, 98]⟩)), (iV .i64 0), (iV .i64 (at_ + 600)), (bV false), (bV true), (sV (⟨#[107, 100, 99]⟩)), (lV A 16 c), (lV A21 16 c21), (lV (some ⟨gJ16_1, 0, none⟩) 1 1)])) ?_
  rintro _ w22 h22
  obtain ⟨t1, ht1⟩ : ∃ t, t = (((sO kk ka kb_ b0 b1 b2 b3 b4 b5).digest (qB bBOB 0 (at_ + 600) false true (mkB 98 2) [⟨bKDC, mkB 98 5, B, c'⟩])).seal (kl K1) 7 ba) := ⟨_, rfl⟩
  have hx1 : t1.box (mkB 98 2) = some ⟨kl kk, 2, b1⟩ := by rw [ht1]; exact au_old bxOx
  have hy1 : t1.box (mkB 98 5) = some ⟨kl kk, 2, b4⟩ := by rw [ht1]; exact au_old bxOy
  have ha1 : t1.box (mkB 98 (6 + 1)) = some ⟨kl K1, 7, ba⟩ := by rw [ht1]; exact au_box rfl (by decide)
  have hk1 : SK t1 (qB bBOB 0 (at_ + 600) false true (mkB 98 2) [⟨bKDC, mkB 98 5, B, c'⟩]) ((sO kk ka kb_ b0 b1 b2 b3 b4 b5).sumAt (qB bBOB 0 (at_ + 600) false true (mkB 98 2) [⟨bKDC, mkB 98 5, B, c'⟩])) := by rw [ht1]; exact au_sk
  have hn1 : t1.keys.length = 5 := by rw [ht1]; exact au_keys rfl
  have hb1 : t1.boxes.length = 7 := by rw [ht1]; exact au_len rfl
  have hm1 : t1.sums.length <= 1 := by rw [ht1]; exact au_sums (Nat.le_refl 0)
  have hr1 : Room 800000 t1 := by rw [ht1]; exact (((roomO hp0 hp1 hp2 hp3 hp4 hp5).digest.seal _ _ (pack_le6 hpa)).less (by decide))
  have hl1 : t1.boxes = (sO kk ka kb_ b0 b1 b2 b3 b4 b5).boxes ++ [⟨kl K1, 7, ba⟩] := by rw [ht1]; exact (congrArg (· ++ [_]) dig_boxes)
  have h24 := h22
  rw [← ht1] at h24
  clear ht1
  obtain ⟨Kf, hKf⟩ := ex_key 6
  obtain ⟨c1, hc1⟩ := pack_inside (f := 2) (K := Kf) (s := bANN) (a := at_) (u := (min (min (at_ + 600) (min (at_ + 600) (at_ + Li))) (min (at_ + 600) (at_ + Oi)))) (r := 0) (rightM_is right_ann (by intro x hx; simp only [List.mem_cons, List.not_mem_nil, or_false] at hx; rcases hx with rfl | rfl | rfl | rfl <;> exact inN_is (by omega) (by omega))) (by decide)
  obtain ⟨c2, hc2⟩ := pack_reply (f := 2) (K := Kf) (n := 0) (s := bBOB) (a := at_) (u := (min (min (at_ + 600) (min (at_ + 600) (at_ + Li))) (min (at_ + 600) (at_ + Oi)))) (r := 0) (rightM_is right_bob (by intro x hx; simp only [List.mem_cons, List.not_mem_nil, or_false] at hx; rcases hx with rfl | rfl | rfl | rfl | rfl <;> exact inN_is (by omega) (by omega))) (by decide)
  obtain ⟨t2, ht2⟩ : ∃ t, t = (((t1.add SFrom.fresh).seal (kl K2) 2 c1).seal (kl K1) 8 c2) := ⟨_, rfl⟩
  have hx2 : t2.box (mkB 98 2) = some ⟨kl kk, 2, b1⟩ := by rw [ht2]; exact bx_seal (bx_seal hx1)
  have hy2 : t2.box (mkB 98 5) = some ⟨kl kk, 2, b4⟩ := by rw [ht2]; exact bx_seal (bx_seal hy1)
  have hi2 : t2.box (mkB 98 (7 + 1)) = some ⟨kl K2, 2, c1⟩ := by rw [ht2]; exact bx_seal (bx_newN (s := t1.add SFrom.fresh) hb1 (by decide))
  have ho2 : t2.box (mkB 98 (7 + 2)) = some ⟨kl K1, 8, c2⟩ := by rw [ht2]; exact bx_newN (s := (t1.add SFrom.fresh).seal (kl K2) 2 c1) (n := 8) (by rw [seal_len]; exact congrArg (· + 1) hb1) (by decide)
  have hr2 : Room 700000 t2 := by rw [ht2]; exact ((((hr1.add SFrom.fresh).seal _ _ (pack_le6 hc1)).seal _ _ (pack_le6 hc2)).less (by decide))
  have hn2 : t2.keys.length = 6 := by rw [ht2]; exact ((List.length_append).trans (congrArg (· + 1) hn1))
  have hl2 : t2.boxes = (sO kk ka kb_ b0 b1 b2 b3 b4 b5).boxes ++ [⟨kl K1, 7, ba⟩] ++ [⟨kl K2, 2, c1⟩] ++ [⟨kl K1, 8, c2⟩] := by rw [ht2]; exact (congrArg (· ++ [_]) (congrArg (· ++ [_]) hl1))
  refine mJ 2000010 (fun aJ wJ26 => ∃ (gJ25_0 : Nat) (AJ25_1 : Option Addr) (cJ25_2 : Nat) (BJ25_3 : Option Addr) (dJ25_4 : Nat) (FJ25_5 : Nat -> Prop) (GJ25_6 : Nat -> Prop) (xJ26 : Nat -> Value), aJ = patch xJ26 123 [(2, (bV false)), (3, (pt d 0)), (4, (iV .i64 at_)), (5, (pt gJ16_0 0)), (6, (pt gJ25_0 0)), (7, (iV .i64 0))] /\ Hp (fun _ => False) w wJ26 [rQx A c (mkB 98 2) (some ⟨gJ16_1, 0, none⟩) 1 [⟨bKDC, mkB 98 5, B, c'⟩], rBlk gJ16_1 35 ([(sV (⟨#[107, 100, 99]⟩)), (lV B 16 c')]), rSB ((lV B 16 c')) (mkB 98 5), rSB ((lV A 16 c)) (mkB 98 2)] [rBlk gJ25_0 43 ([(sV (⟨#[97, 110, 110]⟩)), (sV (⟨#[98, 111, 98]⟩)), (lV AJ25_1 16 cJ25_2), (lV BJ25_3 16 dJ25_4)]), rTab FJ25_5 tb t2, rCa GJ25_6 cb 64 [⟨bANN, at_, 1⟩], rSB ((lV AJ25_1 16 cJ25_2)) (mkB 98 (7 + 1)), rSB ((lV BJ25_3 16 dJ25_4)) (mkB 98 (7 + 2)), rSB ((lV A21 16 c21)) (mkB 98 (6 + 1)), rBlk gJ16_0 40 ([(sV (⟨#[98, 111, 98]⟩)), (iV .i64 0), (iV .i64 (at_ + 600)), (bV false), (bV true), (sV (⟨#[107, 100, 99]⟩)), (lV A 16 c), (lV A21 16 c21), (lV (some ⟨gJ16_1, 0, none⟩) 1 1)]), rBlk d 37 (dkC tb sv (rpC fl K1 1 bKDC at_ (min (at_ + 600) (at_ + Li)) R) (rpC 4 K2 1 bKDC at_ (min (at_ + 600) (at_ + Oi)) 0) (lV A 16 c) (lV B 16 c')), rBlk sv 73 ([(pt kb 0), (pt cb 0), (pt bk 0)]), rBlk kb 78 ([(Value.iface 28 (pt tb 0)), (pt bb 0)] ++ vb (kl kk)), rBs G bb [User.mk bANN ka Li Ri false, User.mk bBOB kb_ Oi 0 true], rBlk bk 164 ([mv]), rBlk g2 23 ([(iV .i64 La), (iV .i64 Rn_), (iV .i64 Ot_), (bV true), (iV .i64 At_), (iV .i64 Lt)])]) ?_ (fun hJ26 hhJ26 => ?_)
  ·
   rintro _ wJ26 ⟨gJ25_0, AJ25_1, cJ25_2, BJ25_3, dJ25_4, FJ25_5, GJ25_6, xJ26, rfl, hJh26⟩
   refine mAt ?_
   refine mL (fun mM xX aA wL => ∃ (k : Nat), (1 <= k /\ k <= 7) /\ mM = 7 - k /\ aA = patch xX 123 [(3, (pt d 0)), (6, (pt gJ25_0 0)), (8, (iV .i64 ((k : Int))))] /\ Hp (fun _ => False) w wL [rQx A c (mkB 98 2) (some ⟨gJ16_1, 0, none⟩) 1 [⟨bKDC, mkB 98 5, B, c'⟩], rBlk gJ16_1 35 ([(sV (⟨#[107, 100, 99]⟩)), (lV B 16 c')]), rSB ((lV B 16 c')) (mkB 98 5), rSB ((lV A 16 c)) (mkB 98 2)] [rBlk gJ25_0 43 ([(sV (⟨#[97, 110, 110]⟩)), (sV (⟨#[98, 111, 98]⟩)), (lV AJ25_1 16 cJ25_2), (lV BJ25_3 16 dJ25_4)]), rTab FJ25_5 tb t2, rCa GJ25_6 cb 64 [⟨bANN, at_, 1⟩], rSB ((lV AJ25_1 16 cJ25_2)) (mkB 98 (7 + 1)), rSB ((lV BJ25_3 16 dJ25_4)) (mkB 98 (7 + 2)), rSB ((lV A21 16 c21)) (mkB 98 (6 + 1)), rBlk gJ16_0 40 ([(sV (⟨#[98, 111, 98]⟩)), (iV .i64 0), (iV .i64 (at_ + 600)), (bV false), (bV true), (sV (⟨#[107, 100, 99]⟩)), (lV A 16 c), (lV A21 16 c21), (lV (some ⟨gJ16_1, 0, none⟩) 1 1)]), rBlk d 37 (dkC tb sv (rpC fl K1 1 bKDC at_ (min (at_ + 600) (at_ + Li)) R) (rpC 4 K2 1 bKDC at_ (min (at_ + 600) (at_ + Oi)) 0) (lV A 16 c) (lV B 16 c')), rBlk sv 73 ([(pt kb 0), (pt cb 0), (pt bk 0)]), rBlk kb 78 ([(Value.iface 28 (pt tb 0)), (pt bb 0)] ++ vb (kl kk)), rBs G bb [User.mk bANN ka Li Ri false, User.mk bBOB kb_ Oi 0 true], rBlk bk 164 ([mv]), rBlk g2 23 ([(iV .i64 La), (iV .i64 Rn_), (iV .i64 Ot_), (bV true), (iV .i64 At_), (iV .i64 Lt)])]) ⟨_, _, 1, (by decide), rfl, pM, hJh26.sel [0, 1, 2, 3, 4, 5, 6, 7, 8, 9, 10, 11, 12] [0, 1, 2, 3] (by kernel_rfl) rfl rfl⟩ ?_
   rintro _ x31 _ w31 ⟨k, hk, rfl, rfl, h31⟩ KL31 hKL31
   refine mAt ?_
   by_cases b34 : k < 7
   ·
    refine ma h31 7 ?_
    refine mT (x_nkeys h31 1 rfl (by kernel_rfl)) ?_
    rintro _ w35 ⟨rfl, h35⟩
    refine mW 60 (v := (.bool true)) (eqI (bV (decide ((k : Int) <= (t2.keys.length : Int)))) (by simp; omega)) ?_
    refine ma h35 7 ?_
    refine mT (x_nth (tb := tb) h35 k (by kernel_rfl) (by omega)) ?_
    rintro _ w38 ⟨K38, rfl, hK38, h38⟩
    refine mT (xN h38 31 (vb (List.replicate 16 0))) ?_
    rintro _ w39 ⟨g39, rfl, h39⟩
    refine mT (xR h39 0 (vb (kl K38))) ?_
    rintro _ w40 h40
    rcases (by omega : k = 5 ∨ k = 4 ∨ (k ≠ 5 /\ k ≠ 4)) with hq | hq | ⟨hq, hq2⟩
    ·
     refine mJ 2000017 (fun aJ wJ44 => ∃ (gJ43_0 : Nat) (xJ44 : Nat -> Value), aJ = patch xJ44 123 [(3, (pt d 0)), (6, (pt gJ25_0 0)), (8, (iV .i64 ((k : Int)))), (9, (pt g39 0)), (11, (iV .i64 0)), (60, (bV true))] /\ Hp (fun _ => False) w wJ44 [rQx A c (mkB 98 2) (some ⟨gJ16_1, 0, none⟩) 1 [⟨bKDC, mkB 98 5, B, c'⟩], rBlk gJ16_1 35 ([(sV (⟨#[107, 100, 99]⟩)), (lV B 16 c')]), rSB ((lV B 16 c')) (mkB 98 5), rSB ((lV A 16 c)) (mkB 98 2)] [rBlk gJ43_0 54 ([(iV .i64 2)] ++ vb (kl Kf) ++ [(sV (⟨#[97, 110, 110]⟩)), (iV .i64 at_), (iV .i64 ((min (min (at_ + 600) (min (at_ + 600) (at_ + Li))) (min (at_ + 600) (at_ + Oi))))), (iV .i64 0)]), rBlk g39 31 (vb (kl K38)), rBlk gJ25_0 43 ([(sV (⟨#[97, 110, 110]⟩)), (sV (⟨#[98, 111, 98]⟩)), (lV AJ25_1 16 cJ25_2), (lV BJ25_3 16 dJ25_4)]), rTab FJ25_5 tb t2, rCa GJ25_6 cb 64 [⟨bANN, at_, 1⟩], rSB ((lV AJ25_1 16 cJ25_2)) (mkB 98 (7 + 1)), rSB ((lV BJ25_3 16 dJ25_4)) (mkB 98 (7 + 2)), rSB ((lV A21 16 c21)) (mkB 98 (6 + 1)), rBlk gJ16_0 40 ([(sV (⟨#[98, 111, 98]⟩)), (iV .i64 0), (iV .i64 (at_ + 600)), (bV false), (bV true), (sV (⟨#[107, 100, 99]⟩)), (lV A 16 c), (lV A21 16 c21), (lV (some ⟨gJ16_1, 0, none⟩) 1 1)]), rBlk d 37 (dkC tb sv (rpC fl K1 1 bKDC at_ (min (at_ + 600) (at_ + Li)) R) (rpC 4 K2 1 bKDC at_ (min (at_ + 600) (at_ + Oi)) 0) (lV A 16 c) (lV B 16 c')), rBlk sv 73 ([(pt kb 0), (pt cb 0), (pt bk 0)]), rBlk kb 78 ([(Value.iface 28 (pt tb 0)), (pt bb 0)] ++ vb (kl kk)), rBs G bb [User.mk bANN ka Li Ri false, User.mk bBOB kb_ Oi 0 true], rBlk bk 164 ([mv]), rBlk g2 23 ([(iV .i64 La), (iV .i64 Rn_), (iV .i64 Ot_), (bV true), (iV .i64 At_), (iV .i64 Lt)])]) ?_ (fun hJ44 hhJ44 => ?_)
     ·
      rintro _ wJ44 ⟨gJ43_0, xJ44, rfl, hJh44⟩
      refine mAt ?_
      refine mJ 2000018 (fun aJ wJ47 => ∃ (gJ46_0 : Nat) (xJ47 : Nat -> Value), aJ = patch xJ47 123 [(3, (pt d 0)), (6, (pt gJ25_0 0)), (8, (iV .i64 ((k : Int)))), (9, (pt g39 0)), (11, (iV .i64 0)), (13, (iV .i64 13)), (60, (bV true))] /\ Hp (fun _ => False) w wJ47 [rQx A c (mkB 98 2) (some ⟨gJ16_1, 0, none⟩) 1 [⟨bKDC, mkB 98 5, B, c'⟩], rBlk gJ16_1 35 ([(sV (⟨#[107, 100, 99]⟩)), (lV B 16 c')]), rSB ((lV B 16 c')) (mkB 98 5), rSB ((lV A 16 c)) (mkB 98 2)] [rBlk gJ46_0 33 ([(iV .i64 0)] ++ vb (List.replicate 16 0) ++ [(iV .i64 0), (sV ByteArray.empty), (iV .i64 0), (iV .i64 0), (iV .i64 0)]), rBlk gJ43_0 54 ([(iV .i64 2)] ++ vb (kl Kf) ++ [(sV (⟨#[97, 110, 110]⟩)), (iV .i64 at_), (iV .i64 ((min (min (at_ + 600) (min (at_ + 600) (at_ + Li))) (min (at_ + 600) (at_ + Oi))))), (iV .i64 0)]), rBlk g39 31 (vb (kl K38)), rBlk gJ25_0 43 ([(sV (⟨#[97, 110, 110]⟩)), (sV (⟨#[98, 111, 98]⟩)), (lV AJ25_1 16 cJ25_2), (lV BJ25_3 16 dJ25_4)]), rTab FJ25_5 tb t2, rCa GJ25_6 cb 64 [⟨bANN, at_, 1⟩], rSB ((lV AJ25_1 16 cJ25_2)) (mkB 98 (7 + 1)), rSB ((lV BJ25_3 16 dJ25_4)) (mkB 98 (7 + 2)), rSB ((lV A21 16 c21)) (mkB 98 (6 + 1)), rBlk gJ16_0 40 ([(sV (⟨#[98, 111, 98]⟩)), (iV .i64 0), (iV .i64 (at_ + 600)), (bV false), (bV true), (sV (⟨#[107, 100, 99]⟩)), (lV A 16 c), (lV A21 16 c21), (lV (some ⟨gJ16_1, 0, none⟩) 1 1)]), rBlk d 37 (dkC tb sv (rpC fl K1 1 bKDC at_ (min (at_ + 600) (at_ + Li)) R) (rpC 4 K2 1 bKDC at_ (min (at_ + 600) (at_ + Oi)) 0) (lV A 16 c) (lV B 16 c')), rBlk sv 73 ([(pt kb 0), (pt cb 0), (pt bk 0)]), rBlk kb 78 ([(Value.iface 28 (pt tb 0)), (pt bb 0)] ++ vb (kl kk)), rBs G bb [User.mk bANN ka Li Ri false, User.mk bBOB kb_ Oi 0 true], rBlk bk 164 ([mv]), rBlk g2 23 ([(iV .i64 La), (iV .i64 Rn_), (iV .i64 Ot_), (bV true), (iV .i64 At_), (iV .i64 Lt)])]) ?_ (fun hJ47 hhJ47 => ?_)
      ·
       rintro _ wJ47 ⟨gJ46_0, xJ47, rfl, hJh47⟩
       refine mAt ?_
       refine dG hJh47 22 22 (fun W => (rBlk g39 31 (vb (kl K38))).Φ W /\ (rBlk d 37 (dkC tb sv (rpC fl K1 1 bKDC at_ (min (at_ + 600) (at_ + Li)) R) (rpC 4 K2 1 bKDC at_ (min (at_ + 600) (at_ + Oi)) 0) (lV A 16 c) (lV B 16 c'))).Φ W /\ True) (fun w49 h49 => ⟨h49.at_ 2 rfl, h49.at_ 10 rfl, trivial⟩) ?_
       intro w49 h49
       refine dP 16 [0, 1, 3, 4, 5, 6] ?_
       refine dL 2 (fun W hW => hW.1) ?_
       refine dL 7 (fun W hW => hW.2.1) ?_
       refine dV 8 (v := (bV true)) (fun W hW => e_keq K38 K2 31 31 (.tmp 96) (.tmp 101) (by kernel_rfl) (by kernel_rfl) (by kernel_rfl) (by kernel_rfl) (by kernel_rfl) true (decide_eq_true (hK38.trans ((congrArg (mkB 107) hq).trans hK2.symm))) _) ?_
       refine dP 5 [9, 10, 11, 12, 14, 15, 16, 17] ?_
       refine dL 13 (fun W hW => hW.1) ?_
       refine dL 18 (fun W hW => hW.2.1) ?_
       refine dV 19 (v := (bV false)) (fun W hW => e_keq K38 K1 31 31 (.tmp 107) (.tmp 112) (by kernel_rfl) (by kernel_rfl) (by kernel_rfl) (by kernel_rfl) (by kernel_rfl) false (decide_eq_false (fun e => mk_ne (by omega) (by decide) (by omega) (hK38.symm.trans (e.trans hK1)))) _) ?_
       refine dP 0 [20, 21] ?_
       refine dX ?_
       refine mW 62 (exec_add _ _ _ _ bO ((k : Int)) 1 (by kernel_rfl) (by kernel_rfl) ((k : Int) + 1) rfl (by omega) (by omega) _) ?_
       exact mK KL31 (hKL31 _ _ ⟨7 - (k + 1), _, (by omega), (k + 1), (by omega), rfl, pM, h49.sel [3, 4, 5, 6, 7, 8, 9, 10, 11, 12, 13, 14, 15] [0, 1, 2, 3] (by kernel_rfl) rfl rfl⟩)
      ·
       refine dG hJh44 15 14 (fun W => (rBlk d 37 (dkC tb sv (rpC fl K1 1 bKDC at_ (min (at_ + 600) (at_ + Li)) R) (rpC 4 K2 1 bKDC at_ (min (at_ + 600) (at_ + Oi)) 0) (lV A 16 c) (lV B 16 c'))).Φ W /\ (rBlk g39 31 (vb (kl K38))).Φ W /\ (rBlk gJ25_0 43 ([(sV (⟨#[97, 110, 110]⟩)), (sV (⟨#[98, 111, 98]⟩)), (lV AJ25_1 16 cJ25_2), (lV BJ25_3 16 dJ25_4)])).Φ W /\ True) (fun w50 h50 => ⟨h50.at_ 9 rfl, h50.at_ 1 rfl, h50.at_ 2 rfl, trivial⟩) ?_
       intro w50 h50
       refine dP 11 [0, 1, 2, 6] ?_
       refine dL 3 (fun W hW => hW.1) ?_
       refine dP 9 [4] ?_
       refine dL 5 (fun W hW => hW.2.1) ?_
       refine dL 7 (fun W hW => hW.2.2.1) ?_
       refine dO 8 12 ?_ ?_
       ·
        refine oT (x_oReply h50 3 rfl K38 8 (by kernel_rfl) hr2.ok (h50.at_ 6 rfl) (r := (.inl 13)) (op_bxno ho2 (fun h => (fun e => mk_ne (by omega) (by decide) (by omega) (hK38.symm.trans (e.trans hK1))) h.1.symm))) ?_
        rintro _ w51 ⟨rfl, h51⟩
        refine ⟨⟨h51.at_ 9 rfl, h51.at_ 1 rfl, h51.at_ 2 rfl, trivial⟩, ?_⟩
        refine dP 3 [9, 10, 11] ?_
        refine dT 12 (xN h51 33 ([(iV .i64 0)] ++ vb (List.replicate 16 0) ++ [(iV .i64 0), (sV ByteArray.empty), (iV .i64 0), (iV .i64 0), (iV .i64 0)])) ?_
        rintro _ w52 ⟨g52, rfl, h52⟩
        refine ⟨⟨h52.at_ 10 rfl, h52.at_ 2 rfl, h52.at_ 3 rfl, trivial⟩, ?_⟩
        refine dT 13 (xR h52 0 ([(iV .i64 0)] ++ vb (List.replicate 16 0) ++ [(iV .i64 0), (sV ByteArray.empty), (iV .i64 0), (iV .i64 0), (iV .i64 0)])) ?_
        rintro _ w53 h53
        refine ⟨⟨h53.at_ 10 rfl, h53.at_ 2 rfl, h53.at_ 3 rfl, trivial⟩, ?_⟩
        refine dN 14 ?_
        refine dX ?_
        exact mK hJ47 (hhJ47 _ _ ⟨g52, _, pM, h53.sel [0, 1, 2, 3, 4, 5, 6, 7, 8, 9, 10, 11, 12, 13, 14, 15] [0, 1, 2, 3] (by kernel_rfl) rfl rfl⟩)
       ·
        refine oT (xN h50 33 ([(iV .i64 0)] ++ vb (List.replicate 16 0) ++ [(iV .i64 0), (sV ByteArray.empty), (iV .i64 0), (iV .i64 0), (iV .i64 0)])) ?_
        rintro _ w54 ⟨g54, rfl, h54⟩
        refine ⟨⟨h54.at_ 10 rfl, h54.at_ 2 rfl, h54.at_ 3 rfl, trivial⟩, ?_⟩
        refine dT 8 (x_oReply h54 4 rfl K38 8 (by kernel_rfl) hr2.ok (h54.at_ 7 rfl) (r := (.inl 13)) (op_bxno ho2 (fun h => (fun e => mk_ne (by omega) (by decide) (by omega) (hK38.symm.trans (e.trans hK1))) h.1.symm))) ?_
        rintro _ w55 ⟨rfl, h55⟩
        refine ⟨⟨h55.at_ 10 rfl, h55.at_ 2 rfl, h55.at_ 3 rfl, trivial⟩, ?_⟩
        refine dP 2 [9, 10, 11] ?_
        refine dT 13 (xR h55 0 ([(iV .i64 0)] ++ vb (List.replicate 16 0) ++ [(iV .i64 0), (sV ByteArray.empty), (iV .i64 0), (iV .i64 0), (iV .i64 0)])) ?_
        rintro _ w56 h56
        refine ⟨⟨h56.at_ 10 rfl, h56.at_ 2 rfl, h56.at_ 3 rfl, trivial⟩, ?_⟩
        refine dN 14 ?_
        refine dX ?_
        exact mK hJ47 (hhJ47 _ _ ⟨g54, _, pM, h56.sel [0, 1, 2, 3, 4, 5, 6, 7, 8, 9, 10, 11, 12, 13, 14, 15] [0, 1, 2, 3] (by kernel_rfl) rfl rfl⟩)
     ·
      refine dG h40 16 15 (fun W => (rBlk d 37 (dkC tb sv (rpC fl K1 1 bKDC at_ (min (at_ + 600) (at_ + Li)) R) (rpC 4 K2 1 bKDC at_ (min (at_ + 600) (at_ + Oi)) 0) (lV A 16 c) (lV B 16 c'))).Φ W /\ (rBlk g39 31 (vb (kl K38))).Φ W /\ (rBlk gJ25_0 43 ([(sV (⟨#[97, 110, 110]⟩)), (sV (⟨#[98, 111, 98]⟩)), (lV AJ25_1 16 cJ25_2), (lV BJ25_3 16 dJ25_4)])).Φ W /\ True) (fun w57 h57 => ⟨h57.at_ 8 rfl, h57.at_ 0 rfl, h57.at_ 1 rfl, trivial⟩) ?_
      intro w57 h57
      refine dP 11 [0, 1, 2, 6, 7] ?_
      refine dL 3 (fun W hW => hW.1) ?_
      refine dP 9 [4] ?_
      refine dL 5 (fun W hW => hW.2.1) ?_
      refine dL 8 (fun W hW => hW.2.2.1) ?_
      refine dO 9 13 ?_ ?_
      ·
       refine oT (x_oInside h57 2 rfl K38 2 (by kernel_rfl) hr2.ok (h57.at_ 4 rfl) (r := (.inr (.inside 2 Kf bANN at_ (min (min (at_ + 600) (min (at_ + 600) (at_ + Li))) (min (at_ + 600) (at_ + Oi))) 0))) ((congrArg (fun z => openTh t2 z 2 _) (hK38.trans ((congrArg (mkB 107) hq).trans hK2.symm))).trans (op_bx hi2 hc1))) ?_
       rintro _ w58 ⟨rfl, h58⟩
       refine ⟨⟨h58.at_ 8 rfl, h58.at_ 0 rfl, h58.at_ 1 rfl, trivial⟩, ?_⟩
       refine dP 3 [10, 11, 12] ?_
       refine dT 13 (xN h58 54 ([(iV .i64 0)] ++ vb (List.replicate 16 0) ++ [(sV ByteArray.empty), (iV .i64 0), (iV .i64 0), (iV .i64 0)])) ?_
       rintro _ w59 ⟨g59, rfl, h59⟩
       refine ⟨⟨h59.at_ 9 rfl, h59.at_ 1 rfl, h59.at_ 2 rfl, trivial⟩, ?_⟩
       refine dT 14 (xR h59 0 ([(iV .i64 2)] ++ vb (kl Kf) ++ [(sV (⟨#[97, 110, 110]⟩)), (iV .i64 at_), (iV .i64 ((min (min (at_ + 600) (min (at_ + 600) (at_ + Li))) (min (at_ + 600) (at_ + Oi))))), (iV .i64 0)])) ?_
       rintro _ w60 h60
       refine ⟨⟨h60.at_ 9 rfl, h60.at_ 1 rfl, h60.at_ 2 rfl, trivial⟩, ?_⟩
       refine dN 15 ?_
       refine dX ?_
       exact mK hJ44 (hhJ44 _ _ ⟨g59, _, pM, h60.sel [0, 1, 2, 3, 4, 5, 6, 7, 8, 9, 10, 11, 12, 13, 14] [0, 1, 2, 3] (by kernel_rfl) rfl rfl⟩)
      ·
       refine oT (xN h57 54 ([(iV .i64 0)] ++ vb (List.replicate 16 0) ++ [(sV ByteArray.empty), (iV .i64 0), (iV .i64 0), (iV .i64 0)])) ?_
       rintro _ w61 ⟨g61, rfl, h61⟩
       refine ⟨⟨h61.at_ 9 rfl, h61.at_ 1 rfl, h61.at_ 2 rfl, trivial⟩, ?_⟩
       refine dT 9 (x_oInside h61 3 rfl K38 2 (by kernel_rfl) hr2.ok (h61.at_ 5 rfl) (r := (.inr (.inside 2 Kf bANN at_ (min (min (at_ + 600) (min (at_ + 600) (at_ + Li))) (min (at_ + 600) (at_ + Oi))) 0))) ((congrArg (fun z => openTh t2 z 2 _) (hK38.trans ((congrArg (mkB 107) hq).trans hK2.symm))).trans (op_bx hi2 hc1))) ?_
       rintro _ w62 ⟨rfl, h62⟩
       refine ⟨⟨h62.at_ 9 rfl, h62.at_ 1 rfl, h62.at_ 2 rfl, trivial⟩, ?_⟩
       refine dP 2 [10, 11, 12] ?_
       refine dT 14 (xR h62 0 ([(iV .i64 2)] ++ vb (kl Kf) ++ [(sV (⟨#[97, 110, 110]⟩)), (iV .i64 at_), (iV .i64 ((min (min (at_ + 600) (min (at_ + 600) (at_ + Li))) (min (at_ + 600) (at_ + Oi))))), (iV .i64 0)])) ?_
       rintro _ w63 h63
       refine ⟨⟨h63.at_ 9 rfl, h63.at_ 1 rfl, h63.at_ 2 rfl, trivial⟩, ?_⟩
       refine dN 15 ?_
       refine dX ?_
       exact mK hJ44 (hhJ44 _ _ ⟨g61, _, pM, h63.sel [0, 1, 2, 3, 4, 5, 6, 7, 8, 9, 10, 11, 12, 13, 14] [0, 1, 2, 3] (by kernel_rfl) rfl rfl⟩)
    ·
     refine mJ 2000017 (fun aJ wJ65 => ∃ (gJ64_0 : Nat) (xJ65 : Nat -> Value), aJ = patch xJ65 123 [(3, (pt d 0)), (6, (pt gJ25_0 0)), (8, (iV .i64 ((k : Int)))), (9, (pt g39 0)), (11, (iV .i64 13)), (60, (bV true))] /\ Hp (fun _ => False) w wJ65 [rQx A c (mkB 98 2) (some ⟨gJ16_1, 0, none⟩) 1 [⟨bKDC, mkB 98 5, B, c'⟩], rBlk gJ16_1 35 ([(sV (⟨#[107, 100, 99]⟩)), (lV B 16 c')]), rSB ((lV B 16 c')) (mkB 98 5), rSB ((lV A 16 c)) (mkB 98 2)] [rBlk gJ64_0 54 ([(iV .i64 0)] ++ vb (List.replicate 16 0) ++ [(sV ByteArray.empty), (iV .i64 0), (iV .i64 0), (iV .i64 0)]), rBlk g39 31 (vb (kl K38)), rBlk gJ25_0 43 ([(sV (⟨#[97, 110, 110]⟩)), (sV (⟨#[98, 111, 98]⟩)), (lV AJ25_1 16 cJ25_2), (lV BJ25_3 16 dJ25_4)]), rTab FJ25_5 tb t2, rCa GJ25_6 cb 64 [⟨bANN, at_, 1⟩], rSB ((lV AJ25_1 16 cJ25_2)) (mkB 98 (7 + 1)), rSB ((lV BJ25_3 16 dJ25_4)) (mkB 98 (7 + 2)), rSB ((lV A21 16 c21)) (mkB 98 (6 + 1)), rBlk gJ16_0 40 ([(sV (⟨#[98, 111, 98]⟩)), (iV .i64 0), (iV .i64 (at_ + 600)), (bV false), (bV true), (sV (⟨#[107, 100, 99]⟩)), (lV A 16 c), (lV A21 16 c21), (lV (some ⟨gJ16_1, 0, none⟩) 1 1)]), rBlk d 37 (dkC tb sv (rpC fl K1 1 bKDC at_ (min (at_ + 600) (at_ + Li)) R) (rpC 4 K2 1 bKDC at_ (min (at_ + 600) (at_ + Oi)) 0) (lV A 16 c) (lV B 16 c')), rBlk sv 73 ([(pt kb 0), (pt cb 0), (pt bk 0)]), rBlk kb 78 ([(Value.iface 28 (pt tb 0)), (pt bb 0)] ++ vb (kl kk)), rBs G bb [User.mk bANN ka Li Ri false, User.mk bBOB kb_ Oi 0 true], rBlk bk 164 ([mv]), rBlk g2 23 ([(iV .i64 La), (iV .i64 Rn_), (iV .i64 Ot_), (bV true), (iV .i64 At_), (iV .i64 Lt)])]) ?_ (fun hJ65 hhJ65 => ?_)
     ·
      rintro _ wJ65 ⟨gJ64_0, xJ65, rfl, hJh65⟩
      refine mAt ?_
      refine mJ 2000018 (fun aJ wJ68 => ∃ (gJ67_0 : Nat) (xJ68 : Nat -> Value), aJ = patch xJ68 123 [(3, (pt d 0)), (6, (pt gJ25_0 0)), (8, (iV .i64 ((k : Int)))), (9, (pt g39 0)), (11, (iV .i64 13)), (13, (iV .i64 0)), (60, (bV true))] /\ Hp (fun _ => False) w wJ68 [rQx A c (mkB 98 2) (some ⟨gJ16_1, 0, none⟩) 1 [⟨bKDC, mkB 98 5, B, c'⟩], rBlk gJ16_1 35 ([(sV (⟨#[107, 100, 99]⟩)), (lV B 16 c')]), rSB ((lV B 16 c')) (mkB 98 5), rSB ((lV A 16 c)) (mkB 98 2)] [rBlk gJ67_0 33 ([(iV .i64 2)] ++ vb (kl Kf) ++ [(iV .i64 0), (sV (⟨#[98, 111, 98]⟩)), (iV .i64 at_), (iV .i64 ((min (min (at_ + 600) (min (at_ + 600) (at_ + Li))) (min (at_ + 600) (at_ + Oi))))), (iV .i64 0)]), rBlk gJ64_0 54 ([(iV .i64 0)] ++ vb (List.replicate 16 0) ++ [(sV ByteArray.empty), (iV .i64 0), (iV .i64 0), (iV .i64 0)]), rBlk g39 31 (vb (kl K38)), rBlk gJ25_0 43 ([(sV (⟨#[97, 110, 110]⟩)), (sV (⟨#[98, 111, 98]⟩)), (lV AJ25_1 16 cJ25_2), (lV BJ25_3 16 dJ25_4)]), rTab FJ25_5 tb t2, rCa GJ25_6 cb 64 [⟨bANN, at_, 1⟩], rSB ((lV AJ25_1 16 cJ25_2)) (mkB 98 (7 + 1)), rSB ((lV BJ25_3 16 dJ25_4)) (mkB 98 (7 + 2)), rSB ((lV A21 16 c21)) (mkB 98 (6 + 1)), rBlk gJ16_0 40 ([(sV (⟨#[98, 111, 98]⟩)), (iV .i64 0), (iV .i64 (at_ + 600)), (bV false), (bV true), (sV (⟨#[107, 100, 99]⟩)), (lV A 16 c), (lV A21 16 c21), (lV (some ⟨gJ16_1, 0, none⟩) 1 1)]), rBlk d 37 (dkC tb sv (rpC fl K1 1 bKDC at_ (min (at_ + 600) (at_ + Li)) R) (rpC 4 K2 1 bKDC at_ (min (at_ + 600) (at_ + Oi)) 0) (lV A 16 c) (lV B 16 c')), rBlk sv 73 ([(pt kb 0), (pt cb 0), (pt bk 0)]), rBlk kb 78 ([(Value.iface 28 (pt tb 0)), (pt bb 0)] ++ vb (kl kk)), rBs G bb [User.mk bANN ka Li Ri false, User.mk bBOB kb_ Oi 0 true], rBlk bk 164 ([mv]), rBlk g2 23 ([(iV .i64 La), (iV .i64 Rn_), (iV .i64 Ot_), (bV true), (iV .i64 At_), (iV .i64 Lt)])]) ?_ (fun hJ68 hhJ68 => ?_)
      ·
       rintro _ wJ68 ⟨gJ67_0, xJ68, rfl, hJh68⟩
       refine mAt ?_
       refine dG hJh68 22 22 (fun W => (rBlk g39 31 (vb (kl K38))).Φ W /\ (rBlk d 37 (dkC tb sv (rpC fl K1 1 bKDC at_ (min (at_ + 600) (at_ + Li)) R) (rpC 4 K2 1 bKDC at_ (min (at_ + 600) (at_ + Oi)) 0) (lV A 16 c) (lV B 16 c'))).Φ W /\ True) (fun w70 h70 => ⟨h70.at_ 2 rfl, h70.at_ 10 rfl, trivial⟩) ?_
       intro w70 h70
       refine dP 16 [0, 1, 3, 4, 5, 6] ?_
       refine dL 2 (fun W hW => hW.1) ?_
       refine dL 7 (fun W hW => hW.2.1) ?_
       refine dV 8 (v := (bV false)) (fun W hW => e_keq K38 K2 31 31 (.tmp 96) (.tmp 101) (by kernel_rfl) (by kernel_rfl) (by kernel_rfl) (by kernel_rfl) (by kernel_rfl) false (decide_eq_false (fun e => mk_ne (by omega) (by decide) (by omega) (hK38.symm.trans (e.trans hK2)))) _) ?_
       refine dP 5 [9, 10, 11, 12, 14, 15, 16, 17] ?_
       refine dL 13 (fun W hW => hW.1) ?_
       refine dL 18 (fun W hW => hW.2.1) ?_
       refine dV 19 (v := (bV true)) (fun W hW => e_keq K38 K1 31 31 (.tmp 107) (.tmp 112) (by kernel_rfl) (by kernel_rfl) (by kernel_rfl) (by kernel_rfl) (by kernel_rfl) true (decide_eq_true (hK38.trans ((congrArg (mkB 107) hq).trans hK1.symm))) _) ?_
       refine dP 0 [20, 21] ?_
       refine dX ?_
       refine mW 62 (exec_add _ _ _ _ bO ((k : Int)) 1 (by kernel_rfl) (by kernel_rfl) ((k : Int) + 1) rfl (by omega) (by omega) _) ?_
       exact mK KL31 (hKL31 _ _ ⟨7 - (k + 1), _, (by omega), (k + 1), (by omega), rfl, pM, h70.sel [3, 4, 5, 6, 7, 8, 9, 10, 11, 12, 13, 14, 15] [0, 1, 2, 3] (by kernel_rfl) rfl rfl⟩)
      ·
       refine dG hJh65 15 14 (fun W => (rBlk d 37 (dkC tb sv (rpC fl K1 1 bKDC at_ (min (at_ + 600) (at_ + Li)) R) (rpC 4 K2 1 bKDC at_ (min (at_ + 600) (at_ + Oi)) 0) (lV A 16 c) (lV B 16 c'))).Φ W /\ (rBlk g39 31 (vb (kl K38))).Φ W /\ (rBlk gJ25_0 43 ([(sV (⟨#[97, 110, 110]⟩)), (sV (⟨#[98, 111, 98]⟩)), (lV AJ25_1 16 cJ25_2), (lV BJ25_3 16 dJ25_4)])).Φ W /\ True) (fun w71 h71 => ⟨h71.at_ 9 rfl, h71.at_ 1 rfl, h71.at_ 2 rfl, trivial⟩) ?_
       intro w71 h71
       refine dP 11 [0, 1, 2, 6] ?_
       refine dL 3 (fun W hW => hW.1) ?_
       refine dP 9 [4] ?_
       refine dL 5 (fun W hW => hW.2.1) ?_
       refine dL 7 (fun W hW => hW.2.2.1) ?_
       refine dO 8 12 ?_ ?_
       ·
        refine oT (x_oReply h71 3 rfl K38 8 (by kernel_rfl) hr2.ok (h71.at_ 6 rfl) (r := (.inr (.reply 2 Kf 0 bBOB at_ (min (min (at_ + 600) (min (at_ + 600) (at_ + Li))) (min (at_ + 600) (at_ + Oi))) 0))) ((congrArg (fun z => openTh t2 z 8 _) (hK38.trans ((congrArg (mkB 107) hq).trans hK1.symm))).trans (op_bx ho2 hc2))) ?_
        rintro _ w72 ⟨rfl, h72⟩
        refine ⟨⟨h72.at_ 9 rfl, h72.at_ 1 rfl, h72.at_ 2 rfl, trivial⟩, ?_⟩
        refine dP 3 [9, 10, 11] ?_
        refine dT 12 (xN h72 33 ([(iV .i64 0)] ++ vb (List.replicate 16 0) ++ [(iV .i64 0), (sV ByteArray.empty), (iV .i64 0), (iV .i64 0), (iV .i64 0)])) ?_
        rintro _ w73 ⟨g73, rfl, h73⟩
        refine ⟨⟨h73.at_ 10 rfl, h73.at_ 2 rfl, h73.at_ 3 rfl, trivial⟩, ?_⟩
        refine dT 13 (xR h73 0 ([(iV .i64 2)] ++ vb (kl Kf) ++ [(iV .i64 0), (sV (⟨#[98, 111, 98]⟩)), (iV .i64 at_), (iV .i64 ((min (min (at_ + 600) (min (at_ + 600) (at_ + Li))) (min (at_ + 600) (at_ + Oi))))), (iV .i64 0)])) ?_
        rintro _ w74 h74
        refine ⟨⟨h74.at_ 10 rfl, h74.at_ 2 rfl, h74.at_ 3 rfl, trivial⟩, ?_⟩
        refine dN 14 ?_
        refine dX ?_
        exact mK hJ68 (hhJ68 _ _ ⟨g73, _, pM, h74.sel [0, 1, 2, 3, 4, 5, 6, 7, 8, 9, 10, 11, 12, 13, 14, 15] [0, 1, 2, 3] (by kernel_rfl) rfl rfl⟩)
       ·
        refine oT (xN h71 33 ([(iV .i64 0)] ++ vb (List.replicate 16 0) ++ [(iV .i64 0), (sV ByteArray.empty), (iV .i64 0), (iV .i64 0), (iV .i64 0)])) ?_
        rintro _ w75 ⟨g75, rfl, h75⟩
        refine ⟨⟨h75.at_ 10 rfl, h75.at_ 2 rfl, h75.at_ 3 rfl, trivial⟩, ?_⟩
        refine dT 8 (x_oReply h75 4 rfl K38 8 (by kernel_rfl) hr2.ok (h75.at_ 7 rfl) (r := (.inr (.reply 2 Kf 0 bBOB at_ (min (min (at_ + 600) (min (at_ + 600) (at_ + Li))) (min (at_ + 600) (at_ + Oi))) 0))) ((congrArg (fun z => openTh t2 z 8 _) (hK38.trans ((congrArg (mkB 107) hq).trans hK1.symm))).trans (op_bx ho2 hc2))) ?_
        rintro _ w76 ⟨rfl, h76⟩
        refine ⟨⟨h76.at_ 10 rfl, h76.at_ 2 rfl, h76.at_ 3 rfl, trivial⟩, ?_⟩
        refine dP 2 [9, 10, 11] ?_
        refine dT 13 (xR h76 0 ([(iV .i64 2)] ++ vb (kl Kf) ++ [(iV .i64 0), (sV (⟨#[98, 111, 98]⟩)), (iV .i64 at_), (iV .i64 ((min (min (at_ + 600) (min (at_ + 600) (at_ + Li))) (min (at_ + 600) (at_ + Oi))))), (iV .i64 0)])) ?_
        rintro _ w77 h77
        refine ⟨⟨h77.at_ 10 rfl, h77.at_ 2 rfl, h77.at_ 3 rfl, trivial⟩, ?_⟩
        refine dN 14 ?_
        refine dX ?_
        exact mK hJ68 (hhJ68 _ _ ⟨g75, _, pM, h77.sel [0, 1, 2, 3, 4, 5, 6, 7, 8, 9, 10, 11, 12, 13, 14, 15] [0, 1, 2, 3] (by kernel_rfl) rfl rfl⟩)
     ·
      refine dG h40 16 15 (fun W => (rBlk d 37 (dkC tb sv (rpC fl K1 1 bKDC at_ (min (at_ + 600) (at_ + Li)) R) (rpC 4 K2 1 bKDC at_ (min (at_ + 600) (at_ + Oi)) 0) (lV A 16 c) (lV B 16 c'))).Φ W /\ (rBlk g39 31 (vb (kl K38))).Φ W /\ (rBlk gJ25_0 43 ([(sV (⟨#[97, 110, 110]⟩)), (sV (⟨#[98, 111, 98]⟩)), (lV AJ25_1 16 cJ25_2), (lV BJ25_3 16 dJ25_4)])).Φ W /\ True) (fun w78 h78 => ⟨h78.at_ 8 rfl, h78.at_ 0 rfl, h78.at_ 1 rfl, trivial⟩) ?_
      intro w78 h78
      refine dP 11 [0, 1, 2, 6, 7] ?_
      refine dL 3 (fun W hW => hW.1) ?_
      refine dP 9 [4] ?_
      refine dL 5 (fun W hW => hW.2.1) ?_
      refine dL 8 (fun W hW => hW.2.2.1) ?_
      refine dO 9 13 ?_ ?_
      ·
       refine oT (x_oInside h78 2 rfl K38 2 (by kernel_rfl) hr2.ok (h78.at_ 4 rfl) (r := (.inl 13)) (op_bxno hi2 (fun h => (fun e => mk_ne (by omega) (by decide) (by omega) (hK38.symm.trans (e.trans hK2))) h.1.symm))) ?_
       rintro _ w79 ⟨rfl, h79⟩
       refine ⟨⟨h79.at_ 8 rfl, h79.at_ 0 rfl, h79.at_ 1 rfl, trivial⟩, ?_⟩
       refine dP 3 [10, 11, 12] ?_
       refine dT 13 (xN h79 54 ([(iV .i64 0)] ++ vb (List.replicate 16 0) ++ [(sV ByteArray.empty), (iV .i64 0), (iV .i64 0), (iV .i64 0)])) ?_
       rintro _ w80 ⟨g80, rfl, h80⟩
       refine ⟨⟨h80.at_ 9 rfl, h80.at_ 1 rfl, h80.at_ 2 rfl, trivial⟩, ?_⟩
       refine dT 14 (xR h80 0 ([(iV .i64 0)] ++ vb (List.replicate 16 0) ++ [(sV ByteArray.empty), (iV .i64 0), (iV .i64 0), (iV .i64 0)])) ?_
       rintro _ w81 h81
       refine ⟨⟨h81.at_ 9 rfl, h81.at_ 1 rfl, h81.at_ 2 rfl, trivial⟩, ?_⟩
       refine dN 15 ?_
       refine dX ?_
       exact mK hJ65 (hhJ65 _ _ ⟨g80, _, pM, h81.sel [0, 1, 2, 3, 4, 5, 6, 7, 8, 9, 10, 11, 12, 13, 14] [0, 1, 2, 3] (by kernel_rfl) rfl rfl⟩)
      ·
       refine oT (xN h78 54 ([(iV .i64 0)] ++ vb (List.replicate 16 0) ++ [(sV ByteArray.empty), (iV .i64 0), (iV .i64 0), (iV .i64 0)])) ?_
       rintro _ w82 ⟨g82, rfl, h82⟩
       refine ⟨⟨h82.at_ 9 rfl, h82.at_ 1 rfl, h82.at_ 2 rfl, trivial⟩, ?_⟩
       refine dT 9 (x_oInside h82 3 rfl K38 2 (by kernel_rfl) hr2.ok (h82.at_ 5 rfl) (r := (.inl 13)) (op_bxno hi2 (fun h => (fun e => mk_ne (by omega) (by decide) (by omega) (hK38.symm.trans (e.trans hK2))) h.1.symm))) ?_
       rintro _ w83 ⟨rfl, h83⟩
       refine ⟨⟨h83.at_ 9 rfl, h83.at_ 1 rfl, h83.at_ 2 rfl, trivial⟩, ?_⟩
       refine dP 2 [10, 11, 12] ?_
       refine dT 14 (xR h83 0 ([(iV .i64 0)] ++ vb (List.replicate 16 0) ++ [(sV ByteArray.empty), (iV .i64 0), (iV .i64 0), (iV .i64 0)])) ?_
       rintro _ w84 h84
       refine ⟨⟨h84.at_ 9 rfl, h84.at_ 1 rfl, h84.at_ 2 rfl, trivial⟩, ?_⟩
       refine dN 15 ?_
       refine dX ?_
       exact mK hJ65 (hhJ65 _ _ ⟨g82, _, pM, h84.sel [0, 1, 2, 3, 4, 5, 6, 7, 8, 9, 10, 11, 12, 13, 14] [0, 1, 2, 3] (by kernel_rfl) rfl rfl⟩)
    ·
     refine mJ 2000017 (fun aJ wJ86 => ∃ (gJ85_0 : Nat) (xJ86 : Nat -> Value), aJ = patch xJ86 123 [(3, (pt d 0)), (6, (pt gJ25_0 0)), (8, (iV .i64 ((k : Int)))), (9, (pt g39 0)), (11, (iV .i64 13)), (60, (bV true))] /\ Hp (fun _ => False) w wJ86 [rQx A c (mkB 98 2) (some ⟨gJ16_1, 0, none⟩) 1 [⟨bKDC, mkB 98 5, B, c'⟩], rBlk gJ16_1 35 ([(sV (⟨#[107, 100, 99]⟩)), (lV B 16 c')]), rSB ((lV B 16 c')) (mkB 98 5), rSB ((lV A 16 c)) (mkB 98 2)] [rBlk gJ85_0 54 ([(iV .i64 0)] ++ vb (List.replicate 16 0) ++ [(sV ByteArray.empty), (iV .i64 0), (iV .i64 0), (iV .i64 0)]), rBlk g39 31 (vb (kl K38)), rBlk gJ25_0 43 ([(sV (⟨#[97, 110, 110]⟩)), (sV (⟨#[98, 111, 98]⟩)), (lV AJ25_1 16 cJ25_2), (lV BJ25_3 16 dJ25_4)]), rTab FJ25_5 tb t2, rCa GJ25_6 cb 64 [⟨bANN, at_, 1⟩], rSB ((lV AJ25_1 16 cJ25_2)) (mkB 98 (7 + 1)), rSB ((lV BJ25_3 16 dJ25_4)) (mkB 98 (7 + 2)), rSB ((lV A21 16 c21)) (mkB 98 (6 + 1)), rBlk gJ16_0 40 ([(sV (⟨#[98, 111, 98]⟩)), (iV .i64 0), (iV .i64 (at_ + 600)), (bV false), (bV true), (sV (⟨#[107, 100, 99]⟩)), (lV A 16 c), (lV A21 16 c21), (lV (some ⟨gJ16_1, 0, none⟩) 1 1)]), rBlk d 37 (dkC tb sv (rpC fl K1 1 bKDC at_ (min (at_ + 600) (at_ + Li)) R) (rpC 4 K2 1 bKDC at_ (min (at_ + 600) (at_ + Oi)) 0) (lV A 16 c) (lV B 16 c')), rBlk sv 73 ([(pt kb 0), (pt cb 0), (pt bk 0)]), rBlk kb 78 ([(Value.iface 28 (pt tb 0)), (pt bb 0)] ++ vb (kl kk)), rBs G bb [User.mk bANN ka Li Ri false, User.mk bBOB kb_ Oi 0 true], rBlk bk 164 ([mv]), rBlk g2 23 ([(iV .i64 La), (iV .i64 Rn_), (iV .i64 Ot_), (bV true), (iV .i64 At_), (iV .i64 Lt)])]) ?_ (fun hJ86 hhJ86 => ?_)
     ·
      rintro _ wJ86 ⟨gJ85_0, xJ86, rfl, hJh86⟩
      refine mAt ?_
      refine mJ 2000018 (fun aJ wJ89 => ∃ (gJ88_0 : Nat) (xJ89 : Nat -> Value), aJ = patch xJ89 123 [(3, (pt d 0)), (6, (pt gJ25_0 0)), (8, (iV .i64 ((k : Int)))), (9, (pt g39 0)), (11, (iV .i64 13)), (13, (iV .i64 13)), (60, (bV true))] /\ Hp (fun _ => False) w wJ89 [rQx A c (mkB 98 2) (some ⟨gJ16_1, 0, none⟩) 1 [⟨bKDC, mkB 98 5, B, c'⟩], rBlk gJ16_1 35 ([(sV (⟨#[107, 100, 99]⟩)), (lV B 16 c')]), rSB ((lV B 16 c')) (mkB 98 5), rSB ((lV A 16 c)) (mkB 98 2)] [rBlk gJ88_0 33 ([(iV .i64 0)] ++ vb (List.replicate 16 0) ++ [(iV .i64 0), (sV ByteArray.empty), (iV .i64 0), (iV .i64 0), (iV .i64 0)]), rBlk gJ85_0 54 ([(iV .i64 0)] ++ vb (List.replicate 16 0) ++ [(sV ByteArray.empty), (iV .i64 0), (iV .i64 0), (iV .i64 0)]), rBlk g39 31 (vb (kl K38)), rBlk gJ25_0 43 ([(sV (⟨#[97, 110, 110]⟩)), (sV (⟨#[98, 111, 98]⟩)), (lV AJ25_1 16 cJ25_2), (lV BJ25_3 16 dJ25_4)]), rTab FJ25_5 tb t2, rCa GJ25_6 cb 64 [⟨bANN, at_, 1⟩], rSB ((lV AJ25_1 16 cJ25_2)) (mkB 98 (7 + 1)), rSB ((lV BJ25_3 16 dJ25_4)) (mkB 98 (7 + 2)), rSB ((lV A21 16 c21)) (mkB 98 (6 + 1)), rBlk gJ16_0 40 ([(sV (⟨#[98, 111, 98]⟩)), (iV .i64 0), (iV .i64 (at_ + 600)), (bV false), (bV true), (sV (⟨#[107, 100, 99]⟩)), (lV A 16 c), (lV A21 16 c21), (lV (some ⟨gJ16_1, 0, none⟩) 1 1)]), rBlk d 37 (dkC tb sv (rpC fl K1 1 bKDC at_ (min (at_ + 600) (at_ + Li)) R) (rpC 4 K2 1 bKDC at_ (min (at_ + 600) (at_ + Oi)) 0) (lV A 16 c) (lV B 16 c')), rBlk sv 73 ([(pt kb 0), (pt cb 0), (pt bk 0)]), rBlk kb 78 ([(Value.iface 28 (pt tb 0)), (pt bb 0)] ++ vb (kl kk)), rBs G bb [User.mk bANN ka Li Ri false, User.mk bBOB kb_ Oi 0 true], rBlk bk 164 ([mv]), rBlk g2 23 ([(iV .i64 La), (iV .i64 Rn_), (iV .i64 Ot_), (bV true), (iV .i64 At_), (iV .i64 Lt)])]) ?_ (fun hJ89 hhJ89 => ?_)
      ·
       rintro _ wJ89 ⟨gJ88_0, xJ89, rfl, hJh89⟩
       refine mAt ?_
       refine dG hJh89 22 22 (fun W => (rBlk g39 31 (vb (kl K38))).Φ W /\ (rBlk d 37 (dkC tb sv (rpC fl K1 1 bKDC at_ (min (at_ + 600) (at_ + Li)) R) (rpC 4 K2 1 bKDC at_ (min (at_ + 600) (at_ + Oi)) 0) (lV A 16 c) (lV B 16 c'))).Φ W /\ True) (fun w91 h91 => ⟨h91.at_ 2 rfl, h91.at_ 10 rfl, trivial⟩) ?_
       intro w91 h91
       refine dP 16 [0, 1, 3, 4, 5, 6] ?_
       refine dL 2 (fun W hW => hW.1) ?_
       refine dL 7 (fun W hW => hW.2.1) ?_
       refine dV 8 (v := (bV false)) (fun W hW => e_keq K38 K2 31 31 (.tmp 96) (.tmp 101) (by kernel_rfl) (by kernel_rfl) (by kernel_rfl) (by kernel_rfl) (by kernel_rfl) false (decide_eq_false (fun e => mk_ne (by omega) (by decide) (by omega) (hK38.symm.trans (e.trans hK2)))) _) ?_
       refine dP 5 [9, 10, 11, 12, 14, 15, 16, 17] ?_
       refine dL 13 (fun W hW => hW.1) ?_
       refine dL 18 (fun W hW => hW.2.1) ?_
       refine dV 19 (v := (bV false)) (fun W hW => e_keq K38 K1 31 31 (.tmp 107) (.tmp 112) (by kernel_rfl) (by kernel_rfl) (by kernel_rfl) (by kernel_rfl) (by kernel_rfl) false (decide_eq_false (fun e => mk_ne (by omega) (by decide) (by omega) (hK38.symm.trans (e.trans hK1)))) _) ?_
       refine dP 0 [20, 21] ?_
       refine dX ?_
       refine mW 62 (exec_add _ _ _ _ bO ((k : Int)) 1 (by kernel_rfl) (by kernel_rfl) ((k : Int) + 1) rfl (by omega) (by omega) _) ?_
       exact mK KL31 (hKL31 _ _ ⟨7 - (k + 1), _, (by omega), (k + 1), (by omega), rfl, pM, h91.sel [3, 4, 5, 6, 7, 8, 9, 10, 11, 12, 13, 14, 15] [0, 1, 2, 3] (by kernel_rfl) rfl rfl⟩)
      ·
       refine dG hJh86 15 14 (fun W => (rBlk d 37 (dkC tb sv (rpC fl K1 1 bKDC at_ (min (at_ + 600) (at_ + Li)) R) (rpC 4 K2 1 bKDC at_ (min (at_ + 600) (at_ + Oi)) 0) (lV A 16 c) (lV B 16 c'))).Φ W /\ (rBlk g39 31 (vb (kl K38))).Φ W /\ (rBlk gJ25_0 43 ([(sV (⟨#[97, 110, 110]⟩)), (sV (⟨#[98, 111, 98]⟩)), (lV AJ25_1 16 cJ25_2), (lV BJ25_3 16 dJ25_4)])).Φ W /\ True) (fun w92 h92 => ⟨h92.at_ 9 rfl, h92.at_ 1 rfl, h92.at_ 2 rfl, trivial⟩) ?_
       intro w92 h92
       refine dP 11 [0, 1, 2, 6] ?_
       refine dL 3 (fun W hW => hW.1) ?_
       refine dP 9 [4] ?_
       refine dL 5 (fun W hW => hW.2.1) ?_
       refine dL 7 (fun W hW => hW.2.2.1) ?_
       refine dO 8 12 ?_ ?_
       ·
        refine oT (x_oReply h92 3 rfl K38 8 (by kernel_rfl) hr2.ok (h92.at_ 6 rfl) (r := (.inl 13)) (op_bxno ho2 (fun h => (fun e => mk_ne (by omega) (by decide) (by omega) (hK38.symm.trans (e.trans hK1))) h.1.symm))) ?_
        rintro _ w93 ⟨rfl, h93⟩
        refine ⟨⟨h93.at_ 9 rfl, h93.at_ 1 rfl, h93.at_ 2 rfl, trivial⟩, ?_⟩
        refine dP 3 [9, 10, 11] ?_
        refine dT 12 (xN h93 33 ([(iV .i64 0)] ++ vb (List.replicate 16 0) ++ [(iV .i64 0), (sV ByteArray.empty), (iV .i64 0), (iV .i64 0), (iV .i64 0)])) ?_
        rintro _ w94 ⟨g94, rfl, h94⟩
        refine ⟨⟨h94.at_ 10 rfl, h94.at_ 2 rfl, h94.at_ 3 rfl, trivial⟩, ?_⟩
        refine dT 13 (xR h94 0 ([(iV .i64 0)] ++ vb (List.replicate 16 0) ++ [(iV .i64 0), (sV ByteArray.empty), (iV .i64 0), (iV .i64 0), (iV .i64 0)])) ?_
        rintro _ w95 h95
        refine ⟨⟨h95.at_ 10 rfl, h95.at_ 2 rfl, h95.at_ 3 rfl, trivial⟩, ?_⟩
        refine dN 14 ?_
        refine dX ?_
        exact mK hJ89 (hhJ89 _ _ ⟨g94, _, pM, h95.sel [0, 1, 2, 3, 4, 5, 6, 7, 8, 9, 10, 11, 12, 13, 14, 15] [0, 1, 2, 3] (by kernel_rfl) rfl rfl⟩)
       ·
        refine oT (xN h92 33 ([(iV .i64 0)] ++ vb (List.replicate 16 0) ++ [(iV .i64 0), (sV ByteArray.empty), (iV .i64 0), (iV .i64 0), (iV .i64 0)])) ?_
        rintro _ w96 ⟨g96, rfl, h96⟩
        refine ⟨⟨h96.at_ 10 rfl, h96.at_ 2 rfl, h96.at_ 3 rfl, trivial⟩, ?_⟩
        refine dT 8 (x_oReply h96 4 rfl K38 8 (by kernel_rfl) hr2.ok (h96.at_ 7 rfl) (r := (.inl 13)) (op_bxno ho2 (fun h => (fun e => mk_ne (by omega) (by decide) (by omega) (hK38.symm.trans (e.trans hK1))) h.1.symm))) ?_
        rintro _ w97 ⟨rfl, h97⟩
        refine ⟨⟨h97.at_ 10 rfl, h97.at_ 2 rfl, h97.at_ 3 rfl, trivial⟩, ?_⟩
        refine dP 2 [9, 10, 11] ?_
        refine dT 13 (xR h97 0 ([(iV .i64 0)] ++ vb (List.replicate 16 0) ++ [(iV .i64 0), (sV ByteArray.empty), (iV .i64 0), (iV .i64 0), (iV .i64 0)])) ?_
        rintro _ w98 h98
        refine ⟨⟨h98.at_ 10 rfl, h98.at_ 2 rfl, h98.at_ 3 rfl, trivial⟩, ?_⟩
        refine dN 14 ?_
        refine dX ?_
        exact mK hJ89 (hhJ89 _ _ ⟨g96, _, pM, h98.sel [0, 1, 2, 3, 4, 5, 6, 7, 8, 9, 10, 11, 12, 13, 14, 15] [0, 1, 2, 3] (by kernel_rfl) rfl rfl⟩)
     ·
      refine dG h40 16 15 (fun W => (rBlk d 37 (dkC tb sv (rpC fl K1 1 bKDC at_ (min (at_ + 600) (at_ + Li)) R) (rpC 4 K2 1 bKDC at_ (min (at_ + 600) (at_ + Oi)) 0) (lV A 16 c) (lV B 16 c'))).Φ W /\ (rBlk g39 31 (vb (kl K38))).Φ W /\ (rBlk gJ25_0 43 ([(sV (⟨#[97, 110, 110]⟩)), (sV (⟨#[98, 111, 98]⟩)), (lV AJ25_1 16 cJ25_2), (lV BJ25_3 16 dJ25_4)])).Φ W /\ True) (fun w99 h99 => ⟨h99.at_ 8 rfl, h99.at_ 0 rfl, h99.at_ 1 rfl, trivial⟩) ?_
      intro w99 h99
      refine dP 11 [0, 1, 2, 6, 7] ?_
      refine dL 3 (fun W hW => hW.1) ?_
      refine dP 9 [4] ?_
      refine dL 5 (fun W hW => hW.2.1) ?_
      refine dL 8 (fun W hW => hW.2.2.1) ?_
      refine dO 9 13 ?_ ?_
      ·
       refine oT (x_oInside h99 2 rfl K38 2 (by kernel_rfl) hr2.ok (h99.at_ 4 rfl) (r := (.inl 13)) (op_bxno hi2 (fun h => (fun e => mk_ne (by omega) (by decide) (by omega) (hK38.symm.trans (e.trans hK2))) h.1.symm))) ?_
       rintro _ w100 ⟨rfl, h100⟩
       refine ⟨⟨h100.at_ 8 rfl, h100.at_ 0 rfl, h100.at_ 1 rfl, trivial⟩, ?_⟩
       refine dP 3 [10, 11, 12] ?_
       refine dT 13 (xN h100 54 ([(iV .i64 0)] ++ vb (List.replicate 16 0) ++ [(sV ByteArray.empty), (iV .i64 0), (iV .i64 0), (iV .i64 0)])) ?_
       rintro _ w101 ⟨g101, rfl, h101⟩
       refine ⟨⟨h101.at_ 9 rfl, h101.at_ 1 rfl, h101.at_ 2 rfl, trivial⟩, ?_⟩
       refine dT 14 (xR h101 0 ([(iV .i64 0)] ++ vb (List.replicate 16 0) ++ [(sV ByteArray.empty), (iV .i64 0), (iV .i64 0), (iV .i64 0)])) ?_
       rintro _ w102 h102
       refine ⟨⟨h102.at_ 9 rfl, h102.at_ 1 rfl, h102.at_ 2 rfl, trivial⟩, ?_⟩
       refine dN 15 ?_
       refine dX ?_
       exact mK hJ86 (hhJ86 _ _ ⟨g101, _, pM, h102.sel [0, 1, 2, 3, 4, 5, 6, 7, 8, 9, 10, 11, 12, 13, 14] [0, 1, 2, 3] (by kernel_rfl) rfl rfl⟩)
      ·
       refine oT (xN h99 54 ([(iV .i64 0)] ++ vb (List.replicate 16 0) ++ [(sV ByteArray.empty), (iV .i64 0), (iV .i64 0), (iV .i64 0)])) ?_
       rintro _ w103 ⟨g103, rfl, h103⟩
       refine ⟨⟨h103.at_ 9 rfl, h103.at_ 1 rfl, h103.at_ 2 rfl, trivial⟩, ?_⟩
       refine dT 9 (x_oInside h103 3 rfl K38 2 (by kernel_rfl) hr2.ok (h103.at_ 5 rfl) (r := (.inl 13)) (op_bxno hi2 (fun h => (fun e => mk_ne (by omega) (by decide) (by omega) (hK38.symm.trans (e.trans hK2))) h.1.symm))) ?_
       rintro _ w104 ⟨rfl, h104⟩
       refine ⟨⟨h104.at_ 9 rfl, h104.at_ 1 rfl, h104.at_ 2 rfl, trivial⟩, ?_⟩
       refine dP 2 [10, 11, 12] ?_
       refine dT 14 (xR h104 0 ([(iV .i64 0)] ++ vb (List.replicate 16 0) ++ [(sV ByteArray.empty), (iV .i64 0), (iV .i64 0), (iV .i64 0)])) ?_
       rintro _ w105 h105
       refine ⟨⟨h105.at_ 9 rfl, h105.at_ 1 rfl, h105.at_ 2 rfl, trivial⟩, ?_⟩
       refine dN 15 ?_
       refine dX ?_
       exact mK hJ86 (hhJ86 _ _ ⟨g103, _, pM, h105.sel [0, 1, 2, 3, 4, 5, 6, 7, 8, 9, 10, 11, 12, 13, 14] [0, 1, 2, 3] (by kernel_rfl) rfl rfl⟩)
   ·
    refine ma h31 7 ?_
    refine mT (x_nkeys h31 1 rfl (by kernel_rfl)) ?_
    rintro _ w106 ⟨rfl, h106⟩
    refine mW 60 (v := (.bool false)) (eqI (bV (decide ((k : Int) <= (t2.keys.length : Int)))) (by simp; omega)) ?_
    refine ma h106 0 ?_
    refine ma h106 0 ?_
    refine mT (x_same h106 (mkB 98 (7 + 1)) (mkB 98 (7 + 2)) (lV AJ25_1 16 cJ25_2) (lV BJ25_3 16 dJ25_4) (by kernel_rfl) (h106.at_ 3 rfl) (h106.at_ 4 rfl) false (decide_eq_false (by decide +kernel))) ?_
    rintro _ w108 ⟨rfl, h108⟩
    exact mQ h108
  ·
   refine dG h24 13 12 (fun W => (rBlk d 37 (dkC tb sv (rpC fl K1 1 bKDC at_ (min (at_ + 600) (at_ + Li)) R) (rpC 4 K2 1 bKDC at_ (min (at_ + 600) (at_ + Oi)) 0) (lV A 16 c) (lV B 16 c'))).Φ W /\ (rBlk gJ16_0 40 ([(sV (⟨#[98, 111, 98]⟩)), (iV .i64 0), (iV .i64 (at_ + 600)), (bV false), (bV true), (sV (⟨#[107, 100, 99]⟩)), (lV A 16 c), (lV A21 16 c21), (lV (some ⟨gJ16_1, 0, none⟩) 1 1)])).Φ W /\ True) (fun w109 h109 => ⟨h109.at_ 3 rfl, h109.at_ 2 rfl, trivial⟩) ?_
   intro w109 h109
   refine dP 9 [0, 1, 2, 4] ?_
   refine dL 3 (fun W hW => hW.1) ?_
   refine dL 5 (fun W hW => hW.2.1) ?_
   refine dO 6 10 ?_ ?_
   ·
    refine oT (x_tgs (nb := 7) (s3 := t2) (sl2 := [⟨bANN, at_, 1⟩]) (c1 := bANN) (srv := ⟨#[98, 111, 98]⟩) h109 0 7 rfl rfl [(pt sv 0), (iV .i64 at_), (aV ([(sV (⟨#[98, 111, 98]⟩)), (iV .i64 0), (iV .i64 (at_ + 600)), (bV false), (bV true), (sV (⟨#[107, 100, 99]⟩)), (lV A 16 c), (lV A21 16 c21), (lV (some ⟨gJ16_1, 0, none⟩) 1 1)]).toArray)] rfl (by kernel_rfl) ((by rw [← hb1, ht2]; exact tgsMet_any (us_ := User.mk bBOB kb_ Oi 0 true) (au := mkB 98 (6 + 1)) (l := mkB 98 2) (pb := mkB 98 5) (h109.carve2 0 7 rfl rfl [(true, 4), (true, 5), (false, 3), (true, 1), (false, 0), (true, 6)] rfl rfl) (hr1.less (by decide)) (Nat.le_trans hm1 (by decide)) (op_bx hx1 hp1) (by omega) hk1 (op_bx ha1 hpa) (near_at (by omega)) (by simp) (by simp) (by decide) (by decide) (op_bx hy1 hp4) (by omega) (show (2 : Nat) <= 1000 by decide) place_bob.1 place_bob.2 rfl bob_ne right_bob (by decide) rfl (inN_is (by omega) (by omega)) (by rw [mkB_len]; decide) (by rw [mkB_len]; decide) hql (by omega) (hKf.trans (by rw [hn1])) hc1 hc2))) ?_
    rintro _ w110 ⟨A110, c110, B110, d110, F110, G110, _, rfl, rfl, h110⟩
    refine ⟨⟨h110.at_ 6 rfl, h110.at_ 5 rfl, trivial⟩, ?_⟩
    refine dP 3 [7, 8, 9] ?_
    refine dT 10 (xN h110 43 ([(sV ByteArray.empty), (sV ByteArray.empty), (lV none 0 0), (lV none 0 0)])) ?_
    rintro _ w111 ⟨g111, rfl, h111⟩
    refine ⟨⟨h111.at_ 7 rfl, h111.at_ 6 rfl, trivial⟩, ?_⟩
    refine dT 11 (xR h111 0 ([(sV (⟨#[97, 110, 110]⟩)), (sV (⟨#[98, 111, 98]⟩)), (lV A110 16 c110), (lV B110 16 d110)])) ?_
    rintro _ w112 h112
    refine ⟨⟨h112.at_ 7 rfl, h112.at_ 6 rfl, trivial⟩, ?_⟩
    refine dN 12 ?_
    refine dX ?_
    exact mK hJ26 (hhJ26 _ _ ⟨g111, A110, c110, B110, d110, F110, G110, _, pM, h112.sel [0, 1, 2, 3, 4, 5, 6, 7, 8, 9, 10, 11, 12] [0, 1, 2, 3] (by kernel_rfl) rfl rfl⟩)
   ·
    refine oT (xN h109 43 ([(sV ByteArray.empty), (sV ByteArray.empty), (lV none 0 0), (lV none 0 0)])) ?_
    rintro _ w113 ⟨g113, rfl, h113⟩
    refine ⟨⟨h113.at_ 4 rfl, h113.at_ 3 rfl, trivial⟩, ?_⟩
    refine dT 6 (x_tgs (nb := 7) (s3 := t2) (sl2 := [⟨bANN, at_, 1⟩]) (c1 := bANN) (srv := ⟨#[98, 111, 98]⟩) h113 1 8 rfl rfl [(pt sv 0), (iV .i64 at_), (aV ([(sV (⟨#[98, 111, 98]⟩)), (iV .i64 0), (iV .i64 (at_ + 600)), (bV false), (bV true), (sV (⟨#[107, 100, 99]⟩)), (lV A 16 c), (lV A21 16 c21), (lV (some ⟨gJ16_1, 0, none⟩) 1 1)]).toArray)] rfl (by kernel_rfl) ((by rw [← hb1, ht2]; exact tgsMet_any (us_ := User.mk bBOB kb_ Oi 0 true) (au := mkB 98 (6 + 1)) (l := mkB 98 2) (pb := mkB 98 5) (h113.carve2 1 8 rfl rfl [(true, 5), (true, 6), (false, 3), (true, 2), (false, 0), (true, 7)] rfl rfl) (hr1.less (by decide)) (Nat.le_trans hm1 (by decide)) (op_bx hx1 hp1) (by omega) hk1 (op_bx ha1 hpa) (near_at (by omega)) (by simp) (by simp) (by decide) (by decide) (op_bx hy1 hp4) (by omega) (show (2 : Nat) <= 1000 by decide) place_bob.1 place_bob.2 rfl bob_ne right_bob (by decide) rfl (inN_is (by omega) (by omega)) (by rw [mkB_len]; decide) (by rw [mkB_len]; decide) hql (by omega) (hKf.trans (by rw [hn1])) hc1 hc2))) ?_
    rintro _ w114 ⟨A114, c114, B114, d114, F114, G114, _, rfl, rfl, h114⟩
    refine ⟨⟨h114.at_ 7 rfl, h114.at_ 6 rfl, trivial⟩, ?_⟩
    refine dP 2 [7, 8, 9] ?_
    refine dT 11 (xR h114 4 ([(sV (⟨#[97, 110, 110]⟩)), (sV (⟨#[98, 111, 98]⟩)), (lV A114 16 c114), (lV B114 16 d114)])) ?_
    rintro _ w115 h115
    refine ⟨⟨h115.at_ 7 rfl, h115.at_ 6 rfl, trivial⟩, ?_⟩
    refine dN 12 ?_
    refine dX ?_
    exact mK hJ26 (hhJ26 _ _ ⟨g113, A114, c114, B114, d114, F114, G114, _, pM, h115.sel [4, 0, 1, 2, 3, 5, 6, 7, 8, 9, 10, 11, 12] [0, 1, 2, 3] (by kernel_rfl) rfl rfl⟩)
 ·
  refine dG h11 14 13 (fun W => (rBlk d 37 (dkC tb sv (rpC fl K1 1 bKDC at_ (min (at_ + 600) (at_ + Li)) R) (rpC 4 K2 1 bKDC at_ (min (at_ + 600) (at_ + Oi)) 0) (lV A 16 c) (lV B 16 c'))).Φ W /\ True) (fun w116 h116 => ⟨h116.at_ 0 rfl, trivial⟩) ?_
  intro w116 h116
  refine dP 7 [0, 2, 3, 4, 6, 7, 8] ?_
  refine dV 1 (fun W hW => exec_add _ _ _ _ bO at_ 600 (by kernel_rfl) (by kernel_rfl) (at_ + 600) rfl (by omega) (by omega) _) ?_
  refine dLs 4 [5, 9] (fun W hW => hW.1) ?_
  refine dO 10 12 ?_ ?_
  ·
   refine oT (x_bs h116 35 ([(sV (⟨#[107, 100, 99]⟩)), (lV B 16 c')]) 1 (by kernel_rfl)) ?_
   rintro _ w117 ⟨g117, rfl, h117⟩
   refine ⟨⟨h117.at_ 1 rfl, trivial⟩, ?_⟩
   refine dP 2 [11] ?_
   refine dT 12 (xN h117 40 ([(sV ByteArray.empty), (iV .i64 0), (iV .i64 0), (bV false), (bV false), (sV ByteArray.empty), (lV none 0 0), (lV none 0 0), (lV none 0 0)])) ?_
   rintro _ w118 ⟨g118, rfl, h118⟩
   refine ⟨⟨h118.at_ 2 rfl, trivial⟩, ?_⟩
   refine dE 13 (xR h118 0 ([(sV (⟨#[98, 111, 98]⟩)), (iV .i64 0), (iV .i64 (at_ + 600)), (bV false), (bV true), (sV (⟨#[107, 100, 99]⟩)), (lV A 16 c), (lV none 0 0), (lV (some ⟨g117, 0, none⟩) 1 1)])) ?_
   rintro _ w119 h119
   refine dX ?_
   exact mK hJ17 (hhJ17 _ _ ⟨g118, g117, _, pM, h119.sel [0, 1, 2, 3, 4, 5, 6, 7, 8, 9] [0, 1] (by kernel_rfl) rfl rfl⟩)
  ·
   refine oT (xN h116 40 ([(sV ByteArray.empty), (iV .i64 0), (iV .i64 0), (bV false), (bV false), (sV ByteArray.empty), (lV none 0 0), (lV none 0 0), (lV none 0 0)])) ?_
   rintro _ w120 ⟨g120, rfl, h120⟩
   refine ⟨⟨h120.at_ 1 rfl, trivial⟩, ?_⟩
   refine dT 10 (x_bs h120 35 ([(sV (⟨#[107, 100, 99]⟩)), (lV B 16 c')]) 1 (by kernel_rfl)) ?_
   rintro _ w121 ⟨g121, rfl, h121⟩
   refine ⟨⟨h121.at_ 2 rfl, trivial⟩, ?_⟩
   refine dP 1 [11] ?_
   refine dE 13 (xR h121 1 ([(sV (⟨#[98, 111, 98]⟩)), (iV .i64 0), (iV .i64 (at_ + 600)), (bV false), (bV true), (sV (⟨#[107, 100, 99]⟩)), (lV A 16 c), (lV none 0 0), (lV (some ⟨g121, 0, none⟩) 1 1)])) ?_
   rintro _ w122 h122
   refine dX ?_
   exact mK hJ17 (hhJ17 _ _ ⟨g120, g121, _, pM, h122.sel [1, 0, 2, 3, 4, 5, 6, 7, 8, 9] [0, 1] (by kernel_rfl) rfl rfl⟩)
end
section
open Go.ChangeShapes Go.WideShapes Go.ChangeAt Go.RowKit
theorem ktgsReads_lifted (os : Os) (started : os.Started) (H : Type) (enc : TypeId × Value -> H) :
   ReturnsInHanded {} Tryz.checked os 4 .any (Rows.ktgsReadsSpec.pre6 enc Tryz.prog Tryz.f4 Rows.ktgsReadsRow.domain false) (Rows.ktgsReadsSpec.post enc Tryz.prog Tryz.f4 false true false false) := by
 refine returnsInHanded_of_change (C := Tryz.checked) Tryz.own started (by kernel_rfl) Tryz.func4
   (ChangeSpec.witness6 (enc := enc) (C := Tryz.checked) false ⟨#[], #[.agg #[.int .i64 0, .int .i64 0, .int .i64 0, .bool false, .int .i64 0, .int .i64 0]], []⟩ 8 (by kernel_rfl) (by kernel_rfl) (by kernel_rfl) (by kernel_rfl)) ?_
 intro W base args ds gs before hval0 hW hcnd _
 have hval : ∀ (j : Nat) t v, Tryz.f4.params[j]? = some t -> args[j]? = some v -> Value.okWide Tryz.prog W .any base t v := hval0
 have hpost : ∀ W', Below W.heap.size W W' -> Rows.ktgsReadsSpec.post enc Tryz.prog Tryz.f4 false true false false W args (.bool true) W' := fun W' hb =>
   law_post Tryz.laidOut (by kernel_rfl) Tryz.underlying4 rfl rfl (fun ds hds => by
     have hn : ds.length = 1 := hds
     match ds, hn with
     | [_], _ => rfl) hW hb
 obtain ⟨p, q, hA0, hV, rfl, hfz, hnd⟩ := hW
 have hA : DataW.TrodAll enc Tryz.prog W 0 (fun _ => true) true Tryz.f4.params.toList args.toList ds p := hA0
 rw [Tryz.params4] at hA hval
 clear hA0 hval0
 obtain ⟨v0, d0, rfl, rfl, h0⟩ := trodAll_one hA
 obtain ⟨n00, n01, n02, m03, n04, n05, rfl⟩ := open_rules (hval 0 23 v0 rfl rfl) h0
 refine (ktgsReads_any (w := W) n00 n01 n02 n04 n05 m03).mono fun e W' ⟨he, hw⟩ => ?_
 subst he
 exact ⟨_, rfl, hpost W' hw⟩
theorem ktgsReads_holds : Rows.KtgsReadsSaid :=
 OpenClaim.holds_of_wide 4 Tryz.f4 rfl rfl rfl rfl rfl rfl rfl ⟨rfl, rfl, rfl, rfl, rfl⟩ rfl rfl rfl rfl rfl (by kernel_rfl) Tryz.func4 (by kernel_rfl)
   (of_decide_eq_true (by kernel_rfl)) (by unfold Func.isWrapper; first | (rw [if_pos (by decide +kernel)]; kernel_rfl) | (rw [if_neg (by decide +kernel)]; exact ⟨rfl, rfl⟩))
   (fun os started H enc _ => ktgsReads_lifted os started H enc)
end
end Go.Proofs.YtdefpmmdpfpipaaGreat
