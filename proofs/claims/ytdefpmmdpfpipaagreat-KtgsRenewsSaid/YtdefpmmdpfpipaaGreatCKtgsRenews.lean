/- The row of KtgsRenews: for every input the law returns true and what came in reads as it did. -/
import Derived.ChangeMaps5
import Derived.Test.YtdefpmmdpfpipaaGreatCA14
set_option maxRecDepth 100000
set_option maxHeartbeats 4000000
namespace Go.Proofs.YtdefpmmdpfpipaaGreat
section
open Go.Value renaming int -> iV, slice -> lV, string -> sV, bool -> bV, agg -> aV
open Go.RowKit Go.QT
theorem renew_no {Gb : Nat -> Prop} {sv kb cb bk tb bb ln c dn d en ce ec : Nat} {Kk Ki : Fin 16 -> UInt8} {us : List User} {us_ : User} {srv : ByteArray} {now till nn f a u r : Int} {qr qm : Bool} {qt c1 : ByteArray} {C D E : Option Addr} {w : World}
   (h0 : Hp (fun _ => False) w w [rBlk sv 73 (svC kb cb bk), rBlk kb 78 (kdcC tb bb Kk), rBs Gb bb us] []) (h32 : us.length <= 1000000) (hb2 : placeB us c1 = true) (hu2 : us[placeI us c1]? = some us_)
   (hno : (srv.toList ≠ (⟨#[107, 100, 99]⟩ : ByteArray).toList /\ ec = 15) ∨ (srv.toList = (⟨#[107, 100, 99]⟩ : ByteArray).toList /\ bits .and .i64 f 1 = 0 /\ ec = 15) ∨ (srv.toList = (⟨#[107, 100, 99]⟩ : ByteArray).toList /\ bits .and .i64 f 1 = 1 /\ r <= now /\ ec = 12)) :
   Calls Tryz.prog 30 #[pt sv 0, .int .i64 now, (aV ([(iV .i64 f)] ++ vb (kl Ki) ++ [(sV c1), (iV .i64 a), (iV .i64 u), (iV .i64 r)]).toArray), (aV ([(sV srv), (iV .i64 nn), (iV .i64 till), (bV qr), (bV qm), (sV qt), (lV C ln c), (lV D dn d), (lV E en ce)]).toArray)] w (DPost w (.tuple #[(aV ([(iV .i64 f)] ++ vb (kl Ki) ++ [(sV c1), (iV .i64 a), (iV .i64 u), (iV .i64 r)]).toArray), .int .i64 (ec : Int)])) := by
 have h0 := h0
 refine mE 62 ?_
 refine mT (xN h0 54 ([(iV .i64 f)] ++ vb (kl Ki) ++ [(sV c1), (iV .i64 a), (iV .i64 u), (iV .i64 r)])) ?_
 rintro _ w2 ⟨g2, rfl, h2⟩
 refine mT (xN h2 40 ([(sV srv), (iV .i64 nn), (iV .i64 till), (bV qr), (bV qm), (sV qt), (lV C ln c), (lV D dn d), (lV E en ce)])) ?_
 rintro _ w3 ⟨g3, rfl, h3⟩
 refine mT (xN h3 54 ([(iV .i64 0)] ++ vb (List.replicate 16 0) ++ [(sV ByteArray.empty), (iV .i64 0), (iV .i64 0), (iV .i64 0)])) ?_
 rintro _ w4 ⟨g4, rfl, h4⟩
 refine mJ 2000001 (fun aJ wJ7 => ∃ (gJ6_0 : Nat) (xJ7 : Nat -> Value), aJ = patch xJ7 62 [(0, (pt sv 0)), (1, (iV .i64 now)), (6, (pt g2 0)), (7, (pt g3 0)), (8, (pt g4 0)), (9, (iV .i64 0)), (10, (pt gJ6_0 0)), (11, (iV .i64 0))] /\ Hp (fun _ => False) w wJ7 [rBlk sv 73 ([(pt kb 0), (pt cb 0), (pt bk 0)]), rBlk kb 78 ([(Value.iface 28 (pt tb 0)), (pt bb 0)] ++ vb (kl Kk)), rBs Gb bb us] [rBlk gJ6_0 138 ([(sV us_.name)] ++ vb (kl us_.key) ++ [(iV .i64 us_.life), (iV .i64 us_.renew), (bV us_.mesh)]), rBlk g4 54 ([(iV .i64 0)] ++ vb (List.replicate 16 0) ++ [(sV ByteArray.empty), (iV .i64 0), (iV .i64 0), (iV .i64 0)]), rBlk g3 40 ([(sV srv), (iV .i64 nn), (iV .i64 till), (bV qr), (bV qm), (sV qt), (lV C ln c), (lV D dn d), (lV E en ce)]), rBlk g2 54 ([(iV .i64 f)] ++ vb (kl Ki) ++ [(sV c1), (iV .i64 a), (iV .i64 u), (iV .i64 r)])]) ?_ (fun hJ7 hhJ7 => ?_)
 ·
  rintro _ wJ7 ⟨gJ6_0, xJ7, rfl, hJh7⟩
  refine mAt ?_
  rcases hno with ⟨hq, he⟩ | ⟨hq, hq1, he⟩ | ⟨hq, hq1, hq2, he⟩
  ·
   refine ma hJh7 2 ?_
   refine mW 33 (v := (.bool true)) (eqI (bV (!((srv).toList == (⟨#[107, 100, 99]⟩ : ByteArray).toList))) (by simpa using hq)) ?_
   refine ma hJh7 3 ?_
   refine mT (xR hJh7 1 ([(iV .i64 f)] ++ vb (kl Ki) ++ [(sV c1), (iV .i64 a), (iV .i64 u), (iV .i64 r)])) ?_
   rintro _ w13 h13
   refine mF (post_2 (r := .cell 8 54) (s := .tmp 9) (by kernel_rfl) rfl (rce (h13.at_ 1 rfl)) (rtm (iV .i64 15)) ?_)
   exact ⟨(by rw [he]; rfl), h13.below0⟩
  ·
   refine ma hJh7 2 ?_
   refine mW 33 (v := (.bool false)) (eqI (bV (!((srv).toList == (⟨#[107, 100, 99]⟩ : ByteArray).toList))) (by simpa using hq)) ?_
   refine ma hJh7 3 ?_
   refine mW 37 (v := (iV .i64 0)) (eqI (iV .i64 (bits .and .i64 f 1)) (by rw [hq1])) ?_
   refine ma hJh7 3 ?_
   refine mT (xR hJh7 1 ([(iV .i64 f)] ++ vb (kl Ki) ++ [(sV c1), (iV .i64 a), (iV .i64 u), (iV .i64 r)])) ?_
   rintro _ w15 h15
   refine mF (post_2 (r := .cell 8 54) (s := .tmp 9) (by kernel_rfl) rfl (rce (h15.at_ 1 rfl)) (rtm (iV .i64 15)) ?_)
   exact ⟨(by rw [he]; rfl), h15.below0⟩
  ·
   refine ma hJh7 2 ?_
   refine mW 33 (v := (.bool false)) (eqI (bV (!((srv).toList == (⟨#[107, 100, 99]⟩ : ByteArray).toList))) (by simpa using hq)) ?_
   refine ma hJh7 3 ?_
   refine mW 37 (v := (iV .i64 1)) (eqI (iV .i64 (bits .and .i64 f 1)) (by rw [hq1])) ?_
   refine ma hJh7 3 ?_
   refine mW 45 (v := (.bool true)) (eqI (bV (decide (r <= now))) (by simp; omega)) ?_
   refine ma hJh7 3 ?_
   refine mT (xR hJh7 1 ([(iV .i64 f)] ++ vb (kl Ki) ++ [(sV c1), (iV .i64 a), (iV .i64 u), (iV .i64 r)])) ?_
   rintro _ w18 h18
   refine mF (post_2 (r := .cell 8 54) (s := .tmp 9) (by kernel_rfl) rfl (rce (h18.at_ 1 rfl)) (rtm (iV .i64 12)) ?_)
   exact ⟨(by rw [he]; rfl), h18.below0⟩
 ·
  refine dG h4 16 15 (fun W => (rBlk sv 73 ([(pt kb 0), (pt cb 0), (pt bk 0)])).Φ W /\ (rBlk kb 78 ([(Value.iface 28 (pt tb 0)), (pt bb 0)] ++ vb (kl Kk))).Φ W /\ (rBlk g2 54 ([(iV .i64 f)] ++ vb (kl Ki) ++ [(sV c1), (iV .i64 a), (iV .i64 u), (iV .i64 r)])).Φ W /\ True) (fun w19 h19 => ⟨h19.rd 0 rfl, h19.rd 1 rfl, h19.at_ 2 rfl, trivial⟩) ?_
  intro w19 h19
  refine dP 12 [0, 1, 2, 7] ?_
  refine dL 3 (fun W hW => hW.1) ?_
  refine dP 9 [4, 5] ?_
  refine dL 6 (fun W hW => hW.2.1) ?_
  refine dL 8 (fun W hW => hW.2.2.1) ?_
  refine dO 9 13 ?_ ?_
  ·
   refine oD h19 [(pt bb 0), (sV c1)] (get_yes (h19.rd 2 rfl) h32 hb2 hu2) (fun w20 h20 => ⟨⟨h20.rd 0 rfl, h20.rd 1 rfl, h20.at_ 2 rfl, trivial⟩, ?_⟩)
   refine dP 3 [10, 11, 12] ?_
   refine dT 13 (xN h20 138 ([(sV ByteArray.empty)] ++ vb (List.replicate 16 0) ++ [(iV .i64 0), (iV .i64 0), (bV false)])) ?_
   rintro _ w21 ⟨g21, rfl, h21⟩
   refine ⟨⟨h21.rd 0 rfl, h21.rd 1 rfl, h21.at_ 3 rfl, trivial⟩, ?_⟩
   refine dT 14 (xR h21 0 ([(sV us_.name)] ++ vb (kl us_.key) ++ [(iV .i64 us_.life), (iV .i64 us_.renew), (bV us_.mesh)])) ?_
   rintro _ w22 h22
   refine ⟨⟨h22.rd 0 rfl, h22.rd 1 rfl, h22.at_ 3 rfl, trivial⟩, ?_⟩
   refine dN 15 ?_
   refine dX ?_
   exact mK hJ7 (hhJ7 _ _ ⟨g21, _, pM, h22.sel [0, 1, 2, 3] [0, 1, 2] (by kernel_rfl) rfl rfl⟩)
  ·
   refine oT (xN h19 138 ([(sV ByteArray.empty)] ++ vb (List.replicate 16 0) ++ [(iV .i64 0), (iV .i64 0), (bV false)])) ?_
   rintro _ w23 ⟨g23, rfl, h23⟩
   refine ⟨⟨h23.rd 0 rfl, h23.rd 1 rfl, h23.at_ 3 rfl, trivial⟩, ?_⟩
   refine dD 9 h23 [(pt bb 0), (sV c1)] (get_yes (h23.rd 2 rfl) h32 hb2 hu2) (fun w24 h24 => ⟨⟨h24.rd 0 rfl, h24.rd 1 rfl, h24.at_ 3 rfl, trivial⟩, ?_⟩)
   refine dP 2 [10, 11, 12] ?_
   refine dT 14 (xR h24 0 ([(sV us_.name)] ++ vb (kl us_.key) ++ [(iV .i64 us_.life), (iV .i64 us_.renew), (bV us_.mesh)])) ?_
   rintro _ w25 h25
   refine ⟨⟨h25.rd 0 rfl, h25.rd 1 rfl, h25.at_ 3 rfl, trivial⟩, ?_⟩
   refine dN 15 ?_
   refine dX ?_
   exact mK hJ7 (hhJ7 _ _ ⟨g23, _, pM, h25.sel [0, 1, 2, 3] [0, 1, 2] (by kernel_rfl) rfl rfl⟩)
theorem tgs_no {F G Gb : Nat -> Prop} {sv kb cb bk tb bb most en ce : Nat} {Kk Ki : Fin 16 -> UInt8} {s s2 : STab} {sl sl2 : List Sh} {us : List User} {srv : ByteArray} {ec : Nat} {ts c1 : ByteArray} {now nn till f a u r : Int} {qr qm : Bool} {C D E : Option Addr} {c d : Nat} {l au : Bytes} {Rq : Res} {w : World}
   (h0 : Hp (fun q => F q ∨ G q) w w [rBlk sv 73 (svC kb cb bk), rBlk kb 78 (kdcC tb bb Kk), rSB (lV C l.length c) l, rSB (lV D au.length d) au, Rq, rBs Gb bb us] [rTab F tb s, rCa G cb most sl])
   (hWho : ∀ w', Hp (fun q => F q ∨ G q) w' w' [rBlk sv 73 (svC kb cb bk), rBlk kb 78 (kdcC tb bb Kk), rSB (lV C l.length c) l, rSB (lV D au.length d) au, Rq] [rTab F tb s, rCa G cb most sl] -> Calls Tryz.prog 29 #[pt sv 0, .int .i64 now, (aV ([(sV ts), (lV C l.length c)]).toArray), (lV D au.length d), (Value.iface 40 (aV ([(sV srv), (iV .i64 nn), (iV .i64 till), (bV qr), (bV qm), (sV ts), (lV C l.length c), (lV D au.length d), (lV E en ce)]).toArray))] w' (WhPost F G tb cb most (aV ([(iV .i64 f)] ++ vb (kl Ki) ++ [(sV c1), (iV .i64 a), (iV .i64 u), (iV .i64 r)]).toArray) s2 (0, sl2) w'))
   (hec : ec ≠ 0) (hno : (till <= now /\ ec = 12) ∨ (now < till /\ qr = qm /\ ec = 15) ∨ (now < till /\ qr = true /\ qm = false /\ ∀ w', Hp (fun _ => False) w' w' [rBlk sv 73 (svC kb cb bk), rBlk kb 78 (kdcC tb bb Kk), rBs Gb bb us] [] -> Calls Tryz.prog 30 #[pt sv 0, .int .i64 now, (aV ([(iV .i64 f)] ++ vb (kl Ki) ++ [(sV c1), (iV .i64 a), (iV .i64 u), (iV .i64 r)]).toArray), (aV ([(sV srv), (iV .i64 nn), (iV .i64 till), (bV qr), (bV qm), (sV ts), (lV C l.length c), (lV D au.length d), (lV E en ce)]).toArray)] w' (DPost w' (.tuple #[(aV ([(iV .i64 f)] ++ vb (kl Ki) ++ [(sV c1), (iV .i64 a), (iV .i64 u), (iV .i64 r)]).toArray), .int .i64 (ec : Int)]))) ∨
     (now < till /\ qr = false /\ qm = true /\ ∀ F' w', Hp (fun _ => False) w' w' [rBlk sv 73 (svC kb cb bk), rBlk kb 78 (kdcC tb bb Kk), rTab F' tb s2, rBs Gb bb us, Rq] [] -> Calls Tryz.prog 31 #[pt sv 0, .int .i64 now, (aV ([(iV .i64 f)] ++ vb (kl Ki) ++ [(sV c1), (iV .i64 a), (iV .i64 u), (iV .i64 r)]).toArray), (aV ([(sV srv), (iV .i64 nn), (iV .i64 till), (bV qr), (bV qm), (sV ts), (lV C l.length c), (lV D au.length d), (lV E en ce)]).toArray)] w' (DPost w' (.tuple #[(aV ([(iV .i64 f)] ++ vb (kl Ki) ++ [(sV c1), (iV .i64 a), (iV .i64 u), (iV .i64 r)]).toArray), (aV (vb (List.replicate 16 0)).toArray), .int .i64 (ec : Int)])))) :
   Calls Tryz.prog 12 #[pt sv 0, .int .i64 now, (aV ([(sV srv), (iV .i64 nn), (iV .i64 till), (bV qr), (bV qm), (sV ts), (lV C l.length c), (lV D au.length d), (lV E en ce)]).toArray)] w (TgNo F G tb cb most ec s2 sl2 w) := by
 have h0 := h0
 refine mE 108 ?_
 refine mT (xN h0 40 ([(sV srv), (iV .i64 nn), (iV .i64 till), (bV qr), (bV qm), (sV ts), (lV C l.length c), (lV D au.length d), (lV E en ce)])) ?_
 rintro _ w2 ⟨g2, rfl, h2⟩
 refine mT (xN h2 43 ([(sV ByteArray.empty), (sV ByteArray.empty), (lV none 0 0), (lV none 0 0)])) ?_
 rintro _ w3 ⟨g3, rfl, h3⟩
 refine ma h3 1 ?_
 refine ma h3 1 ?_
 refine ma h3 1 ?_
 refine mT (x_who h3 2 3 rfl rfl [(pt sv 0), (iV .i64 now), (aV ([(sV ts), (lV C l.length c)]).toArray), (lV D au.length d), (Value.iface 40 (aV ([(sV srv), (iV .i64 nn), (iV .i64 till), (bV qr), (bV qm), (sV ts), (lV C l.length c), (lV D au.length d), (lV E en ce)]).toArray))] (by decide) (by kernel_rfl) (hWho _ (h3.carve2 2 3 rfl rfl [(false, 0), (false, 1), (false, 2), (false, 3), (false, 4)] rfl rfl))) ?_
 rintro _ w5 ⟨F5, G5, rfl, h5⟩
 refine mT (xN h5 54 ([(iV .i64 0)] ++ vb (List.replicate 16 0) ++ [(sV ByteArray.empty), (iV .i64 0), (iV .i64 0), (iV .i64 0)])) ?_
 rintro _ w6 ⟨g6, rfl, h6⟩
 refine mT (xR h6 0 ([(iV .i64 f)] ++ vb (kl Ki) ++ [(sV c1), (iV .i64 a), (iV .i64 u), (iV .i64 r)])) ?_
 rintro _ w7 h7
 refine mJ 2000004 (fun aJ wJ12 => ∃ (gJ11_0 : Nat) (gJ11_1 : Nat) (xJ12 : Nat -> Value), aJ = patch xJ12 108 [(0, (pt sv 0)), (1, (iV .i64 now)), (5, (pt g2 0)), (6, (pt g3 0)), (7, (iV .i64 0)), (8, (pt g6 0)), (9, (iV .i64 0)), (10, (pt gJ11_0 0)), (11, (pt gJ11_1 0))] /\ Hp (fun q => F q ∨ G q) w wJ12 [rBlk sv 73 ([(pt kb 0), (pt cb 0), (pt bk 0)]), rBlk kb 78 ([(Value.iface 28 (pt tb 0)), (pt bb 0)] ++ vb (kl Kk)), rSB ((lV C l.length c)) l, rSB ((lV D au.length d)) au, Rq, rBs Gb bb us] [rBlk gJ11_1 31 (vb (kl Kk)), rBlk gJ11_0 54 ([(iV .i64 f)] ++ vb (kl Ki) ++ [(sV c1), (iV .i64 a), (iV .i64 u), (iV .i64 r)]), rBlk g6 54 ([(iV .i64 f)] ++ vb (kl Ki) ++ [(sV c1), (iV .i64 a), (iV .i64 u), (iV .i64 r)]), rBlk g3 43 ([(sV ByteArray.empty), (sV ByteArray.empty), (lV none 0 0), (lV none 0 0)]), rBlk g2 40 ([(sV srv), (iV .i64 nn), (iV .i64 till), (bV qr), (bV qm), (sV ts), (lV C l.length c), (lV D au.length d), (lV E en ce)]), rTab F5 tb s2, rCa G5 cb most sl2]) ?_ (fun hJ12 hhJ12 => ?_)
 ·
  rintro _ wJ12 ⟨gJ11_0, gJ11_1, xJ12, rfl, hJh12⟩
  refine mAt ?_
  rcases hno with ⟨hq, he⟩ | ⟨hq, hq1, he⟩ | ⟨hq, hq1, hq2, hq3⟩ | ⟨hq, hq1, hq2, hq3⟩
  ·
   refine ma hJh12 4 ?_
   refine mW 51 (v := (.bool true)) (eqI (bV (decide (till <= now))) (by simp; omega)) ?_
   refine mT (xR hJh12 3 ([(sV ByteArray.empty), (sV ByteArray.empty), (lV none 0 0), (lV none 0 0)])) ?_
   rintro _ w19 h19
   refine mF (post_2 (r := .cell 6 43) (s := .tmp 7) (by kernel_rfl) rfl (rce (h19.at_ 3 rfl)) (rtm (iV .i64 12)) ?_)
   exact ⟨_, _, (by first | rfl | (rw [he]; rfl)), h19.sel [5, 6] [] rfl rfl rfl⟩
  ·
   refine ma hJh12 4 ?_
   refine mW 51 (v := (.bool false)) (eqI (bV (decide (till <= now))) (by simp; omega)) ?_
   refine ma hJh12 4 ?_
   refine ma hJh12 4 ?_
   refine mW 57 (v := (.bool true)) (eqI (bV ((qr == qm))) (by rw [hq1]; simp)) ?_
   refine mT (xR hJh12 3 ([(sV ByteArray.empty), (sV ByteArray.empty), (lV none 0 0), (lV none 0 0)])) ?_
   rintro _ w24 h24
   refine mF (post_2 (r := .cell 6 43) (s := .tmp 7) (by kernel_rfl) rfl (rce (h24.at_ 3 rfl)) (rtm (iV .i64 15)) ?_)
   exact ⟨_, _, (by first | rfl | (rw [he]; rfl)), h24.sel [5, 6] [] rfl rfl rfl⟩
  ·
   refine ma hJh12 4 ?_
   refine mW 51 (v := (.bool false)) (eqI (bV (decide (till <= now))) (by simp; omega)) ?_
   refine ma hJh12 4 ?_
   refine ma hJh12 4 ?_
   refine mW 57 (v := (.bool false)) (eqI (bV ((qr == qm))) (by rw [hq1, hq2]; rfl)) ?_
   refine ma hJh12 4 ?_
   refine mW 58 (v := (.bool true)) (eqI (bV qr) (by rw [hq1])) ?_
   refine ma hJh12 2 ?_
   refine ma hJh12 4 ?_
   refine mD hJh12 [(pt sv 0), (iV .i64 now), (aV ([(iV .i64 f)] ++ vb (kl Ki) ++ [(sV c1), (iV .i64 a), (iV .i64 u), (iV .i64 r)]).toArray), (aV ([(sV srv), (iV .i64 nn), (iV .i64 till), (bV qr), (bV qm), (sV ts), (lV C l.length c), (lV D au.length d), (lV E en ce)]).toArray)] (hq3 _ (hJh12.carve0 [(false, 0), (false, 1), (false, 5)] rfl)) (fun w27 h27 => ?_)
   refine mT (xR h27 1 ([(iV .i64 f)] ++ vb (kl Ki) ++ [(sV c1), (iV .i64 a), (iV .i64 u), (iV .i64 r)])) ?_
   rintro _ w28 h28
   refine mW 70 (v := (.bool true)) (eqI (bV (((ec : Int)) != 0)) (by simp; omega)) ?_
   refine mT (xR h28 3 ([(sV ByteArray.empty), (sV ByteArray.empty), (lV none 0 0), (lV none 0 0)])) ?_
   rintro _ w32 h32
   refine mF (post_2 (r := .cell 6 43) (s := .tmp 7) (by kernel_rfl) rfl (rce (h32.at_ 3 rfl)) (rtm (iV .i64 ((ec : Int)))) ?_)
   exact ⟨_, _, (by first | rfl | (rw [he]; rfl)), h32.sel [5, 6] [] rfl rfl rfl⟩
  ·
   refine ma hJh12 4 ?_
   refine mW 51 (v := (.bool false)) (eqI (bV (decide (till <= now))) (by simp; omega)) ?_
   refine ma hJh12 4 ?_
   refine ma hJh12 4 ?_
   refine mW 57 (v := (.bool false)) (eqI (bV ((qr == qm))) (by rw [hq1, hq2]; rfl)) ?_
   refine ma hJh12 4 ?_
   refine mW 58 (v := (.bool false)) (eqI (bV qr) (by rw [hq1])) ?_
   refine ma hJh12 2 ?_
   refine ma hJh12 4 ?_
   refine mD hJh12 [(pt sv 0), (iV .i64 now), (aV ([(iV .i64 f)] ++ vb (kl Ki) ++ [(sV c1), (iV .i64 a), (iV .i64 u), (iV .i64 r)]).toArray), (aV ([(sV srv), (iV .i64 nn), (iV .i64 till), (bV qr), (bV qm), (sV ts), (lV C l.length c), (lV D au.length d), (lV E en ce)]).toArray)] (hq3 _ _ (hJh12.carve0 [(false, 0), (false, 1), (true, 5), (false, 5), (false, 4)] rfl)) (fun w35 h35 => ?_)
   refine mT (xR h35 1 ([(iV .i64 f)] ++ vb (kl Ki) ++ [(sV c1), (iV .i64 a), (iV .i64 u), (iV .i64 r)])) ?_
   rintro _ w36 h36
   refine mT (xR h36 0 (vb (List.replicate 16 0))) ?_
   rintro _ w37 h37
   refine mW 70 (v := (.bool true)) (eqI (bV (((ec : Int)) != 0)) (by simp; omega)) ?_
   refine mT (xR h37 3 ([(sV ByteArray.empty), (sV ByteArray.empty), (lV none 0 0), (lV none 0 0)])) ?_
   rintro _ w41 h41
   refine mF (post_2 (r := .cell 6 43) (s := .tmp 7) (by kernel_rfl) rfl (rce (h41.at_ 3 rfl)) (rtm (iV .i64 ((ec : Int)))) ?_)
   exact ⟨_, _, (by first | rfl | (rw [he]; rfl)), h41.sel [5, 6] [] rfl rfl rfl⟩
 ·
  refine dG h7 12 11 (fun W => (rBlk g6 54 ([(iV .i64 f)] ++ vb (kl Ki) ++ [(sV c1), (iV .i64 a), (iV .i64 u), (iV .i64 r)])).Φ W /\ (rBlk sv 73 ([(pt kb 0), (pt cb 0), (pt bk 0)])).Φ W /\ (rBlk kb 78 ([(Value.iface 28 (pt tb 0)), (pt bb 0)] ++ vb (kl Kk))).Φ W /\ True) (fun w42 h42 => ⟨h42.at_ 0 rfl, h42.rd 0 rfl, h42.rd 1 rfl, trivial⟩) ?_
  intro w42 h42
  refine dP 9 [1, 2, 3] ?_
  refine dL 0 (fun W hW => hW.1) ?_
  refine dL 4 (fun W hW => hW.2.1) ?_
  refine dP 5 [5, 6] ?_
  refine dL 7 (fun W hW => hW.2.2.1) ?_
  refine dO 8 9 ?_ ?_
  ·
   refine oT (xN h42 54 ([(iV .i64 0)] ++ vb (List.replicate 16 0) ++ [(sV ByteArray.empty), (iV .i64 0), (iV .i64 0), (iV .i64 0)])) ?_
   rintro _ w43 ⟨g43, rfl, h43⟩
   refine ⟨⟨h43.at_ 1 rfl, h43.rd 0 rfl, h43.rd 1 rfl, trivial⟩, ?_⟩
   refine dT 9 (xN h43 31 (vb (List.replicate 16 0))) ?_
   rintro _ w44 ⟨g44, rfl, h44⟩
   refine ⟨⟨h44.at_ 2 rfl, h44.rd 0 rfl, h44.rd 1 rfl, trivial⟩, ?_⟩
   refine dT 10 (xR h44 1 ([(iV .i64 f)] ++ vb (kl Ki) ++ [(sV c1), (iV .i64 a), (iV .i64 u), (iV .i64 r)])) ?_
   rintro _ w45 h45
   refine ⟨⟨h45.at_ 2 rfl, h45.rd 0 rfl, h45.rd 1 rfl, trivial⟩, ?_⟩
   refine dE 11 (xR h45 0 (vb (kl Kk))) ?_
   rintro _ w46 h46
   refine dX ?_
   exact mK hJ12 (hhJ12 _ _ ⟨g43, g44, _, pM, h46.sel [0, 1, 2, 3, 4, 5, 6] [0, 1, 2, 3, 4, 5] (by kernel_rfl) rfl rfl⟩)
  ·
   refine oT (xN h42 31 (vb (List.replicate 16 0))) ?_
   rintro _ w47 ⟨g47, rfl, h47⟩
   refine ⟨⟨h47.at_ 1 rfl, h47.rd 0 rfl, h47.rd 1 rfl, trivial⟩, ?_⟩
   refine dT 8 (xN h47 54 ([(iV .i64 0)] ++ vb (List.replicate 16 0) ++ [(sV ByteArray.empty), (iV .i64 0), (iV .i64 0), (iV .i64 0)])) ?_
   rintro _ w48 ⟨g48, rfl, h48⟩
   refine ⟨⟨h48.at_ 2 rfl, h48.rd 0 rfl, h48.rd 1 rfl, trivial⟩, ?_⟩
   refine dT 10 (xR h48 0 ([(iV .i64 f)] ++ vb (kl Ki) ++ [(sV c1), (iV .i64 a), (iV .i64 u), (iV .i64 r)])) ?_
   rintro _ w49 h49
   refine ⟨⟨h49.at_ 2 rfl, h49.rd 0 rfl, h49.rd 1 rfl, trivial⟩, ?_⟩
   refine dE 11 (xR h49 1 (vb (kl Kk))) ?_
   rintro _ w50 h50
   refine dX ?_
   exact mK hJ12 (hhJ12 _ _ ⟨g48, g47, _, pM, h50.sel [1, 0, 2, 3, 4, 5, 6] [0, 1, 2, 3, 4, 5] (by kernel_rfl) rfl rfl⟩)
end
section
open Go.RowKit Go.QT
theorem who_e1 {F G : Nat -> Prop} {sv kb cb bk tb bb most : Nat} {Kk : Fin 16 -> UInt8} {s : STab} {sl : List Sh} {now : Int} {C D : Option Addr} {c d : Nat} {l au : Bytes} {Rq : Res} {qv : Value} {ts : ByteArray} {ec : Nat} {w : World}
   (h0 : Hp (fun q => F q ∨ G q) w w [rBlk sv 73 (svC kb cb bk), rBlk kb 78 (kdcC tb bb Kk), rSB (Value.slice C l.length c) l, rSB (Value.slice D au.length d) au, Rq] [rTab F tb s, rCa G cb most sl]) (hO : ∀ w', Hp (fun _ => False) w' w' [rBlk sv 73 (svC kb cb bk), rBlk kb 78 (kdcC tb bb Kk), rTab F tb s, rSB (Value.slice C l.length c) l] [] -> Calls Tryz.prog 47 #[pt sv 0, .int .i64 now, (Value.agg ([(Value.string ts), (Value.slice C l.length c)]).toArray)] w' (DPost w' (.tuple #[(Value.agg ([(Value.int .i64 0)] ++ vb (List.replicate 16 0) ++ [(Value.string ByteArray.empty), (Value.int .i64 0), (Value.int .i64 0), (Value.int .i64 0)]).toArray), .int .i64 (ec : Int)]))) (hec : ec ≠ 0) :
   Calls Tryz.prog 29 #[pt sv 0, .int .i64 now, (Value.agg ([(Value.string ts), (Value.slice C l.length c)]).toArray), (Value.slice D au.length d), qv] w (WhPost F G tb cb most (Value.agg ([(Value.int .i64 0)] ++ vb (kl zK) ++ [(Value.string ByteArray.empty), (Value.int .i64 0), (Value.int .i64 0), (Value.int .i64 0)]).toArray) s (ec, sl) w) := by
 have h0 := h0
 refine mE 79 ?_
 refine mT (xN h0 35 ([(Value.string ts), (Value.slice C l.length c)])) ?_
 rintro _ w2 ⟨g2, rfl, h2⟩
 refine mT (xN h2 54 ([(Value.int .i64 0)] ++ vb (List.replicate 16 0) ++ [(Value.string ByteArray.empty), (Value.int .i64 0), (Value.int .i64 0), (Value.int .i64 0)])) ?_
 rintro _ w3 ⟨g3, rfl, h3⟩
 refine ma h3 1 ?_
 refine mD h3 [(pt sv 0), (Value.int .i64 now), (Value.agg ([(Value.string ts), (Value.slice C l.length c)]).toArray)] (hO _ (h3.carve0 [(false, 0), (false, 1), (true, 2), (false, 2)] rfl)) (fun w5 h5 => ?_)
 refine mT (xN h5 54 ([(Value.int .i64 0)] ++ vb (List.replicate 16 0) ++ [(Value.string ByteArray.empty), (Value.int .i64 0), (Value.int .i64 0), (Value.int .i64 0)])) ?_
 rintro _ w6 ⟨g6, rfl, h6⟩
 refine mT (xR h6 0 ([(Value.int .i64 0)] ++ vb (List.replicate 16 0) ++ [(Value.string ByteArray.empty), (Value.int .i64 0), (Value.int .i64 0), (Value.int .i64 0)])) ?_
 rintro _ w7 h7
 refine mW 23 (v := (.bool true)) (eqI (Value.bool (((ec : Int)) != 0)) (by simp; omega)) ?_
 refine ma h7 0 ?_
 refine mT (xR h7 1 ([(Value.int .i64 0)] ++ vb (List.replicate 16 0) ++ [(Value.string ByteArray.empty), (Value.int .i64 0), (Value.int .i64 0), (Value.int .i64 0)])) ?_
 rintro _ w11 h11
 refine mF (post_2 (r := .cell 10 54) (s := .tmp 11) (by kernel_rfl) rfl (rce (h11.at_ 1 rfl)) (rtm (Value.int .i64 ((ec : Int)))) ?_)
 exact ⟨_, _, by kernel_rfl, h11.sel [3, 4] [] rfl rfl rfl⟩
end
section
open Go.RowKit Go.QT
/-- A request's cells. -/
def tqC (srv : ByteArray) (nn till : Int) (r m : Bool) (ts : ByteArray) (x au ex : Value) : List Value := [Value.string srv, .int .i64 nn, .int .i64 till, .bool r, .bool m, .string ts, x, au, ex]
section
variable {F G Gb : Nat -> Prop} {sv kb cb bk tb bb most ce : Nat} {Kk Ki Kx K K2 : Fin 16 -> UInt8} {s : STab} {sl : List Sh} {us : List User} {us_ : User} {srv : ByteArray} {now nn till f fo a u r pf pa pu pr t q : Int} {C D E B : Option Addr} {c d e n : Nat} {l au pb b1 b2 : Bytes} {w : World} {qr qm : Bool} {xs : List Xt}
/-- Who shows a ticket, and that they have its key. -/
theorem whoQ (hs : TabOk s) (hsm : s.sums.length <= 1000) (hx : openTh s (kl Kk) 2 l = .inr (.inside f Ki bANN a u r)) (hu : now < u) (hk : SK s (qB srv nn till qr qm l xs) n) (hau : openTh s (kl Ki) 7 au = .inr (.authent bANN t q K2 (mkB 100 (n + 1)))) (hok : okXt xs)
   (hsr : rightN srv = true) (hss : srv.size <= 300) (hn : inN nn = true) (ht : inN till = true) (hll : l.length <= 300) (hlen : (qB srv nn till qr qm l xs).length <= 4096) {rr : Nat × List Sh}
   (hsh : ∀ w', (rCa G cb most sl).Φ w' -> Calls Tryz.prog 50 #[pt cb 0, .int .i64 now, .string bANN, .int .i64 t, .int .i64 q] w' (ShPost G cb most w' rr)) (w' : World)
   (h : Hp (fun q => F q ∨ G q) w' w' [rBlk sv 73 (svC kb cb bk), rBlk kb 78 (kdcC tb bb Kk), rSB (.slice C l.length c) l, rSB (.slice D au.length d) au, rQx C c l E ce xs] [rTab F tb s, rCa G cb most sl]) :
   Calls Tryz.prog 29 #[pt sv 0, .int .i64 now, .agg #[.string bKDC, .slice C l.length c], .slice D au.length d, .iface 40 (.agg (tqC srv nn till qr qm bKDC (.slice C l.length c) (.slice D au.length d) (.slice E xs.length ce)).toArray)] w' (WhPost F G tb cb most (.agg ([Value.int .i64 f] ++ vb (kl Ki) ++ [Value.string bANN, .int .i64 a, .int .i64 u, .int .i64 r]).toArray) s rr w') := by
 have hw := who_any (β := qB srv nn till qr qm l xs) (rr := rr) h hs (by omega) hx hu hau (by rw [hk.1])
   (sumQ_any (xs := xs) (D := D) (an := au.length) (ca := d) hsm hok hsr hss hn ht hll hlen) hsh
 rwa [dig_old hk] at hw
theorem okx0 : okXt [] := ⟨Nat.zero_le _, fun x hx => by cases hx⟩
/-- A ticket is renewed. -/
theorem tgsRen_any (h0 : Hp (fun q => F q ∨ G q) w w [rBlk sv 73 (svC kb cb bk), rBlk kb 78 (kdcC tb bb Kk), rSB (.slice C l.length c) l, rSB (.slice D au.length d) au, rQx C c l E ce [], rBs Gb bb us] [rTab F tb s, rCa G cb most sl])
   (hrm : Room 8 s) (hsm : s.sums.length <= 1000) (hx : openTh s (kl Kk) 2 l = .inr (.inside f Ki bANN a u r)) (hu : now < u) (hk : SK s (qB bKDC nn till true false l []) n) (hau : openTh s (kl Ki) 7 au = .inr (.authent bANN t q K2 (mkB 100 (n + 1))))
   (hnear : nearF now t = true) (hsl : ∀ y ∈ sl, 0 <= y.t /\ y.t <= 1099511627776) (hsn : (⟨bANN, t, q⟩ : Sh) ∉ sl) (hmost : sl.length < most) (hmm : most <= 1000)
   (h32 : us.length <= 1000) (hb2 : placeB us bANN = true) (hu2 : us[placeI us bANN]? = some us_) (hf1 : bits .and .i64 f 1 = 1) (hf4 : bits .andNot .i64 f 4 = fo) (hr : now < r) (hlife : 0 <= us_.life /\ us_.life <= 1000000)
   (hn : inN nn = true) (ht : inN till = true) (hll : l.length <= 300) (hlen : (qB bKDC nn till true false l []).length <= 4096) (hlt : now < till)
   (hK : kl K = mkB 107 (s.keys.length + 1)) (hp1 : packB (.inside fo K bANN a (min (min till (now + us_.life)) r) r) = .inr b1) (hp2 : packB (.reply fo K nn bKDC a (min (min till (now + us_.life)) r) r) = .inr b2) :
   Calls Tryz.prog 12 #[pt sv 0, .int .i64 now, .agg (tqC bKDC nn till true false bKDC (.slice C l.length c) (.slice D au.length d) (.slice E 0 ce)).toArray] w (TgPost F G tb cb most s.boxes.length bANN bKDC (((s.add SFrom.fresh).seal (kl Kk) 2 b1).seal (kl Ki) 8 b2) (keptF now sl ++ [⟨bANN, t, q⟩]) w) :=
 tgs_ren h0 (whoQ (rr := (0, _)) hrm.ok hsm hx hu hk hau okx0 right_kdc (by decide) hn ht hll hlen fun w' hC => show_ok (x := ⟨bANN, t, q⟩) hC hnear hsl (by omega) hsn hmost (by omega))
   hrm hK hlt (by decide) (by decide) (fun w' h => renew_ok h (by omega) hb2 hu2 hf1 hf4 hr ⟨(near_in hnear).2.2.1, (near_in hnear).2.2.2⟩ hlife) hp1 hp2
/-- .. or it is not: it may not, or not any more. -/
theorem tgsRenN_any {ec : Nat} (h0 : Hp (fun q => F q ∨ G q) w w [rBlk sv 73 (svC kb cb bk), rBlk kb 78 (kdcC tb bb Kk), rSB (.slice C l.length c) l, rSB (.slice D au.length d) au, rQx C c l E ce xs, rBs Gb bb us] [rTab F tb s, rCa G cb most sl])
   (hs : TabOk s) (hsm : s.sums.length <= 1000) (hx : openTh s (kl Kk) 2 l = .inr (.inside f Ki bANN a u r)) (hu : now < u) (hk : SK s (qB srv nn till true false l xs) n) (hau : openTh s (kl Ki) 7 au = .inr (.authent bANN t q K2 (mkB 100 (n + 1)))) (hok : okXt xs)
   (hnear : nearF now t = true) (hsl : ∀ y ∈ sl, 0 <= y.t /\ y.t <= 1099511627776) (hsn : (⟨bANN, t, q⟩ : Sh) ∉ sl) (hmost : sl.length < most) (hmm : most <= 1000)
   (h32 : us.length <= 1000) (hb2 : placeB us bANN = true) (hu2 : us[placeI us bANN]? = some us_) (hec : ec ≠ 0)
   (hno : (srv.toList ≠ bKDC.toList /\ ec = 15) ∨ (srv.toList = bKDC.toList /\ bits .and .i64 f 1 = 0 /\ ec = 15) ∨ (srv.toList = bKDC.toList /\ bits .and .i64 f 1 = 1 /\ r <= now /\ ec = 12))
   (hsr : rightN srv = true) (hss : srv.size <= 300) (hn : inN nn = true) (ht : inN till = true) (hll : l.length <= 300) (hlen : (qB srv nn till true false l xs).length <= 4096) (hlt : now < till) :
   Calls Tryz.prog 12 #[pt sv 0, .int .i64 now, .agg (tqC srv nn till true false bKDC (.slice C l.length c) (.slice D au.length d) (.slice E xs.length ce)).toArray] w (TgNo F G tb cb most ec s (keptF now sl ++ [⟨bANN, t, q⟩]) w) :=
 tgs_no h0 (whoQ (rr := (0, _)) hs hsm hx hu hk hau hok hsr hss hn ht hll hlen fun w' hC => show_ok (x := ⟨bANN, t, q⟩) hC hnear hsl (by omega) hsn hmost (by omega))
   hec (.inr (.inr (.inl ⟨hlt, rfl, rfl, fun w' h => renew_no h (by omega) hb2 hu2 hno⟩)))
/-- .. a ticket whose time is over. -/
theorem tgsLate_any (h0 : Hp (fun q => F q ∨ G q) w w [rBlk sv 73 (svC kb cb bk), rBlk kb 78 (kdcC tb bb Kk), rSB (.slice C l.length c) l, rSB (.slice D au.length d) au, rQx C c l E ce xs, rBs Gb bb us] [rTab F tb s, rCa G cb most sl])
   {c1 : ByteArray} (hs : TabOk s) (hx : openTh s (kl Kk) 2 l = .inr (.inside f Ki c1 a u r)) (hu : u <= now) :
   Calls Tryz.prog 12 #[pt sv 0, .int .i64 now, .agg (tqC srv nn till qr qm bKDC (.slice C l.length c) (.slice D au.length d) (.slice E xs.length ce)).toArray] w (TgNo F G tb cb most 12 s sl w) :=
 tgs_err (Ki := zK) h0 (fun w' h => who_e1 h (fun w'' h' => opened_late (h'.rd 0 rfl) (h'.rd 1 rfl) (h'.rd 2 rfl) hs (h'.rd 3 rfl) (by rw [hx]; rfl) hu) (by decide)) (by decide)
end
end
section
open Go.RowKit Go.QT
/-- Behind i rounds, the last of them at now. -/
structure RnS (kk : Fin 16 -> UInt8) (at_ Ri : Int) (s : STab) (sl : List Sh) (ks : List Bytes) (Kc : Fin 16 -> UInt8) (fl e R : Int) (m i : Nat) (now : Int) : Prop where
 nk : s.keys.length = 5 + i
 nb : s.boxes.length = 6 + 3 * i
 ns : s.sums.length <= i
 bd : ∀ b ∈ s.boxes, b.body.length <= 4096
 tk : ∃ b, s.box (mkB 98 m) = some ⟨kl kk, 2, b⟩ /\ packB (.inside fl Kc bANN at_ e R) = .inr b
 kn : ∀ k ∈ ks, ∃ n, n <= 5 + i /\ k = mkB 107 n
 sh : ∀ y ∈ sl, 0 <= y.t /\ y.t <= 1099511627776 /\ y.q < (i : Int)
 nl : sl.length <= i
 at0 : 0 <= at_ /\ at_ <= 1023
 tm : at_ <= now /\ now <= at_ + 63 * (i : Int)
 ri : 0 <= Ri /\ Ri <= 4095
 wy : (i = 0 /\ now = at_ /\ e = at_ + 401 /\ ((0 < Ri /\ fl = 5 /\ R = at_ + Ri) ∨ (Ri <= 0 /\ fl = 4 /\ R = 0))) ∨ (0 < i /\ 0 < Ri /\ R = at_ + Ri /\ fl = 1 /\ e = min (now + 401) R)
section
variable {kk ka kb_ : Fin 16 -> UInt8} {at_ Ri : Int} {s : STab} {sl : List Sh} {ks : List Bytes} {Kc K : Fin 16 -> UInt8} {fl e R : Int} {m i : Nat} {now k : Int} {ba b1 b2 : Bytes}
theorem RnS.room (h : RnS kk at_ Ri s sl ks Kc fl e R m i now) (hi : i < 30) (r : Nat) (hr : r <= 1000) : Room r s :=
 ⟨fun b hb => Nat.le_trans (h.bd b hb) (by decide), by have := h.nb; omega, by have := h.nk; omega⟩
theorem pack_authent' {t q : Int} {n : Nat} (h1 : 0 <= t /\ t <= 1099511627776) (h2 : 0 <= q /\ q <= 1099511627776) : ∃ b, packB (.authent bANN t q zK (mkB 100 n)) = .inr b :=
 pack_authent (rightM_is right_ann (by intro x hx; simp only [List.mem_cons, List.not_mem_nil, or_false] at hx; rcases hx with rfl | rfl <;> exact inN_is (by omega) (by omega))) (by decide) (by rw [mkB_len]; decide)
theorem qB0_len {srv : ByteArray} {nn till : Int} {r mm : Bool} {n : Nat} (hs : srv.size <= 300) : (qB srv nn till r mm (mkB 98 n) []).length <= 4096 := qB_len hs (by rw [mkB_len]; decide) (by simp) (by simp)
/-- A round in which it is renewed. -/
theorem RnS.step (h : RnS kk at_ Ri s sl ks Kc fl e R m i now) (hi : i < 30) {β : Bytes} (hk : 0 <= k /\ k <= 63) (hpa : ba.length <= 4096) (hp1 : packB (.inside 1 K bANN at_ (min (now + k + 401) R) R) = .inr b1) (hp2 : b2.length <= 4096) (hRi : 0 < Ri) (hR : R = at_ + Ri) (hK : kl K = mkB 107 (6 + i)) :
   RnS kk at_ Ri (((((s.digest β).seal (kl Kc) 7 ba).add SFrom.fresh).seal (kl kk) 2 b1).seal (kl Kc) 8 b2) (keptF (now + k) sl ++ [⟨bANN, now + k, (i : Int)⟩]) (ks ++ [kl K]) K 1 (min (now + k + 401) R) R (7 + 3 * i + 1) (i + 1) (now + k) := by
 have nb := h.nb
 have nk := h.nk
 have nl := h.nl
 refine ⟨?_, ?_, ?_, ?_, ?_, ?_, ?_, ?_, h.at0, ⟨by have := h.tm; omega, by have := h.tm; omega⟩, h.ri, .inr ⟨by omega, hRi, hR, rfl, rfl⟩⟩
 · show ((s.digest β).keys ++ [_]).length = _
   rw [dig_keys, List.length_append, nk]; simp; omega
 · rw [seal_len, seal_len, show (((s.digest β).seal (kl Kc) 7 ba).add SFrom.fresh).boxes = ((s.digest β).seal (kl Kc) 7 ba).boxes from rfl, seal_len, dig_boxes, nb]; omega
 · exact dig_len h.ns
 · intro b hb
   have hb : b ∈ (((s.digest β).boxes ++ [⟨kl Kc, 7, ba⟩]) ++ [⟨kl kk, 2, b1⟩]) ++ [⟨kl Kc, 8, b2⟩] := hb
   rw [dig_boxes] at hb
   simp only [List.mem_append, List.mem_singleton] at hb
   rcases hb with ((hb | rfl) | rfl) | rfl
   · exact h.bd b hb
   · exact hpa
   · exact pack_le hp1
   · exact hp2
 · refine ⟨b1, bx_seal ?_, hp1⟩
   have := bx_new (s := (((s.digest β).seal (kl Kc) 7 ba).add SFrom.fresh)) (k := kl kk) (u := 2) (b := b1) (by show ((s.digest β).boxes ++ [_]).length < _; rw [dig_boxes, List.length_append, nb]; simp; omega)
   rwa [show (((s.digest β).seal (kl Kc) 7 ba).add SFrom.fresh).boxes.length + 1 = 7 + 3 * i + 1 by show ((s.digest β).boxes ++ [_]).length + 1 = _; rw [dig_boxes, List.length_append, nb]; simp; omega] at this
 · intro x hx
   rcases List.mem_append.1 hx with hx | hx
   · obtain ⟨n, h1, h2⟩ := h.kn x hx; exact ⟨n, by omega, h2⟩
   · exact ⟨6 + i, by omega, (List.mem_singleton.1 hx).trans hK⟩
 · intro y hy
   have tm := h.tm
   have a0 := h.at0
   rcases List.mem_append.1 hy with hy | hy
   · have := h.sh y (List.mem_filter.1 hy).1; exact ⟨this.1, this.2.1, by omega⟩
   · rw [List.mem_singleton.1 hy]; exact ⟨by show 0 <= now + k; omega, by show now + k <= _; omega, by show (i : Int) < _; omega⟩
 · rw [List.length_append]; have := kept_len (now + k) sl; simp; omega
end
section
variable {F G Gb : Nat -> Prop} {sv kb cb bk tb bb ce : Nat} {kk ka kb_ Kc K : Fin 16 -> UInt8} {at_ Ri Oi : Int} {mesh : Bool} {s : STab} {sl : List Sh} {ks : List Bytes} {fl e R : Int} {m i : Nat} {now k : Int} {ba b1 b2 : Bytes} {C D : Option Addr} {c d n1 n2 : Nat} {w : World}
abbrev RnH (F G Gb : Nat -> Prop) (sv kb cb bk tb bb ce : Nat) (kk ka kb_ Kc : Fin 16 -> UInt8) (Ri Oi : Int) (mesh : Bool) (s : STab) (sl : List Sh) (m i : Nat) (β ba : Bytes) (C D : Option Addr) (n1 c n2 d : Nat) (w : World) : Prop :=
 Hp (fun q => F q ∨ G q) w w [rBlk sv 73 (svC kb cb bk), rBlk kb 78 (kdcC tb bb kk), rSB (.slice C n1 c) (mkB 98 m), rSB (.slice D n2 d) (mkB 98 (6 + 3 * i + 1)), rQx C c (mkB 98 m) none ce [], rBs Gb bb [User.mk bANN ka 401 Ri false, User.mk bBOB kb_ Oi 0 mesh]] [rTab F tb ((s.digest β).seal (kl Kc) 7 ba), rCa G cb 64 sl]
/-- What is known where it is asked for. -/
theorem RnS.ask (h : RnS kk at_ Ri s sl ks Kc fl e R m i now) (hi : i < 30) (hk : 0 <= k /\ k <= 63) {β : Bytes} (hpa : packB (.authent bANN (now + k) (i : Int) zK (mkB 100 (s.sumAt β + 1))) = .inr ba) :
   Room 8 ((s.digest β).seal (kl Kc) 7 ba) /\ ((s.digest β).seal (kl Kc) 7 ba).sums.length <= 1000 /\ openTh ((s.digest β).seal (kl Kc) 7 ba) (kl kk) 2 (mkB 98 m) = .inr (.inside fl Kc bANN at_ e R) /\ SK ((s.digest β).seal (kl Kc) 7 ba) β (s.sumAt β) /\
   openTh ((s.digest β).seal (kl Kc) 7 ba) (kl Kc) 7 (mkB 98 (6 + 3 * i + 1)) = .inr (.authent bANN (now + k) (i : Int) zK (mkB 100 (s.sumAt β + 1))) /\ nearF (now + k) (now + k) = true /\ (∀ y ∈ sl, 0 <= y.t /\ y.t <= 1099511627776) /\ (⟨bANN, now + k, (i : Int)⟩ : Sh) ∉ sl /\ sl.length < 64 := by
 have tm := h.tm
 have a0 := h.at0
 have nb := h.nb
 have nk := h.nk
 refine ⟨⟨fun b hb => ?_, by rw [au_len nb]; omega, by rw [au_keys nk]; omega⟩, Nat.le_trans (au_sums h.ns) (by omega), ?_, au_sk, ?_, ?_, fun y hy => ⟨(h.sh y hy).1, (h.sh y hy).2.1⟩, fun hy => ?_, by have := h.nl; omega⟩
 · have hb : b ∈ (s.digest β).boxes ++ [⟨kl Kc, 7, ba⟩] := hb
   rw [dig_boxes] at hb
   simp only [List.mem_append, List.mem_singleton] at hb
   rcases hb with hb | rfl
   · exact Nat.le_trans (h.bd b hb) (by decide)
   · exact pack_le6 hpa
 · obtain ⟨b, hb, hp⟩ := h.tk
   exact op_bx (au_old hb) hp
 · have := au_box (s := s) (β := β) (k := kl Kc) (u := 7) (b := ba) nb (by omega)
   exact op_bx this hpa
 · unfold nearF; exact decide_eq_true ⟨by omega, by omega, by omega, by omega, by omega, by omega⟩
 · exact absurd (h.sh _ hy).2.2 (by simp)
-- It is refused from then on.
theorem RnS.no {ka kb_ : Fin 16 -> UInt8} {Oi : Int} {mesh : Bool} (h : RnS kk at_ Ri s sl ks Kc fl e R m i now) (hi : i < 30) (hk : 0 <= k /\ k <= 63) (hpa : packB (.authent bANN (now + k) (i : Int) zK (mkB 100 (s.sumAt (qB bKDC 0 (now + k + 600) true false (mkB 98 m) []) + 1))) = .inr ba) (hno : at_ + Ri <= now + k ∨ Ri = 0) :
   ∃ (ec : Nat) (sl2 : List Sh), ec ≠ 0 /\ ∀ {F G Gb : Nat -> Prop} {sv kb cb bk tb bb ce : Nat} {C D : Option Addr} {c d n1 n2 : Nat} {w : World} (_hn1 : n1 = (mkB 98 m).length) (_hn2 : n2 = (mkB 98 (6 + 3 * i + 1)).length), RnH F G Gb sv kb cb bk tb bb ce kk ka kb_ Kc Ri Oi mesh s sl m i (qB bKDC 0 (now + k + 600) true false (mkB 98 m) []) ba C D n1 c n2 d w ->
     Calls Tryz.prog 12 #[pt sv 0, .int .i64 (now + k), .agg (tqC bKDC 0 (now + k + 600) true false bKDC (.slice C n1 c) (.slice D n2 d) (.slice none 0 ce)).toArray] w (TgNo F G tb cb 64 ec ((s.digest (qB bKDC 0 (now + k + 600) true false (mkB 98 m) [])).seal (kl Kc) 7 ba) sl2 w) := by
 obtain ⟨q1, q2, q3, q4, q5, q6, q7, q8, q9⟩ := h.ask hi hk hpa
 have tm := h.tm
 have a0 := h.at0
 rcases h.wy with ⟨e0, en, ee, hw⟩ | ⟨e0, e1, e2, -, e4⟩
 · have hno' : ∃ ec : Nat, ec ≠ 0 /\ ((bKDC.toList ≠ bKDC.toList /\ ec = 15) ∨ (bKDC.toList = bKDC.toList /\ bits .and .i64 fl 1 = 0 /\ ec = 15) ∨ (bKDC.toList = bKDC.toList /\ bits .and .i64 fl 1 = 1 /\ R <= now + k /\ ec = 12)) := by
     rcases hw with ⟨h1, rfl, h3⟩ | ⟨h1, rfl, h3⟩
     · exact ⟨12, by decide, .inr (.inr ⟨rfl, by kernel_rfl, by omega, rfl⟩)⟩
     · exact ⟨15, by decide, .inr (.inl ⟨rfl, by kernel_rfl, rfl⟩)⟩
   obtain ⟨ec, he, hn⟩ := hno'
   refine ⟨ec, keptF (now + k) sl ++ [⟨bANN, now + k, (i : Int)⟩], he, ?_⟩
   intro F G Gb sv kb cb bk tb bb ce C D c d n1 n2 w hn1 hn2 h0
   subst hn1 hn2
   exact tgsRenN_any (xs := []) (us_ := User.mk bANN ka 401 Ri false) h0 q1.ok q2 q3 (by omega) q4 q5 okx0 q6 q7 q8 q9 (by decide) (by simp) place_ann.1 place_ann.2 he hn right_kdc (by decide) rfl (inN_is (by omega) (by omega)) (by rw [mkB_len]; decide) (qB0_len (by decide)) (by omega)
 · refine ⟨12, sl, by decide, ?_⟩
   intro F G Gb sv kb cb bk tb bb ce C D c d n1 n2 w hn1 hn2 h0
   subst hn1 hn2
   exact tgsLate_any (xs := []) h0 q1.ok q3 (by omega)
-- .. and till then it is renewed.
theorem RnS.yes (hn1 : n1 = (mkB 98 m).length) (hn2 : n2 = (mkB 98 (6 + 3 * i + 1)).length) (h : RnS kk at_ Ri s sl ks Kc fl e R m i now) (hi : i < 30) (hk : 0 <= k /\ k <= 63) (hpa : packB (.authent bANN (now + k) (i : Int) zK (mkB 100 (s.sumAt (qB bKDC 0 (now + k + 600) true false (mkB 98 m) []) + 1))) = .inr ba) (hy : now + k < at_ + Ri)
   (h0 : RnH F G Gb sv kb cb bk tb bb ce kk ka kb_ Kc Ri Oi mesh s sl m i (qB bKDC 0 (now + k + 600) true false (mkB 98 m) []) ba C D n1 c n2 d w) (hK : kl K = mkB 107 (6 + i)) (hp1 : packB (.inside 1 K bANN at_ (min (now + k + 401) R) R) = .inr b1) (hp2 : packB (.reply 1 K 0 bKDC at_ (min (now + k + 401) R) R) = .inr b2) :
   Calls Tryz.prog 12 #[pt sv 0, .int .i64 (now + k), .agg (tqC bKDC 0 (now + k + 600) true false bKDC (.slice C n1 c) (.slice D n2 d) (.slice none 0 ce)).toArray] w (TgPost F G tb cb 64 (7 + 3 * i) bANN bKDC (((((s.digest (qB bKDC 0 (now + k + 600) true false (mkB 98 m) [])).seal (kl Kc) 7 ba).add SFrom.fresh).seal (kl kk) 2 b1).seal (kl Kc) 8 b2) (keptF (now + k) sl ++ [⟨bANN, now + k, (i : Int)⟩]) w) := by
 subst hn1 hn2
 obtain ⟨q1, q2, q3, q4, q5, q6, q7, q8, q9⟩ := h.ask hi hk hpa
 have tm := h.tm
 have a0 := h.at0
 have ri := h.ri
 have hR : R = at_ + Ri /\ now + k < e /\ bits .and .i64 fl 1 = 1 /\ bits .andNot .i64 fl 4 = 1 := by
   rcases h.wy with ⟨e0, en, ee, ⟨h1, rfl, h3⟩ | ⟨h1, -, h3⟩⟩ | ⟨e0, e1, e2, rfl, e4⟩
   · exact ⟨h3, by omega, by kernel_rfl, by kernel_rfl⟩
   · omega
   · exact ⟨e2, by omega, by kernel_rfl, by kernel_rfl⟩
 obtain ⟨r1, r2, r3, r4⟩ := hR
 have nb : ((s.digest (qB bKDC 0 (now + k + 600) true false (mkB 98 m) [])).seal (kl Kc) 7 ba).boxes.length = 7 + 3 * i := by rw [au_len h.nb]; omega
 have e1 : min (min (now + k + 600) (now + k + 401)) R = min (now + k + 401) R := by omega
 have key := tgsRen_any (K := K) (us_ := User.mk bANN ka 401 Ri false) h0 q1 q2 q3 r2 q4 q5 q6 q7 q8 q9 (by decide) (by simp) place_ann.1 place_ann.2 r3 r4 (by omega) ⟨by show (0 : Int) <= 401; decide, by show (401 : Int) <= _; decide⟩ rfl (inN_is (by omega) (by omega)) (by rw [mkB_len]; decide) (qB0_len (by decide)) (by omega) (hK.trans (by rw [au_keys h.nk]; rw [show 5 + i + 1 = 6 + i by omega])) (by show packB (.inside 1 K bANN at_ (min (min (now + k + 600) (now + k + 401)) R) R) = _; rw [e1]; exact hp1) (by show packB (.reply 1 K 0 bKDC at_ (min (min (now + k + 600) (now + k + 401)) R) R) = _; rw [e1]; exact hp2)
 rw [nb] at key
 exact key
theorem RnS.new (h : RnS kk at_ Ri s sl ks Kc fl e R m i now) (hi : i < 30) (hK : kl K = mkB 107 (6 + i)) : kl K ∉ ks := by
 intro hm
 obtain ⟨n, h1, h2⟩ := h.kn _ hm
 have e1 := markOf_mkB (k := 107) (n := n) (.inl rfl) (by omega)
 have e2 := markOf_mkB (k := 107) (n := 6 + i) (.inl rfl) (by omega)
 rw [← hK, h2, e1] at e2
 injection e2 with e2; injection e2 with _ e2; omega
theorem RnS.rR (h : RnS kk at_ Ri s sl ks Kc fl e R m i now) (h1 : 0 < Ri) (_hh : i < 30) : R = at_ + Ri := by
 rcases h.wy with ⟨-, -, -, ⟨-, -, h3⟩ | ⟨h2, -, -⟩⟩ | ⟨-, -, h2, -, -⟩
 · exact h3
 · omega
 · exact h2
theorem RnS.ok (h : RnS kk at_ Ri s sl ks Kc fl e R m i now) (hi : i <= 30) : TabOk s := ⟨fun b hb => Nat.le_trans (h.bd b hb) (by decide), by have := h.nb; omega⟩
/-- The reply is opened. -/
theorem Rn_op {q : Int} {c1 : Bytes} {X : Thing} (h : RnS kk at_ Ri s sl ks Kc fl e R m i now) (hi : i < 30) {β : Bytes} (hp : packB X = .inr b2) : openTh (((((s.digest β).seal (kl Kc) 7 ba).add SFrom.fresh).seal (kl kk) 2 c1).seal (kl Kc) q b2) (kl Kc) q (mkB 98 (7 + 3 * i + 2)) = .inr X := by
 have := bx_new (s := ((((s.digest β).seal (kl Kc) 7 ba).add SFrom.fresh).seal (kl kk) 2 c1)) (k := kl Kc) (u := q) (b := b2) (by rw [seal_len]; show ((s.digest β).boxes ++ [_]).length + 1 < _; rw [dig_boxes, List.length_append, h.nb]; simp; omega)
 rw [show ((((s.digest β).seal (kl Kc) 7 ba).add SFrom.fresh).seal (kl kk) 2 c1).boxes.length + 1 = 7 + 3 * i + 2 by rw [seal_len]; show ((s.digest β).boxes ++ [_]).length + 1 + 1 = _; rw [dig_boxes, List.length_append, h.nb]; simp; omega] at this
 exact op_bx this hp
theorem RnS.init {Ot : Int} {b0 b3 b4 b5 : Bytes} {t0 t1 t2 t3 t4 : Thing} (hT : Tim at_ 401 Ri Ot fl R) (hK : kl Kc = mkB 107 4) (h0 : packB t0 = .inr b0) (h1 : packB (.inside fl Kc bANN at_ (min (at_ + 600) (at_ + 401)) R) = .inr b1) (h2 : packB t1 = .inr b2) (h3 : packB t2 = .inr b3) (h4 : packB t3 = .inr b4) (h5 : packB t4 = .inr b5) :
   RnS kk at_ Ri (sO kk ka kb_ b0 b1 b2 b3 b4 b5) [] [kl Kc] Kc fl (min (at_ + 600) (at_ + 401)) R 2 0 at_ := by
 refine ⟨rfl, rfl, Nat.le_refl _, fun b hb => ?_, ⟨b1, bxOx, h1⟩, fun k hk => ⟨4, by decide, (List.mem_singleton.1 hk).trans hK⟩, fun y hy => absurd hy List.not_mem_nil, Nat.le_refl _, hT.at0, ⟨Int.le_refl _, by omega⟩, hT.r, .inl ⟨rfl, rfl, by omega, ?_⟩⟩
 · simp only [sO, List.mem_cons, List.not_mem_nil, or_false] at hb
   rcases hb with rfl | rfl | rfl | rfl | rfl | rfl
   · exact pack_le h0
   · exact pack_le h1
   · exact pack_le h2
   · exact pack_le h3
   · exact pack_le h4
   · exact pack_le h5
 · rcases hT.fr with ⟨h1, -, h2, h3⟩ | h
   · exact .inl ⟨h1, h2, h3⟩
   · exact .inr h
/-- A row of numbers, read. -/
def iC (n : Int) : List Value := [.int .i64 n]
theorem getI {L : List Int} {i : Nat} {x : Int} (h : L[i]? = some x) : (L.map iC)[i]? = some [.int .i64 x] := by rw [List.getElem?_map, h]; rfl
end
section
variable {F0 : Nat -> Prop} {w0 w : World} {ro rs : List Res}
theorem Hp.addQ0n (h : Hp F0 w0 w ro rs) (i : Nat) {A : Option Addr} {n c ce : Nat} {l : Bytes} (hn : n = l.length) (hi : ro[i]? = some (rSB (.slice A n c) l)) (hce : ce <= maxLen) : Hp F0 w0 w (rQx A c l none ce [] :: ro) rs := by
 subst hn; exact h.addQ0 i hi hce
theorem sumQn {F : Nat -> Prop} {tb n0 : Nat} {st : STab} {srv : ByteArray} {nn till : Int} {r m : Bool} {l : Bytes} {xs : List Xt} {C D E : Option Addr} {cc an ca ce : Nat} (hn0 : n0 = l.length) (hsm : st.sums.length <= 1000) (hx : okXt xs) (hs : rightN srv = true) (hsl : srv.size <= 300) (hn : inN nn = true) (ht : inN till = true) (hll : l.length <= 300) (hlen : (qB srv nn till r m l xs).length <= 4096)
   (w' : World) (hT : (rTab F tb st).Φ w') (hq : (rQx C cc l E ce xs).Φ w') (hd : (rQx C cc l E ce xs).dj (rTab F tb st)) :
   Calls Tryz.prog 23 #[.iface 28 (pt tb 0), .iface 40 (.agg #[.string srv, .int .i64 nn, .int .i64 till, .bool r, .bool m, .string bKDC, .slice C n0 cc, .slice D an ca, .slice E xs.length ce])] w' (SumPost F tb st (qB srv nn till r m l xs) w') := by
 subst hn0; exact sumQ_any hsm hx hs hsl hn ht hll hlen w' hT hq hd
end
end
section
open Go.RowKit Go.QT
theorem undNm : Tryz.prog.underlying 66 = some (.map 31 3) := by kernel_rfl
theorem undN16 : Tryz.prog.underlying 31 = some (.array 16 5) := by kernel_rfl
theorem zintN (W : World) : (zeroValue 3).run Tryz.prog W = .ok (.int .i64 0) W := by kernel_rfl
theorem sameNow_arrN (n : Nat) (e : TypeId) (a b : Value) : Instr.sameNow (.array n e) a b = none := by
 unfold Instr.sameNow; rfl
def entN (ks : List Bytes) : List (Value × Value) := ks.map fun k => (Value.agg (vb k).toArray, Value.int .i64 1)
theorem run_find_keyN (f : Bytes) (hf : f.length = 16) (w : World) : ∀ (es : List MapEntry) (ks : List Bytes) (i : Nat), es.map (fun e => (e.key, e.val)) = entN ks -> (∀ k ∈ ks, k.length = 16) ->
   (Instr.findAsking 31 (.agg (vb f).toArray) es i).run Tryz.prog w = .ok ((ks.findIdx? fun k => decide (k = f)).map fun j => (i + j, Value.int .i64 1)) w
 | [], ks, i, h, _ => by
   have : ks = [] := by simpa [entN] using h.symm
   subst this
   simp [Instr.findAsking]
 | e :: es, [], i, h, _ => by simp [entN] at h
 | e :: es, g :: ks, i, h, hl => by
   simp only [entN, List.map_cons, List.cons.injEq, Prod.mk.injEq] at h
   have hg := hl g (by simp)
   have ih := run_find_keyN f hf w es ks (i + 1) h.2 (fun p hp => hl p (by simp [hp]))
   have he : (Op.equal 31 (.agg (vb f).toArray) (.agg (vb g).toArray)).run Tryz.prog w = .ok (decide (f = g)) w := run_equalIn16 9998 31 f g w undN16 hf hg
   rw [← h.1.1] at he
   have hc : decide (g = f) = decide (f = g) := by rw [Bool.eq_iff_iff]; simp [eq_comm]
   simp only [Instr.findAsking, Sem.run_bind, he, Result.andThen_ok, List.findIdx?_cons, hc]
   by_cases hfg : f = g
   · simp [hfg, h.1.2]
   · simp only [decide_eq_false hfg, Bool.false_eq_true, if_false, ih]
     congr 1
     cases hq : ks.findIdx? fun p => decide (p = f) with
     | none => simp
     | some j => simp [Nat.add_assoc, Nat.add_comm 1 j]
/-- Where a key stands. -/
theorem run_findKeyN (f : Bytes) (hf : f.length = 16) (w : World) (es : Array MapEntry) (ks : List Bytes) (hme : es.toList.map (fun e => (e.key, e.val)) = entN ks) (hml : ∀ k ∈ ks, k.length = 16) :
   (Instr.findKey 31 (.agg (vb f).toArray) es.toList).run Tryz.prog w = .ok ((ks.findIdx? fun k => decide (k = f)).map fun j => (j, Value.int .i64 1)) w := by
 have hfa := run_find_keyN f hf w es.toList ks 0 hme hml
 simp only [Nat.zero_add] at hfa
 cases hes : es.toList with
 | nil =>
   rw [hes] at hme
   have : ks = [] := by simpa [entN] using hme.symm
   simp [Instr.findKey, Instr.findNow, run_underlying undN16, this]
 | cons e rest =>
   rw [hes] at hfa
   have hn : Instr.findNow (.array 16 5) (.agg (vb f).toArray) (e :: rest) 0 = none := by
     simp only [Instr.findNow, sameNow_arrN]
   simp only [Instr.findKey, Sem.run_bind, run_underlying undN16, Result.andThen_ok, hn, hfa]
theorem find_none {ks : List Bytes} {f : Bytes} (h : f ∉ ks) : (ks.findIdx? fun k => decide (k = f)) = none := by
 rw [List.findIdx?_eq_none_iff]
 intro x hx
 exact decide_eq_false (fun e => h (e ▸ hx))
/-- Entries as they come in: each younger than those ahead of it. -/
structure KnOk (es : Array MapEntry) (clock : Nat) (ks : List Bytes) : Prop where
 me : es.toList.map (fun e => (e.key, e.val)) = entN ks
 ml : ∀ k ∈ ks, k.length = 16
 lt : ∀ e ∈ es.toList, e.born < clock
def rNM (mb : Nat) (ks : List Bytes) : Res where
 F := fun q => q = mb
 Φ := fun w => ∃ es clock, w.heap[mb]? = some (.map es clock) /\ KnOk es clock ks
 lt := fun h q hq => by
   obtain ⟨es, clock, hm, _⟩ := h
   subst hq
   exact (Array.getElem?_eq_some_iff.1 hm).1
 keep := fun h _ hk => by
   obtain ⟨es, clock, hm, ho⟩ := h
   exact ⟨es, clock, (hk mb rfl).trans hm, ho⟩
/-- .. with an entry that is made and not yet filled. -/
def rNE (mb : Nat) (ks : List Bytes) (f : Bytes) (clock : Nat) : Res where
 F := fun q => q = mb
 Φ := fun w => ∃ es, w.heap[mb]? = some (.map (es.push { key := .agg (vb f).toArray, val := .int .i64 0, born := clock }) (clock + 1)) /\ KnOk es clock ks /\ f.length = 16
 lt := fun h q hq => by
   obtain ⟨es, hm, _⟩ := h
   subst hq
   exact (Array.getElem?_eq_some_iff.1 hm).1
 keep := fun h _ hk => by
   obtain ⟨es, hm, ho⟩ := h
   exact ⟨es, (hk mb rfl).trans hm, ho⟩
section
variable {F0 : Nat -> Prop} {w0 w w' : World} {ro rs : List Res} {mb : Nat} {ks : List Bytes} {o : Oper} {a : Act}
theorem fr_map (ob : Obj) : Fr (fun q => q = mb) w { w with heap := w.heap.setIfInBounds mb ob } :=
 ⟨rfl, rfl, rfl, by simp, fun q _ hq => by
   have : mb ≠ q := fun e => hq e.symm
   simp [this]⟩
theorem run_find_lastN (f : Bytes) (hf : f.length = 16) (w : World) (e0 : MapEntry) (hk0 : e0.key = .agg (vb f).toArray) : ∀ (es : List MapEntry) (ks : List Bytes) (i : Nat), es.map (fun e => (e.key, e.val)) = entN ks -> (∀ k ∈ ks, k.length = 16) -> f ∉ ks ->
   (Instr.findAsking 31 (.agg (vb f).toArray) (es ++ [e0]) i).run Tryz.prog w = .ok (some (i + ks.length, e0.val)) w
 | [], ks, i, h, _, _ => by
   have : ks = [] := by simpa [entN] using h.symm
   subst this
   have he : (Op.equal 31 (.agg (vb f).toArray) (.agg (vb f).toArray)).run Tryz.prog w = .ok (decide (f = f)) w := run_equalIn16 9998 31 f f w undN16 hf hf
   simp only [List.nil_append, Instr.findAsking, hk0, Sem.run_bind, he, Result.andThen_ok]
   simp
 | e :: es, [], i, h, _, _ => by simp [entN] at h
 | e :: es, g :: ks, i, h, hl, hn => by
   simp only [entN, List.map_cons, List.cons.injEq, Prod.mk.injEq] at h
   have hg := hl g (by simp)
   have ih := run_find_lastN f hf w e0 hk0 es ks (i + 1) h.2 (fun p hp => hl p (by simp [hp])) (fun hh => hn (by simp [hh]))
   have he : (Op.equal 31 (.agg (vb f).toArray) (.agg (vb g).toArray)).run Tryz.prog w = .ok (decide (f = g)) w := run_equalIn16 9998 31 f g w undN16 hf hg
   rw [← h.1.1] at he
   have hfg : f ≠ g := fun e => hn (by simp [e])
   simp only [List.cons_append, Instr.findAsking, Sem.run_bind, he, Result.andThen_ok, decide_eq_false hfg, Bool.false_eq_true, if_false, ih, List.length_cons]
   rw [show i + 1 + ks.length = i + (ks.length + 1) from by omega]
/-- A key that is not there, or that is and holds 0. -/
structure ZP where
 Φ : World -> Prop
def rZ (mb : Nat) (f : Bytes) : ZP := ⟨fun w => (Instr.lookup 66 (.map (some mb)) (.agg (vb f).toArray) false).run Tryz.prog w = .ok (.int .i64 0) w⟩
theorem nm_z (h : (rNM mb ks).Φ w) (f : Bytes) (hf : f.length = 16) (hn : f ∉ ks) : (rZ mb f).Φ w := by
 obtain ⟨es, clock, hm, hk⟩ := h
 have hkey := run_findKeyN f hf w es ks hk.me hk.ml
 rw [find_none hn] at hkey
 have hobj : (getObj mb).run Tryz.prog w = .ok (.map es clock) w := by simp [getObj, Sem.run, hm]
 show (Instr.lookup 66 (.map (some mb)) (.agg (vb f).toArray) false).run Tryz.prog w = _
 simp only [Instr.lookup, Sem.run_bind, run_underlying undNm, Result.andThen_ok, hobj, Sem.run_pure, check_key _ 9998 f hf, hkey, Option.map_none, zintN]
 rfl
theorem ne_z {f : Bytes} {clock : Nat} (h : (rNE mb ks f clock).Φ w) (hn : f ∉ ks) : (rZ mb f).Φ w := by
 obtain ⟨es, hm, hk, hf⟩ := h
 have hkey : (Instr.findKey 31 (.agg (vb f).toArray) (es.push { key := .agg (vb f).toArray, val := .int .i64 0, born := clock }).toList).run Tryz.prog w = .ok (some (ks.length, .int .i64 0)) w := by
   have h1 := run_find_lastN f hf w { key := .agg (vb f).toArray, val := .int .i64 0, born := clock } rfl es.toList ks 0 hk.me hk.ml hn
   rw [Nat.zero_add] at h1
   obtain ⟨x, y, hxy⟩ : ∃ x y, es.toList ++ [({ key := .agg (vb f).toArray, val := .int .i64 0, born := clock } : MapEntry)] = x :: y := by
     cases hl : es.toList with
     | nil => exact ⟨_, _, rfl⟩
     | cons x y => exact ⟨_, _, rfl⟩
   rw [Array.toList_push, hxy]
   rw [hxy] at h1
   have hn : Instr.findNow (.array 16 5) (.agg (vb f).toArray) (x :: y) 0 = none := by
     simp only [Instr.findNow, sameNow_arrN]
   simp only [Instr.findKey, Sem.run_bind, run_underlying undN16, Result.andThen_ok, hn, h1]
 have hobj : (getObj mb).run Tryz.prog w = .ok (.map (es.push { key := .agg (vb f).toArray, val := .int .i64 0, born := clock }) (clock + 1)) w := by simp [getObj, Sem.run, hm]
 show (Instr.lookup 66 (.map (some mb)) (.agg (vb f).toArray) false).run Tryz.prog w = _
 simp only [Instr.lookup, Sem.run_bind, run_underlying undNm, Result.andThen_ok, hobj, Sem.run_pure, check_key _ 9998 f hf, hkey]
 rfl
theorem e_lookZ {f : Bytes} (hF : (rZ mb f).Φ w) (x y : Operand) (ho : o.op = .lookup 66 x y false) (hx : a.eval x = .map (some mb)) (hy : a.eval y = .agg (vb f).toArray) :
   (execOp a.eval o).run Tryz.prog w = .ok (.value (.int .i64 0)) w := by
 have hF' : (Instr.lookup 66 (.map (some mb)) (.agg (vb f).toArray) false).run Tryz.prog w = .ok (.int .i64 0) w := hF
 unfold execOp
 simp only [ho, hx, hy, Sem.run_bind, hF', Result.andThen_ok, Sem.run_pure]
theorem x_entN (h : Hp F0 w0 w ro rs) (i : Nat) (hi : rs[i]? = some (rNM mb ks)) (f : Bytes) (hf : f.length = 16) (hn : f ∉ ks) (x y : Operand) (ho : o.op = .mapEntry 66 x y) (hx : a.eval x = .map (some mb)) (hy : a.eval y = .agg (vb f).toArray) :
   OpTo Tryz.prog o a w (fun u w' => ∃ clock : Nat, u = .tuple #[.int .i64 0, .int .i64 (clock : Int)] /\ Hp F0 w0 w' ro (rs.set i (rNE mb ks f clock))) := by
 obtain ⟨es, clock, hm, hk⟩ := h.own i _ hi
 have hlt : mb < w.heap.size := (Array.getElem?_eq_some_iff.1 hm).1
 have hkey := run_findKeyN f hf w es ks hk.me hk.ml
 rw [find_none hn] at hkey
 have hobj : (getObj mb).run Tryz.prog w = .ok (.map es clock) w := by simp [getObj, Sem.run, hm]
 refine OpTo.run (.tuple #[.int .i64 0, .int .i64 (clock : Int)]) (w' := { w with heap := w.heap.setIfInBounds mb (.map (es.push { key := .agg (vb f).toArray, val := .int .i64 0, born := clock }) (clock + 1)) }) ?_ ⟨clock, rfl, h.upd i hi (fr_map _) (rNE mb ks f clock) ⟨es, by simp [hlt], hk, hf⟩ (fun q hq => .inl hq)⟩
 unfold execOp
 simp only [ho, hx, hy, Instr.mapEntry, Sem.run_bind, run_underlying undNm, Result.andThen_ok, hobj, Sem.run_pure, check_key _ 9998 f hf, hkey, Option.map_none, zintN]
 simp [setObj, Sem.run, hm, goInt]
theorem x_entS {f : Bytes} {clock : Nat} (h : Hp F0 w0 w ro rs) (i : Nat) (hi : rs[i]? = some (rNE mb ks f clock)) (x y z : Operand) (ho : o.op = .entryStore 66 x y z) (hx : a.eval x = .map (some mb)) (hy : a.eval y = .int .i64 (clock : Int)) (hz : a.eval z = .int .i64 1) :
   OpTo Tryz.prog o a w (fun _ w' => Hp F0 w0 w' ro (rs.set i (rNM mb (ks ++ [f])))) := by
 obtain ⟨es, hm, hk, hf⟩ := h.own i _ hi
 have hlt : mb < w.heap.size := (Array.getElem?_eq_some_iff.1 hm).1
 have hobj : (getObj mb).run Tryz.prog w = .ok (.map (es.push { key := .agg (vb f).toArray, val := .int .i64 0, born := clock }) (clock + 1)) w := by simp [getObj, Sem.run, hm]
 have hi2 : (es.push { key := .agg (vb f).toArray, val := .int .i64 0, born := clock }).findIdx? (fun e => (e.born : Int) == (clock : Int)) = some es.size := by
   rw [Array.findIdx?_push]
   have : es.findIdx? (fun e => (e.born : Int) == (clock : Int)) = none := by
     rw [Array.findIdx?_eq_none_iff]
     intro e he
     have := hk.lt e (Array.mem_toList_iff.2 he)
     rw [beq_eq_false_iff_ne]; omega
   rw [this]; simp
 have hmod : (es.push { key := .agg (vb f).toArray, val := .int .i64 0, born := clock }).modify es.size (fun e => { e with val := .int .i64 1 }) = es.push { key := .agg (vb f).toArray, val := .int .i64 1, born := clock } := by
   apply Array.ext_getElem?
   intro j
   rw [Array.getElem?_modify, Array.getElem?_push, Array.getElem?_push]
   by_cases e : es.size = j
   · subst e; simp
   · rw [if_neg e, if_neg (fun hh => e hh.symm), if_neg (fun hh => e hh.symm)]
 refine OpTo.runs (w' := { w with heap := w.heap.setIfInBounds mb (.map (es.push { key := .agg (vb f).toArray, val := .int .i64 1, born := clock }) (clock + 1)) }) ?_ (h.upd i hi (fr_map _) (rNM mb (ks ++ [f])) ⟨es.push { key := .agg (vb f).toArray, val := .int .i64 1, born := clock }, clock + 1, by simp [hlt], ⟨?_, ?_, ?_⟩⟩ (fun q hq => .inl hq))
 · unfold execOp
   simp only [ho, hx, hy, hz, Instr.entryStore, Sem.run_bind, Result.andThen_ok, hobj, asInt, asIntOf, Sem.run_pure, hi2, hmod]
   simp [setObj, Sem.run, hm]
 · rw [Array.toList_push, List.map_append, hk.me]; simp [entN]
 · intro k hk'
   rcases List.mem_append.1 hk' with hk' | hk'
   · exact hk.ml k hk'
   · rw [List.mem_singleton.1 hk']; exact hf
 · intro e he
   rw [Array.toList_push] at he
   rcases List.mem_append.1 he with he | he
   · exact Nat.lt_succ_of_lt (hk.lt e he)
   · rw [List.mem_singleton.1 he]; exact Nat.lt_succ_self _
theorem x_makeN (h : Hp F0 w0 w ro rs) (ho : o.op = .makeMap 66 none) :
   OpTo Tryz.prog o a w (fun v w' => ∃ mb, v = .map (some mb) /\ Hp F0 w0 w' ro (rNM mb [] :: rs)) := by
 refine OpTo.run (.map (some w.heap.size)) (w' := w.alloc (.map #[] 0)) ?_ ⟨_, rfl, h.newS ((Below.refl _ _).alloc (Nat.le_refl _) _) (rNM w.heap.size []) ⟨#[], 0, heap_alloc_new w _, ⟨rfl, by simp, by simp⟩⟩ (fun q hq => by rw [show q = _ from hq]; exact Nat.le_refl _)⟩
 have h1 : (Instr.makeMap 66 none).run Tryz.prog w = .ok (.map (some w.heap.size)) (w.alloc (.map #[] 0)) := rfl
 unfold execOp
 simp only [ho, Option.map_none, Sem.run_bind, h1, Result.andThen_ok, Sem.run_pure]
end
end
section
open Go.RowKit Go.QT
theorem x_insN {o : Oper} {a : Act} {F0 : Nat -> Prop} {w0 w : World} {ro rs : List Res} {mb : Nat} {ks : List Bytes} (h : Hp F0 w0 w ro rs) (i : Nat) (hi : rs[i]? = some (rNM mb ks)) (f : Bytes) (hf : f.length = 16) (hn : f ∉ ks) (x y z : Operand) (ho : o.op = .insert 66 x y z) (hx : a.eval x = .map (some mb)) (hy : a.eval y = .agg (vb f).toArray) (hz : a.eval z = .int .i64 1) :
   OpTo Tryz.prog o a w (fun _ w' => Hp F0 w0 w' ro (rs.set i (rNM mb (ks ++ [f])))) := by
 obtain ⟨es, clock, hm, hk⟩ := h.own i _ hi
 have hlt : mb < w.heap.size := (Array.getElem?_eq_some_iff.1 hm).1
 have hkey := run_findKeyN f hf w es ks hk.me hk.ml
 rw [find_none hn] at hkey
 have hobj : (getObj mb).run Tryz.prog w = .ok (.map es clock) w := by simp [getObj, Sem.run, hm]
 refine OpTo.runs (w' := { w with heap := w.heap.setIfInBounds mb (.map (es.push { key := .agg (vb f).toArray, val := .int .i64 1, born := clock }) (clock + 1)) }) ?_ (h.upd i hi (fr_map _) (rNM mb (ks ++ [f])) ⟨es.push { key := .agg (vb f).toArray, val := .int .i64 1, born := clock }, clock + 1, by simp [hlt], ⟨?_, ?_, ?_⟩⟩ (fun q hq => .inl hq))
 · unfold execOp
   simp only [ho, hx, hy, hz, Instr.mapUpdate, Sem.run_bind, run_underlying undNm, Result.andThen_ok, hobj, check_key _ 9998 f hf, hkey, Option.map_none, Sem.run_pure]
   simp [setObj, Sem.run, hm]
 · rw [Array.toList_push, List.map_append, hk.me]; simp [entN]
 · intro k hk'
   rcases List.mem_append.1 hk' with hk' | hk'
   · exact hk.ml k hk'
   · rw [List.mem_singleton.1 hk']; exact hf
 · intro e he
   rw [Array.toList_push] at he
   rcases List.mem_append.1 he with he | he
   · exact Nat.lt_succ_of_lt (hk.lt e he)
   · rw [List.mem_singleton.1 he]; exact Nat.lt_succ_self _
end
section
open Go.Value renaming int -> iV, slice -> lV, string -> sV, bool -> bV, agg -> aV
open Go.RowKit Go.QT
theorem ktgsRenews_any {w : World} {P : Option Addr} {pc : Nat} {L : List Int} (hv : RV w 1 P pc (L.map iC)) (La Rn_ Ot_ At_ Lt : Int) (mesh : Bool) : Calls Tryz.prog 6 #[.agg #[.int .i64 La, .int .i64 Rn_, .int .i64 Ot_, .bool mesh, .int .i64 At_, .int .i64 Lt], .slice P L.length pc] w (DPost w (.bool true)) := by
 obtain ⟨at_, hat⟩ : ∃ x, x = bits .and .i64 At_ 1023 := ⟨_, rfl⟩
 obtain ⟨Ri, hRi⟩ : ∃ x, x = bits .and .i64 Rn_ 4095 := ⟨_, rfl⟩
 obtain ⟨Oi, hOi⟩ : ∃ x, x = 1 + bits .and .i64 Ot_ 511 := ⟨_, rfl⟩
 have hopn : ∀ w, Calls Tryz.prog 10 #[.agg #[.int .i64 400, .int .i64 Rn_, .int .i64 Ot_, .bool mesh, .int .i64 At_, .int .i64 Lt]] w (OpnPost at_ 401 Ri Oi mesh w) := by
   intro w
   have h := open15_any 400 Rn_ Ot_ At_ Lt mesh w
   rwa [← hat, ← hRi, ← hOi, show (1 : Int) + bits .and .i64 400 511 = 401 from by kernel_rfl] at h
 have h0 := Hp.ro1 (rRV 1 P pc (L.map iC)) hv
 refine mE 153 ?_
 refine mT (xN h0 23 ([(iV .i64 La), (iV .i64 Rn_), (iV .i64 Ot_), (bV mesh), (iV .i64 At_), (iV .i64 Lt)])) ?_
 rintro _ w2 ⟨g2, rfl, h2⟩
 refine mD h2 [] (alive15_any _) (fun w5 h5 => ?_)
 rcases (by omega : 30 < L.length ∨ L.length <= 30) with hq | hq
 ·
  refine mW 20 (v := (.bool true)) (eqI (bV (decide ((L.length : Int) > 30))) (by simp; omega)) ?_
  exact mQ h5
 ·
  refine mW 20 (v := (.bool false)) (eqI (bV (decide ((L.length : Int) > 30))) (by simp; omega)) ?_
  refine mT (xS h5 0 ([(iV .i64 400), (iV .i64 Rn_), (iV .i64 Ot_), (bV mesh), (iV .i64 At_), (iV .i64 Lt)])) ?_
  rintro _ w11 h11
  refine ma h11 0 ?_
  refine mT (x_open15 (at_ := at_) (L := 401) (Rn := Ri) (Ot := Oi) (mesh := mesh) h11 [(aV ([(iV .i64 400), (iV .i64 Rn_), (iV .i64 Ot_), (bV mesh), (iV .i64 At_), (iV .i64 Lt)]).toArray)] (by kernel_rfl) (hopn _)) ?_
  rintro _ w13 ⟨d, sv, kb, cb, bk, tb, bb, G, Gc, F, kk, ka, kb_, K1, K2, b0, b1, b2, b3, b4, b5, fl, R, A, B, c, c', mv, rfl, hT, ⟨hkk, hka, hkb, hK1, hK2⟩, ⟨hp0, hp1, hp2, hp3, hp4, hp5⟩, h13⟩
  have h14 := h13.share 7 rfl
  have h15 := h14.share 7 rfl
  have z1 := hT.at0
  have z4 := hT.r
  refine mJ 2000009 (fun aJ wJ20 => ∃ (mbJ19_0 : Nat) (xJ20 : Nat -> Value), aJ = patch xJ20 153 [(1, (lV P L.length pc)), (2, (pt g2 0)), (4, (bV false)), (5, (pt d 0)), (6, (iV .i64 at_)), (7, (Value.map (some mbJ19_0)))] /\ Hp (fun _ => False) w wJ20 [rSB ((lV B 16 c')) (mkB 98 5), rSB ((lV A 16 c)) (mkB 98 2), rRV 1 P pc ((L.map iC))] [rNM mbJ19_0 ([kl K1]), rBlk d 37 (dkC tb sv (rpC fl K1 1 bKDC at_ (min (at_ + 600) (at_ + 401)) R) (rpC 4 K2 1 bKDC at_ (min (at_ + 600) (at_ + Oi)) 0) (lV A 16 c) (lV B 16 c')), rBlk sv 73 ([(pt kb 0), (pt cb 0), (pt bk 0)]), rBlk kb 78 ([(Value.iface 28 (pt tb 0)), (pt bb 0)] ++ vb (kl kk)), rBs G bb [User.mk bANN ka 401 Ri false, User.mk bBOB kb_ Oi 0 mesh], rCa Gc cb 64 [], rBlk bk 164 ([mv]), rTab F tb ((sO kk ka kb_ b0 b1 b2 b3 b4 b5)), rBlk g2 23 ([(iV .i64 400), (iV .i64 Rn_), (iV .i64 Ot_), (bV mesh), (iV .i64 At_), (iV .i64 Lt)])]) ?_ (fun hJ20 hhJ20 => ?_)
  ·
   rintro _ wJ20 ⟨mbJ19_0, xJ20, rfl, hJh20⟩
   refine mAt ?_
   refine ma hJh20 8 ?_
   refine mW 39 (v := (iV .i64 Ri)) (eqI (iV .i64 (bits .and .i64 Rn_ 4095)) (congrArg (iV .i64) hRi.symm)) ?_
   refine mW 40 (exec_add _ _ _ _ bO at_ Ri (by kernel_rfl) (by kernel_rfl) (at_ + Ri) rfl (by omega) (by omega) _) ?_
   refine mL (fun mM xX aA wL => ∃ (i : Nat) (now : Int) (F : Nat -> Prop) (Gl : Nat -> Prop) (s : STab) (sl_ : List Sh) (ks : List Bytes) (Kc : Fin 16 -> UInt8) (fl : Int) (nn : Int) (e : Int) (A : Option Addr) (c : Nat) (m : Nat), (i <= L.length) /\ (RnS kk at_ Ri s sl_ ks Kc fl e R m i now) /\ mM = L.length - i /\ aA = patch xX 153 [(2, (pt g2 0)), (5, (pt d 0)), (6, (iV .i64 now)), (7, (Value.map (some mbJ19_0))), (8, (iV .i64 (at_ + Ri))), (41, (lV P L.length pc)), (42, (iV .i64 ((L.length : Int)))), (43, (iV .i64 ((i : Int))))] /\ Hp (fun _ => False) w wL [rSB ((lV A 16 c)) (mkB 98 m), rRV 1 P pc ((L.map iC))] [rBlk d 37 (dkC tb sv (rpC fl Kc nn bKDC at_ e R) (rpC 4 K2 1 bKDC at_ (min (at_ + 600) (at_ + Oi)) 0) (.slice A 16 c) (lV B 16 c')), rTab F tb s, rCa Gl cb 64 sl_, rNM mbJ19_0 ks, rBlk sv 73 ([(pt kb 0), (pt cb 0), (pt bk 0)]), rBlk kb 78 ([(Value.iface 28 (pt tb 0)), (pt bb 0)] ++ vb (kl kk)), rBs G bb [User.mk bANN ka 401 Ri false, User.mk bBOB kb_ Oi 0 mesh], rBlk g2 23 ([(iV .i64 400), (iV .i64 Rn_), (iV .i64 Ot_), (bV mesh), (iV .i64 At_), (iV .i64 Lt)])]) ⟨_, _, 0, at_, F, Gc, ((sO kk ka kb_ b0 b1 b2 b3 b4 b5)), ([]), ([kl K1]), K1, fl, 1, ((min (at_ + 600) (at_ + 401))), A, c, 2, (Nat.zero_le _), (RnS.init hT hK1 hp0 hp1 hp2 hp3 hp4 hp5), rfl, pM, hJh20.sel [1, 7, 5, 0, 2, 3, 4, 8] [1, 2] (by kernel_rfl) rfl rfl⟩ ?_
   rintro _ x24 _ w24 ⟨i, now, F, Gl, s, sl_, ks, Kc, fl, nn, e, A, c, m, hi, hS, rfl, rfl, h24⟩ KL24 hKL24
   refine mAt ?_
   have hri := hS.ri
   have htm := hS.tm
   have hat0 := hS.at0
   by_cases b26 : i < L.length
   ·
    refine mW 44 (v := (.bool true)) (eqI (bV (decide ((i : Int) < (L.length : Int)))) (by simp; omega)) ?_
    obtain ⟨kx, hkx⟩ : ∃ x, L[i]? = some x := ⟨_, List.getElem?_eq_getElem (by omega)⟩
    refine mW 46 (eIx (RV.lenIs (n := L.length) (h24.rd 1 rfl) (List.length_map _)).2 i L.length (RV.lenIs (n := L.length) (h24.rd 1 rfl) (List.length_map _)).1 (by omega) 65 (.tmp 41) (.tmp 43) .i64 3) ?_
    refine mW 47 (eEl (RV.lenIs (n := L.length) (h24.rd 1 rfl) (List.length_map _)).2 i 0 ([(iV .i64 kx)]) (getI hkx) 3 (.tmp 46) (iV .i64 kx)) ?_
    obtain ⟨M31, hM31, hb31⟩ := and_mask kx 63 (by decide)
    refine mW 50 (v := (iV .i64 ((M31 : Int)))) (eqI (iV .i64 (bits .and .i64 kx 63)) (congrArg (iV .i64) hM31)) ?_
    refine mW 51 (exec_add _ _ _ _ bO now ((M31 : Int)) (by kernel_rfl) (by kernel_rfl) (now + (M31 : Int)) rfl (by omega) (by omega) _) ?_
    refine mW 53 (exec_add _ _ _ _ bO (now + (M31 : Int)) 600 (by kernel_rfl) (by kernel_rfl) (now + (M31 : Int) + 600) rfl (by omega) (by omega) _) ?_
    refine ma h24 0 ?_
    refine mT (xN h24 40 ([(sV ByteArray.empty), (iV .i64 0), (iV .i64 0), (bV false), (bV false), (sV ByteArray.empty), (lV none 0 0), (lV none 0 0), (lV none 0 0)])) ?_
    rintro _ w33 ⟨g33, rfl, h33⟩
    refine mT (xR h33 0 ([(sV (⟨#[107, 100, 99]⟩)), (iV .i64 0), (iV .i64 (now + (M31 : Int) + 600)), (bV true), (bV false), (sV (⟨#[107, 100, 99]⟩)), (lV A 16 c), (lV none 0 0), (lV none 0 0)])) ?_
    rintro _ w34 h34
    have h36 := h34.addQ0n 0 (l := mkB 98 m) (ce := 0) (mkB_len _ _).symm rfl (by unfold maxLen; omega)
    obtain ⟨ba, hpa⟩ := pack_authent' (t := now + (M31 : Int)) (q := (i : Int)) (n := s.sumAt (qB bKDC 0 (now + (M31 : Int) + 600) true false (mkB 98 m) []) + 1) (by omega) (by omega)
    have hnb := hS.nb
    have hns := hS.ns
    refine ma h36 0 ?_
    refine mT (x_auth (nb := 6 + 3 * i) (s2 := ((s.digest (qB bKDC 0 (now + (M31 : Int) + 600) true false (mkB 98 m) [])).seal (kl Kc) 7 ba)) h36 2 rfl [(pt d 0), (Value.iface 40 (aV ([(sV (⟨#[107, 100, 99]⟩)), (iV .i64 0), (iV .i64 (now + (M31 : Int) + 600)), (bV true), (bV false), (sV (⟨#[107, 100, 99]⟩)), (lV A 16 c), (lV none 0 0), (lV none 0 0)]).toArray)), (iV .i64 (now + (M31 : Int))), (iV .i64 ((i : Int)))] (by kernel_rfl) (hnb ▸ auth15_any (s := s) (h36.carve1 2 rfl [(true, 1), (false, 0)] rfl rfl) (hS.room (by omega) 2 (by omega)) (sumQn (xs := []) (D := none) (an := 0) (ca := 0) (mkB_len _ _).symm (by omega) okx0 right_kdc (by decide) rfl (inN_is (by omega) (by omega)) (by rw [mkB_len]; decide) (qB0_len (by decide))) hpa)) ?_
    rintro _ w37 ⟨A37, c37, F37, rfl, h37⟩
    refine mT (xS h37 2 ([(sV (⟨#[107, 100, 99]⟩)), (iV .i64 0), (iV .i64 (now + (M31 : Int) + 600)), (bV true), (bV false), (sV (⟨#[107, 100, 99]⟩)), (lV A 16 c), (lV A37 16 c37), (lV none 0 0)])) ?_
    rintro _ w38 h38
    rcases (by omega : at_ + Ri <= now + (M31 : Int) ∨ (now + (M31 : Int) < at_ + Ri /\ Ri = 0) ∨ (now + (M31 : Int) < at_ + Ri /\ Ri ≠ 0)) with hq1 | hq1 | hq1
    ·
     obtain ⟨ec, sl2, hec, hcl⟩ := hS.no (ka := ka) (kb_ := kb_) (Oi := Oi) (mesh := mesh) (by omega) (k := (M31 : Int)) (by omega) hpa (.inl hq1)
     refine mJ 2000017 (fun aJ wJ42 => ∃ (gJ41_0 : Nat) (FJ41_1 : Nat -> Prop) (GJ41_2 : Nat -> Prop) (xJ42 : Nat -> Value), aJ = patch xJ42 153 [(2, (pt g2 0)), (5, (pt d 0)), (6, (iV .i64 (now + (M31 : Int)))), (7, (Value.map (some mbJ19_0))), (8, (iV .i64 (at_ + Ri))), (9, (iV .i64 ((i : Int)))), (10, (iV .i64 kx)), (11, (pt g33 0)), (12, (pt gJ41_0 0)), (13, (iV .i64 ((ec : Int)))), (41, (lV P L.length pc)), (42, (iV .i64 ((L.length : Int)))), (43, (iV .i64 ((i : Int)))), (44, (bV true))] /\ Hp (fun _ => False) w wJ42 [rQx A c (mkB 98 m) none 0 [], rSB ((lV A 16 c)) (mkB 98 m), rRV 1 P pc ((L.map iC))] [rBlk gJ41_0 43 ([(sV ByteArray.empty), (sV ByteArray.empty), (lV none 0 0), (lV none 0 0)]), rTab FJ41_1 tb (((s.digest (qB bKDC 0 (now + (M31 : Int) + 600) true false (mkB 98 m) [])).seal (kl Kc) 7 ba)), rSB ((lV A37 16 c37)) (mkB 98 (6 + 3 * i + 1)), rBlk g33 40 ([(sV (⟨#[107, 100, 99]⟩)), (iV .i64 0), (iV .i64 (now + (M31 : Int) + 600)), (bV true), (bV false), (sV (⟨#[107, 100, 99]⟩)), (lV A 16 c), (lV A37 16 c37), (lV none 0 0)]), rBlk d 37 (dkC tb sv (rpC fl Kc nn bKDC at_ e R) (rpC 4 K2 1 bKDC at_ (min (at_ + 600) (at_ + Oi)) 0) (.slice A 16 c) (lV B 16 c')), rCa GJ41_2 cb 64 sl2, rNM mbJ19_0 ks, rBlk sv 73 ([(pt kb 0), (pt cb 0), (pt bk 0)]), rBlk kb 78 ([(Value.iface 28 (pt tb 0)), (pt bb 0)] ++ vb (kl kk)), rBs G bb [User.mk bANN ka 401 Ri false, User.mk bBOB kb_ Oi 0 mesh], rBlk g2 23 ([(iV .i64 400), (iV .i64 Rn_), (iV .i64 Ot_), (bV mesh), (iV .i64 At_), (iV .i64 Lt)])]) ?_ (fun hJ42 hhJ42 => ?_)
     ·
      rintro _ wJ42 ⟨gJ41_0, FJ41_1, GJ41_2, xJ42, rfl, hJh42⟩
      refine mAt ?_
      refine mW 78 (v := (.bool true)) (eqI (bV (decide (at_ + Ri <= now + (M31 : Int)))) (by simp; omega)) ?_
      refine mW 86 (v := (.bool true)) (eqI (bV (((ec : Int)) != 0)) (by simp; omega)) ?_
      exact mQ hJh42
     ·
      refine dG h38 13 12 (fun W => (rBlk d 37 (dkC tb sv (rpC fl Kc nn bKDC at_ e R) (rpC 4 K2 1 bKDC at_ (min (at_ + 600) (at_ + Oi)) 0) (.slice A 16 c) (lV B 16 c'))).Φ W /\ (rBlk g33 40 ([(sV (⟨#[107, 100, 99]⟩)), (iV .i64 0), (iV .i64 (now + (M31 : Int) + 600)), (bV true), (bV false), (sV (⟨#[107, 100, 99]⟩)), (lV A 16 c), (lV A37 16 c37), (lV none 0 0)])).Φ W /\ True) (fun w46 h46 => ⟨h46.at_ 3 rfl, h46.at_ 2 rfl, trivial⟩) ?_
      intro w46 h46
      refine dP 9 [0, 1, 2, 4] ?_
      refine dL 3 (fun W hW => hW.1) ?_
      refine dL 5 (fun W hW => hW.2.1) ?_
      refine dO 6 10 ?_ ?_
      ·
       refine oT (x_tgsN h46 0 4 rfl rfl [(pt sv 0), (iV .i64 (now + (M31 : Int))), (aV ([(sV (⟨#[107, 100, 99]⟩)), (iV .i64 0), (iV .i64 (now + (M31 : Int) + 600)), (bV true), (bV false), (sV (⟨#[107, 100, 99]⟩)), (lV A 16 c), (lV A37 16 c37), (lV none 0 0)]).toArray)] rfl (by kernel_rfl) (hcl (mkB_len _ _).symm (mkB_len _ _).symm (h46.carve2 0 4 rfl rfl [(true, 6), (true, 7), (false, 1), (true, 1), (false, 0), (true, 8)] rfl rfl))) ?_
       rintro _ w47 ⟨F47, G47, rfl, h47⟩
       refine ⟨⟨h47.at_ 3 rfl, h47.at_ 2 rfl, trivial⟩, ?_⟩
       refine dP 3 [7, 8, 9] ?_
       refine dT 10 (xN h47 43 ([(sV ByteArray.empty), (sV ByteArray.empty), (lV none 0 0), (lV none 0 0)])) ?_
       rintro _ w48 ⟨g48, rfl, h48⟩
       refine ⟨⟨h48.at_ 4 rfl, h48.at_ 3 rfl, trivial⟩, ?_⟩
       refine dT 11 (xR h48 0 ([(sV ByteArray.empty), (sV ByteArray.empty), (lV none 0 0), (lV none 0 0)])) ?_
       rintro _ w49 h49
       refine ⟨⟨h49.at_ 4 rfl, h49.at_ 3 rfl, trivial⟩, ?_⟩
       refine dN 12 ?_
       refine dX ?_
       exact mK hJ42 (hhJ42 _ _ ⟨g48, F47, G47, _, pM, h49.sel [0, 1, 2, 3, 4, 5, 6, 7, 8, 9, 10] [0, 1, 2] (by kernel_rfl) rfl rfl⟩)
      ·
       refine oT (xN h46 43 ([(sV ByteArray.empty), (sV ByteArray.empty), (lV none 0 0), (lV none 0 0)])) ?_
       rintro _ w50 ⟨g50, rfl, h50⟩
       refine ⟨⟨h50.at_ 4 rfl, h50.at_ 3 rfl, trivial⟩, ?_⟩
       refine dT 6 (x_tgsN h50 1 5 rfl rfl [(pt sv 0), (iV .i64 (now + (M31 : Int))), (aV ([(sV (⟨#[107, 100, 99]⟩)), (iV .i64 0), (iV .i64 (now + (M31 : Int) + 600)), (bV true), (bV false), (sV (⟨#[107, 100, 99]⟩)), (lV A 16 c), (lV A37 16 c37), (lV none 0 0)]).toArray)] rfl (by kernel_rfl) (hcl (mkB_len _ _).symm (mkB_len _ _).symm (h50.carve2 1 5 rfl rfl [(true, 7), (true, 8), (false, 1), (true, 2), (false, 0), (true, 9)] rfl rfl))) ?_
       rintro _ w51 ⟨F51, G51, rfl, h51⟩
       refine ⟨⟨h51.at_ 4 rfl, h51.at_ 3 rfl, trivial⟩, ?_⟩
       refine dP 2 [7, 8, 9] ?_
       refine dT 11 (xR h51 0 ([(sV ByteArray.empty), (sV ByteArray.empty), (lV none 0 0), (lV none 0 0)])) ?_
       rintro _ w52 h52
       refine ⟨⟨h52.at_ 4 rfl, h52.at_ 3 rfl, trivial⟩, ?_⟩
       refine dN 12 ?_
       refine dX ?_
       exact mK hJ42 (hhJ42 _ _ ⟨g50, F51, G51, _, pM, h52.sel [0, 1, 2, 3, 4, 5, 6, 7, 8, 9, 10] [0, 1, 2] (by kernel_rfl) rfl rfl⟩)
    ·
     obtain ⟨ec, sl2, hec, hcl⟩ := hS.no (ka := ka) (kb_ := kb_) (Oi := Oi) (mesh := mesh) (by omega) (k := (M31 : Int)) (by omega) hpa (.inr hq1.2)
     refine mJ 2000017 (fun aJ wJ54 => ∃ (gJ53_0 : Nat) (FJ53_1 : Nat -> Prop) (GJ53_2 : Nat -> Prop) (xJ54 : Nat -> Value), aJ = patch xJ54 153 [(2, (pt g2 0)), (5, (pt d 0)), (6, (iV .i64 (now + (M31 : Int)))), (7, (Value.map (some mbJ19_0))), (8, (iV .i64 (at_ + Ri))), (9, (iV .i64 ((i : Int)))), (10, (iV .i64 kx)), (11, (pt g33 0)), (12, (pt gJ53_0 0)), (13, (iV .i64 ((ec : Int)))), (41, (lV P L.length pc)), (42, (iV .i64 ((L.length : Int)))), (43, (iV .i64 ((i : Int)))), (44, (bV true))] /\ Hp (fun _ => False) w wJ54 [rQx A c (mkB 98 m) none 0 [], rSB ((lV A 16 c)) (mkB 98 m), rRV 1 P pc ((L.map iC))] [rBlk gJ53_0 43 ([(sV ByteArray.empty), (sV ByteArray.empty), (lV none 0 0), (lV none 0 0)]), rTab FJ53_1 tb (((s.digest (qB bKDC 0 (now + (M31 : Int) + 600) true false (mkB 98 m) [])).seal (kl Kc) 7 ba)), rSB ((lV A37 16 c37)) (mkB 98 (6 + 3 * i + 1)), rBlk g33 40 ([(sV (⟨#[107, 100, 99]⟩)), (iV .i64 0), (iV .i64 (now + (M31 : Int) + 600)), (bV true), (bV false), (sV (⟨#[107, 100, 99]⟩)), (lV A 16 c), (lV A37 16 c37), (lV none 0 0)]), rBlk d 37 (dkC tb sv (rpC fl Kc nn bKDC at_ e R) (rpC 4 K2 1 bKDC at_ (min (at_ + 600) (at_ + Oi)) 0) (.slice A 16 c) (lV B 16 c')), rCa GJ53_2 cb 64 sl2, rNM mbJ19_0 ks, rBlk sv 73 ([(pt kb 0), (pt cb 0), (pt bk 0)]), rBlk kb 78 ([(Value.iface 28 (pt tb 0)), (pt bb 0)] ++ vb (kl kk)), rBs G bb [User.mk bANN ka 401 Ri false, User.mk bBOB kb_ Oi 0 mesh], rBlk g2 23 ([(iV .i64 400), (iV .i64 Rn_), (iV .i64 Ot_), (bV mesh), (iV .i64 At_), (iV .i64 Lt)])]) ?_ (fun hJ54 hhJ54 => ?_)
     ·
      rintro _ wJ54 ⟨gJ53_0, FJ53_1, GJ53_2, xJ54, rfl, hJh54⟩
      refine mAt ?_
      refine mW 78 (v := (.bool false)) (eqI (bV (decide (at_ + Ri <= now + (M31 : Int)))) (by simp; omega)) ?_
      refine ma hJh54 10 ?_
      refine mW 82 (v := (iV .i64 Ri)) (eqI (iV .i64 (bits .and .i64 Rn_ 4095)) (congrArg (iV .i64) hRi.symm)) ?_
      refine mW 83 (v := (.bool true)) (eqI (bV (Ri == 0)) (by simp; omega)) ?_
      refine mW 86 (v := (.bool true)) (eqI (bV (((ec : Int)) != 0)) (by simp; omega)) ?_
      exact mQ hJh54
     ·
      refine dG h38 13 12 (fun W => (rBlk d 37 (dkC tb sv (rpC fl Kc nn bKDC at_ e R) (rpC 4 K2 1 bKDC at_ (min (at_ + 600) (at_ + Oi)) 0) (.slice A 16 c) (lV B 16 c'))).Φ W /\ (rBlk g33 40 ([(sV (⟨#[107, 100, 99]⟩)), (iV .i64 0), (iV .i64 (now + (M31 : Int) + 600)), (bV true), (bV false), (sV (⟨#[107, 100, 99]⟩)), (lV A 16 c), (lV A37 16 c37), (lV none 0 0)])).Φ W /\ True) (fun w58 h58 => ⟨h58.at_ 3 rfl, h58.at_ 2 rfl, trivial⟩) ?_
      intro w58 h58
      refine dP 9 [0, 1, 2, 4] ?_
      refine dL 3 (fun W hW => hW.1) ?_
      refine dL 5 (fun W hW => hW.2.1) ?_
      refine dO 6 10 ?_ ?_
      ·
       refine oT (x_tgsN h58 0 4 rfl rfl [(pt sv 0), (iV .i64 (now + (M31 : Int))), (aV ([(sV (⟨#[107, 100, 99]⟩)), (iV .i64 0), (iV .i64 (now + (M31 : Int) + 600)), (bV true), (bV false), (sV (⟨#[107, 100, 99]⟩)), (lV A 16 c), (lV A37 16 c37), (lV none 0 0)]).toArray)] rfl (by kernel_rfl) (hcl (mkB_len _ _).symm (mkB_len _ _).symm (h58.carve2 0 4 rfl rfl [(true, 6), (true, 7), (false, 1), (true, 1), (false, 0), (true, 8)] rfl rfl))) ?_
       rintro _ w59 ⟨F59, G59, rfl, h59⟩
       refine ⟨⟨h59.at_ 3 rfl, h59.at_ 2 rfl, trivial⟩, ?_⟩
       refine dP 3 [7, 8, 9] ?_
       refine dT 10 (xN h59 43 ([(sV ByteArray.empty), (sV ByteArray.empty), (lV none 0 0), (lV none 0 0)])) ?_
       rintro _ w60 ⟨g60, rfl, h60⟩
       refine ⟨⟨h60.at_ 4 rfl, h60.at_ 3 rfl, trivial⟩, ?_⟩
       refine dT 11 (xR h60 0 ([(sV ByteArray.empty), (sV ByteArray.empty), (lV none 0 0), (lV none 0 0)])) ?_
       rintro _ w61 h61
       refine ⟨⟨h61.at_ 4 rfl, h61.at_ 3 rfl, trivial⟩, ?_⟩
       refine dN 12 ?_
       refine dX ?_
       exact mK hJ54 (hhJ54 _ _ ⟨g60, F59, G59, _, pM, h61.sel [0, 1, 2, 3, 4, 5, 6, 7, 8, 9, 10] [0, 1, 2] (by kernel_rfl) rfl rfl⟩)
      ·
       refine oT (xN h58 43 ([(sV ByteArray.empty), (sV ByteArray.empty), (lV none 0 0), (lV none 0 0)])) ?_
       rintro _ w62 ⟨g62, rfl, h62⟩
       refine ⟨⟨h62.at_ 4 rfl, h62.at_ 3 rfl, trivial⟩, ?_⟩
       refine dT 6 (x_tgsN h62 1 5 rfl rfl [(pt sv 0), (iV .i64 (now + (M31 : Int))), (aV ([(sV (⟨#[107, 100, 99]⟩)), (iV .i64 0), (iV .i64 (now + (M31 : Int) + 600)), (bV true), (bV false), (sV (⟨#[107, 100, 99]⟩)), (lV A 16 c), (lV A37 16 c37), (lV none 0 0)]).toArray)] rfl (by kernel_rfl) (hcl (mkB_len _ _).symm (mkB_len _ _).symm (h62.carve2 1 5 rfl rfl [(true, 7), (true, 8), (false, 1), (true, 2), (false, 0), (true, 9)] rfl rfl))) ?_
       rintro _ w63 ⟨F63, G63, rfl, h63⟩
       refine ⟨⟨h63.at_ 4 rfl, h63.at_ 3 rfl, trivial⟩, ?_⟩
       refine dP 2 [7, 8, 9] ?_
       refine dT 11 (xR h63 0 ([(sV ByteArray.empty), (sV ByteArray.empty), (lV none 0 0), (lV none 0 0)])) ?_
       rintro _ w64 h64
       refine ⟨⟨h64.at_ 4 rfl, h64.at_ 3 rfl, trivial⟩, ?_⟩
       refine dN 12 ?_
       refine dX ?_
       exact mK hJ54 (hhJ54 _ _ ⟨g62, F63, G63, _, pM, h64.sel [0, 1, 2, 3, 4, 5, 6, 7, 8, 9, 10] [0, 1, 2] (by kernel_rfl) rfl rfl⟩)
    ·
     have hR : R = at_ + Ri := hS.rR (by omega) (by omega)
     obtain ⟨Kf, hKf⟩ := ex_key (6 + i)
     obtain ⟨cc1, hc1⟩ := pack_inside (f := 1) (K := Kf) (s := bANN) (a := at_) (u := min (now + (M31 : Int) + 401) R) (r := R) (rightM_is right_ann (by intro x hx; simp only [List.mem_cons, List.not_mem_nil, or_false] at hx; rcases hx with rfl | rfl | rfl | rfl <;> exact inN_is (by omega) (by omega))) (by decide)
     obtain ⟨cc2, hc2⟩ := pack_reply (f := 1) (K := Kf) (n := 0) (s := bKDC) (a := at_) (u := min (now + (M31 : Int) + 401) R) (r := R) (rightM_is right_kdc (by intro x hx; simp only [List.mem_cons, List.not_mem_nil, or_false] at hx; rcases hx with rfl | rfl | rfl | rfl | rfl <;> exact inN_is (by omega) (by omega))) (by decide)
     refine mJ 2000017 (fun aJ wJ66 => ∃ (gJ65_0 : Nat) (AJ65_1 : Option Addr) (cJ65_2 : Nat) (BJ65_3 : Option Addr) (dJ65_4 : Nat) (FJ65_5 : Nat -> Prop) (GJ65_6 : Nat -> Prop) (xJ66 : Nat -> Value), aJ = patch xJ66 153 [(2, (pt g2 0)), (5, (pt d 0)), (6, (iV .i64 (now + (M31 : Int)))), (7, (Value.map (some mbJ19_0))), (8, (iV .i64 (at_ + Ri))), (9, (iV .i64 ((i : Int)))), (10, (iV .i64 kx)), (11, (pt g33 0)), (12, (pt gJ65_0 0)), (13, (iV .i64 0)), (41, (lV P L.length pc)), (42, (iV .i64 ((L.length : Int)))), (43, (iV .i64 ((i : Int)))), (44, (bV true))] /\ Hp (fun _ => False) w wJ66 [rQx A c (mkB 98 m) none 0 [], rSB ((lV A 16 c)) (mkB 98 m), rRV 1 P pc ((L.map iC))] [rBlk gJ65_0 43 ([(sV (⟨#[97, 110, 110]⟩)), (sV (⟨#[107, 100, 99]⟩)), (lV AJ65_1 16 cJ65_2), (lV BJ65_3 16 dJ65_4)]), rTab FJ65_5 tb ((((((s.digest (qB bKDC 0 (now + (M31 : Int) + 600) true false (mkB 98 m) [])).seal (kl Kc) 7 ba).add SFrom.fresh).seal (kl kk) 2 cc1).seal (kl Kc) 8 cc2)), rCa GJ65_6 cb 64 (keptF (now + (M31 : Int)) sl_ ++ [Sh.mk bANN (now + (M31 : Int)) (i : Int)]), rSB ((lV AJ65_1 16 cJ65_2)) (mkB 98 (7 + 3 * i + 1)), rSB ((lV BJ65_3 16 dJ65_4)) (mkB 98 (7 + 3 * i + 2)), rSB ((lV A37 16 c37)) (mkB 98 (6 + 3 * i + 1)), rBlk g33 40 ([(sV (⟨#[107, 100, 99]⟩)), (iV .i64 0), (iV .i64 (now + (M31 : Int) + 600)), (bV true), (bV false), (sV (⟨#[107, 100, 99]⟩)), (lV A 16 c), (lV A37 16 c37), (lV none 0 0)]), rBlk d 37 (dkC tb sv (rpC fl Kc nn bKDC at_ e R) (rpC 4 K2 1 bKDC at_ (min (at_ + 600) (at_ + Oi)) 0) (.slice A 16 c) (lV B 16 c')), rNM mbJ19_0 ks, rBlk sv 73 ([(pt kb 0), (pt cb 0), (pt bk 0)]), rBlk kb 78 ([(Value.iface 28 (pt tb 0)), (pt bb 0)] ++ vb (kl kk)), rBs G bb [User.mk bANN ka 401 Ri false, User.mk bBOB kb_ Oi 0 mesh], rBlk g2 23 ([(iV .i64 400), (iV .i64 Rn_), (iV .i64 Ot_), (bV mesh), (iV .i64 At_), (iV .i64 Lt)])]) ?_ (fun hJ66 hhJ66 => ?_)
     ·
      rintro _ wJ66 ⟨gJ65_0, AJ65_1, cJ65_2, BJ65_3, dJ65_4, FJ65_5, GJ65_6, xJ66, rfl, hJh66⟩
      refine mAt ?_
      refine mW 78 (v := (.bool false)) (eqI (bV (decide (at_ + Ri <= now + (M31 : Int)))) (by simp; omega)) ?_
      refine ma hJh66 12 ?_
      refine mW 82 (v := (iV .i64 Ri)) (eqI (iV .i64 (bits .and .i64 Rn_ 4095)) (congrArg (iV .i64) hRi.symm)) ?_
      refine mW 83 (v := (.bool false)) (eqI (bV (Ri == 0)) (by simp; omega)) ?_
      obtain ⟨t3, ht3⟩ : ∃ t, t = (((((s.digest (qB bKDC 0 (now + (M31 : Int) + 600) true false (mkB 98 m) [])).seal (kl Kc) 7 ba).add SFrom.fresh).seal (kl kk) 2 cc1).seal (kl Kc) 8 cc2) := ⟨_, rfl⟩
      have hS3 : RnS kk at_ Ri t3 (keptF (now + (M31 : Int)) sl_ ++ [Sh.mk bANN (now + (M31 : Int)) (i : Int)]) (ks ++ [kl Kf]) Kf 1 (min (now + (M31 : Int) + 401) R) R (7 + 3 * i + 1) (i + 1) (now + (M31 : Int)) := by rw [ht3]; exact (hS.step (by omega) (by omega) (pack_le hpa) hc1 (pack_le hc2) (by omega) hR hKf)
      have ho3 : openTh t3 (kl Kc) 8 (mkB 98 (7 + 3 * i + 2)) = .inr (.reply 1 Kf 0 bKDC at_ (min (now + (M31 : Int) + 401) R) R) := by rw [ht3]; exact (Rn_op hS (by omega) hc2)
      have h70 := hJh66
      rw [← ht3] at h70
      clear ht3
      refine mJ 2000020 (fun aJ wJ72 => ∃ (gJ71_0 : Nat) (xJ72 : Nat -> Value), aJ = patch xJ72 153 [(2, (pt g2 0)), (5, (pt d 0)), (6, (iV .i64 (now + (M31 : Int)))), (7, (Value.map (some mbJ19_0))), (8, (iV .i64 (at_ + Ri))), (9, (iV .i64 ((i : Int)))), (10, (iV .i64 kx)), (11, (pt g33 0)), (12, (pt gJ65_0 0)), (13, (iV .i64 0)), (14, (pt gJ71_0 0)), (15, (iV .i64 0)), (41, (lV P L.length pc)), (42, (iV .i64 ((L.length : Int)))), (43, (iV .i64 ((i : Int)))), (44, (bV true)), (84, (bV false))] /\ Hp (fun _ => False) w wJ72 [rQx A c (mkB 98 m) none 0 [], rSB ((lV A 16 c)) (mkB 98 m), rRV 1 P pc ((L.map iC))] [rBlk gJ71_0 33 ([(iV .i64 1)] ++ vb (kl Kf) ++ [(iV .i64 0), (sV (⟨#[107, 100, 99]⟩)), (iV .i64 at_), (iV .i64 (min (now + (M31 : Int) + 401) R)), (iV .i64 R)]), rBlk gJ65_0 43 ([(sV (⟨#[97, 110, 110]⟩)), (sV (⟨#[107, 100, 99]⟩)), (lV AJ65_1 16 cJ65_2), (lV BJ65_3 16 dJ65_4)]), rTab FJ65_5 tb t3, rCa GJ65_6 cb 64 (keptF (now + (M31 : Int)) sl_ ++ [Sh.mk bANN (now + (M31 : Int)) (i : Int)]), rSB ((lV AJ65_1 16 cJ65_2)) (mkB 98 (7 + 3 * i + 1)), rSB ((lV BJ65_3 16 dJ65_4)) (mkB 98 (7 + 3 * i + 2)), rSB ((lV A37 16 c37)) (mkB 98 (6 + 3 * i + 1)), rBlk g33 40 ([(sV (⟨#[107, 100, 99]⟩)), (iV .i64 0), (iV .i64 (now + (M31 : Int) + 600)), (bV true), (bV false), (sV (⟨#[107, 100, 99]⟩)), (lV A 16 c), (lV A37 16 c37), (lV none 0 0)]), rBlk d 37 (dkC tb sv (rpC fl Kc nn bKDC at_ e R) (rpC 4 K2 1 bKDC at_ (min (at_ + 600) (at_ + Oi)) 0) (.slice A 16 c) (lV B 16 c')), rNM mbJ19_0 ks, rBlk sv 73 ([(pt kb 0), (pt cb 0), (pt bk 0)]), rBlk kb 78 ([(Value.iface 28 (pt tb 0)), (pt bb 0)] ++ vb (kl kk)), rBs G bb [User.mk bANN ka 401 Ri false, User.mk bBOB kb_ Oi 0 mesh], rBlk g2 23 ([(iV .i64 400), (iV .i64 Rn_), (iV .i64 Ot_), (bV mesh), (iV .i64 At_), (iV .i64 Lt)])]) ?_ (fun hJ72 hhJ72 => ?_)
      ·
       rintro _ wJ72 ⟨gJ71_0, xJ72, rfl, hJh72⟩
       refine mAt ?_
       refine ma hJh72 0 ?_
       refine mW 113 (v := (iV .i64 0)) (e_lookZ (nm_z (hJh72.at_ 9 rfl) (kl Kf) (kl_len Kf) (hS.new (by omega) hKf)) (.tmp 110) (.tmp 112) (by kernel_rfl) (by kernel_rfl) (by kernel_rfl)) ?_
       refine ma hJh72 0 ?_
       refine ma hJh72 0 ?_
       refine mW 125 (v := (.bool false)) (eqI (bV (R != (at_ + Ri))) (by simp; omega)) ?_
       refine ma hJh72 0 ?_
       refine mW 131 (exec_add _ _ _ _ bO (now + (M31 : Int)) 401 (by kernel_rfl) (by kernel_rfl) (now + (M31 : Int) + 401) rfl (by omega) (by omega) _) ?_
       refine mW 133 (v := (iV .i64 (min (now + (M31 : Int) + 401) (at_ + Ri)))) (e_min (.tmp 131) (.tmp 132) #[2, 2] (by kernel_rfl) .i64 .i64 (now + (M31 : Int) + 401) (at_ + Ri) (by kernel_rfl) (by kernel_rfl) (min (now + (M31 : Int) + 401) (at_ + Ri)) (by split <;> omega) _) ?_
       refine mW 134 (v := (.bool false)) (eqI (bV ((min (now + (M31 : Int) + 401) R) != (min (now + (M31 : Int) + 401) (at_ + Ri)))) (by simp; omega)) ?_
       refine mJ 2000023 (fun aJ wJ77 => ∃ (xJ77 : Nat -> Value), aJ = patch xJ77 153 [(2, (pt g2 0)), (5, (pt d 0)), (6, (iV .i64 (now + (M31 : Int)))), (7, (Value.map (some mbJ19_0))), (8, (iV .i64 (at_ + Ri))), (9, (iV .i64 ((i : Int)))), (10, (iV .i64 kx)), (11, (pt g33 0)), (12, (pt gJ65_0 0)), (13, (iV .i64 0)), (14, (pt gJ71_0 0)), (15, (iV .i64 0)), (41, (lV P L.length pc)), (42, (iV .i64 ((L.length : Int)))), (43, (iV .i64 ((i : Int)))), (44, (bV true)), (84, (bV false)), (135, (bV false))] /\ Hp (fun _ => False) w wJ77 [rQx A c (mkB 98 m) none 0 [], rSB ((lV A 16 c)) (mkB 98 m), rRV 1 P pc ((L.map iC))] [rBlk gJ71_0 33 ([(iV .i64 1)] ++ vb (kl Kf) ++ [(iV .i64 0), (sV (⟨#[107, 100, 99]⟩)), (iV .i64 at_), (iV .i64 (min (now + (M31 : Int) + 401) R)), (iV .i64 R)]), rBlk gJ65_0 43 ([(sV (⟨#[97, 110, 110]⟩)), (sV (⟨#[107, 100, 99]⟩)), (lV AJ65_1 16 cJ65_2), (lV BJ65_3 16 dJ65_4)]), rTab FJ65_5 tb t3, rCa GJ65_6 cb 64 (keptF (now + (M31 : Int)) sl_ ++ [Sh.mk bANN (now + (M31 : Int)) (i : Int)]), rSB ((lV AJ65_1 16 cJ65_2)) (mkB 98 (7 + 3 * i + 1)), rSB ((lV BJ65_3 16 dJ65_4)) (mkB 98 (7 + 3 * i + 2)), rSB ((lV A37 16 c37)) (mkB 98 (6 + 3 * i + 1)), rBlk g33 40 ([(sV (⟨#[107, 100, 99]⟩)), (iV .i64 0), (iV .i64 (now + (M31 : Int) + 600)), (bV true), (bV false), (sV (⟨#[107, 100, 99]⟩)), (lV A 16 c), (lV A37 16 c37), (lV none 0 0)]), rBlk d 37 (dkC tb sv (rpC fl Kc nn bKDC at_ e R) (rpC 4 K2 1 bKDC at_ (min (at_ + 600) (at_ + Oi)) 0) (.slice A 16 c) (lV B 16 c')), rNM mbJ19_0 ((ks ++ [kl Kf])), rBlk sv 73 ([(pt kb 0), (pt cb 0), (pt bk 0)]), rBlk kb 78 ([(Value.iface 28 (pt tb 0)), (pt bb 0)] ++ vb (kl kk)), rBs G bb [User.mk bANN ka 401 Ri false, User.mk bBOB kb_ Oi 0 mesh], rBlk g2 23 ([(iV .i64 400), (iV .i64 Rn_), (iV .i64 Ot_), (bV mesh), (iV .i64 At_), (iV .i64 Lt)])]) ?_ (fun hJ77 hhJ77 => ?_)
       ·
        rintro _ wJ77 ⟨xJ77, rfl, hJh77⟩
        refine mAt ?_
        refine dG hJh77 11 8 (fun W => (rBlk gJ71_0 33 ([(iV .i64 1)] ++ vb (kl Kf) ++ [(iV .i64 0), (sV (⟨#[107, 100, 99]⟩)), (iV .i64 at_), (iV .i64 (min (now + (M31 : Int) + 401) R)), (iV .i64 R)])).Φ W /\ (rBlk gJ65_0 43 ([(sV (⟨#[97, 110, 110]⟩)), (sV (⟨#[107, 100, 99]⟩)), (lV AJ65_1 16 cJ65_2), (lV BJ65_3 16 dJ65_4)])).Φ W /\ True) (fun w78 h78 => ⟨h78.at_ 0 rfl, h78.at_ 1 rfl, trivial⟩) ?_
        intro w78 h78
        refine dP 8 [0, 1, 3] ?_
        refine dL 2 (fun W hW => hW.1) ?_
        refine dP 5 [5, 6] ?_
        refine dL 4 (fun W hW => hW.2.1) ?_
        refine dT 7 (xR h78 8 ([(pt tb 0), (pt sv 0), (iV .i64 1)] ++ vb (kl Kf) ++ [(iV .i64 0), (sV (⟨#[107, 100, 99]⟩)), (iV .i64 at_), (iV .i64 (min (now + (M31 : Int) + 401) R)), (iV .i64 R), (iV .i64 4)] ++ vb (kl K2) ++ [(iV .i64 1), (sV (⟨#[107, 100, 99]⟩)), (iV .i64 at_), (iV .i64 ((min (at_ + 600) (at_ + Oi)))), (iV .i64 0), (sV (⟨#[107, 100, 99]⟩)), (lV A 16 c), (sV (⟨#[107, 100, 99]⟩)), (lV B 16 c')])) ?_
        rintro _ w79 h79
        refine ⟨⟨h79.at_ 0 rfl, h79.at_ 1 rfl, trivial⟩, ?_⟩
        refine dN 8 ?_
        refine dN 9 ?_
        refine dE 10 (xR h79 8 ([(pt tb 0), (pt sv 0), (iV .i64 1)] ++ vb (kl Kf) ++ [(iV .i64 0), (sV (⟨#[107, 100, 99]⟩)), (iV .i64 at_), (iV .i64 (min (now + (M31 : Int) + 401) R)), (iV .i64 R), (iV .i64 4)] ++ vb (kl K2) ++ [(iV .i64 1), (sV (⟨#[107, 100, 99]⟩)), (iV .i64 at_), (iV .i64 ((min (at_ + 600) (at_ + Oi)))), (iV .i64 0), (sV (⟨#[107, 100, 99]⟩)), (lV AJ65_1 16 cJ65_2), (sV (⟨#[107, 100, 99]⟩)), (lV B 16 c')])) ?_
        rintro _ w80 h80
        refine dX ?_
        have h81 := h80.share 4 rfl
        refine mW 152 (exec_add _ _ _ _ bO ((i : Int)) 1 (by kernel_rfl) (by kernel_rfl) ((i : Int) + 1) rfl (by omega) (by omega) _) ?_
        exact mK KL24 (hKL24 _ _ ⟨L.length - (i + 1), _, (by omega), (i + 1), (now + (M31 : Int)), FJ65_5, GJ65_6, t3, ((keptF (now + (M31 : Int)) sl_ ++ [Sh.mk bANN (now + (M31 : Int)) (i : Int)])), ((ks ++ [kl Kf])), Kf, 1, 0, ((min (now + (M31 : Int) + 401) R)), AJ65_1, cJ65_2, (7 + 3 * i + 1), (by omega), hS3, rfl, pM, h81.sel [7, 2, 3, 8, 9, 10, 11, 12] [0, 3] (by kernel_rfl) rfl rfl⟩)
       ·
        refine dG hJh72 8 7 (fun W => (rBlk gJ71_0 33 ([(iV .i64 1)] ++ vb (kl Kf) ++ [(iV .i64 0), (sV (⟨#[107, 100, 99]⟩)), (iV .i64 at_), (iV .i64 (min (now + (M31 : Int) + 401) R)), (iV .i64 R)])).Φ W /\ (rZ mbJ19_0 (kl Kf)).Φ W /\ True) (fun w82 h82 => ⟨h82.at_ 0 rfl, nm_z (h82.at_ 9 rfl) (kl Kf) (kl_len Kf) (hS.new (by omega) hKf), trivial⟩) ?_
        intro w82 h82
        refine dP 6 [0, 1] ?_
        refine dL 2 (fun W hW => hW.1) ?_
        refine dV 3 (v := (iV .i64 0)) (fun W hW => e_lookZ hW.2.1 (.tmp 136) (.tmp 138) (by kernel_rfl) (by kernel_rfl) (by kernel_rfl)) ?_
        refine dP 3 [4] ?_
        refine dT 5 (x_entN h82 9 rfl (kl Kf) (kl_len Kf) (hS.new (by omega) hKf) (.tmp 136) (.tmp 138) (by kernel_rfl) (by kernel_rfl) (by kernel_rfl)) ?_
        rintro _ w83 ⟨ck83, rfl, h83⟩
        refine ⟨⟨h83.at_ 0 rfl, ne_z (h83.at_ 9 rfl) (hS.new (by omega) hKf), trivial⟩, ?_⟩
        refine dP 1 [6] ?_
        refine dE 7 (x_entS h83 9 rfl (.tmp 136) (.tmp 142) (.tmp 140) (by kernel_rfl) (by kernel_rfl) (by kernel_rfl) (by kernel_rfl)) ?_
        rintro _ w84 h84
        refine dX ?_
        exact mK hJ77 (hhJ77 _ _ ⟨_, pM, h84.sel [0, 1, 2, 3, 4, 5, 6, 7, 8, 9, 10, 11, 12, 13] [0, 1, 2] (by kernel_rfl) rfl rfl⟩)
      ·
       refine dG h70 19 18 (fun W => (rBlk d 37 (dkC tb sv (rpC fl Kc nn bKDC at_ e R) (rpC 4 K2 1 bKDC at_ (min (at_ + 600) (at_ + Oi)) 0) (.slice A 16 c) (lV B 16 c'))).Φ W /\ (rBlk gJ65_0 43 ([(sV (⟨#[97, 110, 110]⟩)), (sV (⟨#[107, 100, 99]⟩)), (lV AJ65_1 16 cJ65_2), (lV BJ65_3 16 dJ65_4)])).Φ W /\ True) (fun w85 h85 => ⟨h85.at_ 7 rfl, h85.at_ 0 rfl, trivial⟩) ?_
       intro w85 h85
       refine dP 11 [0, 1, 2, 5, 6, 7, 8, 10] ?_
       refine dL 3 (fun W hW => hW.1) ?_
       refine dP 9 [4] ?_
       refine dL 9 (fun W hW => hW.1) ?_
       refine dL 11 (fun W hW => hW.2.1) ?_
       refine dO 12 16 ?_ ?_
       ·
        refine oT (x_oReply h85 1 rfl Kc 8 (by kernel_rfl) (hS3.ok (by omega)) (h85.at_ 4 rfl) (r := (.inr (.reply 1 Kf 0 bKDC at_ (min (now + (M31 : Int) + 401) R) R))) ho3) ?_
        rintro _ w86 ⟨rfl, h86⟩
        refine ⟨⟨h86.at_ 7 rfl, h86.at_ 0 rfl, trivial⟩, ?_⟩
        refine dP 3 [13, 14, 15] ?_
        refine dT 16 (xN h86 33 ([(iV .i64 0)] ++ vb (List.replicate 16 0) ++ [(iV .i64 0), (sV ByteArray.empty), (iV .i64 0), (iV .i64 0), (iV .i64 0)])) ?_
        rintro _ w87 ⟨g87, rfl, h87⟩
        refine ⟨⟨h87.at_ 8 rfl, h87.at_ 1 rfl, trivial⟩, ?_⟩
        refine dT 17 (xR h87 0 ([(iV .i64 1)] ++ vb (kl Kf) ++ [(iV .i64 0), (sV (⟨#[107, 100, 99]⟩)), (iV .i64 at_), (iV .i64 (min (now + (M31 : Int) + 401) R)), (iV .i64 R)])) ?_
        rintro _ w88 h88
        refine ⟨⟨h88.at_ 8 rfl, h88.at_ 1 rfl, trivial⟩, ?_⟩
        refine dN 18 ?_
        refine dX ?_
        exact mK hJ72 (hhJ72 _ _ ⟨g87, _, pM, h88.sel [0, 1, 2, 3, 4, 5, 6, 7, 8, 9, 10, 11, 12, 13] [0, 1, 2] (by kernel_rfl) rfl rfl⟩)
       ·
        refine oT (xN h85 33 ([(iV .i64 0)] ++ vb (List.replicate 16 0) ++ [(iV .i64 0), (sV ByteArray.empty), (iV .i64 0), (iV .i64 0), (iV .i64 0)])) ?_
        rintro _ w89 ⟨g89, rfl, h89⟩
        refine ⟨⟨h89.at_ 8 rfl, h89.at_ 1 rfl, trivial⟩, ?_⟩
        refine dT 12 (x_oReply h89 2 rfl Kc 8 (by kernel_rfl) (hS3.ok (by omega)) (h89.at_ 5 rfl) (r := (.inr (.reply 1 Kf 0 bKDC at_ (min (now + (M31 : Int) + 401) R) R))) ho3) ?_
        rintro _ w90 ⟨rfl, h90⟩
        refine ⟨⟨h90.at_ 8 rfl, h90.at_ 1 rfl, trivial⟩, ?_⟩
        refine dP 2 [13, 14, 15] ?_
        refine dT 17 (xR h90 0 ([(iV .i64 1)] ++ vb (kl Kf) ++ [(iV .i64 0), (sV (⟨#[107, 100, 99]⟩)), (iV .i64 at_), (iV .i64 (min (now + (M31 : Int) + 401) R)), (iV .i64 R)])) ?_
        rintro _ w91 h91
        refine ⟨⟨h91.at_ 8 rfl, h91.at_ 1 rfl, trivial⟩, ?_⟩
        refine dN 18 ?_
        refine dX ?_
        exact mK hJ72 (hhJ72 _ _ ⟨g89, _, pM, h91.sel [0, 1, 2, 3, 4, 5, 6, 7, 8, 9, 10, 11, 12, 13] [0, 1, 2] (by kernel_rfl) rfl rfl⟩)
     ·
      refine dG h38 13 12 (fun W => (rBlk d 37 (dkC tb sv (rpC fl Kc nn bKDC at_ e R) (rpC 4 K2 1 bKDC at_ (min (at_ + 600) (at_ + Oi)) 0) (.slice A 16 c) (lV B 16 c'))).Φ W /\ (rBlk g33 40 ([(sV (⟨#[107, 100, 99]⟩)), (iV .i64 0), (iV .i64 (now + (M31 : Int) + 600)), (bV true), (bV false), (sV (⟨#[107, 100, 99]⟩)), (lV A 16 c), (lV A37 16 c37), (lV none 0 0)])).Φ W /\ True) (fun w92 h92 => ⟨h92.at_ 3 rfl, h92.at_ 2 rfl, trivial⟩) ?_
      intro w92 h92
      refine dP 9 [0, 1, 2, 4] ?_
      refine dL 3 (fun W hW => hW.1) ?_
      refine dL 5 (fun W hW => hW.2.1) ?_
      refine dO 6 10 ?_ ?_
      ·
       refine oT (x_tgs (nb := 7 + 3 * i) (s3 := (((((s.digest (qB bKDC 0 (now + (M31 : Int) + 600) true false (mkB 98 m) [])).seal (kl Kc) 7 ba).add SFrom.fresh).seal (kl kk) 2 cc1).seal (kl Kc) 8 cc2)) (sl2 := (keptF (now + (M31 : Int)) sl_ ++ [Sh.mk bANN (now + (M31 : Int)) (i : Int)])) (c1 := bANN) (srv := bKDC) h92 0 4 rfl rfl [(pt sv 0), (iV .i64 (now + (M31 : Int))), (aV ([(sV (⟨#[107, 100, 99]⟩)), (iV .i64 0), (iV .i64 (now + (M31 : Int) + 600)), (bV true), (bV false), (sV (⟨#[107, 100, 99]⟩)), (lV A 16 c), (lV A37 16 c37), (lV none 0 0)]).toArray)] rfl (by kernel_rfl) (RnS.yes (mkB_len _ _).symm (mkB_len _ _).symm hS (by omega) (k := (M31 : Int)) (by omega) hpa hq1.1 (h92.carve2 0 4 rfl rfl [(true, 6), (true, 7), (false, 1), (true, 1), (false, 0), (true, 8)] rfl rfl) hKf hc1 hc2)) ?_
       rintro _ w93 ⟨A93, c93, B93, d93, F93, G93, _, rfl, rfl, h93⟩
       refine ⟨⟨h93.at_ 6 rfl, h93.at_ 5 rfl, trivial⟩, ?_⟩
       refine dP 3 [7, 8, 9] ?_
       refine dT 10 (xN h93 43 ([(sV ByteArray.empty), (sV ByteArray.empty), (lV none 0 0), (lV none 0 0)])) ?_
       rintro _ w94 ⟨g94, rfl, h94⟩
       refine ⟨⟨h94.at_ 7 rfl, h94.at_ 6 rfl, trivial⟩, ?_⟩
       refine dT 11 (xR h94 0 ([(sV (⟨#[97, 110, 110]⟩)), (sV (⟨#[107, 100, 99]⟩)), (lV A93 16 c93), (lV B93 16 d93)])) ?_
       rintro _ w95 h95
       refine ⟨⟨h95.at_ 7 rfl, h95.at_ 6 rfl, trivial⟩, ?_⟩
       refine dN 12 ?_
       refine dX ?_
       exact mK hJ66 (hhJ66 _ _ ⟨g94, A93, c93, B93, d93, F93, G93, _, pM, h95.sel [0, 1, 2, 3, 4, 5, 6, 7, 8, 9, 10, 11, 12] [0, 1, 2] (by kernel_rfl) rfl rfl⟩)
      ·
       refine oT (xN h92 43 ([(sV ByteArray.empty), (sV ByteArray.empty), (lV none 0 0), (lV none 0 0)])) ?_
       rintro _ w96 ⟨g96, rfl, h96⟩
       refine ⟨⟨h96.at_ 4 rfl, h96.at_ 3 rfl, trivial⟩, ?_⟩
       refine dT 6 (x_tgs (nb := 7 + 3 * i) (s3 := (((((s.digest (qB bKDC 0 (now + (M31 : Int) + 600) true false (mkB 98 m) [])).seal (kl Kc) 7 ba).add SFrom.fresh).seal (kl kk) 2 cc1).seal (kl Kc) 8 cc2)) (sl2 := (keptF (now + (M31 : Int)) sl_ ++ [Sh.mk bANN (now + (M31 : Int)) (i : Int)])) (c1 := bANN) (srv := bKDC) h96 1 5 rfl rfl [(pt sv 0), (iV .i64 (now + (M31 : Int))), (aV ([(sV (⟨#[107, 100, 99]⟩)), (iV .i64 0), (iV .i64 (now + (M31 : Int) + 600)), (bV true), (bV false), (sV (⟨#[107, 100, 99]⟩)), (lV A 16 c), (lV A37 16 c37), (lV none 0 0)]).toArray)] rfl (by kernel_rfl) (RnS.yes (mkB_len _ _).symm (mkB_len _ _).symm hS (by omega) (k := (M31 : Int)) (by omega) hpa hq1.1 (h96.carve2 1 5 rfl rfl [(true, 7), (true, 8), (false, 1), (true, 2), (false, 0), (true, 9)] rfl rfl) hKf hc1 hc2)) ?_
       rintro _ w97 ⟨A97, c97, B97, d97, F97, G97, _, rfl, rfl, h97⟩
       refine ⟨⟨h97.at_ 7 rfl, h97.at_ 6 rfl, trivial⟩, ?_⟩
       refine dP 2 [7, 8, 9] ?_
       refine dT 11 (xR h97 4 ([(sV (⟨#[97, 110, 110]⟩)), (sV (⟨#[107, 100, 99]⟩)), (lV A97 16 c97), (lV B97 16 d97)])) ?_
       rintro _ w98 h98
       refine ⟨⟨h98.at_ 7 rfl, h98.at_ 6 rfl, trivial⟩, ?_⟩
       refine dN 12 ?_
       refine dX ?_
       exact mK hJ66 (hhJ66 _ _ ⟨g96, A97, c97, B97, d97, F97, G97, _, pM, h98.sel [4, 0, 1, 2, 3, 5, 6, 7, 8, 9, 10, 11, 12] [0, 1, 2] (by kernel_rfl) rfl rfl⟩)
   ·
    refine mW 44 (v := (.bool false)) (eqI (bV (decide ((i : Int) < (L.length : Int)))) (by simp; omega)) ?_
    exact mQ h24
  ·
   refine dG h15 13 12 (fun W => (rBlk g2 23 ([(iV .i64 400), (iV .i64 Rn_), (iV .i64 Ot_), (bV mesh), (iV .i64 At_), (iV .i64 Lt)])).Φ W /\ (rBlk d 37 (dkC tb sv (rpC fl K1 1 bKDC at_ (min (at_ + 600) (at_ + 401)) R) (rpC 4 K2 1 bKDC at_ (min (at_ + 600) (at_ + Oi)) 0) (lV A 16 c) (lV B 16 c'))).Φ W /\ True) (fun w101 h101 => ⟨h101.at_ 7 rfl, h101.at_ 0 rfl, trivial⟩) ?_
   intro w101 h101
   refine dP 8 [0, 4, 5, 6, 7] ?_
   refine dL 1 (fun W hW => hW.1) ?_
   refine dV 2 (v := (iV .i64 at_)) (fun W hW => eqI (iV .i64 (bits .and .i64 At_ 1023)) (congrArg (iV .i64) hat.symm)) ?_
   refine dP 5 [11] ?_
   refine dL 8 (fun W hW => hW.2.1) ?_
   refine dT 3 (x_makeN h101 (by kernel_rfl)) ?_
   rintro _ w102 ⟨mb102, rfl, h102⟩
   refine ⟨⟨h102.at_ 8 rfl, h102.at_ 1 rfl, trivial⟩, ?_⟩
   refine dT 9 (x_insN h102 0 rfl (kl K1) (kl_len K1) List.not_mem_nil (.tmp 29) (.tmp 34) (.const (iV .i64 1)) (by kernel_rfl) (by kernel_rfl) (by kernel_rfl) (by kernel_rfl)) ?_
   rintro _ w103 h103
   refine ⟨⟨h103.at_ 8 rfl, h103.at_ 1 rfl, trivial⟩, ?_⟩
   refine dP 1 [10] ?_
   refine dN 12 ?_
   refine dX ?_
   exact mK hJ20 (hhJ20 _ _ ⟨mb102, _, pM, h103.sel [0, 1, 2, 3, 4, 5, 6, 7, 8] [0, 1, 2] (by kernel_rfl) rfl rfl⟩)
end
section
open Go.ChangeShapes Go.WideShapes Go.ChangeAt Go.RowKit
theorem ktgsRenews_lifted (os : Os) (started : os.Started) (H : Type) (enc : TypeId × Value -> H) :
   ReturnsInHanded {} Tryz.checked os 6 .any (Rows.ktgsRenewsSpec.pre6 enc Tryz.prog Tryz.f6 Rows.ktgsRenewsRow.domain false) (Rows.ktgsRenewsSpec.post enc Tryz.prog Tryz.f6 false true false false) := by
 refine returnsInHanded_of_change (C := Tryz.checked) Tryz.own started (by kernel_rfl) Tryz.func6
   (ChangeSpec.witness6 (enc := enc) (C := Tryz.checked) false ⟨#[], #[.agg #[.int .i64 0, .int .i64 0, .int .i64 0, .bool false, .int .i64 0, .int .i64 0], .slice none 0 0], []⟩ 8 (by kernel_rfl) (by kernel_rfl) (by kernel_rfl) (by kernel_rfl)) ?_
 intro W base args ds gs before hval0 hW hcnd _
 have hval : ∀ (j : Nat) t v, Tryz.f6.params[j]? = some t -> args[j]? = some v -> Value.okWide Tryz.prog W .any base t v := hval0
 have hpost : ∀ W', Below W.heap.size W W' -> Rows.ktgsRenewsSpec.post enc Tryz.prog Tryz.f6 false true false false W args (.bool true) W' := fun W' hb =>
   law_post Tryz.laidOut (by kernel_rfl) Tryz.underlying4 rfl rfl (fun ds hds => by
     have hn : ds.length = 2 := hds
     match ds, hn with
     | [_, _], _ => rfl) hW hb
 obtain ⟨p, q, hA0, hV, rfl, hfz, hnd⟩ := hW
 have hA : DataW.TrodAll enc Tryz.prog W 0 (fun _ => true) true Tryz.f6.params.toList args.toList ds p := hA0
 rw [Tryz.params6] at hA hval
 clear hA0 hval0
 obtain ⟨v0, v1, d0, d1, p0, p1, rfl, rfl, rfl, h0, h1⟩ := trodAll_two hA
 obtain ⟨n00, n01, n02, m03, n04, n05, rfl⟩ := open_rules (hval 0 23 v0 rfl rfl) h0
 obtain ⟨A1, c1, L1, rfl, hr1⟩ := open_li (hval 1 65 v1 rfl rfl) h1
 refine (ktgsRenews_any hr1 n00 n01 n02 n04 n05 m03).mono fun e W' ⟨he, hw⟩ => ?_
 subst he
 exact ⟨_, rfl, hpost W' hw⟩
theorem ktgsRenews_holds : Rows.KtgsRenewsSaid :=
 OpenClaim.holds_of_wide 6 Tryz.f6 rfl rfl rfl rfl rfl rfl rfl ⟨rfl, rfl, rfl, rfl, rfl⟩ rfl rfl rfl rfl rfl (by kernel_rfl) Tryz.func6 (by kernel_rfl)
   (of_decide_eq_true (by kernel_rfl)) (by unfold Func.isWrapper; first | (rw [if_pos (by decide +kernel)]; kernel_rfl) | (rw [if_neg (by decide +kernel)]; exact ⟨rfl, rfl⟩))
   (fun os started H enc _ => ktgsRenews_lifted os started H enc)
end
end Go.Proofs.YtdefpmmdpfpipaaGreat
