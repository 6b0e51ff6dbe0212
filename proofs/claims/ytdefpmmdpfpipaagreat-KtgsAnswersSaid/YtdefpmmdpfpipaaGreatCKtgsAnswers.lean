/- The row of KtgsAnswers: for every input the law returns true and what came in reads as it did. -/
import Derived.ChangeMaps5
import Derived.Test.YtdefpmmdpfpipaaGreatCA15
set_option maxRecDepth 100000
set_option maxHeartbeats 4000000
namespace Go.Proofs.YtdefpmmdpfpipaaGreat
section
open Go.Value renaming int->iV,slice->lV,string->sV,bool->bV,agg->aV
open Go.RowKit Go.QT
theorem renew_no{Gb:Nat->Prop}{sv kb cb bk tb bb ln c dn d en ce ec:Nat}{Kk Ki:Fin 16->UInt8}{us:List User}{us_:User}{srv:ByteArray}{now till nn f a u r:Int}{qr qm:Bool}{qt c1:ByteArray}{C D E:Option Addr}{w:World}
   (h0:Hp (fun _=>False) w w [rBlk sv 73 (svC kb cb bk),rBlk kb 78 (kdcC tb bb Kk),rBs Gb bb us] []) (h32:us.length<=1000000) (hb2:placeB us c1=true) (hu2:us[placeI us c1]?=some us_)
   (hno:(srv.toList≠(⟨#[107,100,99]⟩:ByteArray).toList/\ec=15)∨(srv.toList=(⟨#[107,100,99]⟩:ByteArray).toList/\bits .and .i64 f 1=0/\ec=15)∨(srv.toList=(⟨#[107,100,99]⟩:ByteArray).toList/\bits .and .i64 f 1=1/\r<=now/\ec=12)) :
   Calls Tryz.prog 30 #[pt sv 0,.int .i64 now,(aV ([(iV .i64 f)]++vb (kl Ki)++[(sV c1),(iV .i64 a),(iV .i64 u),(iV .i64 r)]).toArray),(aV ([(sV srv),(iV .i64 nn),(iV .i64 till),(bV qr),(bV qm),(sV qt),(lV C ln c),(lV D dn d),(lV E en ce)]).toArray)] w (DPost w (.tuple #[(aV ([(iV .i64 f)]++vb (kl Ki)++[(sV c1),(iV .i64 a),(iV .i64 u),(iV .i64 r)]).toArray),.int .i64 (ec:Int)])):=by
 have h0:=h0
 refine mE 62 ?_
 refine mN h0 54 ([(zD f)]++vb (kl Ki)++[(sV c1),(zD a),(zD u),(zD r)]) fun g2 w2 h2=>?_
 refine mN h2 40 ([(sV srv),(zD nn),(zD till),(bV qr),(bV qm),(sV qt),(lV C ln c),(lV D dn d),(lV E en ce)]) fun g3 w3 h3=>?_
 refine mN h3 54 ([zO]++vb (List.replicate 16 0)++[zE,zO,zO,zO]) fun g4 w4 h4=>?_
 refine mJ 2000001 (fun aJ wJ7=>∃ (gJ6_0:Nat) (xJ7:Nat->Value),aJ=patch xJ7 62 [(0,(pt sv 0)),(1,(zD now)),(6,(pt g2 0)),(7,(pt g3 0)),(8,(pt g4 0)),(9,zO),(10,(pt gJ6_0 0)),(11,zO)]/\Hp (fun _=>False) w wJ7 [rBlk sv 73 ([(pt kb 0),(pt cb 0),(pt bk 0)]),rBlk kb 78 ([(Value.iface 28 (pt tb 0)),(pt bb 0)]++vb (kl Kk)),rBs Gb bb us] [rBlk gJ6_0 138 ([(sV us_.name)]++vb (kl us_.key)++[(zD us_.life),(zD us_.renew),(bV us_.mesh)]),rBlk g4 54 ([zO]++vb (List.replicate 16 0)++[zE,zO,zO,zO]),rBlk g3 40 ([(sV srv),(zD nn),(zD till),(bV qr),(bV qm),(sV qt),(lV C ln c),(lV D dn d),(lV E en ce)]),rBlk g2 54 ([(zD f)]++vb (kl Ki)++[(sV c1),(zD a),(zD u),(zD r)])]) ?_ (fun hJ7 hhJ7=>?_)
 ·
  rintro _ wJ7 ⟨gJ6_0,xJ7,rfl,hJh7⟩
  refine mAt ?_
  rcases hno with ⟨hq,he⟩|⟨hq,hq1,he⟩|⟨hq,hq1,hq2,he⟩
  ·
   refine ma hJh7 2 ?_
   refine mX 33 (.bool true) (bV (!((srv).toList == (⟨#[107,100,99]⟩:ByteArray).toList))) (by simpa using hq) ?_
   refine ma hJh7 3 ?_
   refine mT (xR hJh7 1 ([(zD f)]++vb (kl Ki)++[(sV c1),(zD a),(zD u),(zD r)])) fun _ w13 h13=>?_
   refine mF (post_2 (r:=.cell 8 54) (s:=.tmp 9) (by kernel_rfl) rfl (rce (h13.at_ 1 rfl)) (rtm (zD 15)) ?_)
   exact ⟨(by rw [he];rfl),h13.below0⟩
  ·
   refine ma hJh7 2 ?_
   refine mX 33 (.bool false) (bV (!((srv).toList == (⟨#[107,100,99]⟩:ByteArray).toList))) (by simpa using hq) ?_
   refine ma hJh7 3 ?_
   refine mX 37 zO (zD (bits .and .i64 f 1)) (by rw [hq1]) ?_
   refine ma hJh7 3 ?_
   refine mT (xR hJh7 1 ([(zD f)]++vb (kl Ki)++[(sV c1),(zD a),(zD u),(zD r)])) fun _ w15 h15=>?_
   refine mF (post_2 (r:=.cell 8 54) (s:=.tmp 9) (by kernel_rfl) rfl (rce (h15.at_ 1 rfl)) (rtm (zD 15)) ?_)
   exact ⟨(by rw [he];rfl),h15.below0⟩
  refine ma hJh7 2 ?_
  refine mX 33 (.bool false) (bV (!((srv).toList == (⟨#[107,100,99]⟩:ByteArray).toList))) (by simpa using hq) ?_
  refine ma hJh7 3 ?_
  refine mX 37 (zD 1) (zD (bits .and .i64 f 1)) (by rw [hq1]) ?_
  refine ma hJh7 3 ?_
  refine mX 45 (.bool true) (bV (decide (r<=now))) (by simp;omega) ?_
  refine ma hJh7 3 ?_
  refine mT (xR hJh7 1 ([(zD f)]++vb (kl Ki)++[(sV c1),(zD a),(zD u),(zD r)])) fun _ w18 h18=>?_
  refine mF (post_2 (r:=.cell 8 54) (s:=.tmp 9) (by kernel_rfl) rfl (rce (h18.at_ 1 rfl)) (rtm (zD 12)) ?_)
  exact ⟨(by rw [he];rfl),h18.below0⟩
 refine dG h4 16 15 (fun W=>(rBlk sv 73 ([(pt kb 0),(pt cb 0),(pt bk 0)])).Φ W/\(rBlk kb 78 ([(Value.iface 28 (pt tb 0)),(pt bb 0)]++vb (kl Kk))).Φ W/\(rBlk g2 54 ([(zD f)]++vb (kl Ki)++[(sV c1),(zD a),(zD u),(zD r)])).Φ W/\True) (fun w19 h19=>⟨h19.rd 0 rfl,h19.rd 1 rfl,h19.at_ 2 rfl,trivial⟩) ?_
 intro w19 h19
 refine dP 12 [0,1,2,7] ?_
 refine dL 3 (fun W hW=>hW.1) ?_
 refine dP 9 [4,5] ?_
 refine dL 6 (fun W hW=>hW.2.1) ?_
 refine dL 8 (fun W hW=>hW.2.2.1) ?_
 refine dO 9 13 ?_ ?_
 ·
  refine oD h19 [(pt bb 0),(sV c1)] (get_yes (h19.rd 2 rfl) h32 hb2 hu2) (fun w20 h20=>⟨⟨h20.rd 0 rfl,h20.rd 1 rfl,h20.at_ 2 rfl,trivial⟩,?_⟩)
  refine dP 3 [10,11,12] ?_
  refine dT 13 (xN h20 138 ([zE]++vb (List.replicate 16 0)++[zO,zO,zV])) ?_
  rintro _ w21 ⟨g21,rfl,h21⟩
  refine ⟨⟨h21.rd 0 rfl,h21.rd 1 rfl,h21.at_ 3 rfl,trivial⟩,?_⟩
  refine dT 14 (xR h21 0 ([(sV us_.name)]++vb (kl us_.key)++[(zD us_.life),(zD us_.renew),(bV us_.mesh)])) ?_
  rintro _ w22 h22
  refine ⟨⟨h22.rd 0 rfl,h22.rd 1 rfl,h22.at_ 3 rfl,trivial⟩,?_⟩
  refine dN 15 ?_
  refine dX ?_
  exact mK hJ7 (hhJ7 _ _ ⟨g21,_,pM,h22.sel [0,1,2,3] [0,1,2] (by kernel_rfl) rfl rfl⟩)
 refine oT (xN h19 138 ([zE]++vb (List.replicate 16 0)++[zO,zO,zV])) ?_
 rintro _ w23 ⟨g23,rfl,h23⟩
 refine ⟨⟨h23.rd 0 rfl,h23.rd 1 rfl,h23.at_ 3 rfl,trivial⟩,?_⟩
 refine dD 9 h23 [(pt bb 0),(sV c1)] (get_yes (h23.rd 2 rfl) h32 hb2 hu2) (fun w24 h24=>⟨⟨h24.rd 0 rfl,h24.rd 1 rfl,h24.at_ 3 rfl,trivial⟩,?_⟩)
 refine dP 2 [10,11,12] ?_
 refine dT 14 (xR h24 0 ([(sV us_.name)]++vb (kl us_.key)++[(zD us_.life),(zD us_.renew),(bV us_.mesh)])) ?_
 rintro _ w25 h25
 refine ⟨⟨h25.rd 0 rfl,h25.rd 1 rfl,h25.at_ 3 rfl,trivial⟩,?_⟩
 refine dN 15 ?_
 refine dX ?_
 exact mK hJ7 (hhJ7 _ _ ⟨g23,_,pM,h25.sel [0,1,2,3] [0,1,2] (by kernel_rfl) rfl rfl⟩)
theorem tgs_no{F G Gb:Nat->Prop}{sv kb cb bk tb bb most en ce:Nat}{Kk Ki:Fin 16->UInt8}{s s2:STab}{sl sl2:List Sh}{us:List User}{srv:ByteArray}{ec:Nat}{ts c1:ByteArray}{now nn till f a u r:Int}{qr qm:Bool}{C D E:Option Addr}{c d:Nat}{l au:Bytes}{Rq:Res}{w:World}
   (h0:Hp (fun q=>F q∨G q) w w [rBlk sv 73 (svC kb cb bk),rBlk kb 78 (kdcC tb bb Kk),rSB (lV C l.length c) l,rSB (lV D au.length d) au,Rq,rBs Gb bb us] [rTab F tb s,rCa G cb most sl])
   (hWho:∀ w',Hp (fun q=>F q∨G q) w' w' [rBlk sv 73 (svC kb cb bk),rBlk kb 78 (kdcC tb bb Kk),rSB (lV C l.length c) l,rSB (lV D au.length d) au,Rq] [rTab F tb s,rCa G cb most sl]->Calls Tryz.prog 29 #[pt sv 0,.int .i64 now,(aV ([(sV ts),(lV C l.length c)]).toArray),(lV D au.length d),(Value.iface 40 (aV ([(sV srv),(iV .i64 nn),(iV .i64 till),(bV qr),(bV qm),(sV ts),(lV C l.length c),(lV D au.length d),(lV E en ce)]).toArray))] w' (WhPost F G tb cb most (aV ([(iV .i64 f)]++vb (kl Ki)++[(sV c1),(iV .i64 a),(iV .i64 u),(iV .i64 r)]).toArray) s2 (0,sl2) w'))
   (hec:ec≠0) (hno:(till<=now/\ec=12)∨(now<till/\qr=qm/\ec=15)∨(now<till/\qr=true/\qm=false/\∀ w',Hp (fun _=>False) w' w' [rBlk sv 73 (svC kb cb bk),rBlk kb 78 (kdcC tb bb Kk),rBs Gb bb us] []->Calls Tryz.prog 30 #[pt sv 0,.int .i64 now,(aV ([(iV .i64 f)]++vb (kl Ki)++[(sV c1),(iV .i64 a),(iV .i64 u),(iV .i64 r)]).toArray),(aV ([(sV srv),(iV .i64 nn),(iV .i64 till),(bV qr),(bV qm),(sV ts),(lV C l.length c),(lV D au.length d),(lV E en ce)]).toArray)] w' (DPost w' (.tuple #[(aV ([(iV .i64 f)]++vb (kl Ki)++[(sV c1),(iV .i64 a),(iV .i64 u),(iV .i64 r)]).toArray),.int .i64 (ec:Int)]))) ∨
     (now<till/\qr=false/\qm=true/\∀ F' w',Hp (fun _=>False) w' w' [rBlk sv 73 (svC kb cb bk),rBlk kb 78 (kdcC tb bb Kk),rTab F' tb s2,rBs Gb bb us,Rq] []->Calls Tryz.prog 31 #[pt sv 0,.int .i64 now,(aV ([(iV .i64 f)]++vb (kl Ki)++[(sV c1),(iV .i64 a),(iV .i64 u),(iV .i64 r)]).toArray),(aV ([(sV srv),(iV .i64 nn),(iV .i64 till),(bV qr),(bV qm),(sV ts),(lV C l.length c),(lV D au.length d),(lV E en ce)]).toArray)] w' (DPost w' (.tuple #[(aV ([(iV .i64 f)]++vb (kl Ki)++[(sV c1),(iV .i64 a),(iV .i64 u),(iV .i64 r)]).toArray),(aV (vb (List.replicate 16 0)).toArray),.int .i64 (ec:Int)])))) :
   Calls Tryz.prog 12 #[pt sv 0,.int .i64 now,(aV ([(sV srv),(iV .i64 nn),(iV .i64 till),(bV qr),(bV qm),(sV ts),(lV C l.length c),(lV D au.length d),(lV E en ce)]).toArray)] w (TgNo F G tb cb most ec s2 sl2 w):=by
 have h0:=h0
 refine mE 108 ?_
 refine mN h0 40 ([(sV srv),(zD nn),(zD till),(bV qr),(bV qm),(sV ts),(lV C l.length c),(lV D au.length d),(lV E en ce)]) fun g2 w2 h2=>?_
 refine mN h2 43 ([zE,zE,zN,zN]) fun g3 w3 h3=>?_
 refine ma h3 1 ?_
 refine ma h3 1 ?_
 refine ma h3 1 ?_
 refine mT (x_who h3 2 3 rfl rfl [(pt sv 0),(zD now),(aV ([(sV ts),(lV C l.length c)]).toArray),(lV D au.length d),(Value.iface 40 (aV ([(sV srv),(zD nn),(zD till),(bV qr),(bV qm),(sV ts),(lV C l.length c),(lV D au.length d),(lV E en ce)]).toArray))] (by decide) (by kernel_rfl) (hWho _ (h3.carve2 2 3 rfl rfl [(false,0),(false,1),(false,2),(false,3),(false,4)] rfl rfl))) ?_
 rintro _ w5 ⟨F5,G5,rfl,h5⟩
 refine mN h5 54 ([zO]++vb (List.replicate 16 0)++[zE,zO,zO,zO]) fun g6 w6 h6=>?_
 refine mT (xR h6 0 ([(zD f)]++vb (kl Ki)++[(sV c1),(zD a),(zD u),(zD r)])) fun _ w7 h7=>?_
 refine mJ 2000004 (fun aJ wJ12=>∃ (gJ11_0:Nat) (gJ11_1:Nat) (xJ12:Nat->Value),aJ=patch xJ12 108 [(0,(pt sv 0)),(1,(zD now)),(5,(pt g2 0)),(6,(pt g3 0)),(7,zO),(8,(pt g6 0)),(9,zO),(10,(pt gJ11_0 0)),(11,(pt gJ11_1 0))]/\Hp (fun q=>F q∨G q) w wJ12 [rBlk sv 73 ([(pt kb 0),(pt cb 0),(pt bk 0)]),rBlk kb 78 ([(Value.iface 28 (pt tb 0)),(pt bb 0)]++vb (kl Kk)),rSB ((lV C l.length c)) l,rSB ((lV D au.length d)) au,Rq,rBs Gb bb us] [rBlk gJ11_1 31 (vb (kl Kk)),rBlk gJ11_0 54 ([(zD f)]++vb (kl Ki)++[(sV c1),(zD a),(zD u),(zD r)]),rBlk g6 54 ([(zD f)]++vb (kl Ki)++[(sV c1),(zD a),(zD u),(zD r)]),rBlk g3 43 ([zE,zE,zN,zN]),rBlk g2 40 ([(sV srv),(zD nn),(zD till),(bV qr),(bV qm),(sV ts),(lV C l.length c),(lV D au.length d),(lV E en ce)]),rTab F5 tb s2,rCa G5 cb most sl2]) ?_ (fun hJ12 hhJ12=>?_)
 ·
  rintro _ wJ12 ⟨gJ11_0,gJ11_1,xJ12,rfl,hJh12⟩
  refine mAt ?_
  rcases hno with ⟨hq,he⟩|⟨hq,hq1,he⟩|⟨hq,hq1,hq2,hq3⟩|⟨hq,hq1,hq2,hq3⟩
  ·
   refine ma hJh12 4 ?_
   refine mX 51 (.bool true) (bV (decide (till<=now))) (by simp;omega) ?_
   refine mT (xR hJh12 3 ([zE,zE,zN,zN])) fun _ w19 h19=>?_
   refine mF (post_2 (r:=.cell 6 43) (s:=.tmp 7) (by kernel_rfl) rfl (rce (h19.at_ 3 rfl)) (rtm (zD 12)) ?_)
   exact ⟨_,_,(by first|rfl|(rw [he];rfl)),h19.sel [5,6] [] rfl rfl rfl⟩
  ·
   refine ma hJh12 4 ?_
   refine mX 51 (.bool false) (bV (decide (till<=now))) (by simp;omega) ?_
   refine ma hJh12 4 ?_
   refine ma hJh12 4 ?_
   refine mX 57 (.bool true) (bV ((qr == qm))) (by rw [hq1];simp) ?_
   refine mT (xR hJh12 3 ([zE,zE,zN,zN])) fun _ w24 h24=>?_
   refine mF (post_2 (r:=.cell 6 43) (s:=.tmp 7) (by kernel_rfl) rfl (rce (h24.at_ 3 rfl)) (rtm (zD 15)) ?_)
   exact ⟨_,_,(by first|rfl|(rw [he];rfl)),h24.sel [5,6] [] rfl rfl rfl⟩
  ·
   refine ma hJh12 4 ?_
   refine mX 51 (.bool false) (bV (decide (till<=now))) (by simp;omega) ?_
   refine ma hJh12 4 ?_
   refine ma hJh12 4 ?_
   refine mX 57 (.bool false) (bV ((qr == qm))) (by rw [hq1,hq2];rfl) ?_
   refine ma hJh12 4 ?_
   refine mX 58 (.bool true) (bV qr) (by rw [hq1]) ?_
   refine ma hJh12 2 ?_
   refine ma hJh12 4 ?_
   refine mD hJh12 [(pt sv 0),(zD now),(aV ([(zD f)]++vb (kl Ki)++[(sV c1),(zD a),(zD u),(zD r)]).toArray),(aV ([(sV srv),(zD nn),(zD till),(bV qr),(bV qm),(sV ts),(lV C l.length c),(lV D au.length d),(lV E en ce)]).toArray)] (hq3 _ (hJh12.carve0 [(false,0),(false,1),(false,5)] rfl)) (fun w27 h27=>?_)
   refine mT (xR h27 1 ([(zD f)]++vb (kl Ki)++[(sV c1),(zD a),(zD u),(zD r)])) fun _ w28 h28=>?_
   refine mX 70 (.bool true) (bV (((ec:Int)) != 0)) (by simp;omega) ?_
   refine mT (xR h28 3 ([zE,zE,zN,zN])) fun _ w32 h32=>?_
   refine mF (post_2 (r:=.cell 6 43) (s:=.tmp 7) (by kernel_rfl) rfl (rce (h32.at_ 3 rfl)) (rtm (zD ((ec:Int)))) ?_)
   exact ⟨_,_,(by first|rfl|(rw [he];rfl)),h32.sel [5,6] [] rfl rfl rfl⟩
  refine ma hJh12 4 ?_
  refine mX 51 (.bool false) (bV (decide (till<=now))) (by simp;omega) ?_
  refine ma hJh12 4 ?_
  refine ma hJh12 4 ?_
  refine mX 57 (.bool false) (bV ((qr == qm))) (by rw [hq1,hq2];rfl) ?_
  refine ma hJh12 4 ?_
  refine mX 58 (.bool false) (bV qr) (by rw [hq1]) ?_
  refine ma hJh12 2 ?_
  refine ma hJh12 4 ?_
  refine mD hJh12 [(pt sv 0),(zD now),(aV ([(zD f)]++vb (kl Ki)++[(sV c1),(zD a),(zD u),(zD r)]).toArray),(aV ([(sV srv),(zD nn),(zD till),(bV qr),(bV qm),(sV ts),(lV C l.length c),(lV D au.length d),(lV E en ce)]).toArray)] (hq3 _ _ (hJh12.carve0 [(false,0),(false,1),(true,5),(false,5),(false,4)] rfl)) (fun w35 h35=>?_)
  refine mT (xR h35 1 ([(zD f)]++vb (kl Ki)++[(sV c1),(zD a),(zD u),(zD r)])) fun _ w36 h36=>?_
  refine mT (xR h36 0 (vb (List.replicate 16 0))) fun _ w37 h37=>?_
  refine mX 70 (.bool true) (bV (((ec:Int)) != 0)) (by simp;omega) ?_
  refine mT (xR h37 3 ([zE,zE,zN,zN])) fun _ w41 h41=>?_
  refine mF (post_2 (r:=.cell 6 43) (s:=.tmp 7) (by kernel_rfl) rfl (rce (h41.at_ 3 rfl)) (rtm (zD ((ec:Int)))) ?_)
  exact ⟨_,_,(by first|rfl|(rw [he];rfl)),h41.sel [5,6] [] rfl rfl rfl⟩
 refine dG h7 12 11 (fun W=>(rBlk g6 54 ([(zD f)]++vb (kl Ki)++[(sV c1),(zD a),(zD u),(zD r)])).Φ W/\(rBlk sv 73 ([(pt kb 0),(pt cb 0),(pt bk 0)])).Φ W/\(rBlk kb 78 ([(Value.iface 28 (pt tb 0)),(pt bb 0)]++vb (kl Kk))).Φ W/\True) (fun w42 h42=>⟨h42.at_ 0 rfl,h42.rd 0 rfl,h42.rd 1 rfl,trivial⟩) ?_
 intro w42 h42
 refine dP 9 [1,2,3] ?_
 refine dL 0 (fun W hW=>hW.1) ?_
 refine dL 4 (fun W hW=>hW.2.1) ?_
 refine dP 5 [5,6] ?_
 refine dL 7 (fun W hW=>hW.2.2.1) ?_
 refine dO 8 9 ?_ ?_
 ·
  refine oT (xN h42 54 ([zO]++vb (List.replicate 16 0)++[zE,zO,zO,zO])) ?_
  rintro _ w43 ⟨g43,rfl,h43⟩
  refine ⟨⟨h43.at_ 1 rfl,h43.rd 0 rfl,h43.rd 1 rfl,trivial⟩,?_⟩
  refine dT 9 (xN h43 31 (vb (List.replicate 16 0))) ?_
  rintro _ w44 ⟨g44,rfl,h44⟩
  refine ⟨⟨h44.at_ 2 rfl,h44.rd 0 rfl,h44.rd 1 rfl,trivial⟩,?_⟩
  refine dT 10 (xR h44 1 ([(zD f)]++vb (kl Ki)++[(sV c1),(zD a),(zD u),(zD r)])) ?_
  rintro _ w45 h45
  refine ⟨⟨h45.at_ 2 rfl,h45.rd 0 rfl,h45.rd 1 rfl,trivial⟩,?_⟩
  refine dE 11 (xR h45 0 (vb (kl Kk))) ?_
  rintro _ w46 h46
  refine dX ?_
  exact mK hJ12 (hhJ12 _ _ ⟨g43,g44,_,pM,h46.sel [0,1,2,3,4,5,6] [0,1,2,3,4,5] (by kernel_rfl) rfl rfl⟩)
 refine oT (xN h42 31 (vb (List.replicate 16 0))) ?_
 rintro _ w47 ⟨g47,rfl,h47⟩
 refine ⟨⟨h47.at_ 1 rfl,h47.rd 0 rfl,h47.rd 1 rfl,trivial⟩,?_⟩
 refine dT 8 (xN h47 54 ([zO]++vb (List.replicate 16 0)++[zE,zO,zO,zO])) ?_
 rintro _ w48 ⟨g48,rfl,h48⟩
 refine ⟨⟨h48.at_ 2 rfl,h48.rd 0 rfl,h48.rd 1 rfl,trivial⟩,?_⟩
 refine dT 10 (xR h48 0 ([(zD f)]++vb (kl Ki)++[(sV c1),(zD a),(zD u),(zD r)])) ?_
 rintro _ w49 h49
 refine ⟨⟨h49.at_ 2 rfl,h49.rd 0 rfl,h49.rd 1 rfl,trivial⟩,?_⟩
 refine dE 11 (xR h49 1 (vb (kl Kk))) ?_
 rintro _ w50 h50
 refine dX ?_
 exact mK hJ12 (hhJ12 _ _ ⟨g48,g47,_,pM,h50.sel [1,0,2,3,4,5,6] [0,1,2,3,4,5] (by kernel_rfl) rfl rfl⟩)
end
section
open Go.Value renaming int->iV,slice->lV,string->sV,bool->bV,agg->aV
open Go.RowKit Go.QT
theorem who_e1{F G:Nat->Prop}{sv kb cb bk tb bb most:Nat}{Kk:Fin 16->UInt8}{s:STab}{sl:List Sh}{now:Int}{C D:Option Addr}{c d:Nat}{l au:Bytes}{Rq:Res}{qv:Value}{ts:ByteArray}{ec:Nat}{w:World}
   (h0:Hp (fun q=>F q∨G q) w w [rBlk sv 73 (svC kb cb bk),rBlk kb 78 (kdcC tb bb Kk),rSB (lV C l.length c) l,rSB (lV D au.length d) au,Rq] [rTab F tb s,rCa G cb most sl]) (hO:∀ w',Hp (fun _=>False) w' w' [rBlk sv 73 (svC kb cb bk),rBlk kb 78 (kdcC tb bb Kk),rTab F tb s,rSB (lV C l.length c) l] []->Calls Tryz.prog 47 #[pt sv 0,.int .i64 now,(aV ([(sV ts),(lV C l.length c)]).toArray)] w' (DPost w' (.tuple #[(aV ([(iV .i64 0)]++vb (List.replicate 16 0)++[(sV ByteArray.empty),(iV .i64 0),(iV .i64 0),(iV .i64 0)]).toArray),.int .i64 (ec:Int)]))) (hec:ec≠0) :
   Calls Tryz.prog 29 #[pt sv 0,.int .i64 now,(aV ([(sV ts),(lV C l.length c)]).toArray),(lV D au.length d),qv] w (WhPost F G tb cb most (aV ([(iV .i64 0)]++vb (kl zK)++[(sV ByteArray.empty),(iV .i64 0),(iV .i64 0),(iV .i64 0)]).toArray) s (ec,sl) w):=by
 have h0:=h0
 refine mE 79 ?_
 refine mN h0 35 ([(sV ts),(lV C l.length c)]) fun g2 w2 h2=>?_
 refine mN h2 54 ([zO]++vb (List.replicate 16 0)++[zE,zO,zO,zO]) fun g3 w3 h3=>?_
 refine ma h3 1 ?_
 refine mD h3 [(pt sv 0),(zD now),(aV ([(sV ts),(lV C l.length c)]).toArray)] (hO _ (h3.carve0 [(false,0),(false,1),(true,2),(false,2)] rfl)) (fun w5 h5=>?_)
 refine mN h5 54 ([zO]++vb (List.replicate 16 0)++[zE,zO,zO,zO]) fun g6 w6 h6=>?_
 refine mT (xR h6 0 ([zO]++vb (List.replicate 16 0)++[zE,zO,zO,zO])) fun _ w7 h7=>?_
 refine mX 23 (.bool true) (bV (((ec:Int)) != 0)) (by simp;omega) ?_
 refine ma h7 0 ?_
 refine mT (xR h7 1 ([zO]++vb (List.replicate 16 0)++[zE,zO,zO,zO])) fun _ w11 h11=>?_
 refine mF (post_2 (r:=.cell 10 54) (s:=.tmp 11) (by kernel_rfl) rfl (rce (h11.at_ 1 rfl)) (rtm (zD ((ec:Int)))) ?_)
 exact ⟨_,_,by kernel_rfl,h11.sel [3,4] [] rfl rfl rfl⟩
theorem who_e2{F G:Nat->Prop}{sv kb cb bk tb bb most:Nat}{Kk:Fin 16->UInt8}{s:STab}{sl:List Sh}{now:Int}{C D:Option Addr}{c d:Nat}{l au:Bytes}{Rq:Res}{qv:Value}{Ky:Fin 16->UInt8}{f a u r:Int}{c1:ByteArray}{w:World}
   (h0:Hp (fun q=>F q∨G q) w w [rBlk sv 73 (svC kb cb bk),rBlk kb 78 (kdcC tb bb Kk),rSB (lV C l.length c) l,rSB (lV D au.length d) au,Rq] [rTab F tb s,rCa G cb most sl]) (hs:TabOk s) (ho:openTh s (kl Kk) 2 l=.inr (.inside f Ky c1 a u r)) (hu:now<u) (hau:s.open_ (kl Ky) 7 au=none) :
   Calls Tryz.prog 29 #[pt sv 0,.int .i64 now,(aV ([(sV (⟨#[107,100,99]⟩)),(lV C l.length c)]).toArray),(lV D au.length d),qv] w (WhPost F G tb cb most (aV ([(iV .i64 0)]++vb (kl zK)++[(sV ByteArray.empty),(iV .i64 0),(iV .i64 0),(iV .i64 0)]).toArray) s (22,sl) w):=by
 have h0:=h0
 refine mE 79 ?_
 refine mN h0 35 ([(sV (⟨#[107,100,99]⟩)),(lV C l.length c)]) fun g2 w2 h2=>?_
 refine mN h2 54 ([zO]++vb (List.replicate 16 0)++[zE,zO,zO,zO]) fun g3 w3 h3=>?_
 refine ma h3 1 ?_
 refine mD h3 [(pt sv 0),(zD now),(aV ([(sV (⟨#[107,100,99]⟩)),(lV C l.length c)]).toArray)] (opened_ok (h3.rd 0 rfl) (h3.rd 1 rfl) (h3.at_ 2 rfl) hs (h3.rd 2 rfl) (by rw [ho];rfl) hu) (fun w5 h5=>?_)
 refine mN h5 54 ([zO]++vb (List.replicate 16 0)++[zE,zO,zO,zO]) fun g6 w6 h6=>?_
 refine mT (xR h6 0 ([(zD f)]++vb (kl Ky)++[(sV c1),(zD a),(zD u),(zD r)])) fun _ w7 h7=>?_
 refine mJ 2000004 (fun aJ wJ12=>∃ (gJ11_0:Nat) (xJ12:Nat->Value),aJ=patch xJ12 79 [(0,(pt sv 0)),(1,(zD now)),(3,(lV D au.length d)),(4,qv),(10,(pt g3 0)),(11,zO),(12,(pt g6 0)),(13,(zD 13)),(14,(pt gJ11_0 0))]/\Hp (fun q=>F q∨G q) w wJ12 [rBlk sv 73 ([(pt kb 0),(pt cb 0),(pt bk 0)]),rBlk kb 78 ([(Value.iface 28 (pt tb 0)),(pt bb 0)]++vb (kl Kk)),rSB ((lV C l.length c)) l,rSB ((lV D au.length d)) au,Rq] [rBlk gJ11_0 100 ([zE,zO,zO]++vb (List.replicate 16 0)++[zN]),rBlk g6 54 ([(zD f)]++vb (kl Ky)++[(sV c1),(zD a),(zD u),(zD r)]),rBlk g3 54 ([zO]++vb (List.replicate 16 0)++[zE,zO,zO,zO]),rBlk g2 35 ([(sV (⟨#[107,100,99]⟩)),(lV C l.length c)]),rTab F tb s,rCa G cb most sl]) ?_ (fun hJ12 hhJ12=>?_)
 ·
  rintro _ wJ12 ⟨gJ11_0,xJ12,rfl,hJh12⟩
  refine mAt ?_
  refine mT (xR hJh12 2 ([zO]++vb (List.replicate 16 0)++[zE,zO,zO,zO])) fun _ w16 h16=>?_
  refine mF (post_2 (r:=.cell 10 54) (s:=.tmp 11) (by kernel_rfl) rfl (rce (h16.at_ 2 rfl)) (rtm (zD 22)) ?_)
  exact ⟨_,_,by kernel_rfl,h16.sel [4,5] [] rfl rfl rfl⟩
 refine dG h7 17 16 (fun W=>(rBlk sv 73 ([(pt kb 0),(pt cb 0),(pt bk 0)])).Φ W/\(rBlk kb 78 ([(Value.iface 28 (pt tb 0)),(pt bb 0)]++vb (kl Kk))).Φ W/\(rBlk g6 54 ([(zD f)]++vb (kl Ky)++[(sV c1),(zD a),(zD u),(zD r)])).Φ W/\True) (fun w17 h17=>⟨h17.rd 0 rfl,h17.rd 1 rfl,h17.at_ 0 rfl,trivial⟩) ?_
 intro w17 h17
 refine dP 12 [0,1,2,7,9] ?_
 refine dL 3 (fun W hW=>hW.1) ?_
 refine dP 9 [4,5] ?_
 refine dL 6 (fun W hW=>hW.2.1) ?_
 refine dL 8 (fun W hW=>hW.2.2.1) ?_
 refine dO 10 14 ?_ ?_
 ·
  refine oD h17 [(Value.iface 28 (pt tb 0)),(aV (vb (kl Ky)).toArray),(zD 7),(lV D au.length d)] (au_none (h17.at_ 3 rfl) hs (h17.rd 3 rfl) hau) (fun w18 h18=>⟨⟨h18.rd 0 rfl,h18.rd 1 rfl,h18.at_ 0 rfl,trivial⟩,?_⟩)
  refine dP 3 [11,12,13] ?_
  refine dT 14 (xN h18 100 ([zE,zO,zO]++vb (List.replicate 16 0)++[zN])) ?_
  rintro _ w19 ⟨g19,rfl,h19⟩
  refine ⟨⟨h19.rd 0 rfl,h19.rd 1 rfl,h19.at_ 1 rfl,trivial⟩,?_⟩
  refine dT 15 (xR h19 0 ([zE,zO,zO]++vb (List.replicate 16 0)++[zN])) ?_
  rintro _ w20 h20
  refine ⟨⟨h20.rd 0 rfl,h20.rd 1 rfl,h20.at_ 1 rfl,trivial⟩,?_⟩
  refine dN 16 ?_
  refine dX ?_
  exact mK hJ12 (hhJ12 _ _ ⟨g19,_,pM,h20.sel [0,1,2,3,4,5] [0,1,2,3,4] (by kernel_rfl) rfl rfl⟩)
 refine oT (xN h17 100 ([zE,zO,zO]++vb (List.replicate 16 0)++[zN])) ?_
 rintro _ w21 ⟨g21,rfl,h21⟩
 refine ⟨⟨h21.rd 0 rfl,h21.rd 1 rfl,h21.at_ 1 rfl,trivial⟩,?_⟩
 refine dD 10 h21 [(Value.iface 28 (pt tb 0)),(aV (vb (kl Ky)).toArray),(zD 7),(lV D au.length d)] (au_none (h21.at_ 4 rfl) hs (h21.rd 3 rfl) hau) (fun w22 h22=>⟨⟨h22.rd 0 rfl,h22.rd 1 rfl,h22.at_ 1 rfl,trivial⟩,?_⟩)
 refine dP 2 [11,12,13] ?_
 refine dT 15 (xR h22 0 ([zE,zO,zO]++vb (List.replicate 16 0)++[zN])) ?_
 rintro _ w23 h23
 refine ⟨⟨h23.rd 0 rfl,h23.rd 1 rfl,h23.at_ 1 rfl,trivial⟩,?_⟩
 refine dN 16 ?_
 refine dX ?_
 exact mK hJ12 (hhJ12 _ _ ⟨g21,_,pM,h23.sel [0,1,2,3,4,5] [0,1,2,3,4] (by kernel_rfl) rfl rfl⟩)
theorem who_e3{F G:Nat->Prop}{sv kb cb bk tb bb most:Nat}{Kk:Fin 16->UInt8}{s:STab}{sl:List Sh}{now:Int}{C D:Option Addr}{c d:Nat}{l au:Bytes}{Rq:Res}{qv:Value}{Ky K2:Fin 16->UInt8}{f a u r t q:Int}{b β:Bytes}{c1:ByteArray}{w:World}
   (h0:Hp (fun q=>F q∨G q) w w [rBlk sv 73 (svC kb cb bk),rBlk kb 78 (kdcC tb bb Kk),rSB (lV C l.length c) l,rSB (lV D au.length d) au,Rq] [rTab F tb s,rCa G cb most sl]) (hs:TabOk s) (ho:openTh s (kl Kk) 2 l=.inr (.inside f Ky c1 a u r)) (hu:now<u) (hau:openTh s (kl Ky) 7 au=.inr (.authent c1 t q K2 b)) (hb:b≠mkB 100 (s.sumAt β+1)) (hSum:∀ w',(rTab F tb s).Φ w'->Rq.Φ w'->Rq.dj (rTab F tb s)->Calls Tryz.prog 23 #[(Value.iface 28 (pt tb 0)),qv] w' (SumPost F tb s β w')) :
   Calls Tryz.prog 29 #[pt sv 0,.int .i64 now,(aV ([(sV (⟨#[107,100,99]⟩)),(lV C l.length c)]).toArray),(lV D au.length d),qv] w (WhPost F G tb cb most (aV ([(iV .i64 0)]++vb (kl zK)++[(sV ByteArray.empty),(iV .i64 0),(iV .i64 0),(iV .i64 0)]).toArray) (s.digest β) (17,sl) w):=by
 have h0:=h0
 refine mE 79 ?_
 refine mN h0 35 ([(sV (⟨#[107,100,99]⟩)),(lV C l.length c)]) fun g2 w2 h2=>?_
 refine mN h2 54 ([zO]++vb (List.replicate 16 0)++[zE,zO,zO,zO]) fun g3 w3 h3=>?_
 refine ma h3 1 ?_
 refine mD h3 [(pt sv 0),(zD now),(aV ([(sV (⟨#[107,100,99]⟩)),(lV C l.length c)]).toArray)] (opened_ok (h3.rd 0 rfl) (h3.rd 1 rfl) (h3.at_ 2 rfl) hs (h3.rd 2 rfl) (by rw [ho];rfl) hu) (fun w5 h5=>?_)
 refine mN h5 54 ([zO]++vb (List.replicate 16 0)++[zE,zO,zO,zO]) fun g6 w6 h6=>?_
 refine mT (xR h6 0 ([(zD f)]++vb (kl Ky)++[(sV c1),(zD a),(zD u),(zD r)])) fun _ w7 h7=>?_
 refine mJ 2000004 (fun aJ wJ12=>∃ (gJ11_0:Nat) (AJ11_1:Option Addr) (cJ11_2:Nat) (xJ12:Nat->Value),aJ=patch xJ12 79 [(0,(pt sv 0)),(1,(zD now)),(3,(lV D au.length d)),(4,qv),(10,(pt g3 0)),(11,zO),(12,(pt g6 0)),(13,zO),(14,(pt gJ11_0 0))]/\Hp (fun q=>F q∨G q) w wJ12 [rBlk sv 73 ([(pt kb 0),(pt cb 0),(pt bk 0)]),rBlk kb 78 ([(Value.iface 28 (pt tb 0)),(pt bb 0)]++vb (kl Kk)),rSB ((lV C l.length c)) l,rSB ((lV D au.length d)) au,Rq] [rBlk gJ11_0 100 ([(sV c1),(zD t),(zD q)]++vb (kl K2)++[(lV AJ11_1 b.length cJ11_2)]),rSB ((lV AJ11_1 b.length cJ11_2)) b,rBlk g6 54 ([(zD f)]++vb (kl Ky)++[(sV c1),(zD a),(zD u),(zD r)]),rBlk g3 54 ([zO]++vb (List.replicate 16 0)++[zE,zO,zO,zO]),rBlk g2 35 ([(sV (⟨#[107,100,99]⟩)),(lV C l.length c)]),rTab F tb s,rCa G cb most sl]) ?_ (fun hJ12 hhJ12=>?_)
 ·
  rintro _ wJ12 ⟨gJ11_0,AJ11_1,cJ11_2,xJ12,rfl,hJh12⟩
  refine mAt ?_
  refine dG hJh12 21 21 (fun W=>(rBlk gJ11_0 100 ([(sV c1),(zD t),(zD q)]++vb (kl K2)++[(lV AJ11_1 b.length cJ11_2)])).Φ W/\(rBlk g6 54 ([(zD f)]++vb (kl Ky)++[(sV c1),(zD a),(zD u),(zD r)])).Φ W/\(rBlk sv 73 ([(pt kb 0),(pt cb 0),(pt bk 0)])).Φ W/\(rBlk kb 78 ([(Value.iface 28 (pt tb 0)),(pt bb 0)]++vb (kl Kk))).Φ W/\True) (fun w16 h16=>⟨h16.at_ 0 rfl,h16.at_ 2 rfl,h16.rd 0 rfl,h16.rd 1 rfl,trivial⟩) ?_
  intro w16 h16
  refine dP 19 [0,2] ?_
  refine dL 1 (fun W hW=>hW.1) ?_
  refine dL 3 (fun W hW=>hW.2.1) ?_
  refine dV 4 (v:=zV) (fun W hW=>eqI (bV (!((c1).toList == (c1).toList))) (by simp)) ?_
  refine dP 10 [5,6,8,9,10,15] ?_
  refine dL 7 (fun W hW=>hW.1) ?_
  refine dL 11 (fun W hW=>hW.2.2.1) ?_
  refine dP 6 [12,13] ?_
  refine dL 14 (fun W hW=>hW.2.2.2.1) ?_
  refine dT 16 (x_sumX h16 5 rfl β [(Value.iface 28 (pt tb 0)),qv] _ (by kernel_rfl) (fun hT=>hSum _ hT (h16.rd 4 rfl) (h16.rdis 4 5 _ _ rfl rfl))) ?_
  rintro _ w17 ⟨A17,c17,F17,rfl,h17⟩
  refine ⟨⟨h17.at_ 2 rfl,h17.at_ 4 rfl,h17.rd 0 rfl,h17.rd 1 rfl,trivial⟩,?_⟩
  refine dT 17 (x_equalT h17 false (by kernel_rfl) (h17.at_ 3 rfl) (h17.at_ 1 rfl) (decide_eq_false hb)) ?_
  rintro _ w18 ⟨rfl,h18⟩
  refine ⟨⟨h18.at_ 2 rfl,h18.at_ 4 rfl,h18.rd 0 rfl,h18.rd 1 rfl,trivial⟩,?_⟩
  refine dP 0 [18,19,20] ?_
  refine dX ?_
  refine mT (xR h18 5 ([zO]++vb (List.replicate 16 0)++[zE,zO,zO,zO])) fun _ w20 h20=>?_
  refine mF (post_2 (r:=.cell 10 54) (s:=.tmp 11) (by kernel_rfl) rfl (rce (h20.at_ 5 rfl)) (rtm (zD 17)) ?_)
  exact ⟨_,_,by kernel_rfl,h20.sel [0,7] [] rfl rfl rfl⟩
 refine dG h7 17 16 (fun W=>(rBlk sv 73 ([(pt kb 0),(pt cb 0),(pt bk 0)])).Φ W/\(rBlk kb 78 ([(Value.iface 28 (pt tb 0)),(pt bb 0)]++vb (kl Kk))).Φ W/\(rBlk g6 54 ([(zD f)]++vb (kl Ky)++[(sV c1),(zD a),(zD u),(zD r)])).Φ W/\True) (fun w21 h21=>⟨h21.rd 0 rfl,h21.rd 1 rfl,h21.at_ 0 rfl,trivial⟩) ?_
 intro w21 h21
 refine dP 12 [0,1,2,7,9] ?_
 refine dL 3 (fun W hW=>hW.1) ?_
 refine dP 9 [4,5] ?_
 refine dL 6 (fun W hW=>hW.2.1) ?_
 refine dL 8 (fun W hW=>hW.2.2.1) ?_
 refine dO 10 14 ?_ ?_
 ·
  refine oT (x_au h21 [(Value.iface 28 (pt tb 0)),(aV (vb (kl Ky)).toArray),(zD 7),(lV D au.length d)] (by kernel_rfl) (auth_any (h21.at_ 3 rfl) hs (h21.rd 3 rfl) hau)) ?_
  rintro _ w22 ⟨A22,c22,rfl,h22⟩
  refine ⟨⟨h22.rd 0 rfl,h22.rd 1 rfl,h22.at_ 1 rfl,trivial⟩,?_⟩
  refine dP 3 [11,12,13] ?_
  refine dT 14 (xN h22 100 ([zE,zO,zO]++vb (List.replicate 16 0)++[zN])) ?_
  rintro _ w23 ⟨g23,rfl,h23⟩
  refine ⟨⟨h23.rd 0 rfl,h23.rd 1 rfl,h23.at_ 2 rfl,trivial⟩,?_⟩
  refine dT 15 (xR h23 0 ([(sV c1),(zD t),(zD q)]++vb (kl K2)++[(lV A22 b.length c22)])) ?_
  rintro _ w24 h24
  refine ⟨⟨h24.rd 0 rfl,h24.rd 1 rfl,h24.at_ 2 rfl,trivial⟩,?_⟩
  refine dN 16 ?_
  refine dX ?_
  exact mK hJ12 (hhJ12 _ _ ⟨g23,A22,c22,_,pM,h24.sel [0,1,2,3,4,5,6] [0,1,2,3,4] (by kernel_rfl) rfl rfl⟩)
 refine oT (xN h21 100 ([zE,zO,zO]++vb (List.replicate 16 0)++[zN])) ?_
 rintro _ w25 ⟨g25,rfl,h25⟩
 refine ⟨⟨h25.rd 0 rfl,h25.rd 1 rfl,h25.at_ 1 rfl,trivial⟩,?_⟩
 refine dT 10 (x_au h25 [(Value.iface 28 (pt tb 0)),(aV (vb (kl Ky)).toArray),(zD 7),(lV D au.length d)] (by kernel_rfl) (auth_any (h25.at_ 4 rfl) hs (h25.rd 3 rfl) hau)) ?_
 rintro _ w26 ⟨A26,c26,rfl,h26⟩
 refine ⟨⟨h26.rd 0 rfl,h26.rd 1 rfl,h26.at_ 2 rfl,trivial⟩,?_⟩
 refine dP 2 [11,12,13] ?_
 refine dT 15 (xR h26 1 ([(sV c1),(zD t),(zD q)]++vb (kl K2)++[(lV A26 b.length c26)])) ?_
 rintro _ w27 h27
 refine ⟨⟨h27.rd 0 rfl,h27.rd 1 rfl,h27.at_ 2 rfl,trivial⟩,?_⟩
 refine dN 16 ?_
 refine dX ?_
 exact mK hJ12 (hhJ12 _ _ ⟨g25,A26,c26,_,pM,h27.sel [1,0,2,3,4,5,6] [0,1,2,3,4] (by kernel_rfl) rfl rfl⟩)
theorem met_arg{sv kb cb bk ln c dn d ce ec:Nat}{Ki:Fin 16->UInt8}{now till nn f a u r:Int}{qr qm:Bool}{qt srv c1:ByteArray}{C D E:Option Addr}{en:Nat}{w:World}
   (h0:Hp (fun _=>False) w w [rBlk sv 73 (svC kb cb bk)] []) (hen:en≠1) (he:ec=7) :
   Calls Tryz.prog 31 #[pt sv 0,.int .i64 now,(aV ([(iV .i64 f)]++vb (kl Ki)++[(sV c1),(iV .i64 a),(iV .i64 u),(iV .i64 r)]).toArray),(aV ([(sV srv),(iV .i64 nn),(iV .i64 till),(bV qr),(bV qm),(sV qt),(lV C ln c),(lV D dn d),(lV E en ce)]).toArray)] w (DPost w (.tuple #[(aV ([(iV .i64 f)]++vb (kl Ki)++[(sV c1),(iV .i64 a),(iV .i64 u),(iV .i64 r)]).toArray),(aV (vb (List.replicate 16 0)).toArray),.int .i64 (ec:Int)])):=by
 have h0:=h0
 refine mE 91 ?_
 refine mN h0 54 ([(zD f)]++vb (kl Ki)++[(sV c1),(zD a),(zD u),(zD r)]) fun g2 w2 h2=>?_
 refine mN h2 40 ([(sV srv),(zD nn),(zD till),(bV qr),(bV qm),(sV qt),(lV C ln c),(lV D dn d),(lV E en ce)]) fun g3 w3 h3=>?_
 refine mN h3 54 ([zO]++vb (List.replicate 16 0)++[zE,zO,zO,zO]) fun g4 w4 h4=>?_
 refine mN h4 31 (vb (List.replicate 16 0)) fun g5 w5 h5=>?_
 refine ma h5 2 ?_
 refine mX 18 (.bool true) (bV (((en:Int)) != 1)) (by simp;omega) ?_
 refine ma h5 3 ?_
 refine mT (xR h5 1 ([(zD f)]++vb (kl Ki)++[(sV c1),(zD a),(zD u),(zD r)])) fun _ w9 h9=>?_
 refine mT (xR h9 0 (vb (List.replicate 16 0))) fun _ w10 h10=>?_
 refine mF (post_3 (r:=.cell 8 54) (s:=.cell 9 31) (t:=.tmp 10) (by kernel_rfl) rfl (rce (h10.at_ 1 rfl)) (rce (h10.at_ 0 rfl)) (rtm (zD 7)) ?_)
 exact ⟨(by first|rfl|(rw [he];rfl)),h10.below0⟩
theorem met_no{F Gb:Nat->Prop}{sv kb cb bk tb bb ln c dn d ce ec:Nat}{Kk Ki:Fin 16->UInt8}{s:STab}{us:List User}{now till nn f a u r:Int}{qr qm:Bool}{qt srv c1:ByteArray}{C D E:Option Addr}{B:Option Addr}{pb:Bytes}{e:Nat}{K2:Fin 16->UInt8}{pf pa pu pr:Int}{pn:ByteArray}{w:World}
   (h0:Hp (fun _=>False) w w [rBlk sv 73 (svC kb cb bk),rBlk kb 78 (kdcC tb bb Kk),rTab F tb s,rBs Gb bb us,rRV 2 E ce [[.string ⟨#[107,100,99]⟩,.slice B pb.length e]],rSB (.slice B pb.length e) pb] []) (h32:us.length<=1000000) (hno:(ec≠0/\(∀ w',Hp (fun _=>False) w' w' [rBlk sv 73 (svC kb cb bk),rBlk kb 78 (kdcC tb bb Kk),rTab F tb s,rSB (.slice B pb.length e) pb] []->Calls Tryz.prog 47 #[pt sv 0,.int .i64 now,(aV ([(sV (⟨#[107,100,99]⟩)),(lV B pb.length e)]).toArray)] w' (DPost w' (.tuple #[(aV ([(iV .i64 0)]++vb (List.replicate 16 0)++[(sV ByteArray.empty),(iV .i64 0),(iV .i64 0),(iV .i64 0)]).toArray),.int .i64 (ec:Int)]))))∨((∀ w',Hp (fun _=>False) w' w' [rBlk sv 73 (svC kb cb bk),rBlk kb 78 (kdcC tb bb Kk),rTab F tb s,rSB (.slice B pb.length e) pb] []->Calls Tryz.prog 47 #[pt sv 0,.int .i64 now,(aV ([(sV (⟨#[107,100,99]⟩)),(lV B pb.length e)]).toArray)] w' (DPost w' (.tuple #[(aV ([(iV .i64 pf)]++vb (kl K2)++[(sV pn),(iV .i64 pa),(iV .i64 pu),(iV .i64 pr)]).toArray),.int .i64 0])))/\placeB us srv=false/\ec=9)∨((∀ w',Hp (fun _=>False) w' w' [rBlk sv 73 (svC kb cb bk),rBlk kb 78 (kdcC tb bb Kk),rTab F tb s,rSB (.slice B pb.length e) pb] []->Calls Tryz.prog 47 #[pt sv 0,.int .i64 now,(aV ([(sV (⟨#[107,100,99]⟩)),(lV B pb.length e)]).toArray)] w' (DPost w' (.tuple #[(aV ([(iV .i64 pf)]++vb (kl K2)++[(sV pn),(iV .i64 pa),(iV .i64 pu),(iV .i64 pr)]).toArray),.int .i64 0])))/\placeB us srv=true/\∃ us_,us[placeI us srv]?=some us_/\(pn.toList≠srv.toList∨(pn.toList=srv.toList/\srv.toList=c1.toList))/\ec=17)∨((∀ w',Hp (fun _=>False) w' w' [rBlk sv 73 (svC kb cb bk),rBlk kb 78 (kdcC tb bb Kk),rTab F tb s,rSB (.slice B pb.length e) pb] []->Calls Tryz.prog 47 #[pt sv 0,.int .i64 now,(aV ([(sV (⟨#[107,100,99]⟩)),(lV B pb.length e)]).toArray)] w' (DPost w' (.tuple #[(aV ([(iV .i64 pf)]++vb (kl K2)++[(sV pn),(iV .i64 pa),(iV .i64 pu),(iV .i64 pr)]).toArray),.int .i64 0])))/\placeB us srv=true/\∃ us_,us[placeI us srv]?=some us_/\pn.toList=srv.toList/\srv.toList≠c1.toList/\us_.mesh=false/\ec=15)) :
   Calls Tryz.prog 31 #[pt sv 0,.int .i64 now,(aV ([(iV .i64 f)]++vb (kl Ki)++[(sV c1),(iV .i64 a),(iV .i64 u),(iV .i64 r)]).toArray),(aV ([(sV srv),(iV .i64 nn),(iV .i64 till),(bV qr),(bV qm),(sV qt),(lV C ln c),(lV D dn d),(lV E 1 ce)]).toArray)] w (DPost w (.tuple #[(aV ([(iV .i64 f)]++vb (kl Ki)++[(sV c1),(iV .i64 a),(iV .i64 u),(iV .i64 r)]).toArray),(aV (vb (List.replicate 16 0)).toArray),.int .i64 (ec:Int)])):=by
 have h0:=h0
 refine mE 91 ?_
 refine mN h0 54 ([(zD f)]++vb (kl Ki)++[(sV c1),(zD a),(zD u),(zD r)]) fun g2 w2 h2=>?_
 refine mN h2 40 ([(sV srv),(zD nn),(zD till),(bV qr),(bV qm),(sV qt),(lV C ln c),(lV D dn d),(lV E 1 ce)]) fun g3 w3 h3=>?_
 refine mN h3 54 ([zO]++vb (List.replicate 16 0)++[zE,zO,zO,zO]) fun g4 w4 h4=>?_
 refine mN h4 31 (vb (List.replicate 16 0)) fun g5 w5 h5=>?_
 refine ma h5 2 ?_
 rcases hno with ⟨hq,hO⟩|⟨hO,hq,he⟩|⟨hO,hb2,us_,hu2,hq,he⟩|⟨hO,hb2,us_,hu2,hq,hq2,hq3,he⟩
 ·
  refine ma h5 2 ?_
  refine mW 26 (eIx (RV.lenIs (n:=1) (h5.rd 4 rfl) rfl).2 0 1 (RV.lenIs (n:=1) (h5.rd 4 rfl) rfl).1 (by decide) 38 (.tmp 25) (.const zO) .i64 35) ?_
  refine mW 27 (e_elemsN (RV.lenIs (n:=1) (h5.rd 4 rfl) rfl).2 0 0 ([(sV (⟨#[107,100,99]⟩)),(lV B pb.length e)]) rfl 35 (.tmp 26) (by kernel_rfl) ([(sV (⟨#[107,100,99]⟩)),(lV B pb.length e)]) (by kernel_rfl) (by kernel_rfl) (by kernel_rfl)) ?_
  refine mD h5 [(pt sv 0),(zD now),(aV ([(sV (⟨#[107,100,99]⟩)),(lV B pb.length e)]).toArray)] (hO _ (h5.carve0 [(false,0),(false,1),(false,2),(false,5)] rfl)) (fun w10 h10=>?_)
  refine mN h10 54 ([zO]++vb (List.replicate 16 0)++[zE,zO,zO,zO]) fun g11 w11 h11=>?_
  refine mT (xR h11 0 ([zO]++vb (List.replicate 16 0)++[zE,zO,zO,zO])) fun _ w12 h12=>?_
  refine mX 32 (.bool true) (bV (((ec:Int)) != 0)) (by simp;omega) ?_
  refine ma h12 4 ?_
  refine mT (xR h12 2 ([(zD f)]++vb (kl Ki)++[(sV c1),(zD a),(zD u),(zD r)])) fun _ w16 h16=>?_
  refine mT (xR h16 1 (vb (List.replicate 16 0))) fun _ w17 h17=>?_
  refine mF (post_3 (r:=.cell 8 54) (s:=.cell 9 31) (t:=.tmp 10) (by kernel_rfl) rfl (rce (h17.at_ 2 rfl)) (rce (h17.at_ 1 rfl)) (rtm (zD ((ec:Int)))) ?_)
  exact ⟨(by first|rfl|(rw [he];rfl)),h17.below0⟩
 ·
  refine ma h5 2 ?_
  refine mW 26 (eIx (RV.lenIs (n:=1) (h5.rd 4 rfl) rfl).2 0 1 (RV.lenIs (n:=1) (h5.rd 4 rfl) rfl).1 (by decide) 38 (.tmp 25) (.const zO) .i64 35) ?_
  refine mW 27 (e_elemsN (RV.lenIs (n:=1) (h5.rd 4 rfl) rfl).2 0 0 ([(sV (⟨#[107,100,99]⟩)),(lV B pb.length e)]) rfl 35 (.tmp 26) (by kernel_rfl) ([(sV (⟨#[107,100,99]⟩)),(lV B pb.length e)]) (by kernel_rfl) (by kernel_rfl) (by kernel_rfl)) ?_
  refine mD h5 [(pt sv 0),(zD now),(aV ([(sV (⟨#[107,100,99]⟩)),(lV B pb.length e)]).toArray)] (hO _ (h5.carve0 [(false,0),(false,1),(false,2),(false,5)] rfl)) (fun w18 h18=>?_)
  refine mN h18 54 ([zO]++vb (List.replicate 16 0)++[zE,zO,zO,zO]) fun g19 w19 h19=>?_
  refine mT (xR h19 0 ([(zD pf)]++vb (kl K2)++[(sV pn),(zD pa),(zD pu),(zD pr)])) fun _ w20 h20=>?_
  refine mJ 2000006 (fun aJ wJ25=>∃ (gJ24_0:Nat) (xJ25:Nat->Value),aJ=patch xJ25 91 [(0,(pt sv 0)),(6,(pt g2 0)),(7,(pt g3 0)),(8,(pt g4 0)),(9,(pt g5 0)),(10,zO),(11,(pt g19 0)),(12,(zD 9)),(13,(pt gJ24_0 0))]/\Hp (fun _=>False) w wJ25 [rBlk sv 73 ([(pt kb 0),(pt cb 0),(pt bk 0)]),rBlk kb 78 ([(Value.iface 28 (pt tb 0)),(pt bb 0)]++vb (kl Kk)),rTab F tb s,rBs Gb bb us,rRV 2 E ce ([[.string ⟨#[107,100,99]⟩,.slice B pb.length e]]),rSB ((lV B pb.length e)) pb] [rBlk gJ24_0 138 ([zE]++vb (List.replicate 16 0)++[zO,zO,zV]),rBlk g19 54 ([(zD pf)]++vb (kl K2)++[(sV pn),(zD pa),(zD pu),(zD pr)]),rBlk g5 31 (vb (List.replicate 16 0)),rBlk g4 54 ([zO]++vb (List.replicate 16 0)++[zE,zO,zO,zO]),rBlk g3 40 ([(sV srv),(zD nn),(zD till),(bV qr),(bV qm),(sV qt),(lV C ln c),(lV D dn d),(lV E 1 ce)]),rBlk g2 54 ([(zD f)]++vb (kl Ki)++[(sV c1),(zD a),(zD u),(zD r)])]) ?_ (fun hJ25 hhJ25=>?_)
  ·
   rintro _ wJ25 ⟨gJ24_0,xJ25,rfl,hJh25⟩
   refine mAt ?_
   refine ma hJh25 5 ?_
   refine mT (xR hJh25 3 ([(zD f)]++vb (kl Ki)++[(sV c1),(zD a),(zD u),(zD r)])) fun _ w29 h29=>?_
   refine mT (xR h29 2 (vb (List.replicate 16 0))) fun _ w30 h30=>?_
   refine mF (post_3 (r:=.cell 8 54) (s:=.cell 9 31) (t:=.tmp 10) (by kernel_rfl) rfl (rce (h30.at_ 3 rfl)) (rce (h30.at_ 2 rfl)) (rtm (zD 9)) ?_)
   exact ⟨(by first|rfl|(rw [he];rfl)),h30.below0⟩
  refine dG h20 16 15 (fun W=>(rBlk sv 73 ([(pt kb 0),(pt cb 0),(pt bk 0)])).Φ W/\(rBlk kb 78 ([(Value.iface 28 (pt tb 0)),(pt bb 0)]++vb (kl Kk))).Φ W/\(rBlk g3 40 ([(sV srv),(zD nn),(zD till),(bV qr),(bV qm),(sV qt),(lV C ln c),(lV D dn d),(lV E 1 ce)])).Φ W/\True) (fun w31 h31=>⟨h31.rd 0 rfl,h31.rd 1 rfl,h31.at_ 3 rfl,trivial⟩) ?_
  intro w31 h31
  refine dP 12 [0,1,2,7] ?_
  refine dL 3 (fun W hW=>hW.1) ?_
  refine dP 9 [4,5] ?_
  refine dL 6 (fun W hW=>hW.2.1) ?_
  refine dL 8 (fun W hW=>hW.2.2.1) ?_
  refine dO 9 13 ?_ ?_
  ·
   refine oD h31 [(pt bb 0),(sV srv)] (get_no (h31.rd 3 rfl) h32 hq) (fun w32 h32=>⟨⟨h32.rd 0 rfl,h32.rd 1 rfl,h32.at_ 3 rfl,trivial⟩,?_⟩)
   refine dP 3 [10,11,12] ?_
   refine dT 13 (xN h32 138 ([zE]++vb (List.replicate 16 0)++[zO,zO,zV])) ?_
   rintro _ w33 ⟨g33,rfl,h33⟩
   refine ⟨⟨h33.rd 0 rfl,h33.rd 1 rfl,h33.at_ 4 rfl,trivial⟩,?_⟩
   refine dT 14 (xR h33 0 ([zE]++vb (List.replicate 16 0)++[zO,zO,zV])) ?_
   rintro _ w34 h34
   refine ⟨⟨h34.rd 0 rfl,h34.rd 1 rfl,h34.at_ 4 rfl,trivial⟩,?_⟩
   refine dN 15 ?_
   refine dX ?_
   exact mK hJ25 (hhJ25 _ _ ⟨g33,_,pM,h34.sel [0,1,2,3,4,5] [0,1,2,3,4,5] (by kernel_rfl) rfl rfl⟩)
  refine oT (xN h31 138 ([zE]++vb (List.replicate 16 0)++[zO,zO,zV])) ?_
  rintro _ w35 ⟨g35,rfl,h35⟩
  refine ⟨⟨h35.rd 0 rfl,h35.rd 1 rfl,h35.at_ 4 rfl,trivial⟩,?_⟩
  refine dD 9 h35 [(pt bb 0),(sV srv)] (get_no (h35.rd 3 rfl) h32 hq) (fun w36 h36=>⟨⟨h36.rd 0 rfl,h36.rd 1 rfl,h36.at_ 4 rfl,trivial⟩,?_⟩)
  refine dP 2 [10,11,12] ?_
  refine dT 14 (xR h36 0 ([zE]++vb (List.replicate 16 0)++[zO,zO,zV])) ?_
  rintro _ w37 h37
  refine ⟨⟨h37.rd 0 rfl,h37.rd 1 rfl,h37.at_ 4 rfl,trivial⟩,?_⟩
  refine dN 15 ?_
  refine dX ?_
  exact mK hJ25 (hhJ25 _ _ ⟨g35,_,pM,h37.sel [0,1,2,3,4,5] [0,1,2,3,4,5] (by kernel_rfl) rfl rfl⟩)
 ·
  refine ma h5 2 ?_
  refine mW 26 (eIx (RV.lenIs (n:=1) (h5.rd 4 rfl) rfl).2 0 1 (RV.lenIs (n:=1) (h5.rd 4 rfl) rfl).1 (by decide) 38 (.tmp 25) (.const zO) .i64 35) ?_
  refine mW 27 (e_elemsN (RV.lenIs (n:=1) (h5.rd 4 rfl) rfl).2 0 0 ([(sV (⟨#[107,100,99]⟩)),(lV B pb.length e)]) rfl 35 (.tmp 26) (by kernel_rfl) ([(sV (⟨#[107,100,99]⟩)),(lV B pb.length e)]) (by kernel_rfl) (by kernel_rfl) (by kernel_rfl)) ?_
  refine mD h5 [(pt sv 0),(zD now),(aV ([(sV (⟨#[107,100,99]⟩)),(lV B pb.length e)]).toArray)] (hO _ (h5.carve0 [(false,0),(false,1),(false,2),(false,5)] rfl)) (fun w38 h38=>?_)
  refine mN h38 54 ([zO]++vb (List.replicate 16 0)++[zE,zO,zO,zO]) fun g39 w39 h39=>?_
  refine mT (xR h39 0 ([(zD pf)]++vb (kl K2)++[(sV pn),(zD pa),(zD pu),(zD pr)])) fun _ w40 h40=>?_
  refine mJ 2000006 (fun aJ wJ45=>∃ (gJ44_0:Nat) (xJ45:Nat->Value),aJ=patch xJ45 91 [(0,(pt sv 0)),(6,(pt g2 0)),(7,(pt g3 0)),(8,(pt g4 0)),(9,(pt g5 0)),(10,zO),(11,(pt g39 0)),(12,zO),(13,(pt gJ44_0 0))]/\Hp (fun _=>False) w wJ45 [rBlk sv 73 ([(pt kb 0),(pt cb 0),(pt bk 0)]),rBlk kb 78 ([(Value.iface 28 (pt tb 0)),(pt bb 0)]++vb (kl Kk)),rTab F tb s,rBs Gb bb us,rRV 2 E ce ([[.string ⟨#[107,100,99]⟩,.slice B pb.length e]]),rSB ((lV B pb.length e)) pb] [rBlk gJ44_0 138 ([(sV us_.name)]++vb (kl us_.key)++[(zD us_.life),(zD us_.renew),(bV us_.mesh)]),rBlk g39 54 ([(zD pf)]++vb (kl K2)++[(sV pn),(zD pa),(zD pu),(zD pr)]),rBlk g5 31 (vb (List.replicate 16 0)),rBlk g4 54 ([zO]++vb (List.replicate 16 0)++[zE,zO,zO,zO]),rBlk g3 40 ([(sV srv),(zD nn),(zD till),(bV qr),(bV qm),(sV qt),(lV C ln c),(lV D dn d),(lV E 1 ce)]),rBlk g2 54 ([(zD f)]++vb (kl Ki)++[(sV c1),(zD a),(zD u),(zD r)])]) ?_ (fun hJ45 hhJ45=>?_)
  ·
   rintro _ wJ45 ⟨gJ44_0,xJ45,rfl,hJh45⟩
   refine mAt ?_
   rcases hq with hq|⟨hq,hq1⟩
   ·
    refine ma hJh45 1 ?_
    refine ma hJh45 4 ?_
    refine mX 60 (.bool true) (bV (!((pn).toList == (srv).toList))) (by simpa using hq) ?_
    refine ma hJh45 5 ?_
    refine mT (xR hJh45 3 ([(zD f)]++vb (kl Ki)++[(sV c1),(zD a),(zD u),(zD r)])) fun _ w51 h51=>?_
    refine mT (xR h51 2 (vb (List.replicate 16 0))) fun _ w52 h52=>?_
    refine mF (post_3 (r:=.cell 8 54) (s:=.cell 9 31) (t:=.tmp 10) (by kernel_rfl) rfl (rce (h52.at_ 3 rfl)) (rce (h52.at_ 2 rfl)) (rtm (zD 17)) ?_)
    exact ⟨(by first|rfl|(rw [he];rfl)),h52.below0⟩
   refine ma hJh45 1 ?_
   refine ma hJh45 4 ?_
   refine mX 60 (.bool false) (bV (!((pn).toList == (srv).toList))) (by simpa using hq) ?_
   refine ma hJh45 4 ?_
   refine ma hJh45 5 ?_
   refine mX 66 (.bool true) (bV ((srv).toList == (c1).toList)) (by simpa using hq1) ?_
   refine ma hJh45 5 ?_
   refine mT (xR hJh45 3 ([(zD f)]++vb (kl Ki)++[(sV c1),(zD a),(zD u),(zD r)])) fun _ w54 h54=>?_
   refine mT (xR h54 2 (vb (List.replicate 16 0))) fun _ w55 h55=>?_
   refine mF (post_3 (r:=.cell 8 54) (s:=.cell 9 31) (t:=.tmp 10) (by kernel_rfl) rfl (rce (h55.at_ 3 rfl)) (rce (h55.at_ 2 rfl)) (rtm (zD 17)) ?_)
   exact ⟨(by first|rfl|(rw [he];rfl)),h55.below0⟩
  refine dG h40 16 15 (fun W=>(rBlk sv 73 ([(pt kb 0),(pt cb 0),(pt bk 0)])).Φ W/\(rBlk kb 78 ([(Value.iface 28 (pt tb 0)),(pt bb 0)]++vb (kl Kk))).Φ W/\(rBlk g3 40 ([(sV srv),(zD nn),(zD till),(bV qr),(bV qm),(sV qt),(lV C ln c),(lV D dn d),(lV E 1 ce)])).Φ W/\True) (fun w56 h56=>⟨h56.rd 0 rfl,h56.rd 1 rfl,h56.at_ 3 rfl,trivial⟩) ?_
  intro w56 h56
  refine dP 12 [0,1,2,7] ?_
  refine dL 3 (fun W hW=>hW.1) ?_
  refine dP 9 [4,5] ?_
  refine dL 6 (fun W hW=>hW.2.1) ?_
  refine dL 8 (fun W hW=>hW.2.2.1) ?_
  refine dO 9 13 ?_ ?_
  ·
   refine oD h56 [(pt bb 0),(sV srv)] (get_yes (h56.rd 3 rfl) h32 hb2 hu2) (fun w57 h57=>⟨⟨h57.rd 0 rfl,h57.rd 1 rfl,h57.at_ 3 rfl,trivial⟩,?_⟩)
   refine dP 3 [10,11,12] ?_
   refine dT 13 (xN h57 138 ([zE]++vb (List.replicate 16 0)++[zO,zO,zV])) ?_
   rintro _ w58 ⟨g58,rfl,h58⟩
   refine ⟨⟨h58.rd 0 rfl,h58.rd 1 rfl,h58.at_ 4 rfl,trivial⟩,?_⟩
   refine dT 14 (xR h58 0 ([(sV us_.name)]++vb (kl us_.key)++[(zD us_.life),(zD us_.renew),(bV us_.mesh)])) ?_
   rintro _ w59 h59
   refine ⟨⟨h59.rd 0 rfl,h59.rd 1 rfl,h59.at_ 4 rfl,trivial⟩,?_⟩
   refine dN 15 ?_
   refine dX ?_
   exact mK hJ45 (hhJ45 _ _ ⟨g58,_,pM,h59.sel [0,1,2,3,4,5] [0,1,2,3,4,5] (by kernel_rfl) rfl rfl⟩)
  refine oT (xN h56 138 ([zE]++vb (List.replicate 16 0)++[zO,zO,zV])) ?_
  rintro _ w60 ⟨g60,rfl,h60⟩
  refine ⟨⟨h60.rd 0 rfl,h60.rd 1 rfl,h60.at_ 4 rfl,trivial⟩,?_⟩
  refine dD 9 h60 [(pt bb 0),(sV srv)] (get_yes (h60.rd 3 rfl) h32 hb2 hu2) (fun w61 h61=>⟨⟨h61.rd 0 rfl,h61.rd 1 rfl,h61.at_ 4 rfl,trivial⟩,?_⟩)
  refine dP 2 [10,11,12] ?_
  refine dT 14 (xR h61 0 ([(sV us_.name)]++vb (kl us_.key)++[(zD us_.life),(zD us_.renew),(bV us_.mesh)])) ?_
  rintro _ w62 h62
  refine ⟨⟨h62.rd 0 rfl,h62.rd 1 rfl,h62.at_ 4 rfl,trivial⟩,?_⟩
  refine dN 15 ?_
  refine dX ?_
  exact mK hJ45 (hhJ45 _ _ ⟨g60,_,pM,h62.sel [0,1,2,3,4,5] [0,1,2,3,4,5] (by kernel_rfl) rfl rfl⟩)
 refine ma h5 2 ?_
 refine mW 26 (eIx (RV.lenIs (n:=1) (h5.rd 4 rfl) rfl).2 0 1 (RV.lenIs (n:=1) (h5.rd 4 rfl) rfl).1 (by decide) 38 (.tmp 25) (.const zO) .i64 35) ?_
 refine mW 27 (e_elemsN (RV.lenIs (n:=1) (h5.rd 4 rfl) rfl).2 0 0 ([(sV (⟨#[107,100,99]⟩)),(lV B pb.length e)]) rfl 35 (.tmp 26) (by kernel_rfl) ([(sV (⟨#[107,100,99]⟩)),(lV B pb.length e)]) (by kernel_rfl) (by kernel_rfl) (by kernel_rfl)) ?_
 refine mD h5 [(pt sv 0),(zD now),(aV ([(sV (⟨#[107,100,99]⟩)),(lV B pb.length e)]).toArray)] (hO _ (h5.carve0 [(false,0),(false,1),(false,2),(false,5)] rfl)) (fun w63 h63=>?_)
 refine mN h63 54 ([zO]++vb (List.replicate 16 0)++[zE,zO,zO,zO]) fun g64 w64 h64=>?_
 refine mT (xR h64 0 ([(zD pf)]++vb (kl K2)++[(sV pn),(zD pa),(zD pu),(zD pr)])) fun _ w65 h65=>?_
 refine mJ 2000006 (fun aJ wJ70=>∃ (gJ69_0:Nat) (xJ70:Nat->Value),aJ=patch xJ70 91 [(0,(pt sv 0)),(6,(pt g2 0)),(7,(pt g3 0)),(8,(pt g4 0)),(9,(pt g5 0)),(10,zO),(11,(pt g64 0)),(12,zO),(13,(pt gJ69_0 0))]/\Hp (fun _=>False) w wJ70 [rBlk sv 73 ([(pt kb 0),(pt cb 0),(pt bk 0)]),rBlk kb 78 ([(Value.iface 28 (pt tb 0)),(pt bb 0)]++vb (kl Kk)),rTab F tb s,rBs Gb bb us,rRV 2 E ce ([[.string ⟨#[107,100,99]⟩,.slice B pb.length e]]),rSB ((lV B pb.length e)) pb] [rBlk gJ69_0 138 ([(sV us_.name)]++vb (kl us_.key)++[(zD us_.life),(zD us_.renew),(bV us_.mesh)]),rBlk g64 54 ([(zD pf)]++vb (kl K2)++[(sV pn),(zD pa),(zD pu),(zD pr)]),rBlk g5 31 (vb (List.replicate 16 0)),rBlk g4 54 ([zO]++vb (List.replicate 16 0)++[zE,zO,zO,zO]),rBlk g3 40 ([(sV srv),(zD nn),(zD till),(bV qr),(bV qm),(sV qt),(lV C ln c),(lV D dn d),(lV E 1 ce)]),rBlk g2 54 ([(zD f)]++vb (kl Ki)++[(sV c1),(zD a),(zD u),(zD r)])]) ?_ (fun hJ70 hhJ70=>?_)
 ·
  rintro _ wJ70 ⟨gJ69_0,xJ70,rfl,hJh70⟩
  refine mAt ?_
  skip
  refine ma hJh70 1 ?_
  refine ma hJh70 4 ?_
  refine mX 60 (.bool false) (bV (!((pn).toList == (srv).toList))) (by simpa using hq) ?_
  refine ma hJh70 4 ?_
  refine ma hJh70 5 ?_
  refine mX 66 (.bool false) (bV ((srv).toList == (c1).toList)) (by simpa using hq2) ?_
  refine ma hJh70 0 ?_
  refine mX 73 (.bool true) (bV (!us_.mesh)) (by rw [hq3];rfl) ?_
  refine ma hJh70 5 ?_
  refine mT (xR hJh70 3 ([(zD f)]++vb (kl Ki)++[(sV c1),(zD a),(zD u),(zD r)])) fun _ w77 h77=>?_
  refine mT (xR h77 2 (vb (List.replicate 16 0))) fun _ w78 h78=>?_
  refine mF (post_3 (r:=.cell 8 54) (s:=.cell 9 31) (t:=.tmp 10) (by kernel_rfl) rfl (rce (h78.at_ 3 rfl)) (rce (h78.at_ 2 rfl)) (rtm (zD 15)) ?_)
  exact ⟨(by first|rfl|(rw [he];rfl)),h78.below0⟩
 refine dG h65 16 15 (fun W=>(rBlk sv 73 ([(pt kb 0),(pt cb 0),(pt bk 0)])).Φ W/\(rBlk kb 78 ([(Value.iface 28 (pt tb 0)),(pt bb 0)]++vb (kl Kk))).Φ W/\(rBlk g3 40 ([(sV srv),(zD nn),(zD till),(bV qr),(bV qm),(sV qt),(lV C ln c),(lV D dn d),(lV E 1 ce)])).Φ W/\True) (fun w79 h79=>⟨h79.rd 0 rfl,h79.rd 1 rfl,h79.at_ 3 rfl,trivial⟩) ?_
 intro w79 h79
 refine dP 12 [0,1,2,7] ?_
 refine dL 3 (fun W hW=>hW.1) ?_
 refine dP 9 [4,5] ?_
 refine dL 6 (fun W hW=>hW.2.1) ?_
 refine dL 8 (fun W hW=>hW.2.2.1) ?_
 refine dO 9 13 ?_ ?_
 ·
  refine oD h79 [(pt bb 0),(sV srv)] (get_yes (h79.rd 3 rfl) h32 hb2 hu2) (fun w80 h80=>⟨⟨h80.rd 0 rfl,h80.rd 1 rfl,h80.at_ 3 rfl,trivial⟩,?_⟩)
  refine dP 3 [10,11,12] ?_
  refine dT 13 (xN h80 138 ([zE]++vb (List.replicate 16 0)++[zO,zO,zV])) ?_
  rintro _ w81 ⟨g81,rfl,h81⟩
  refine ⟨⟨h81.rd 0 rfl,h81.rd 1 rfl,h81.at_ 4 rfl,trivial⟩,?_⟩
  refine dT 14 (xR h81 0 ([(sV us_.name)]++vb (kl us_.key)++[(zD us_.life),(zD us_.renew),(bV us_.mesh)])) ?_
  rintro _ w82 h82
  refine ⟨⟨h82.rd 0 rfl,h82.rd 1 rfl,h82.at_ 4 rfl,trivial⟩,?_⟩
  refine dN 15 ?_
  refine dX ?_
  exact mK hJ70 (hhJ70 _ _ ⟨g81,_,pM,h82.sel [0,1,2,3,4,5] [0,1,2,3,4,5] (by kernel_rfl) rfl rfl⟩)
 refine oT (xN h79 138 ([zE]++vb (List.replicate 16 0)++[zO,zO,zV])) ?_
 rintro _ w83 ⟨g83,rfl,h83⟩
 refine ⟨⟨h83.rd 0 rfl,h83.rd 1 rfl,h83.at_ 4 rfl,trivial⟩,?_⟩
 refine dD 9 h83 [(pt bb 0),(sV srv)] (get_yes (h83.rd 3 rfl) h32 hb2 hu2) (fun w84 h84=>⟨⟨h84.rd 0 rfl,h84.rd 1 rfl,h84.at_ 4 rfl,trivial⟩,?_⟩)
 refine dP 2 [10,11,12] ?_
 refine dT 14 (xR h84 0 ([(sV us_.name)]++vb (kl us_.key)++[(zD us_.life),(zD us_.renew),(bV us_.mesh)])) ?_
 rintro _ w85 h85
 refine ⟨⟨h85.rd 0 rfl,h85.rd 1 rfl,h85.at_ 4 rfl,trivial⟩,?_⟩
 refine dN 15 ?_
 refine dX ?_
 exact mK hJ70 (hhJ70 _ _ ⟨g83,_,pM,h85.sel [0,1,2,3,4,5] [0,1,2,3,4,5] (by kernel_rfl) rfl rfl⟩)
end
section
open Go.RowKit Go.QT
/-- A request's cells. -/
def tqC(srv:ByteArray)(nn till:Int)(r m:Bool)(ts:ByteArray)(x au ex:Value):List Value:=[Value.string srv,.int .i64 nn,.int .i64 till,.bool r,.bool m,.string ts,x,au,ex]
section
variable{F G Gb:Nat->Prop}{sv kb cb bk tb bb most ce:Nat}{Kk Ki Kx K K2:Fin 16->UInt8}{s:STab}{sl:List Sh}{us:List User}{us_:User}{srv:ByteArray}{now nn till f fo a u r pf pa pu pr t q:Int}{C D E B:Option Addr}{c d e n:Nat}{l au pb b1 b2:Bytes}{w:World}{qr qm:Bool}{xs:List Xt}
/-- Who shows a ticket, and that they have its key. -/
theorem whoQ(hs:TabOk s)(hsm:s.sums.length<=1000)(hx:openTh s (kl Kk) 2 l=.inr (.inside f Ki bANN a u r))(hu:now<u)(hk:SK s (qB srv nn till qr qm l xs) n)(hau:openTh s (kl Ki) 7 au=.inr (.authent bANN t q K2 (mkB 100 (n+1))))(hok:okXt xs)
   (hsr:rightN srv=true) (hss:srv.size<=300) (hn:inN nn=true) (ht:inN till=true) (hll:l.length<=300) (hlen:(qB srv nn till qr qm l xs).length<=4096) {rr:Nat × List Sh}
   (hsh:∀ w',(rCa G cb most sl).Φ w'->Calls Tryz.prog 50 #[pt cb 0,.int .i64 now,.string bANN,.int .i64 t,.int .i64 q] w' (ShPost G cb most w' rr)) (w':World)
   (h:Hp (fun q=>F q∨G q) w' w' [rBlk sv 73 (svC kb cb bk),rBlk kb 78 (kdcC tb bb Kk),rSB (.slice C l.length c) l,rSB (.slice D au.length d) au,rQx C c l E ce xs] [rTab F tb s,rCa G cb most sl]) :
   Calls Tryz.prog 29 #[pt sv 0,.int .i64 now,.agg #[.string bKDC,.slice C l.length c],.slice D au.length d,.iface 40 (.agg (tqC srv nn till qr qm bKDC (.slice C l.length c) (.slice D au.length d) (.slice E xs.length ce)).toArray)] w' (WhPost F G tb cb most (.agg ([Value.int .i64 f]++vb (kl Ki)++[Value.string bANN,.int .i64 a,.int .i64 u,.int .i64 r]).toArray) s rr w'):=by
 have hw:=who_any (β:=qB srv nn till qr qm l xs) (rr:=rr) h hs (by omega) hx hu hau (by rw [hk.1])
   (sumQ_any (xs:=xs) (D:=D) (an:=au.length) (ca:=d) hsm hok hsr hss hn ht hll hlen) hsh
 rwa [dig_old hk] at hw
end
end
section
open Go.RowKit Go.QT
theorem numL_all:∀ (l:List DVal),(∀ v ∈ l,numV v=true)->numL l=true
 | [],_=>rfl
 | v::l,h=>by rw [numL,h v List.mem_cons_self,numL_all l (fun u hu=>h u (List.mem_cons_of_mem _ hu))];rfl
theorem tgsD_num{s:ByteArray}{n t:Int}{r m:Bool}{b:Bytes}{xs:List Xt}(hn:inN n=true)(ht:inN t=true)(hx:okXt xs):numV (tgsD s n t r m (.ticket bKDC b) [] (xs.map Xt.th))=true:=by
 unfold tgsD
 rw [numV,decide_eq_true (by decide),Bool.true_and]
 refine numL_all _ fun v hv=>?_
 simp only [List.mem_cons,List.not_mem_nil,or_false] at hv
 rcases hv with rfl|rfl|rfl|rfl|rfl|rfl|rfl|rfl
 · exact numV_bD _
 · exact numV_nD hn
 · exact numV_nD ht
 · exact numV_nD (inN_bool _)
 · exact numV_nD (inN_bool _)
 · exact numV_val (t:=.ticket bKDC b) (rightM_is right_kdc (by simp))
 · exact numV_bD _
 rw [numV,decide_eq_true (by decide),Bool.true_and]
 refine numL_all _ fun v hv=>?_
 obtain ⟨t,ht,rfl⟩:=List.mem_map.1 hv
 obtain ⟨x,hx',rfl⟩:=List.mem_map.1 ht
 exact numV_val (t:=.ticket x.s x.b) (rightM_is (hx.2 x hx').1 (by simp))
/-- Two numbers: two requests. -/
theorem qB_nn{srv:ByteArray}{n1 n2 till:Int}{r m:Bool}{l:Bytes}{xs:List Xt}(hx:okXt xs)(h1:inN n1=true)(h2:inN n2=true)(ht:inN till=true)(l1:(qB srv n1 till r m l xs).length<=4096)(l2:(qB srv n2 till r m l xs).length<=4096)(p1:0<=n1)(p2:0<=n2)(hne:n1≠n2):qB srv n1 till r m l xs≠qB srv n2 till r m l xs:=by
 intro e
 have a:=RdB_wr _ (tgsD_right (s:=srv) (n:=n1) (t:=till) (r:=r) (m:=m) (tk:=.ticket bKDC l) (b:=[]) (ex:=xs.map Xt.th)) (tgsD_num h1 ht hx) l1
 have b:=RdB_wr _ (tgsD_right (s:=srv) (n:=n2) (t:=till) (r:=r) (m:=m) (tk:=.ticket bKDC l) (b:=[]) (ex:=xs.map Xt.th)) (tgsD_num h2 ht hx) l2
 have e':wrV (tgsD srv n1 till r m (.ticket bKDC l) [] (xs.map Xt.th))=wrV (tgsD srv n2 till r m (.ticket bKDC l) [] (xs.map Xt.th)):=e
 rw [e',b] at a
 injection a with a
 unfold tgsD at a
 injection a with _ _ _ _ a
 injection a with _ a
 injection a with a
 unfold nD at a
 injection a with _ _ a
 omega
/-- The table, as it is asked. -/
structure AnS(kk K1 K2:Fin 16->UInt8)(at_ fl R e1 e2:Int)(xs:List Xt)(srv:ByteArray)(nn till time q:Int)(r m:Bool)(s:STab):Prop where
 rm:Room 800 s
 ns:s.sums.length<=1
 b2:openTh s (kl kk) 2 (mkB 98 2)=.inr (.inside fl K1 bANN at_ e1 R)
 b5:openTh s (kl kk) 2 (mkB 98 5)=.inr (.inside 4 K2 bBOB at_ e2 0)
 sk:SK s (qB srv nn till r m (mkB 98 2) xs) 0
 au:openTh s (kl K1) 7 (mkB 98 7)=.inr (.authent bANN time q zK (mkB 100 (0+1)))
 au2:s.open_ (kl K2) 7 (mkB 98 7)=none
 ok:okXt xs
 l1:xs.length<=1/\∀ x ∈ xs,x.s.size<=300/\x.b.length<=300
 sr:rightN srv=true
 ss:srv.size<=60
 nn0:0<=nn/\nn<=1023
 tl:0<=till/\till<=5000
theorem AnS.len{kk K1 K2:Fin 16->UInt8}{at_ fl R e1 e2:Int}{xs:List Xt}{srv:ByteArray}{nn till time q:Int}{r m:Bool}{s:STab}(h:AnS kk K1 K2 at_ fl R e1 e2 xs srv nn till time q r m s)(nn':Int):(qB srv nn' till r m (mkB 98 2) xs).length<=4096:=
 qB_len (by have:=h.ss;omega) (by rw [mkB_len];decide) h.l1.2 h.l1.1
section
variable{F G Gb:Nat->Prop}{sv kb cb bk tb bb ce en n1 n2:Nat}{kk K1 K2 Kf ka kb_:Fin 16->UInt8}{s:STab}{us:List User}{us_:User}{srv ts:ByteArray}{at_ fl R e1 e2 now nn till time q f a u:Int}{A B C D E:Option Addr}{c c' d:Nat}{l au p1 p2:Bytes}{w:World}{r m:Bool}{xs:List Xt}{Rq:Res}{c1:ByteArray}
/-- The ticket is not the server's. -/
theorem an_srv(h0:Hp (fun q=>F q∨G q) w w [rBlk sv 73 (svC kb cb bk),rBlk kb 78 (kdcC tb bb kk),rSB (.slice C l.length c) l,rSB (.slice D au.length d) au,Rq,rBs Gb bb us] [rTab F tb s,rCa G cb 64 []])(hs:TabOk s)(hts:ts.toList≠bKDC.toList) :
   Calls Tryz.prog 12 #[pt sv 0,.int .i64 now,.agg (tqC srv nn till r m ts (.slice C l.length c) (.slice D au.length d) (.slice E en ce)).toArray] w (TgNo F G tb cb 64 17 s [] w):=
 tgs_err (Ki:=zK) h0 (fun w' h=>who_e1 h (fun w'' h'=>opened_srv (h'.rd 0 rfl) (h'.rd 1 rfl) (h'.rd 2 rfl) hs (h'.rd 3 rfl) hts) (by decide)) (by decide)
theorem an_box(h0:Hp (fun q=>F q∨G q) w w [rBlk sv 73 (svC kb cb bk),rBlk kb 78 (kdcC tb bb kk),rSB (.slice C 0 c) [],rSB (.slice D au.length d) au,Rq,rBs Gb bb us] [rTab F tb s,rCa G cb 64 []])(hs:TabOk s) :
   Calls Tryz.prog 12 #[pt sv 0,.int .i64 now,.agg (tqC srv nn till r m bKDC (.slice C 0 c) (.slice D au.length d) (.slice E en ce)).toArray] w (TgNo F G tb cb 64 13 s [] w):=
 tgs_err (Ki:=zK) (l:=[]) h0 (fun w' h=>who_e1 h (fun w'' h'=>opened_bad (l:=[]) (h'.rd 0 rfl) (h'.rd 1 rfl) (h'.rd 2 rfl) hs (h'.rd 3 rfl) (by rw [openTh_nomark s _ _ (markOf_short (by decide))];rfl) (by decide)) (by decide)) (by decide)
theorem an_late(h0:Hp (fun q=>F q∨G q) w w [rBlk sv 73 (svC kb cb bk),rBlk kb 78 (kdcC tb bb kk),rSB (.slice C l.length c) l,rSB (.slice D au.length d) au,Rq,rBs Gb bb us] [rTab F tb s,rCa G cb 64 []])(hs:TabOk s)(hx:openTh s (kl kk) 2 l=.inr (.inside f K1 c1 a u q))(hu:u<=now) :
   Calls Tryz.prog 12 #[pt sv 0,.int .i64 now,.agg (tqC srv nn till r m bKDC (.slice C l.length c) (.slice D au.length d) (.slice E en ce)).toArray] w (TgNo F G tb cb 64 12 s [] w):=
 tgs_err (Ki:=zK) h0 (fun w' h=>who_e1 h (fun w'' h'=>opened_late (h'.rd 0 rfl) (h'.rd 1 rfl) (h'.rd 2 rfl) hs (h'.rd 3 rfl) (by rw [hx];rfl) hu) (by decide)) (by decide)
theorem an_auth(h0:Hp (fun q=>F q∨G q) w w [rBlk sv 73 (svC kb cb bk),rBlk kb 78 (kdcC tb bb kk),rSB (.slice C l.length c) l,rSB (.slice D au.length d) au,Rq,rBs Gb bb us] [rTab F tb s,rCa G cb 64 []])(hs:TabOk s)(hx:openTh s (kl kk) 2 l=.inr (.inside f K1 c1 a u q))(hu:now<u)(hau:s.open_ (kl K1) 7 au=none) :
   Calls Tryz.prog 12 #[pt sv 0,.int .i64 now,.agg (tqC srv nn till r m bKDC (.slice C l.length c) (.slice D au.length d) (.slice E en ce)).toArray] w (TgNo F G tb cb 64 22 s [] w):=
 tgs_err (Ki:=zK) h0 (fun w' h=>who_e2 h hs hx hu hau) (by decide)
theorem open_nil(s:STab)(k:Bytes)(u:Int):s.open_ k u []=none:=by
 unfold STab.open_
 rw [sl_none' s];rfl
where
 sl_none' (s:STab):s.box []=none:=by unfold STab.box;rw [markOf_short (l:=[]) (by decide)]
end
section
variable{F G Gb:Nat->Prop}{sv kb cb bk tb bb ce n1 n2:Nat}{kk K1 K2 Kf ka kb_:Fin 16->UInt8}{s:STab}{srv:ByteArray}{at_ fl R e1 e2 now nn till time q L Rn Ot:Int}{A B D E:Option Addr}{c c' d:Nat}{p1 p2:Bytes}{w:World}{r m mesh:Bool}{xs:List Xt}
/-- As the law asks. -/
abbrev AnH(F G Gb:Nat->Prop)(sv kb cb bk tb bb ce:Nat)(kk ka kb_:Fin 16->UInt8)(L Rn Ot:Int)(mesh:Bool)(s:STab)(xs:List Xt)(A:Option Addr)(n1 c:Nat)(D:Option Addr)(n2 d:Nat)(E:Option Addr)(w:World):Prop:=
 Hp (fun q=>F q∨G q) w w [rBlk sv 73 (svC kb cb bk),rBlk kb 78 (kdcC tb bb kk),rSB (.slice A n1 c) (mkB 98 2),rSB (.slice D n2 d) (mkB 98 7),rQx A c (mkB 98 2) E ce xs,rBs Gb bb [User.mk bANN ka L Rn false,User.mk bBOB kb_ Ot 0 mesh]] [rTab F tb s,rCa G cb 64 []]
abbrev AnC(sv:Nat)(now:Int)(srv:ByteArray)(nn till:Int)(r m:Bool)(A:Option Addr)(n1 c:Nat)(D:Option Addr)(n2 d:Nat)(E:Option Addr)(ln ce:Nat)(w:World)(Q:Ending->World->Prop):Prop:=
 Calls Tryz.prog 12 #[pt sv 0,.int .i64 now,.agg (tqC srv nn till r m bKDC (.slice A n1 c) (.slice D n2 d) (.slice E ln ce)).toArray] w Q
variable(hn1:n1=(mkB 98 2).length)(hn2:n2=(mkB 98 7).length)(hA:AnS kk K1 K2 at_ fl R e1 e2 xs srv nn till time q r m s)(h0:AnH F G Gb sv kb cb bk tb bb ce kk ka kb_ L Rn Ot mesh s xs A n1 c D n2 d E w)(hu:now<e1)
include hn1 hn2 hA h0 hu
theorem an_sum:AnC sv now srv (nn+1) till r m A n1 c D n2 d E xs.length ce w (TgNo F G tb cb 64 17 (s.digest (qB srv (nn+1) till r m (mkB 98 2) xs)) [] w):=by
 subst hn1 hn2
 have h1:=hA.nn0
 have h2:=hA.tl
 have hs:=hA.ss
 have hin:∀ x:Int,0<=x->x<=5000->inN x=true:=fun x p q=>inN_is p (by omega)
 have hne:s.sumAt (qB srv (nn+1) till r m (mkB 98 2) xs)≠0:=by
   intro e
   obtain ⟨e0,e1⟩:=hA.sk
   have hh:∀ β,s.sumAt β=0->s.sums[0]?=some β:=fun β h=>by
     have:=List.findIdx_getElem (xs:=s.sums) (p:=fun x=>decide (x=β)) (w:=by show s.sumAt β<_;omega)
     have h':s.sums.findIdx (fun x=>decide (x=β))=0:=h
     have h2:s.sums[0]'e1=β:=by
       have h3:=of_decide_eq_true this
       simpa only [h'] using h3
     rw [List.getElem?_eq_getElem e1,h2]
   have hx:=(hh _ e).symm.trans (hh _ e0)
   injection hx with hx
   exact qB_nn hA.ok (hin _ (by omega) (by omega)) (hin _ (by omega) (by omega)) (hin _ h2.1 h2.2) (hA.len _) (hA.len _) (by omega) (by omega) (by omega) hx
 exact tgs_err (Ki:=zK) h0 (fun w' h=>who_e3 h hA.rm.ok hA.b2 hu hA.au (β:=qB srv (nn+1) till r m (mkB 98 2) xs) (by
   intro e
   have e1:=markOf_mkB (k:=100) (n:=0+1) (.inr (.inr rfl)) (by decide)
   have hlen:s.sumAt (qB srv (nn+1) till r m (mkB 98 2) xs)<=s.sums.length:=List.findIdx_le_length
   have e2:=markOf_mkB (k:=100) (n:=s.sumAt (qB srv (nn+1) till r m (mkB 98 2) xs)+1) (.inr (.inr rfl)) (by have:=hA.ns;omega)
   rw [e,e2] at e1
   injection e1 with e1;injection e1 with _ e1
   omega)
   (sumQ_any (xs:=xs) (D:=D) (an:=(mkB 98 7).length) (ca:=d) (by have:=hA.ns;omega) hA.ok hA.sr (by omega) (hin _ (by omega) (by omega)) (hin _ h2.1 h2.2) (by rw [mkB_len];decide) (hA.len _))) (by decide)
theorem an_skew(hnear:nearF now time=false):AnC sv now srv nn till r m A n1 c D n2 d E xs.length ce w (TgNo F G tb cb 64 11 s [] w):=by
 subst hn1 hn2
 have h1:=hA.nn0
 have h2:=hA.tl
 have hs:=hA.ss
 exact tgs_err (ec:=11) h0 (whoQ (rr:=(11,[])) hA.rm.ok (by have:=hA.ns;omega) hA.b2 hu hA.sk hA.au hA.ok hA.sr (by omega) (inN_is h1.1 (by omega)) (inN_is h2.1 (by omega)) (by rw [mkB_len];decide) (hA.len _) fun w' hC=>show_skew (x:=⟨bANN,time,q⟩) hC hnear) (by decide)
variable(hnear:nearF now time=true)
include hnear
omit hn1 hn2 h0 in
theorem an_who(w':World)(h:Hp (fun q=>F q∨G q) w' w' [rBlk sv 73 (svC kb cb bk),rBlk kb 78 (kdcC tb bb kk),rSB (.slice A (mkB 98 2).length c) (mkB 98 2),rSB (.slice D (mkB 98 7).length d) (mkB 98 7),rQx A c (mkB 98 2) E ce xs] [rTab F tb s,rCa G cb 64 []]) :
   Calls Tryz.prog 29 #[pt sv 0,.int .i64 now,.agg #[.string bKDC,.slice A (mkB 98 2).length c],.slice D (mkB 98 7).length d,.iface 40 (.agg (tqC srv nn till r m bKDC (.slice A (mkB 98 2).length c) (.slice D (mkB 98 7).length d) (.slice E xs.length ce)).toArray)] w' (WhPost F G tb cb 64 (.agg ([Value.int .i64 fl]++vb (kl K1)++[Value.string bANN,.int .i64 at_,.int .i64 e1,.int .i64 R]).toArray) s (0,[⟨bANN,time,q⟩]) w'):=by
 have h1:=hA.nn0
 have h2:=hA.tl
 have hs:=hA.ss
 exact whoQ (rr:=(0,[⟨bANN,time,q⟩])) hA.rm.ok (by have:=hA.ns;omega) hA.b2 hu hA.sk hA.au hA.ok hA.sr (by omega) (inN_is h1.1 (by omega)) (inN_is h2.1 (by omega)) (by rw [mkB_len];decide) (hA.len _) (fun w' hC=>show_ok (x:=⟨bANN,time,q⟩) hC hnear (fun _ hh=>absurd hh List.not_mem_nil) (by decide) List.not_mem_nil (by decide) (by decide)) w' h
theorem an_mid{ec:Nat}(hno:(till<=now/\ec=12)∨(now<till/\r=m/\ec=15)):AnC sv now srv nn till r m A n1 c D n2 d E xs.length ce w (TgNo F G tb cb 64 ec s [⟨bANN,time,q⟩] w):=by
 have hw:=an_who (F:=F) (G:=G) (sv:=sv) (kb:=kb) (cb:=cb) (bk:=bk) (tb:=tb) (bb:=bb) (ce:=ce) (A:=A) (c:=c) (D:=D) (d:=d) (E:=E) hA hu hnear
 subst hn1 hn2
 exact tgs_no h0 hw (by rcases hno with ⟨_,h⟩|⟨_,_,h⟩ <;> omega) (hno.imp_right .inl)
theorem an_ren{ec:Nat}(hlt:now<till)(hr:r=true)(hm:m=false)(hno:(srv.toList≠bKDC.toList/\ec=15)∨(srv.toList=bKDC.toList/\bits .and .i64 fl 1=0/\ec=15)∨(srv.toList=bKDC.toList/\bits .and .i64 fl 1=1/\R<=now/\ec=12)):AnC sv now srv nn till r m A n1 c D n2 d E xs.length ce w (TgNo F G tb cb 64 ec s [⟨bANN,time,q⟩] w):=by
 have hw:=an_who (F:=F) (G:=G) (sv:=sv) (kb:=kb) (cb:=cb) (bk:=bk) (tb:=tb) (bb:=bb) (ce:=ce) (A:=A) (c:=c) (D:=D) (d:=d) (E:=E) hA hu hnear
 subst hn1 hn2
 exact tgs_no h0 hw (by rcases hno with ⟨_,h⟩|⟨_,_,h⟩|⟨_,_,_,h⟩ <;> omega) (.inr (.inr (.inl ⟨hlt,hr,hm,fun w' h=>renew_no (us_:=User.mk bANN ka L Rn false) h (show (2:Nat)<=_ by decide) place_ann.1 place_ann.2 hno⟩)))
theorem an_arg(hlt:now<till)(hr:r=false)(hm:m=true)(hx:xs=[]):AnC sv now srv nn till r m A n1 c D n2 d E xs.length ce w (TgNo F G tb cb 64 7 s [⟨bANN,time,q⟩] w):=by
 have hw:=an_who (F:=F) (G:=G) (sv:=sv) (kb:=kb) (cb:=cb) (bk:=bk) (tb:=tb) (bb:=bb) (ce:=ce) (A:=A) (c:=c) (D:=D) (d:=d) (E:=E) hA hu hnear
 subst hn1 hn2 hx
 exact tgs_no (ec:=7) h0 hw (by decide) (.inr (.inr (.inr ⟨hlt,hr,hm,fun F' w' h=>met_arg (h.sel [] [0] rfl rfl rfl) (by decide) rfl⟩)))
/-- One ticket beside it. -/
theorem an_met{ec:Nat}{pb:Bytes}{B':Option Addr}{e':Nat}{K':Fin 16->UInt8}{pf pa pu pr:Int}{pn:ByteArray}(hlt:now<till)(hr:r=false)(hm:m=true)(hx:xs=[⟨bKDC,pb,B',e'⟩])(ho:openTh s (kl kk) 2 pb=.inr (.inside pf K' pn pa pu pr))(hec:ec≠0)
   (hno:(pu<=now/\ec=12)∨(now<pu/\placeB [User.mk bANN ka L Rn false,User.mk bBOB kb_ Ot 0 mesh] srv=false/\ec=9)∨(now<pu/\placeB [User.mk bANN ka L Rn false,User.mk bBOB kb_ Ot 0 mesh] srv=true/\∃ us_,[User.mk bANN ka L Rn false,User.mk bBOB kb_ Ot 0 mesh][placeI [User.mk bANN ka L Rn false,User.mk bBOB kb_ Ot 0 mesh] srv]?=some us_/\(pn.toList≠srv.toList∨(pn.toList=srv.toList/\srv.toList=bANN.toList))/\ec=17) ∨
     (now<pu/\placeB [User.mk bANN ka L Rn false,User.mk bBOB kb_ Ot 0 mesh] srv=true/\∃ us_,[User.mk bANN ka L Rn false,User.mk bBOB kb_ Ot 0 mesh][placeI [User.mk bANN ka L Rn false,User.mk bBOB kb_ Ot 0 mesh] srv]?=some us_/\pn.toList=srv.toList/\srv.toList≠bANN.toList/\us_.mesh=false/\ec=15)) :
   AnC sv now srv nn till r m A n1 c D n2 d E xs.length ce w (TgNo F G tb cb 64 ec s [⟨bANN,time,q⟩] w):=by
 have hw:=an_who (F:=F) (G:=G) (sv:=sv) (kb:=kb) (cb:=cb) (bk:=bk) (tb:=tb) (bb:=bb) (ce:=ce) (A:=A) (c:=c) (D:=D) (d:=d) (E:=E) hA hu hnear
 subst hn1 hn2 hx
 refine tgs_no h0 hw hec (.inr (.inr (.inr ⟨hlt,hr,hm,fun F' w' h=>?_⟩)))
 have hq:=h.rd 4 rfl
 have h1:=((h.addR (rSB (.slice B' pb.length e') pb) (hq.2.2 ⟨bKDC,pb,B',e'⟩ (by simp)) (by simp)).addR (rRV 2 E ce [[.string bKDC,.slice B' pb.length e']]) hq.2.1 (by simp))
 have hop:now<pu->∀ w',Hp (fun _=>False) w' w' [rBlk sv 73 (svC kb cb bk),rBlk kb 78 (kdcC tb bb kk),rTab F' tb s,rSB (.slice B' pb.length e') pb] []->Calls Tryz.prog 47 #[pt sv 0,.int .i64 now,.agg #[.string bKDC,.slice B' pb.length e']] w' (DPost w' (.tuple #[.agg ([Value.int .i64 pf]++vb (kl K')++[Value.string pn,.int .i64 pa,.int .i64 pu,.int .i64 pr]).toArray,.int .i64 0])):=
   fun hp w'' h'=>opened_ok (h'.rd 0 rfl) (h'.rd 1 rfl) (h'.rd 2 rfl) hA.rm.ok (h'.rd 3 rfl) (by rw [ho];rfl) hp
 refine met_no (pf:=pf) (K2:=K') (pn:=pn) (pa:=pa) (pu:=pu) (pr:=pr) (h1.carve0 [(false,2),(false,3),(false,4),(false,5),(false,0),(false,1)] rfl) (show (2:Nat)<=_ by decide) ?_
 rcases hno with ⟨h3,he⟩|⟨h3,h4,he⟩|⟨h3,h4,us_,h5,h6,he⟩|⟨h3,h4,us_,h5,h6,h7,h8,he⟩
 · refine .inl ⟨hec,fun w'' h'=>?_⟩
   rw [he]
   exact opened_late (h'.rd 0 rfl) (h'.rd 1 rfl) (h'.rd 2 rfl) hA.rm.ok (h'.rd 3 rfl) (by rw [ho];rfl) h3
 · exact .inr (.inl ⟨hop h3,h4,he⟩)
 · exact .inr (.inr (.inl ⟨hop h3,h4,us_,h5,h6,he⟩))
 exact .inr (.inr (.inr ⟨hop h3,h4,us_,h5,h6,h7,h8,he⟩))
theorem an_okR(hlt:now<till)(hr:r=true)(hm:m=false)(hsv:srv=bKDC)(hf1:bits .and .i64 fl 1=1)(hf4:bits .andNot .i64 fl 4=1)(hR:now<R)(hL:0<=L/\L<=1000)(hK:kl Kf=mkB 107 (s.keys.length+1))(hp1:packB (.inside 1 Kf bANN at_ (min (min till (now+L)) R) R)=.inr p1)(hp2:packB (.reply 1 Kf nn srv at_ (min (min till (now+L)) R) R)=.inr p2) :
   AnC sv now srv nn till r m A n1 c D n2 d E xs.length ce w (TgPost F G tb cb 64 s.boxes.length bANN srv (((s.add SFrom.fresh).seal (kl kk) 2 p1).seal (kl K1) 8 p2) [⟨bANN,time,q⟩] w):=by
 have hw:=an_who (F:=F) (G:=G) (sv:=sv) (kb:=kb) (cb:=cb) (bk:=bk) (tb:=tb) (bb:=bb) (ce:=ce) (A:=A) (c:=c) (D:=D) (d:=d) (E:=E) hA hu hnear
 subst hn1 hn2 hsv hr hm
 exact tgs_ren h0 hw (hA.rm.less (by decide)) hK hlt (by decide) (by decide) (fun w' h=>renew_ok (us_:=User.mk bANN ka L Rn false) h (show (2:Nat)<=_ by decide) place_ann.1 place_ann.2 hf1 hf4 hR ⟨(near_in hnear).2.2.1,(near_in hnear).2.2.2⟩ ⟨hL.1,by show L<=_;omega⟩) hp1 hp2
theorem an_okM(hlt:now<till)(hr:r=false)(hm:m=true)(hsv:srv=bBOB)(hx:xs=[⟨bKDC,mkB 98 5,B,c'⟩])(he2:now<e2)(hme:mesh=true)(hK:kl Kf=mkB 107 (s.keys.length+1))(hp1:packB (.inside 2 Kf bANN at_ (min (min till e1) e2) 0)=.inr p1)(hp2:packB (.reply 2 Kf nn srv at_ (min (min till e1) e2) 0)=.inr p2) :
   AnC sv now srv nn till r m A n1 c D n2 d E xs.length ce w (TgPost F G tb cb 64 s.boxes.length bANN srv (((s.add SFrom.fresh).seal (kl K2) 2 p1).seal (kl K1) 8 p2) [⟨bANN,time,q⟩] w):=by
 have h1:=hA.nn0
 have h2:=hA.tl
 subst hn1 hn2 hsv hr hm hx
 exact tgsMet_any (us_:=User.mk bBOB kb_ Ot 0 mesh) (sl:=[]) h0 (hA.rm.less (by decide)) (by have:=hA.ns;omega) hA.b2 hu hA.sk hA.au hnear (fun _ hh=>absurd hh List.not_mem_nil) List.not_mem_nil (by decide) (by decide) hA.b5 he2 (show (2:Nat)<=1000 by decide) place_bob.1 place_bob.2 hme bob_ne right_bob (by decide) (inN_is h1.1 (by omega)) (inN_is h2.1 (by omega)) (by rw [mkB_len];decide) (by rw [mkB_len];decide) (hA.len _) hlt hK hp1 hp2
end
end
section
open Go.RowKit Go.QT
section
variable{kk ka kb_:Fin 16->UInt8}{at_ Ri:Int}{s:STab}{sl:List Sh}{ks:List Bytes}{Kc K:Fin 16->UInt8}{fl e R:Int}{m i:Nat}{now k:Int}{ba b1 b2:Bytes}
theorem pack_authent'{t q:Int}{n:Nat}(h1:0<=t/\t<=1099511627776)(h2:0<=q/\q<=1099511627776):∃ b,packB (.authent bANN t q zK (mkB 100 n))=.inr b:=
 pack_authent (rightM_is right_ann (by intro x hx;simp only [List.mem_cons,List.not_mem_nil,or_false] at hx;rcases hx with rfl|rfl <;> exact inN_is (by omega) (by omega))) (by decide) (by rw [mkB_len];decide)
end
section
variable{F G Gb:Nat->Prop}{sv kb cb bk tb bb ce:Nat}{kk ka kb_ Kc K:Fin 16->UInt8}{at_ Ri Oi:Int}{mesh:Bool}{s:STab}{sl:List Sh}{ks:List Bytes}{fl e R:Int}{m i:Nat}{now k:Int}{ba b1 b2:Bytes}{C D:Option Addr}{c d n1 n2:Nat}{w:World}
-- It is refused from then on.
-- .. and till then it is renewed.
end
section
variable{F0:Nat->Prop}{w0 w:World}{ro rs:List Res}
end
end
section
open Go.RowKit Go.QT
theorem e_cutH{P:Program}{o:Oper}{a:Act}{sz g n c i:Nat}(t:TypeId)(x hi:Operand)(ho:o.op=.slice t x none (some hi) none)(hx:a.eval x=.slice (some ⟨g,0,none⟩) n c)(k:IntKind)(hh:a.eval hi=.int k (i:Int))(hi2:i<=c)(ht:P.underlying t=some (.slice (P.elem t)))(hE:pureVal P (sizeOf (P.elem t))=some sz)(W:World) :
   (execOp a.eval o).run P W=.ok (.value (.slice (some ⟨g,0,none⟩) i c)) W:=by
 have hsz:=pureVal_run hE W
 have hr:(Instr.sliceAt t (.slice (some ⟨g,0,none⟩) n c) none (some (.int k (i:Int))) none).run P W=.ok (.slice (some ⟨g,0,none⟩) i c) W:=by
   rw [run_sliceAt_slice W t _ _ _ _ ht,run_slice_h W t (some ⟨g,0,none⟩) n c ht k i (by omega) (by omega),hsz]
   simp [Result.andThen,sliced,Addr.add]
 unfold execOp
 simp only [ho,hx,hh,Option.map_some,Option.map_none,Sem.run_bind,hr,Result.andThen_ok,Sem.run_pure]
section
variable{F0:Nat->Prop}{w0 w:World}{ro rs:List Res}
/-- None, or one, of two tickets in a block. -/
theorem Hp.addQt(h:Hp F0 w0 w ro rs)(i j k:Nat){e:Nat}(he:e<=1){A B:Option Addr}{c c' n1 n2 g:Nat}{T:TypeId}{l m:Bytes}{s s':ByteArray}{v:Value}(hn1:n1=l.length)(hn2:n2=m.length)(hi:ro[i]?=some (rSB (.slice A n1 c) l))(hj:ro[j]?=some (rSB (.slice B n2 c') m))(hk:ro[k]?=some (rBlk g T [.string s,.slice B n2 c',.string s',v])) :
   Hp F0 w0 w (rQx A c l (some ⟨g,0,none⟩) 2 (([⟨s,m,B,c'⟩]:List Xt).take e)::ro) rs:=by
 subst hn1 hn2
 have hb:=h.rd k hk
 have hm:∀ x ∈ (([⟨s,m,B,c'⟩]:List Xt).take e),x=⟨s,m,B,c'⟩:=fun x hx=>List.mem_singleton.1 (List.mem_of_mem_take hx)
 refine h.addR _ ⟨h.rd i hi,?_,fun x hx=>?_⟩ fun n t ht q hq h2=>?_
 · rcases (by omega:e=0∨e=1) with rfl|rfl
   · exact ⟨Nat.zero_le _,by unfold maxLen;omega,by simp,fun h=>absurd rfl h⟩
   refine (show RV w 2 (some ⟨g,0,none⟩) 2 [[.string s,.slice B m.length c']] from ?_)
   refine ⟨by simp,by unfold maxLen;omega,by simp,fun _=>⟨g,0,rfl,hb.lt,fun i x hx j u hu=>?_⟩⟩
   cases i with
   | zero =>
     injection hx with hx
     subst hx
     rw [show 0+0*2+j=j by omega]
     refine (hb.cell _).trans ?_
     have hj2:j<2:=(List.getElem?_eq_some_iff.1 hu).1
     rcases (by omega:j=0∨j=1) with rfl|rfl
     · exact hu
     exact hu
   | succ i=>simp at hx
 · rw [hm x hx];exact h.rd j hj
 rcases hq with hq|hq|⟨x,hx,hq⟩
 · exact h.rdis i n _ t hi ht q hq h2
 · have:g=q:=by simpa [ownA] using hq.2
   exact h.rdis k n _ t hk ht q this.symm h2
 rw [hm x hx] at hq
 exact h.rdis j n _ t hj ht q hq h2
theorem Hp.addNil(h:Hp F0 w0 w ro rs):Hp F0 w0 w (rSB (.slice none 0 0) []::ro) rs:=
 h.addR _ (SB.nil _ 0 (by unfold maxLen;omega) none) (fun _ _ _ _ hq=>absurd rfl hq.1)
end
section
variable{F:Nat->Prop}{kk ka kb_ K1 K2 Kf Kx:Fin 16->UInt8}{s:STab}{srv:ByteArray}{at_ fl R L Ot now nn till time q:Int}{A B D E:Option Addr}{c c' ln ce an ca tb cc:Nat}{b0 b1 b2 b3 b4 b5 ba p1 p2:Bytes}{r m:Bool}{xs:List Xt}
theorem sumQl{C:Option Addr}{l:Bytes}(hln:ln=xs.length)(hsm:s.sums.length<=1000)(hx:okXt xs)(hs:rightN srv=true)(hsl:srv.size<=300)(hn:inN nn=true)(ht:inN till=true)(hll:l.length<=300)(hlen:(qB srv nn till r m l xs).length<=4096)
   (w':World) (hT:(rTab F tb s).Φ w') (hq:(rQx C cc l E ce xs).Φ w') (hd:(rQx C cc l E ce xs).dj (rTab F tb s)) :
   Calls Tryz.prog 23 #[.iface 28 (pt tb 0),.iface 40 (.agg #[.string srv,.int .i64 nn,.int .i64 till,.bool r,.bool m,.string bKDC,.slice C l.length cc,.slice D an ca,.slice E ln ce])] w' (SumPost F tb s (qB srv nn till r m l xs) w'):=by
 subst hln;exact sumQ_any hsm hx hs hsl hn ht hll hlen w' hT hq hd
theorem an_ln{sv d n1 n2:Nat}{w:World}{Q:Ending->World->Prop}(hln:ln=xs.length)(h:AnC sv now srv nn till r m A n1 c D n2 d E xs.length ce w Q):AnC sv now srv nn till r m A n1 c D n2 d E ln ce w Q:=hln ▸ h
theorem AnS.init{t0 t3 t2 t5:Thing}(hK1:kl K1=mkB 107 4)(hK2:kl K2=mkB 107 5)(h0:packB t0=.inr b0)(h1:packB (.inside fl K1 bANN at_ (min (at_+600) (at_+L)) R)=.inr b1)(h2:packB t2=.inr b2)(h3:packB t3=.inr b3)(h4:packB (.inside 4 K2 bBOB at_ (min (at_+600) (at_+Ot)) 0)=.inr b4)(h5:packB t5=.inr b5)
   (hpa:packB (.authent bANN time q zK (mkB 100 ((sO kk ka kb_ b0 b1 b2 b3 b4 b5).sumAt (qB srv nn till r m (mkB 98 2) xs)+1)))=.inr ba) (hok:okXt xs) (hl1:xs.length<=1/\∀ x ∈ xs,x.s.size<=300/\x.b.length<=300) (hsr:rightN srv=true) (hss:srv.size<=60) (hnn:0<=nn/\nn<=1023) (htl:0<=till/\till<=5000) :
   AnS kk K1 K2 at_ fl R (min (at_+600) (at_+L)) (min (at_+600) (at_+Ot)) xs srv nn till time q r m (((sO kk ka kb_ b0 b1 b2 b3 b4 b5).digest (qB srv nn till r m (mkB 98 2) xs)).seal (kl K1) 7 ba):=by
 have hau:=au_box (s:=sO kk ka kb_ b0 b1 b2 b3 b4 b5) (β:=qB srv nn till r m (mkB 98 2) xs) (k:=kl K1) (u:=7) (b:=ba) (n:=6) rfl (by decide)
 have hz:(sO kk ka kb_ b0 b1 b2 b3 b4 b5).sumAt (qB srv nn till r m (mkB 98 2) xs)=0:=rfl
 rw [hz] at hpa
 refine ⟨((roomO h0 h1 h2 h3 h4 h5).digest.seal _ _ (pack_le6 hpa)).less (by decide),au_sums (Nat.le_refl 0),op_bx (au_old bxOx) h1,op_bx (au_old bxOy) h4,au_sk,op_bx hau hpa,?_,hok,hl1,hsr,hss,hnn,htl⟩
 unfold STab.open_
 rw [hau,Option.bind_some]
 have:kl K1≠kl K2:=key_ne hK1 hK2 (by decide) (by decide) (by decide)
 rw [if_neg (fun hh=>this hh.1)]
/-- Behind an answer. -/
theorem an_after{X Y:Thing}(hb:s.boxes.length=7)(hrm:Room 800 s)(hp1:packB X=.inr p1)(hp2:packB Y=.inr p2):TabOk (((s.add SFrom.fresh).seal (kl Kx) 2 p1).seal (kl K1) 8 p2)/\openTh (((s.add SFrom.fresh).seal (kl Kx) 2 p1).seal (kl K1) 8 p2) (kl Kx) 2 (mkB 98 (7+1))=.inr X/\openTh (((s.add SFrom.fresh).seal (kl Kx) 2 p1).seal (kl K1) 8 p2) (kl K1) 8 (mkB 98 (7+2))=.inr Y:=
 ⟨((((hrm.less (m:=6+1) (by decide)).add SFrom.fresh).less (m:=2+1+1) (by decide)).seal _ _ (pack_le6 hp1) |>.seal _ _ (pack_le6 hp2)).ok,op_bx (bx_seal (bx_newN (s:=s.add SFrom.fresh) hb (by decide))) hp1,op_bx (bx_newN (s:=(s.add SFrom.fresh).seal (kl Kx) 2 p1) (n:=8) (by rw [seal_len];exact congrArg (· + 1) hb) (by decide)) hp2⟩
end
theorem place_else{k k':Fin 16->UInt8}{l r l' r':Int}{m m':Bool}{s:ByteArray}(h1:s.toList≠bANN.toList)(h2:s.toList≠bBOB.toList):placeB [User.mk bANN k l r m,User.mk bBOB k' l' r' m'] s=false:=by
 unfold placeB
 rw [Bool.and_eq_false_iff]
 by_cases h:placeI [User.mk bANN k l r m,User.mk bBOB k' l' r' m'] s<2
 · refine .inr (decide_eq_false fun hh=>?_)
   have:=cmpS_eq hh
   rcases (by omega:placeI [User.mk bANN k l r m,User.mk bBOB k' l' r' m'] s=0∨placeI [User.mk bANN k l r m,User.mk bBOB k' l' r' m'] s=1) with e|e
   · rw [e] at this;exact h1 (congrArg ByteArray.toList this.symm)
   rw [e] at this;exact h2 (congrArg ByteArray.toList this.symm)
 exact .inl (decide_eq_false h)
end
section
open Go.RowKit Go.QT
theorem toList_inj'{s t:ByteArray}(h:s.toList=t.toList):s=t:=by
 obtain ⟨a⟩:=s;obtain ⟨b⟩:=t
 rw [ByteArray.toList_eq,ByteArray.toList_eq] at h
 congr 1
 exact Array.toList_inj.1 h
theorem str_ne{s t:ByteArray}(h:s≠t):Value.bool (!(s.toList == t.toList))=.bool true:=by
 have:(s.toList == t.toList)=false:=by simpa using fun e=>h (toList_inj' e)
 rw [this];rfl
theorem an_12{e:Nat}{P:Prop}(h:e<=2)(h0:e≠0)(hp:e=1->P):(e=1/\P)∨(e=2/\True):=by
 rcases (by omega:e=1∨e=2) with h1|h1
 · exact .inl ⟨h1,hp h1⟩
 exact .inr ⟨h1,trivial⟩
theorem place_annS{k k':Fin 16->UInt8}{l r l' r':Int}{m m':Bool}{s:ByteArray}(h:s=bANN):placeB [User.mk bANN k l r m,User.mk bBOB k' l' r' m'] s=true/\[User.mk bANN k l r m,User.mk bBOB k' l' r' m'][placeI [User.mk bANN k l r m,User.mk bBOB k' l' r' m'] s]?=some (User.mk bANN k l r m)/\bBOB.toList≠s.toList/\bANN.toList=s.toList/\s.toList=bANN.toList:=by
 subst h;exact ⟨place_ann.1,place_ann.2,bob_ne,rfl,rfl⟩
theorem place_bobS{k k':Fin 16->UInt8}{l r l' r':Int}{m m':Bool}{s:ByteArray}(h:s=bBOB):placeB [User.mk bANN k l r m,User.mk bBOB k' l' r' m'] s=true/\[User.mk bANN k l r m,User.mk bBOB k' l' r' m'][placeI [User.mk bANN k l r m,User.mk bBOB k' l' r' m'] s]?=some (User.mk bBOB k' l' r' m')/\bANN.toList≠s.toList/\bBOB.toList=s.toList/\s.toList≠bANN.toList:=by
 subst h;exact ⟨place_bob.1,place_bob.2,bob_ne.symm,rfl,bob_ne⟩
theorem an_xs{A B:Option Addr}{c c' e:Nat}(h:e<=1):(e=0/\(([⟨bKDC,mkB 98 5,B,c'⟩]:List Xt).take e)=[])∨(e=1/\(([⟨bKDC,mkB 98 5,B,c'⟩]:List Xt).take e)=[⟨bKDC,mkB 98 5,B,c'⟩])∨(e=2/\(([⟨bKDC,mkB 98 5,B,c'⟩]:List Xt).take e)=[⟨bKDC,mkB 98 2,A,c⟩]):=by
 rcases (by omega:e=0∨e=1) with rfl|rfl
 · exact .inl ⟨rfl,rfl⟩
 exact .inr (.inl ⟨rfl,rfl⟩)
theorem an_ok{A B:Option Addr}{c c' e:Nat}{xs:List Xt}(h:(e=0/\xs=[])∨(e=1/\xs=[⟨bKDC,mkB 98 5,B,c'⟩])∨(e=2/\xs=[⟨bKDC,mkB 98 2,A,c⟩])):okXt xs/\xs.length<=1/\∀ x ∈ xs,x.s.size<=300/\x.b.length<=300:=by
 have k:∀ (n:Nat) (A:Option Addr) (c:Nat),okXt [⟨bKDC,mkB 98 n,A,c⟩]/\[(⟨bKDC,mkB 98 n,A,c⟩:Xt)].length<=1/\∀ x ∈ [(⟨bKDC,mkB 98 n,A,c⟩:Xt)],x.s.size<=300/\x.b.length<=300:=fun n A c =>
   ⟨⟨Nat.le_refl _,fun x hx=>by rw [List.mem_singleton.1 hx];exact ⟨right_kdc,show (3:Nat)<=100000 by decide,by show (mkB 98 n).length<=100000;rw [mkB_len];decide⟩⟩,Nat.le_refl _,fun x hx=>by rw [List.mem_singleton.1 hx];exact ⟨show (3:Nat)<=300 by decide,by show (mkB 98 n).length<=300;rw [mkB_len];decide⟩⟩
 rcases h with ⟨_,rfl⟩|⟨_,rfl⟩|⟨_,rfl⟩
 · exact ⟨⟨Nat.zero_le _,fun x hx=>by cases hx⟩,Nat.zero_le _,fun x hx=>by cases hx⟩
 · exact k _ _ _
 exact k _ _ _
/-- Why it is refused, where nothing was turned, and the ticket is good. -/
def WhyS(now time e2 till Ri R:Int)(srv:ByteArray)(r m mesh:Bool)(e ec:Nat):Prop:=
 (nearF now time=false/\ec=11)∨(nearF now time=true/\till<=now/\ec=12)∨(nearF now time=true/\now<till/\r=m/\ec=15) ∨
 (nearF now time=true/\now<till/\r=true/\m=false/\((srv≠bKDC/\ec=15)∨(srv=bKDC/\Ri=0/\ec=15)∨(srv=bKDC/\Ri≠0/\R<=now/\ec=12))) ∨
 (nearF now time=true/\now<till/\r=false/\m=true/\((e=0/\ec=7)∨(e=1/\e2<=now/\ec=12)∨(e≠0/\(e=1->now<e2)/\srv≠bANN/\srv≠bBOB/\ec=9)∨(e≠0/\(e=1->now<e2)/\(srv=bANN∨(srv=bBOB/\e=2))/\ec=17)∨(e=1/\now<e2/\srv=bBOB/\mesh=false/\ec=15)))
/-- It is refused. -/
def AnNo(kk ka kb_:Fin 16->UInt8)(s:STab)(srv:ByteArray)(now nn till time L Ri Ot R e1 e2:Int)(A E:Option Addr)(c ce e ln:Nat)(r m mesh:Bool)(xs:List Xt):Prop:=
   ∃ (ec:Nat) (sl3:List Sh),ec≠0/\((e1<=now/\ec=12)∨(now<e1/\WhyS now time e2 till Ri R srv r m mesh e ec))/\∀ {F G Gb:Nat->Prop} {sv kb cb bk tb bb:Nat} {D:Option Addr} {d n1 n2:Nat} {w:World} (_hn1:n1=(mkB 98 2).length) (_hn2:n2=(mkB 98 7).length),AnH F G Gb sv kb cb bk tb bb ce kk ka kb_ L Ri Ot mesh s xs A n1 c D n2 d E w->AnC sv now srv nn till r m A n1 c D n2 d E ln ce w (TgNo F G tb cb 64 ec s sl3 w)
section
variable{kk K1 K2 ka kb_:Fin 16->UInt8}{s:STab}{srv:ByteArray}{at_ fl R e1 e2 now nn till time q L Ri Ot:Int}{A B E:Option Addr}{c c' ce e ln:Nat}{r m mesh:Bool}{xs:List Xt}
theorem an_none(hln:ln=xs.length)(hT:Tim at_ L Ri Ot fl R)(hxs:(e=0/\xs=[])∨(e=1/\xs=[⟨bKDC,mkB 98 5,B,c'⟩])∨(e=2/\xs=[⟨bKDC,mkB 98 2,A,c⟩]))(hA:AnS kk K1 K2 at_ fl R e1 e2 xs srv nn till time q r m s) :
   AnNo kk ka kb_ s srv now nn till time L Ri Ot R e1 e2 A E c ce e ln r m mesh xs ∨
   (now<e1/\nearF now time=true/\now<till/\r=true/\m=false/\srv=bKDC/\(Ri≠0/\bits .and .i64 fl 1=1/\bits .andNot .i64 fl 4=1)/\now<R) ∨
   (now<e1/\nearF now time=true/\now<till/\r=false/\m=true/\srv=bBOB/\(e=1/\xs=[⟨bKDC,mkB 98 5,B,c'⟩])/\now<e2/\mesh=true):=by
 subst hln
 rcases (by omega:e1<=now∨now<e1) with hu|hu
 · refine .inl ⟨12,[],by decide,.inl ⟨hu,rfl⟩,?_⟩
   intro F G Gb sv kb cb bk tb bb D d n1 n2 w hn1 hn2 h0
   subst hn1 hn2
   exact an_late h0 hA.rm.ok hA.b2 hu
 cases hn:nearF now time
 · exact .inl ⟨11,_,by decide,.inr ⟨hu,.inl ⟨hn,rfl⟩⟩,fun hn1 hn2 h0=>an_skew hn1 hn2 hA h0 hu hn⟩
 rcases (by omega:till<=now∨now<till) with hlt|hlt
 · exact .inl ⟨12,_,by decide,.inr ⟨hu,.inr (.inl ⟨hn,hlt,rfl⟩)⟩,fun hn1 hn2 h0=>an_mid hn1 hn2 hA h0 hu hn (.inl ⟨hlt,rfl⟩)⟩
 by_cases hrm:r=m
 · exact .inl ⟨15,_,by decide,.inr ⟨hu,.inr (.inr (.inl ⟨hn,hlt,hrm,rfl⟩))⟩,fun hn1 hn2 h0=>an_mid hn1 hn2 hA h0 hu hn (.inr ⟨hlt,hrm,rfl⟩)⟩
 cases hr:r
 · have hm:m=true:=by cases m <;> simp_all
   have P:∀ (ec:Nat),ec≠0->((e=0/\ec=7)∨(e=1/\e2<=now/\ec=12)∨(e≠0/\(e=1->now<e2)/\srv≠bANN/\srv≠bBOB/\ec=9)∨(e≠0/\(e=1->now<e2)/\(srv=bANN∨(srv=bBOB/\e=2))/\ec=17)∨(e=1/\now<e2/\srv=bBOB/\mesh=false/\ec=15))->(∀ {F G Gb:Nat->Prop} {sv kb cb bk tb bb:Nat} {D:Option Addr} {d n1 n2:Nat} {w:World} (_hn1:n1=(mkB 98 2).length) (_hn2:n2=(mkB 98 7).length),AnH F G Gb sv kb cb bk tb bb ce kk ka kb_ L Ri Ot mesh s xs A n1 c D n2 d E w->AnC sv now srv nn till r m A n1 c D n2 d E xs.length ce w (TgNo F G tb cb 64 ec s [⟨bANN,time,q⟩] w))->AnNo kk ka kb_ s srv now nn till time L Ri Ot R e1 e2 A E c ce e xs.length r m mesh xs:=fun ec h1 h2 h3=>⟨ec,_,h1,.inr ⟨hu,.inr (.inr (.inr (.inr ⟨hn,hlt,hr,hm,h2⟩)))⟩,h3⟩
   subst hr
   rcases hxs with ⟨he,hx⟩|⟨he,hx⟩|⟨he,hx⟩
   · exact .inl (P 7 (by decide) (.inl ⟨he,rfl⟩) (fun hn1 hn2 h0=>an_arg hn1 hn2 hA h0 hu hn hlt rfl hm hx))
   · rcases (by omega:e2<=now∨now<e2) with h2|h2
     · exact .inl (P 12 (by decide) (.inr (.inl ⟨he,h2,rfl⟩)) (fun hn1 hn2 h0=>an_met hn1 hn2 hA h0 hu hn hlt rfl hm hx hA.b5 (by decide) (.inl ⟨h2,rfl⟩)))
     by_cases ha:srv=bANN
     · exact .inl (P 17 (by decide) (.inr (.inr (.inr (.inl ⟨by omega,fun _=>h2,.inl ha,rfl⟩)))) (fun hn1 hn2 h0=>an_met hn1 hn2 hA h0 hu hn hlt rfl hm hx hA.b5 (by decide) (.inr (.inr (.inl ⟨h2,(place_annS ha).1,_,(place_annS ha).2.1,.inl (place_annS (k:=ka) (k':=kb_) (l:=L) (r:=Ri) (l':=Ot) (r':=0) (m:=false) (m':=mesh) ha).2.2.1,rfl⟩)))))
     by_cases hb:srv=bBOB
     · cases hme:mesh
       · subst hme
         exact .inl (P 15 (by decide) (.inr (.inr (.inr (.inr ⟨he,h2,hb,rfl,rfl⟩)))) (fun hn1 hn2 h0=>an_met hn1 hn2 hA h0 hu hn hlt rfl hm hx hA.b5 (by decide) (.inr (.inr (.inr ⟨h2,(place_bobS hb).1,_,(place_bobS hb).2.1,(place_bobS (k:=ka) (k':=kb_) (l:=L) (r:=Ri) (l':=Ot) (r':=0) (m:=false) (m':=false) hb).2.2.2.1,(place_bobS (k:=ka) (k':=kb_) (l:=L) (r:=Ri) (l':=Ot) (r':=0) (m:=false) (m':=false) hb).2.2.2.2,rfl,rfl⟩)))))
       exact .inr (.inr ⟨hu,rfl,hlt,rfl,hm,hb,⟨he,hx⟩,h2,rfl⟩)
     exact .inl (P 9 (by decide) (.inr (.inr (.inl ⟨by omega,fun _=>h2,ha,hb,rfl⟩))) (fun hn1 hn2 h0=>an_met hn1 hn2 hA h0 hu hn hlt rfl hm hx hA.b5 (by decide) (.inr (.inl ⟨h2,place_else (fun h=>ha (toList_inj' h)) (fun h=>hb (toList_inj' h)),rfl⟩))))
   by_cases ha:srv=bANN
   · exact .inl (P 17 (by decide) (.inr (.inr (.inr (.inl ⟨by omega,by omega,.inl ha,rfl⟩)))) (fun hn1 hn2 h0=>an_met hn1 hn2 hA h0 hu hn hlt rfl hm hx hA.b2 (by decide) (.inr (.inr (.inl ⟨hu,(place_annS ha).1,_,(place_annS ha).2.1,.inr (place_annS (k:=ka) (k':=kb_) (l:=L) (r:=Ri) (l':=Ot) (r':=0) (m:=false) (m':=mesh) ha).2.2.2,rfl⟩)))))
   by_cases hb:srv=bBOB
   · exact .inl (P 17 (by decide) (.inr (.inr (.inr (.inl ⟨by omega,by omega,.inr ⟨hb,he⟩,rfl⟩)))) (fun hn1 hn2 h0=>an_met hn1 hn2 hA h0 hu hn hlt rfl hm hx hA.b2 (by decide) (.inr (.inr (.inl ⟨hu,(place_bobS hb).1,_,(place_bobS hb).2.1,.inl (place_bobS (k:=ka) (k':=kb_) (l:=L) (r:=Ri) (l':=Ot) (r':=0) (m:=false) (m':=mesh) hb).2.2.1,rfl⟩)))))
   exact .inl (P 9 (by decide) (.inr (.inr (.inl ⟨by omega,by omega,ha,hb,rfl⟩))) (fun hn1 hn2 h0=>an_met hn1 hn2 hA h0 hu hn hlt rfl hm hx hA.b2 (by decide) (.inr (.inl ⟨hu,place_else (fun h=>ha (toList_inj' h)) (fun h=>hb (toList_inj' h)),rfl⟩))))
 have hm:m=false:=by cases m <;> simp_all
 have P:∀ (ec:Nat),ec≠0->((srv≠bKDC/\ec=15)∨(srv=bKDC/\Ri=0/\ec=15)∨(srv=bKDC/\Ri≠0/\R<=now/\ec=12))->((srv.toList≠bKDC.toList/\ec=15)∨(srv.toList=bKDC.toList/\bits .and .i64 fl 1=0/\ec=15)∨(srv.toList=bKDC.toList/\bits .and .i64 fl 1=1/\R<=now/\ec=12))->AnNo kk ka kb_ s srv now nn till time L Ri Ot R e1 e2 A E c ce e xs.length r m mesh xs:=fun ec h1 h2 h3=>⟨ec,_,h1,.inr ⟨hu,.inr (.inr (.inr (.inl ⟨hn,hlt,hr,hm,h2⟩)))⟩,fun hn1 hn2 h0=>an_ren hn1 hn2 hA h0 hu hn hlt hr hm h3⟩
 subst hr
 by_cases hk:srv=bKDC
 · have hz:=hT.r
   rcases hT.fr with ⟨h1,-,h2,h3⟩|⟨h1,h2,h3⟩
   · have f1:bits .and .i64 fl 1=1:=by rw [h2];kernel_rfl
     rcases (by omega:R<=now∨now<R) with h4|h4
     · exact .inl (P 12 (by decide) (.inr (.inr ⟨hk,by omega,h4,rfl⟩)) (.inr (.inr ⟨congrArg ByteArray.toList hk,f1,h4,rfl⟩)))
     exact .inr (.inl ⟨hu,rfl,hlt,rfl,hm,hk,⟨by omega,f1,by rw [h2];kernel_rfl⟩,h4⟩)
   exact .inl (P 15 (by decide) (.inr (.inl ⟨hk,by omega,rfl⟩)) (.inr (.inl ⟨congrArg ByteArray.toList hk,by rw [h2];kernel_rfl,rfl⟩)))
 exact .inl (P 15 (by decide) (.inl ⟨hk,rfl⟩) (.inl ⟨fun h=>hk (toList_inj' h),rfl⟩))
/-- .. where a number was turned. -/
theorem an_turn(hln:ln=xs.length)(hA:AnS kk K1 K2 at_ fl R e1 e2 xs srv nn till time q r m s) :
   ∃ (ec:Nat) (s3:STab),ec≠0/\((e1<=now/\ec=12)∨(now<e1/\ec=17))/\∀ {F G Gb:Nat->Prop} {sv kb cb bk tb bb:Nat} {D:Option Addr} {d n1 n2:Nat} {w:World} (_hn1:n1=(mkB 98 2).length) (_hn2:n2=(mkB 98 7).length),AnH F G Gb sv kb cb bk tb bb ce kk ka kb_ L Ri Ot mesh s xs A n1 c D n2 d E w->AnC sv now srv (nn+1) till r m A n1 c D n2 d E ln ce w (TgNo F G tb cb 64 ec s3 [] w):=by
 subst hln
 rcases (by omega:e1<=now∨now<e1) with hu|hu
 · refine ⟨12,s,by decide,.inl ⟨hu,rfl⟩,?_⟩
   intro F G Gb sv kb cb bk tb bb D d n1 n2 w hn1 hn2 h0
   subst hn1 hn2
   exact an_late h0 hA.rm.ok hA.b2 hu
 exact ⟨17,_,by decide,.inr ⟨hu,rfl⟩,fun hn1 hn2 h0=>an_sum hn1 hn2 hA h0 hu⟩
theorem an_who2{K:Fin 16->UInt8}{u a f y:Int}{c1:ByteArray}{l au:Bytes}(hs:TabOk s)(hx:openTh s (kl kk) 2 l=.inr (.inside f K c1 a u y))(hau:s.open_ (kl K) 7 au=none) :
   ∃ ec:Nat,ec≠0/\((u<=now/\ec=12)∨(now<u/\ec=22))/\∀ {F G Gb:Nat->Prop} {sv kb cb bk tb bb ln ce n1 n2 c d:Nat} {C D E:Option Addr} {us:List User} {Rq:Res} {w:World} (_hn1:n1=l.length) (_hn2:n2=au.length),Hp (fun q=>F q∨G q) w w [rBlk sv 73 (svC kb cb bk),rBlk kb 78 (kdcC tb bb kk),rSB (.slice C n1 c) l,rSB (.slice D n2 d) au,Rq,rBs Gb bb us] [rTab F tb s,rCa G cb 64 []] ->
     Calls Tryz.prog 12 #[pt sv 0,.int .i64 now,.agg (tqC srv nn till r m bKDC (.slice C n1 c) (.slice D n2 d) (.slice E ln ce)).toArray] w (TgNo F G tb cb 64 ec s [] w):=by
 rcases (by omega:u<=now∨now<u) with hu|hu
 · refine ⟨12,by decide,.inl ⟨hu,rfl⟩,?_⟩
   intro F G Gb sv kb cb bk tb bb ln ce n1 n2 c d C D E us Rq w hn1 hn2 h0
   subst hn1 hn2
   exact an_late h0 hs hx hu
 refine ⟨22,by decide,.inr ⟨hu,rfl⟩,?_⟩
 intro F G Gb sv kb cb bk tb bb ln ce n1 n2 c d C D E us Rq w hn1 hn2 h0
 subst hn1 hn2
 exact an_auth h0 hs hx hu hau
end
end
section
open Go.Value renaming int->iV,slice->lV,string->sV,bool->bV,agg->aV
open Go.RowKit Go.QT
theorem an_way0(s:ByteArray):60<s.size∨(s.size<=60/\rightN s=false)∨(s.size<=60/\rightN s=true):=by
 rcases (by omega:60<s.size∨s.size<=60) with h|h
 · exact .inl h
 cases hb:rightN s
 · exact .inr (.inl ⟨h,rfl⟩)
 exact .inr (.inr ⟨h,rfl⟩)
theorem ktgsAnswers_any{w:World}(x:Ask)(La Rn_ Ot_ At_ Lt:Int)(mesh:Bool):Calls Tryz.prog 7 #[.agg #[.int .i64 La,.int .i64 Rn_,.int .i64 Ot_,.bool mesh,.int .i64 At_,.int .i64 Lt],(aV ([(sV x.srv),(iV .i64 x.nn),(iV .i64 x.till),(bV x.r),(bV x.m),(iV .i64 x.ex),(iV .i64 x.la),(iV .i64 x.tm),(iV .i64 x.sq),(iV .i64 x.tn)]).toArray)] w (DPost w (.bool true)):=by
 obtain ⟨at_,hat⟩:∃ x,x=bits .and .i64 At_ 1023:=⟨_,rfl⟩
 obtain ⟨Li,hLi⟩:∃ x,x=1+bits .and .i64 La 511:=⟨_,rfl⟩
 obtain ⟨Ri,hRi⟩:∃ x,x=bits .and .i64 Rn_ 4095:=⟨_,rfl⟩
 obtain ⟨Oi,hOi⟩:∃ x,x=1+bits .and .i64 Ot_ 511:=⟨_,rfl⟩
 have hopn:∀ w,Calls Tryz.prog 10 #[.agg #[.int .i64 La,.int .i64 Rn_,.int .i64 Ot_,.bool mesh,.int .i64 At_,.int .i64 Lt]] w (OpnPost at_ Li Ri Oi mesh w):=by
   intro w
   have h:=open15_any La Rn_ Ot_ At_ Lt mesh w
   rwa [← hat,← hLi,← hRi,← hOi] at h
 obtain ⟨ml,hml,hbl⟩:=and_mask x.la 1023 (by decide)
 obtain ⟨mt,hmt,hbt⟩:=and_mask x.tm 1023 (by decide)
 obtain ⟨mn,hmn,hbn⟩:=and_mask x.nn 1023 (by decide)
 obtain ⟨mi,hmi,hbi⟩:=and_mask x.till 2047 (by decide)
 obtain ⟨me,hme,hbe⟩:=and_mask x.ex 3 (by decide)
 obtain ⟨mq,hmq,hbq⟩:=and_mask x.sq 1023 (by decide)
 obtain ⟨tn,htn,hbtn⟩:=and_mask x.tn 7 (by decide)
 obtain ⟨eN,heN,he2⟩:∃ eN:Nat,Int.tmod (me:Int) 3=(eN:Int)/\eN<=2:=⟨me % 3,rfl,by omega⟩
 have h0:=Hp.nil (fun _=>False) w
 refine mE 432 ?_
 refine mN h0 23 ([(zD La),(zD Rn_),(zD Ot_),(bV mesh),(zD At_),(zD Lt)]) fun g2 w2 h2=>?_
 refine mN h2 63 ([(sV x.srv),(zD x.nn),(zD x.till),(bV x.r),(bV x.m),(zD x.ex),(zD x.la),(zD x.tm),(zD x.sq),(zD x.tn)]) fun g3 w3 h3=>?_
 refine mD h3 [] (alive15_any _) (fun w6 h6=>?_)
 rcases an_way0 x.srv with hq|⟨hs6,hr⟩|⟨hs6,hr⟩
 ·
  refine ma h6 0 ?_
  refine mX 26 (.bool true) (bV (decide (((x.srv).size:Int)>60))) (by simp;omega) ?_
  exact mQ h6
 ·
  refine ma h6 0 ?_
  refine mX 26 (.bool false) (bV (decide (((x.srv).size:Int)>60))) (by simp;omega) ?_
  refine ma h6 0 ?_
  refine mT (x_dp (v:=.bool false) h6 19 [(sV x.srv)] (by kernel_rfl) (hr ▸ rright_any x.srv (by omega) _)) ?_
  rintro _ w11 ⟨rfl,h11⟩
  exact mQ h11
 refine ma h6 0 ?_
 refine mX 26 (.bool false) (bV (decide (((x.srv).size:Int)>60))) (by simp;omega) ?_
 refine ma h6 0 ?_
 refine mT (x_dp (v:=.bool true) h6 19 [(sV x.srv)] (by kernel_rfl) (hr ▸ rright_any x.srv (by omega) _)) ?_
 rintro _ w13 ⟨rfl,h13⟩
 refine ma h13 1 ?_
 refine mT (x_open15 (at_:=at_) (L:=Li) (Rn:=Ri) (Ot:=Oi) (mesh:=mesh) h13 [(aV ([(zD La),(zD Rn_),(zD Ot_),(bV mesh),(zD At_),(zD Lt)]).toArray)] (by kernel_rfl) (hopn _)) ?_
 rintro _ w15 ⟨d,sv,kb,cb,bk,tb,bb,G,Gc,F,kk,ka,kb_,K1,K2,b0,b1,b2,b3,b4,b5,fl,R,A,B,c,c',mv,rfl,hT,⟨hkk,hka,hkb,hK1,hK2⟩,⟨hp0,hp1,hp2,hp3,hp4,hp5⟩,h15⟩
 have h16:=h15.share 7 rfl
 have h17:=h16.share 7 rfl
 have z1:=hT.at0
 have z2:=hT.l
 have z3:=hT.o
 have z4:=hT.r
 refine ma h17 8 ?_
 refine mX 39 (zD at_) (zD (bits .and .i64 At_ 1023)) (congrArg (iV .i64) hat.symm) ?_
 refine mJ 2000009 (fun aJ wJ23=>∃ (xJ23:Nat->Value),aJ=patch xJ23 432 [(2,(pt g2 0)),(3,(pt g3 0)),(4,zV),(5,(pt d 0)),(6,(zD at_)),(7,(zD (at_+(ml:Int)))),(8,(zD (at_+(mt:Int))))]/\Hp (fun _=>False) w wJ23 [rSB ((lV B 16 c')) (mkB 98 5),rSB ((lV A 16 c)) (mkB 98 2)] [rBlk d 37 (dkC tb sv (rpC fl K1 1 bKDC at_ (min (at_+600) (at_+Li)) R) (rpC 4 K2 1 bKDC at_ (min (at_+600) (at_+Oi)) 0) (lV A 16 c) (lV B 16 c')),rBlk sv 73 ([(pt kb 0),(pt cb 0),(pt bk 0)]),rBlk kb 78 ([(Value.iface 28 (pt tb 0)),(pt bb 0)]++vb (kl kk)),rBs G bb [User.mk bANN ka Li Ri false,User.mk bBOB kb_ Oi 0 mesh],rCa Gc cb 64 [],rBlk bk 164 ([mv]),rTab F tb ((sO kk ka kb_ b0 b1 b2 b3 b4 b5)),rBlk g3 63 ([(sV x.srv),(zD x.nn),(zD x.till),(bV x.r),(bV x.m),(zD x.ex),(zD x.la),(zD x.tm),(zD x.sq),(zD x.tn)]),rBlk g2 23 ([(zD La),(zD Rn_),(zD Ot_),(bV mesh),(zD At_),(zD Lt)])]) ?_ (fun hJ23 hhJ23=>?_)
 ·
  rintro _ wJ23 ⟨xJ23,rfl,hJh23⟩
  refine mAt ?_
  refine mJ 2000010 (fun aJ wJ26=>∃ (gJ25_0:Nat) (gJ25_1:Nat) (xJ26:Nat->Value),aJ=patch xJ26 432 [(2,(pt g2 0)),(3,(pt g3 0)),(4,zV),(5,(pt d 0)),(6,(zD at_)),(7,(zD (at_+(ml:Int)))),(8,(zD (at_+(mt:Int)))),(9,(pt gJ25_0 0))]/\Hp (fun _=>False) w wJ26 [rSB ((lV B 16 c')) (mkB 98 5),rSB ((lV A 16 c)) (mkB 98 2)] [rBlk gJ25_0 40 ([(sV x.srv),(zD ((mn:Int))),(zD (at_+(mi:Int))),(bV x.r),(bV x.m),(sV (⟨#[107,100,99]⟩)),(lV A 16 c),zN,(lV (some ⟨gJ25_1,0,none⟩) eN 2)]),rBlk gJ25_1 35 ([(sV (⟨#[107,100,99]⟩)),(lV B 16 c'),(sV (⟨#[107,100,99]⟩)),(lV A 16 c)]),rBlk d 37 (dkC tb sv (rpC fl K1 1 bKDC at_ (min (at_+600) (at_+Li)) R) (rpC 4 K2 1 bKDC at_ (min (at_+600) (at_+Oi)) 0) (lV A 16 c) (lV B 16 c')),rBlk sv 73 ([(pt kb 0),(pt cb 0),(pt bk 0)]),rBlk kb 78 ([(Value.iface 28 (pt tb 0)),(pt bb 0)]++vb (kl kk)),rBs G bb [User.mk bANN ka Li Ri false,User.mk bBOB kb_ Oi 0 mesh],rCa Gc cb 64 [],rBlk bk 164 ([mv]),rTab F tb ((sO kk ka kb_ b0 b1 b2 b3 b4 b5)),rBlk g3 63 ([(sV x.srv),(zD x.nn),(zD x.till),(bV x.r),(bV x.m),(zD x.ex),(zD x.la),(zD x.tm),(zD x.sq),(zD x.tn)]),rBlk g2 23 ([(zD La),(zD Rn_),(zD Ot_),(bV mesh),(zD At_),(zD Lt)])]) ?_ (fun hJ26 hhJ26=>?_)
  ·
   rintro _ wJ26 ⟨gJ25_0,gJ25_1,xJ26,rfl,hJh26⟩
   refine mAt ?_
   refine ma hJh26 0 ?_
   refine mJ 1000086 (fun aJ wJ29=>∃ (E:Option Addr) (ln:Nat) (ce:Nat) (xs:List Xt) (xJ29:Nat->Value),ln=xs.length/\((eN=0/\xs=[])∨(eN=1/\xs=[⟨bKDC,mkB 98 5,B,c'⟩])∨(eN=2/\xs=[⟨bKDC,mkB 98 2,A,c⟩]))/\aJ=patch xJ29 432 [(2,(pt g2 0)),(3,(pt g3 0)),(4,zV),(5,(pt d 0)),(7,(zD (at_+(ml:Int)))),(8,(zD (at_+(mt:Int)))),(9,(pt gJ25_0 0)),(86,(bV (((eN:Int)) == 2)))]/\Hp (fun _=>False) w wJ29 [rQx A c (mkB 98 2) E ce xs,rSB ((lV B 16 c')) (mkB 98 5),rSB ((lV A 16 c)) (mkB 98 2)] [rBlk gJ25_0 40 ([(sV x.srv),(zD ((mn:Int))),(zD (at_+(mi:Int))),(bV x.r),(bV x.m),(sV (⟨#[107,100,99]⟩)),(lV A 16 c),zN,(lV E ln ce)]),rBlk d 37 (dkC tb sv (rpC fl K1 1 bKDC at_ (min (at_+600) (at_+Li)) R) (rpC 4 K2 1 bKDC at_ (min (at_+600) (at_+Oi)) 0) (lV A 16 c) (lV B 16 c')),rBlk sv 73 ([(pt kb 0),(pt cb 0),(pt bk 0)]),rBlk kb 78 ([(Value.iface 28 (pt tb 0)),(pt bb 0)]++vb (kl kk)),rBs G bb [User.mk bANN ka Li Ri false,User.mk bBOB kb_ Oi 0 mesh],rCa Gc cb 64 [],rBlk bk 164 ([mv]),rTab F tb ((sO kk ka kb_ b0 b1 b2 b3 b4 b5)),rBlk g3 63 ([(sV x.srv),(zD x.nn),(zD x.till),(bV x.r),(bV x.m),(zD x.ex),(zD x.la),(zD x.tm),(zD x.sq),(zD x.tn)]),rBlk g2 23 ([(zD La),(zD Rn_),(zD Ot_),(bV mesh),(zD At_),(zD Lt)])]) ?_ (fun hJ29 hhJ29=>?_)
   ·
    rintro _ wJ29 ⟨E,ln,ce,xs,xJ29,hln,hxs,rfl,hJh29⟩
    refine mAt ?_
    obtain ⟨hok,hl1⟩:=an_ok hxs
    have hql:(qB x.srv (mn:Int) (at_+(mi:Int)) x.r x.m (mkB 98 2) xs).length<=4096:=qB_len (by omega) (by rw [mkB_len];decide) hl1.2 hl1.1
    obtain ⟨ba,hpa⟩:=pack_authent' (t:=at_+(mt:Int)) (q:=(mq:Int)) (n:=(sO kk ka kb_ b0 b1 b2 b3 b4 b5).sumAt (qB x.srv (mn:Int) (at_+(mi:Int)) x.r x.m (mkB 98 2) xs)+1) (by omega) (by omega)
    refine ma hJh29 0 ?_
    refine ma hJh29 8 ?_
    refine mX 99 (zD ((mq:Int))) (zD (bits .and .i64 x.sq 1023)) (congrArg (iV .i64) hmq) ?_
    refine mT (x_auth (nb:=6) (s2:=(((sO kk ka kb_ b0 b1 b2 b3 b4 b5).digest (qB x.srv (mn:Int) (at_+(mi:Int)) x.r x.m (mkB 98 2) xs)).seal (kl K1) 7 ba)) hJh29 7 rfl [(pt d 0),(Value.iface 40 (aV ([(sV x.srv),(zD ((mn:Int))),(zD (at_+(mi:Int))),(bV x.r),(bV x.m),(sV (⟨#[107,100,99]⟩)),(lV A 16 c),zN,(lV E ln ce)]).toArray)),(zD (at_+(mt:Int))),(zD ((mq:Int)))] (by kernel_rfl) (auth15_any (s:=(sO kk ka kb_ b0 b1 b2 b3 b4 b5)) (hJh29.carve1 7 rfl [(true,1),(false,0)] rfl rfl) ((roomO hp0 hp1 hp2 hp3 hp4 hp5).less (by decide)) (sumQl (xs:=xs) (D:=none) (an:=0) (ca:=0) hln (Nat.zero_le _) hok hr (by omega) (inN_is (by omega) (by omega)) (inN_is (by omega) (by omega)) (by rw [mkB_len];decide) hql) hpa)) ?_
    rintro _ w31 ⟨A31,c31,F31,rfl,h31⟩
    refine mT (xS h31 2 ([(sV x.srv),(zD ((mn:Int))),(zD (at_+(mi:Int))),(bV x.r),(bV x.m),(sV (⟨#[107,100,99]⟩)),(lV A 16 c),(lV A31 16 c31),(lV E ln ce)])) fun _ w32 h32=>?_
    obtain ⟨t1,ht1⟩:∃ t,t=(((sO kk ka kb_ b0 b1 b2 b3 b4 b5).digest (qB x.srv (mn:Int) (at_+(mi:Int)) x.r x.m (mkB 98 2) xs)).seal (kl K1) 7 ba):=⟨_,rfl⟩
    have hA:AnS kk K1 K2 at_ fl R (min (at_+600) (at_+Li)) (min (at_+600) (at_+Oi)) xs x.srv (mn:Int) (at_+(mi:Int)) (at_+(mt:Int)) (mq:Int) x.r x.m t1:=by rw [ht1];exact (AnS.init hK1 hK2 hp0 hp1 hp2 hp3 hp4 hp5 hpa hok hl1 hr hs6 (by omega) (by omega))
    have hb1:t1.boxes.length=7:=by rw [ht1];exact (au_len rfl)
    have hn1:t1.keys.length=5:=by rw [ht1];exact (au_keys rfl)
    have h34:=h32
    rw [← ht1] at h34
    clear ht1
    refine ma h34 9 ?_
    refine mX 104 (zD ((tn:Int))) (zD (bits .and .i64 x.tn 7)) (congrArg (iV .i64) htn) ?_
    rcases (by omega:tn=1∨tn=2∨tn=3∨tn=4∨tn=5∨(tn≠1/\tn≠2/\tn≠3/\tn≠4/\tn≠5)) with ht|ht|ht|ht|ht|ht
    ·
     refine mX 106 (.bool true) (bV (((tn:Int)) == 1)) (by simp;omega) ?_
     refine ma h34 3 ?_
     refine mT (xR h34 2 ([(sV x.srv),(zD ((mn:Int))),(zD (at_+(mi:Int))),(bV x.r),(bV x.m),(sV (⟨#[107,100,99]⟩)),(lV B 16 c'),(lV A31 16 c31),(lV E ln ce)])) fun _ w39 h39=>?_
     obtain ⟨ec,hec,hwhy,hcl⟩:=an_who2 (now:=at_+(ml:Int)) (srv:=x.srv) (nn:=(mn:Int)) (till:=at_+(mi:Int)) (r:=x.r) (m:=x.m) hA.rm.ok hA.b5 hA.au2
     refine mJ 2000026 (fun aJ wJ43=>∃ (gJ42_0:Nat) (FJ42_1:Nat->Prop) (GJ42_2:Nat->Prop) (xJ43:Nat->Value),aJ=patch xJ43 432 [(2,(pt g2 0)),(3,(pt g3 0)),(4,zV),(5,(pt d 0)),(7,(zD (at_+(ml:Int)))),(8,(zD (at_+(mt:Int)))),(9,(pt gJ25_0 0)),(10,(zD 22)),(11,(pt gJ42_0 0)),(12,(zD ((ec:Int))))]/\Hp (fun _=>False) w wJ43 [rQx A c (mkB 98 2) E ce xs,rSB ((lV B 16 c')) (mkB 98 5),rSB ((lV A 16 c)) (mkB 98 2)] [rBlk gJ42_0 43 ([zE,zE,zN,zN]),rTab FJ42_1 tb t1,rSB ((lV A31 16 c31)) (mkB 98 (6+1)),rBlk gJ25_0 40 ([(sV x.srv),(zD ((mn:Int))),(zD (at_+(mi:Int))),(bV x.r),(bV x.m),(sV (⟨#[107,100,99]⟩)),(lV B 16 c'),(lV A31 16 c31),(lV E ln ce)]),rBlk d 37 (dkC tb sv (rpC fl K1 1 bKDC at_ (min (at_+600) (at_+Li)) R) (rpC 4 K2 1 bKDC at_ (min (at_+600) (at_+Oi)) 0) (lV A 16 c) (lV B 16 c')),rBlk sv 73 ([(pt kb 0),(pt cb 0),(pt bk 0)]),rBlk kb 78 ([(Value.iface 28 (pt tb 0)),(pt bb 0)]++vb (kl kk)),rBs G bb [User.mk bANN ka Li Ri false,User.mk bBOB kb_ Oi 0 mesh],rCa GJ42_2 cb 64 [],rBlk bk 164 ([mv]),rBlk g3 63 ([(sV x.srv),(zD x.nn),(zD x.till),(bV x.r),(bV x.m),(zD x.ex),(zD x.la),(zD x.tm),(zD x.sq),(zD x.tn)]),rBlk g2 23 ([(zD La),(zD Rn_),(zD Ot_),(bV mesh),(zD At_),(zD Lt)])]) ?_ (fun hJ43 hhJ43=>?_)
     ·
      rintro _ wJ43 ⟨gJ42_0,FJ42_1,GJ42_2,xJ43,rfl,hJh43⟩
      refine mAt ?_
      refine ma hJh43 11 ?_
      refine mX 141 (zD ((bits .and .i64 La 511))) (zD (bits .and .i64 La 511)) rfl ?_
      refine mW 142 (exec_add _ _ _ _ bO 1 (bits .and .i64 La 511) (by kernel_rfl) (by kernel_rfl) Li hLi.symm (by omega) (by omega) _) ?_
      skip
      refine ma hJh43 4 ?_
      refine ma hJh43 10 ?_
      refine mX 152 (zD ((tn:Int))) (zD (bits .and .i64 x.tn 7)) (congrArg (iV .i64) htn) ?_
      refine mX 153 (.bool true) (bV (((tn:Int)) == 1)) (by simp;omega) ?_
      rcases hwhy with ⟨hu,he⟩|⟨hu,he⟩
      ·
       refine ma hJh43 4 ?_
       refine mX 160 (.bool true) (bV (decide ((min (at_+600) (at_+Oi))<=at_+(ml:Int)))) (by simp;omega) ?_
       refine ma hJh43 10 ?_
       refine mX 165 (zD ((tn:Int))) (zD (bits .and .i64 x.tn 7)) (congrArg (iV .i64) htn) ?_
       refine mX 166 (.bool true) (bV (((tn:Int)) != 4)) (by simp;omega) ?_
       refine ma hJh43 10 ?_
       refine mX 171 (zD ((tn:Int))) (zD (bits .and .i64 x.tn 7)) (congrArg (iV .i64) htn) ?_
       refine mX 172 (.bool true) (bV (((tn:Int)) != 5)) (by simp;omega) ?_
       refine mJ 2000033 (fun aJ wJ54=>∃ (gJ53_0:Nat) (gJ53_1:Nat) (xJ54:Nat->Value),aJ=patch xJ54 432 [(2,(pt g2 0)),(3,(pt g3 0)),(4,zV),(5,(pt d 0)),(7,(zD (at_+(ml:Int)))),(8,(zD (at_+(mt:Int)))),(9,(pt gJ25_0 0)),(10,(zD 12)),(11,(pt gJ42_0 0)),(12,(zD ((ec:Int)))),(13,(zD Li)),(15,(pt gJ53_0 0)),(16,(pt gJ53_1 0))]/\Hp (fun _=>False) w wJ54 [rQx A c (mkB 98 2) E ce xs,rSB ((lV B 16 c')) (mkB 98 5),rSB ((lV A 16 c)) (mkB 98 2)] [rBlk gJ53_1 31 (vb (kl kk)),rBlk gJ53_0 54 ([zO]++vb (List.replicate 16 0)++[(sV (⟨#[97,110,110]⟩)),(zD at_),zO,zO]),rBlk gJ42_0 43 ([zE,zE,zN,zN]),rTab FJ42_1 tb t1,rSB ((lV A31 16 c31)) (mkB 98 (6+1)),rBlk gJ25_0 40 ([(sV x.srv),(zD ((mn:Int))),(zD (at_+(mi:Int))),(bV x.r),(bV x.m),(sV (⟨#[107,100,99]⟩)),(lV B 16 c'),(lV A31 16 c31),(lV E ln ce)]),rBlk d 37 (dkC tb sv (rpC fl K1 1 bKDC at_ (min (at_+600) (at_+Li)) R) (rpC 4 K2 1 bKDC at_ (min (at_+600) (at_+Oi)) 0) (lV A 16 c) (lV B 16 c')),rBlk sv 73 ([(pt kb 0),(pt cb 0),(pt bk 0)]),rBlk kb 78 ([(Value.iface 28 (pt tb 0)),(pt bb 0)]++vb (kl kk)),rBs G bb [User.mk bANN ka Li Ri false,User.mk bBOB kb_ Oi 0 mesh],rCa GJ42_2 cb 64 [],rBlk bk 164 ([mv]),rBlk g3 63 ([(sV x.srv),(zD x.nn),(zD x.till),(bV x.r),(bV x.m),(zD x.ex),(zD x.la),(zD x.tm),(zD x.sq),(zD x.tn)]),rBlk g2 23 ([(zD La),(zD Rn_),(zD Ot_),(bV mesh),(zD At_),(zD Lt)])]) ?_ (fun hJ54 hhJ54=>?_)
       ·
        rintro _ wJ54 ⟨gJ53_0,gJ53_1,xJ54,rfl,hJh54⟩
        refine mAt ?_
        refine mX 323 (.bool false) (bV (((ec:Int)) != 12)) (by simp;omega) ?_
        refine mX 325 (.bool true) (bV (((ec:Int)) != 0)) (by simp;omega) ?_
        refine ma hJh54 2 ?_
        refine mX 328 (.bool true) (bV ((ByteArray.empty).toList == (⟨#[]⟩:ByteArray).toList)) (by kernel_rfl) ?_
        refine ma hJh54 2 ?_
        refine ma hJh54 2 ?_
        exact mQ hJh54
       refine dG hJh43 20 19 (fun W=>(rBlk d 37 (dkC tb sv (rpC fl K1 1 bKDC at_ (min (at_+600) (at_+Li)) R) (rpC 4 K2 1 bKDC at_ (min (at_+600) (at_+Oi)) 0) (lV A 16 c) (lV B 16 c'))).Φ W/\(rBlk sv 73 ([(pt kb 0),(pt cb 0),(pt bk 0)])).Φ W/\(rBlk kb 78 ([(Value.iface 28 (pt tb 0)),(pt bb 0)]++vb (kl kk))).Φ W/\True) (fun w62 h62=>⟨h62.at_ 4 rfl,h62.at_ 5 rfl,h62.at_ 6 rfl,trivial⟩) ?_
       intro w62 h62
       refine dP 13 [0,1,2,3,6,7,8] ?_
       refine dL 4 (fun W hW=>hW.1) ?_
       refine dP 11 [5] ?_
       refine dL 9 (fun W hW=>hW.1) ?_
       refine dP 8 [10,11] ?_
       refine dL 12 (fun W hW=>hW.2.1) ?_
       refine dP 5 [13,14] ?_
       refine dL 15 (fun W hW=>hW.2.2.1) ?_
       refine dO 16 17 ?_ ?_
       ·
        refine oT (xN h62 54 ([zO]++vb (List.replicate 16 0)++[zE,zO,zO,zO])) ?_
        rintro _ w63 ⟨g63,rfl,h63⟩
        refine ⟨⟨h63.at_ 5 rfl,h63.at_ 6 rfl,h63.at_ 7 rfl,trivial⟩,?_⟩
        refine dT 17 (xN h63 31 (vb (List.replicate 16 0))) ?_
        rintro _ w64 ⟨g64,rfl,h64⟩
        refine ⟨⟨h64.at_ 6 rfl,h64.at_ 7 rfl,h64.at_ 8 rfl,trivial⟩,?_⟩
        refine dT 18 (xR h64 1 ([zO]++vb (List.replicate 16 0)++[(sV (⟨#[97,110,110]⟩)),(zD at_),zO,zO])) ?_
        rintro _ w65 h65
        refine ⟨⟨h65.at_ 6 rfl,h65.at_ 7 rfl,h65.at_ 8 rfl,trivial⟩,?_⟩
        refine dE 19 (xR h65 0 (vb (kl kk))) ?_
        rintro _ w66 h66
        refine dX ?_
        exact mK hJ54 (hhJ54 _ _ ⟨g63,g64,_,pM,h66.sel [0,1,2,3,4,5,6,7,8,9,10,11,12,13] [0,1,2] (by kernel_rfl) rfl rfl⟩)
       refine oT (xN h62 31 (vb (List.replicate 16 0))) ?_
       rintro _ w67 ⟨g67,rfl,h67⟩
       refine ⟨⟨h67.at_ 5 rfl,h67.at_ 6 rfl,h67.at_ 7 rfl,trivial⟩,?_⟩
       refine dT 16 (xN h67 54 ([zO]++vb (List.replicate 16 0)++[zE,zO,zO,zO])) ?_
       rintro _ w68 ⟨g68,rfl,h68⟩
       refine ⟨⟨h68.at_ 6 rfl,h68.at_ 7 rfl,h68.at_ 8 rfl,trivial⟩,?_⟩
       refine dT 18 (xR h68 0 ([zO]++vb (List.replicate 16 0)++[(sV (⟨#[97,110,110]⟩)),(zD at_),zO,zO])) ?_
       rintro _ w69 h69
       refine ⟨⟨h69.at_ 6 rfl,h69.at_ 7 rfl,h69.at_ 8 rfl,trivial⟩,?_⟩
       refine dE 19 (xR h69 1 (vb (kl kk))) ?_
       rintro _ w70 h70
       refine dX ?_
       exact mK hJ54 (hhJ54 _ _ ⟨g68,g67,_,pM,h70.sel [1,0,2,3,4,5,6,7,8,9,10,11,12,13] [0,1,2] (by kernel_rfl) rfl rfl⟩)
      refine ma hJh43 4 ?_
      refine mX 160 (.bool false) (bV (decide ((min (at_+600) (at_+Oi))<=at_+(ml:Int)))) (by simp;omega) ?_
      refine mJ 2000033 (fun aJ wJ75=>∃ (gJ74_0:Nat) (gJ74_1:Nat) (xJ75:Nat->Value),aJ=patch xJ75 432 [(2,(pt g2 0)),(3,(pt g3 0)),(4,zV),(5,(pt d 0)),(7,(zD (at_+(ml:Int)))),(8,(zD (at_+(mt:Int)))),(9,(pt gJ25_0 0)),(10,(zD 22)),(11,(pt gJ42_0 0)),(12,(zD ((ec:Int)))),(13,(zD Li)),(15,(pt gJ74_0 0)),(16,(pt gJ74_1 0))]/\Hp (fun _=>False) w wJ75 [rQx A c (mkB 98 2) E ce xs,rSB ((lV B 16 c')) (mkB 98 5),rSB ((lV A 16 c)) (mkB 98 2)] [rBlk gJ74_1 31 (vb (kl kk)),rBlk gJ74_0 54 ([zO]++vb (List.replicate 16 0)++[(sV (⟨#[97,110,110]⟩)),(zD at_),zO,zO]),rBlk gJ42_0 43 ([zE,zE,zN,zN]),rTab FJ42_1 tb t1,rSB ((lV A31 16 c31)) (mkB 98 (6+1)),rBlk gJ25_0 40 ([(sV x.srv),(zD ((mn:Int))),(zD (at_+(mi:Int))),(bV x.r),(bV x.m),(sV (⟨#[107,100,99]⟩)),(lV B 16 c'),(lV A31 16 c31),(lV E ln ce)]),rBlk d 37 (dkC tb sv (rpC fl K1 1 bKDC at_ (min (at_+600) (at_+Li)) R) (rpC 4 K2 1 bKDC at_ (min (at_+600) (at_+Oi)) 0) (lV A 16 c) (lV B 16 c')),rBlk sv 73 ([(pt kb 0),(pt cb 0),(pt bk 0)]),rBlk kb 78 ([(Value.iface 28 (pt tb 0)),(pt bb 0)]++vb (kl kk)),rBs G bb [User.mk bANN ka Li Ri false,User.mk bBOB kb_ Oi 0 mesh],rCa GJ42_2 cb 64 [],rBlk bk 164 ([mv]),rBlk g3 63 ([(sV x.srv),(zD x.nn),(zD x.till),(bV x.r),(bV x.m),(zD x.ex),(zD x.la),(zD x.tm),(zD x.sq),(zD x.tn)]),rBlk g2 23 ([(zD La),(zD Rn_),(zD Ot_),(bV mesh),(zD At_),(zD Lt)])]) ?_ (fun hJ75 hhJ75=>?_)
      ·
       rintro _ wJ75 ⟨gJ74_0,gJ74_1,xJ75,rfl,hJh75⟩
       refine mAt ?_
       refine mX 323 (.bool false) (bV (((ec:Int)) != 22)) (by simp;omega) ?_
       refine mX 325 (.bool true) (bV (((ec:Int)) != 0)) (by simp;omega) ?_
       refine ma hJh75 2 ?_
       refine mX 328 (.bool true) (bV ((ByteArray.empty).toList == (⟨#[]⟩:ByteArray).toList)) (by kernel_rfl) ?_
       refine ma hJh75 2 ?_
       refine ma hJh75 2 ?_
       exact mQ hJh75
      refine dG hJh43 20 19 (fun W=>(rBlk d 37 (dkC tb sv (rpC fl K1 1 bKDC at_ (min (at_+600) (at_+Li)) R) (rpC 4 K2 1 bKDC at_ (min (at_+600) (at_+Oi)) 0) (lV A 16 c) (lV B 16 c'))).Φ W/\(rBlk sv 73 ([(pt kb 0),(pt cb 0),(pt bk 0)])).Φ W/\(rBlk kb 78 ([(Value.iface 28 (pt tb 0)),(pt bb 0)]++vb (kl kk))).Φ W/\True) (fun w83 h83=>⟨h83.at_ 4 rfl,h83.at_ 5 rfl,h83.at_ 6 rfl,trivial⟩) ?_
      intro w83 h83
      refine dP 13 [0,1,2,3,6,7,8] ?_
      refine dL 4 (fun W hW=>hW.1) ?_
      refine dP 11 [5] ?_
      refine dL 9 (fun W hW=>hW.1) ?_
      refine dP 8 [10,11] ?_
      refine dL 12 (fun W hW=>hW.2.1) ?_
      refine dP 5 [13,14] ?_
      refine dL 15 (fun W hW=>hW.2.2.1) ?_
      refine dO 16 17 ?_ ?_
      ·
       refine oT (xN h83 54 ([zO]++vb (List.replicate 16 0)++[zE,zO,zO,zO])) ?_
       rintro _ w84 ⟨g84,rfl,h84⟩
       refine ⟨⟨h84.at_ 5 rfl,h84.at_ 6 rfl,h84.at_ 7 rfl,trivial⟩,?_⟩
       refine dT 17 (xN h84 31 (vb (List.replicate 16 0))) ?_
       rintro _ w85 ⟨g85,rfl,h85⟩
       refine ⟨⟨h85.at_ 6 rfl,h85.at_ 7 rfl,h85.at_ 8 rfl,trivial⟩,?_⟩
       refine dT 18 (xR h85 1 ([zO]++vb (List.replicate 16 0)++[(sV (⟨#[97,110,110]⟩)),(zD at_),zO,zO])) ?_
       rintro _ w86 h86
       refine ⟨⟨h86.at_ 6 rfl,h86.at_ 7 rfl,h86.at_ 8 rfl,trivial⟩,?_⟩
       refine dE 19 (xR h86 0 (vb (kl kk))) ?_
       rintro _ w87 h87
       refine dX ?_
       exact mK hJ75 (hhJ75 _ _ ⟨g84,g85,_,pM,h87.sel [0,1,2,3,4,5,6,7,8,9,10,11,12,13] [0,1,2] (by kernel_rfl) rfl rfl⟩)
      refine oT (xN h83 31 (vb (List.replicate 16 0))) ?_
      rintro _ w88 ⟨g88,rfl,h88⟩
      refine ⟨⟨h88.at_ 5 rfl,h88.at_ 6 rfl,h88.at_ 7 rfl,trivial⟩,?_⟩
      refine dT 16 (xN h88 54 ([zO]++vb (List.replicate 16 0)++[zE,zO,zO,zO])) ?_
      rintro _ w89 ⟨g89,rfl,h89⟩
      refine ⟨⟨h89.at_ 6 rfl,h89.at_ 7 rfl,h89.at_ 8 rfl,trivial⟩,?_⟩
      refine dT 18 (xR h89 0 ([zO]++vb (List.replicate 16 0)++[(sV (⟨#[97,110,110]⟩)),(zD at_),zO,zO])) ?_
      rintro _ w90 h90
      refine ⟨⟨h90.at_ 6 rfl,h90.at_ 7 rfl,h90.at_ 8 rfl,trivial⟩,?_⟩
      refine dE 19 (xR h90 1 (vb (kl kk))) ?_
      rintro _ w91 h91
      refine dX ?_
      exact mK hJ75 (hhJ75 _ _ ⟨g89,g88,_,pM,h91.sel [1,0,2,3,4,5,6,7,8,9,10,11,12,13] [0,1,2] (by kernel_rfl) rfl rfl⟩)
     refine dG h39 13 12 (fun W=>(rBlk d 37 (dkC tb sv (rpC fl K1 1 bKDC at_ (min (at_+600) (at_+Li)) R) (rpC 4 K2 1 bKDC at_ (min (at_+600) (at_+Oi)) 0) (lV A 16 c) (lV B 16 c'))).Φ W/\(rBlk gJ25_0 40 ([(sV x.srv),(zD ((mn:Int))),(zD (at_+(mi:Int))),(bV x.r),(bV x.m),(sV (⟨#[107,100,99]⟩)),(lV B 16 c'),(lV A31 16 c31),(lV E ln ce)])).Φ W/\True) (fun w92 h92=>⟨h92.at_ 3 rfl,h92.at_ 2 rfl,trivial⟩) ?_
     intro w92 h92
     refine dP 9 [0,1,2,4] ?_
     refine dL 3 (fun W hW=>hW.1) ?_
     refine dL 5 (fun W hW=>hW.2.1) ?_
     refine dO 6 10 ?_ ?_
     ·
      refine oT (x_tgsN (ec:=ec) (s3:=t1) (sl2:=[]) h92 0 7 rfl rfl [(pt sv 0),(zD (at_+(ml:Int))),(aV ([(sV x.srv),(zD ((mn:Int))),(zD (at_+(mi:Int))),(bV x.r),(bV x.m),(sV (⟨#[107,100,99]⟩)),(lV B 16 c'),(lV A31 16 c31),(lV E ln ce)]).toArray)] rfl (by kernel_rfl) (hcl (mkB_len _ _).symm (mkB_len _ _).symm (h92.carve2 0 7 rfl rfl [(true,4),(true,5),(false,1),(true,1),(false,0),(true,6)] rfl rfl))) ?_
      rintro _ w93 ⟨F93,G93,rfl,h93⟩
      refine ⟨⟨h93.at_ 3 rfl,h93.at_ 2 rfl,trivial⟩,?_⟩
      refine dP 3 [7,8,9] ?_
      refine dT 10 (xN h93 43 ([zE,zE,zN,zN])) ?_
      rintro _ w94 ⟨g94,rfl,h94⟩
      refine ⟨⟨h94.at_ 4 rfl,h94.at_ 3 rfl,trivial⟩,?_⟩
      refine dT 11 (xR h94 0 ([zE,zE,zN,zN])) ?_
      rintro _ w95 h95
      refine ⟨⟨h95.at_ 4 rfl,h95.at_ 3 rfl,trivial⟩,?_⟩
      refine dN 12 ?_
      refine dX ?_
      exact mK hJ43 (hhJ43 _ _ ⟨g94,F93,G93,_,pM,h95.sel [0,1,2,3,4,5,6,7,8,9,10,11] [0,1,2] (by kernel_rfl) rfl rfl⟩)
     refine oT (xN h92 43 ([zE,zE,zN,zN])) ?_
     rintro _ w96 ⟨g96,rfl,h96⟩
     refine ⟨⟨h96.at_ 4 rfl,h96.at_ 3 rfl,trivial⟩,?_⟩
     refine dT 6 (x_tgsN (ec:=ec) (s3:=t1) (sl2:=[]) h96 1 8 rfl rfl [(pt sv 0),(zD (at_+(ml:Int))),(aV ([(sV x.srv),(zD ((mn:Int))),(zD (at_+(mi:Int))),(bV x.r),(bV x.m),(sV (⟨#[107,100,99]⟩)),(lV B 16 c'),(lV A31 16 c31),(lV E ln ce)]).toArray)] rfl (by kernel_rfl) (hcl (mkB_len _ _).symm (mkB_len _ _).symm (h96.carve2 1 8 rfl rfl [(true,5),(true,6),(false,1),(true,2),(false,0),(true,7)] rfl rfl))) ?_
     rintro _ w97 ⟨F97,G97,rfl,h97⟩
     refine ⟨⟨h97.at_ 4 rfl,h97.at_ 3 rfl,trivial⟩,?_⟩
     refine dP 2 [7,8,9] ?_
     refine dT 11 (xR h97 0 ([zE,zE,zN,zN])) ?_
     rintro _ w98 h98
     refine ⟨⟨h98.at_ 4 rfl,h98.at_ 3 rfl,trivial⟩,?_⟩
     refine dN 12 ?_
     refine dX ?_
     exact mK hJ43 (hhJ43 _ _ ⟨g96,F97,G97,_,pM,h98.sel [0,1,2,3,4,5,6,7,8,9,10,11] [0,1,2] (by kernel_rfl) rfl rfl⟩)
    ·
     refine mX 106 (.bool false) (bV (((tn:Int)) == 1)) (by simp;omega) ?_
     refine mX 113 (.bool true) (bV (((tn:Int)) == 2)) (by simp;omega) ?_
     refine ma h34 2 ?_
     refine mW 116 (exec_add _ _ _ _ bO ((mn:Int)) 1 (by kernel_rfl) (by kernel_rfl) ((mn:Int)+1) rfl (by omega) (by omega) _) ?_
     refine mT (xS h34 2 ([(sV x.srv),(zD ((mn:Int)+1)),(zD (at_+(mi:Int))),(bV x.r),(bV x.m),(sV (⟨#[107,100,99]⟩)),(lV A 16 c),(lV A31 16 c31),(lV E ln ce)])) fun _ w100 h100=>?_
     obtain ⟨ec,s3,hec,hwhy,hcl⟩:=an_turn (now:=at_+(ml:Int)) (ka:=ka) (kb_:=kb_) (L:=Li) (Ri:=Ri) (Ot:=Oi) (mesh:=mesh) (E:=E) (ce:=ce) (A:=A) (c:=c) hln hA
     refine mJ 2000026 (fun aJ wJ104=>∃ (gJ103_0:Nat) (FJ103_1:Nat->Prop) (GJ103_2:Nat->Prop) (xJ104:Nat->Value),aJ=patch xJ104 432 [(2,(pt g2 0)),(3,(pt g3 0)),(4,zV),(5,(pt d 0)),(7,(zD (at_+(ml:Int)))),(8,(zD (at_+(mt:Int)))),(9,(pt gJ25_0 0)),(10,(zD 17)),(11,(pt gJ103_0 0)),(12,(zD ((ec:Int))))]/\Hp (fun _=>False) w wJ104 [rQx A c (mkB 98 2) E ce xs,rSB ((lV B 16 c')) (mkB 98 5),rSB ((lV A 16 c)) (mkB 98 2)] [rBlk gJ103_0 43 ([zE,zE,zN,zN]),rTab FJ103_1 tb s3,rSB ((lV A31 16 c31)) (mkB 98 (6+1)),rBlk gJ25_0 40 ([(sV x.srv),(zD ((mn:Int)+1)),(zD (at_+(mi:Int))),(bV x.r),(bV x.m),(sV (⟨#[107,100,99]⟩)),(lV A 16 c),(lV A31 16 c31),(lV E ln ce)]),rBlk d 37 (dkC tb sv (rpC fl K1 1 bKDC at_ (min (at_+600) (at_+Li)) R) (rpC 4 K2 1 bKDC at_ (min (at_+600) (at_+Oi)) 0) (lV A 16 c) (lV B 16 c')),rBlk sv 73 ([(pt kb 0),(pt cb 0),(pt bk 0)]),rBlk kb 78 ([(Value.iface 28 (pt tb 0)),(pt bb 0)]++vb (kl kk)),rBs G bb [User.mk bANN ka Li Ri false,User.mk bBOB kb_ Oi 0 mesh],rCa GJ103_2 cb 64 [],rBlk bk 164 ([mv]),rBlk g3 63 ([(sV x.srv),(zD x.nn),(zD x.till),(bV x.r),(bV x.m),(zD x.ex),(zD x.la),(zD x.tm),(zD x.sq),(zD x.tn)]),rBlk g2 23 ([(zD La),(zD Rn_),(zD Ot_),(bV mesh),(zD At_),(zD Lt)])]) ?_ (fun hJ104 hhJ104=>?_)
     ·
      rintro _ wJ104 ⟨gJ103_0,FJ103_1,GJ103_2,xJ104,rfl,hJh104⟩
      refine mAt ?_
      refine ma hJh104 11 ?_
      refine mX 141 (zD ((bits .and .i64 La 511))) (zD (bits .and .i64 La 511)) rfl ?_
      refine mW 142 (exec_add _ _ _ _ bO 1 (bits .and .i64 La 511) (by kernel_rfl) (by kernel_rfl) Li hLi.symm (by omega) (by omega) _) ?_
      rcases hwhy with ⟨hu,he⟩|⟨hu,hwhy⟩
      ·
       refine ma hJh104 4 ?_
       refine mX 149 (.bool true) (bV (decide ((min (at_+600) (at_+Li))<=at_+(ml:Int)))) (by simp;omega) ?_
       refine ma hJh104 10 ?_
       refine mX 152 (zD ((tn:Int))) (zD (bits .and .i64 x.tn 7)) (congrArg (iV .i64) htn) ?_
       refine mX 153 (.bool false) (bV (((tn:Int)) == 1)) (by simp;omega) ?_
       refine ma hJh104 10 ?_
       refine mX 165 (zD ((tn:Int))) (zD (bits .and .i64 x.tn 7)) (congrArg (iV .i64) htn) ?_
       refine mX 166 (.bool true) (bV (((tn:Int)) != 4)) (by simp;omega) ?_
       refine ma hJh104 10 ?_
       refine mX 171 (zD ((tn:Int))) (zD (bits .and .i64 x.tn 7)) (congrArg (iV .i64) htn) ?_
       refine mX 172 (.bool true) (bV (((tn:Int)) != 5)) (by simp;omega) ?_
       refine mJ 2000033 (fun aJ wJ114=>∃ (gJ113_0:Nat) (gJ113_1:Nat) (xJ114:Nat->Value),aJ=patch xJ114 432 [(2,(pt g2 0)),(3,(pt g3 0)),(4,zV),(5,(pt d 0)),(7,(zD (at_+(ml:Int)))),(8,(zD (at_+(mt:Int)))),(9,(pt gJ25_0 0)),(10,(zD 12)),(11,(pt gJ103_0 0)),(12,(zD ((ec:Int)))),(13,(zD Li)),(15,(pt gJ113_0 0)),(16,(pt gJ113_1 0))]/\Hp (fun _=>False) w wJ114 [rQx A c (mkB 98 2) E ce xs,rSB ((lV B 16 c')) (mkB 98 5),rSB ((lV A 16 c)) (mkB 98 2)] [rBlk gJ113_1 31 (vb (kl kk)),rBlk gJ113_0 54 ([zO]++vb (List.replicate 16 0)++[(sV (⟨#[97,110,110]⟩)),(zD at_),zO,zO]),rBlk gJ103_0 43 ([zE,zE,zN,zN]),rTab FJ103_1 tb s3,rSB ((lV A31 16 c31)) (mkB 98 (6+1)),rBlk gJ25_0 40 ([(sV x.srv),(zD ((mn:Int)+1)),(zD (at_+(mi:Int))),(bV x.r),(bV x.m),(sV (⟨#[107,100,99]⟩)),(lV A 16 c),(lV A31 16 c31),(lV E ln ce)]),rBlk d 37 (dkC tb sv (rpC fl K1 1 bKDC at_ (min (at_+600) (at_+Li)) R) (rpC 4 K2 1 bKDC at_ (min (at_+600) (at_+Oi)) 0) (lV A 16 c) (lV B 16 c')),rBlk sv 73 ([(pt kb 0),(pt cb 0),(pt bk 0)]),rBlk kb 78 ([(Value.iface 28 (pt tb 0)),(pt bb 0)]++vb (kl kk)),rBs G bb [User.mk bANN ka Li Ri false,User.mk bBOB kb_ Oi 0 mesh],rCa GJ103_2 cb 64 [],rBlk bk 164 ([mv]),rBlk g3 63 ([(sV x.srv),(zD x.nn),(zD x.till),(bV x.r),(bV x.m),(zD x.ex),(zD x.la),(zD x.tm),(zD x.sq),(zD x.tn)]),rBlk g2 23 ([(zD La),(zD Rn_),(zD Ot_),(bV mesh),(zD At_),(zD Lt)])]) ?_ (fun hJ114 hhJ114=>?_)
       ·
        rintro _ wJ114 ⟨gJ113_0,gJ113_1,xJ114,rfl,hJh114⟩
        refine mAt ?_
        refine mX 323 (.bool false) (bV (((ec:Int)) != 12)) (by simp;omega) ?_
        refine mX 325 (.bool true) (bV (((ec:Int)) != 0)) (by simp;omega) ?_
        refine ma hJh114 2 ?_
        refine mX 328 (.bool true) (bV ((ByteArray.empty).toList == (⟨#[]⟩:ByteArray).toList)) (by kernel_rfl) ?_
        refine ma hJh114 2 ?_
        refine ma hJh114 2 ?_
        exact mQ hJh114
       refine dG hJh104 20 19 (fun W=>(rBlk d 37 (dkC tb sv (rpC fl K1 1 bKDC at_ (min (at_+600) (at_+Li)) R) (rpC 4 K2 1 bKDC at_ (min (at_+600) (at_+Oi)) 0) (lV A 16 c) (lV B 16 c'))).Φ W/\(rBlk sv 73 ([(pt kb 0),(pt cb 0),(pt bk 0)])).Φ W/\(rBlk kb 78 ([(Value.iface 28 (pt tb 0)),(pt bb 0)]++vb (kl kk))).Φ W/\True) (fun w122 h122=>⟨h122.at_ 4 rfl,h122.at_ 5 rfl,h122.at_ 6 rfl,trivial⟩) ?_
       intro w122 h122
       refine dP 13 [0,1,2,3,6,7,8] ?_
       refine dL 4 (fun W hW=>hW.1) ?_
       refine dP 11 [5] ?_
       refine dL 9 (fun W hW=>hW.1) ?_
       refine dP 8 [10,11] ?_
       refine dL 12 (fun W hW=>hW.2.1) ?_
       refine dP 5 [13,14] ?_
       refine dL 15 (fun W hW=>hW.2.2.1) ?_
       refine dO 16 17 ?_ ?_
       ·
        refine oT (xN h122 54 ([zO]++vb (List.replicate 16 0)++[zE,zO,zO,zO])) ?_
        rintro _ w123 ⟨g123,rfl,h123⟩
        refine ⟨⟨h123.at_ 5 rfl,h123.at_ 6 rfl,h123.at_ 7 rfl,trivial⟩,?_⟩
        refine dT 17 (xN h123 31 (vb (List.replicate 16 0))) ?_
        rintro _ w124 ⟨g124,rfl,h124⟩
        refine ⟨⟨h124.at_ 6 rfl,h124.at_ 7 rfl,h124.at_ 8 rfl,trivial⟩,?_⟩
        refine dT 18 (xR h124 1 ([zO]++vb (List.replicate 16 0)++[(sV (⟨#[97,110,110]⟩)),(zD at_),zO,zO])) ?_
        rintro _ w125 h125
        refine ⟨⟨h125.at_ 6 rfl,h125.at_ 7 rfl,h125.at_ 8 rfl,trivial⟩,?_⟩
        refine dE 19 (xR h125 0 (vb (kl kk))) ?_
        rintro _ w126 h126
        refine dX ?_
        exact mK hJ114 (hhJ114 _ _ ⟨g123,g124,_,pM,h126.sel [0,1,2,3,4,5,6,7,8,9,10,11,12,13] [0,1,2] (by kernel_rfl) rfl rfl⟩)
       refine oT (xN h122 31 (vb (List.replicate 16 0))) ?_
       rintro _ w127 ⟨g127,rfl,h127⟩
       refine ⟨⟨h127.at_ 5 rfl,h127.at_ 6 rfl,h127.at_ 7 rfl,trivial⟩,?_⟩
       refine dT 16 (xN h127 54 ([zO]++vb (List.replicate 16 0)++[zE,zO,zO,zO])) ?_
       rintro _ w128 ⟨g128,rfl,h128⟩
       refine ⟨⟨h128.at_ 6 rfl,h128.at_ 7 rfl,h128.at_ 8 rfl,trivial⟩,?_⟩
       refine dT 18 (xR h128 0 ([zO]++vb (List.replicate 16 0)++[(sV (⟨#[97,110,110]⟩)),(zD at_),zO,zO])) ?_
       rintro _ w129 h129
       refine ⟨⟨h129.at_ 6 rfl,h129.at_ 7 rfl,h129.at_ 8 rfl,trivial⟩,?_⟩
       refine dE 19 (xR h129 1 (vb (kl kk))) ?_
       rintro _ w130 h130
       refine dX ?_
       exact mK hJ114 (hhJ114 _ _ ⟨g128,g127,_,pM,h130.sel [1,0,2,3,4,5,6,7,8,9,10,11,12,13] [0,1,2] (by kernel_rfl) rfl rfl⟩)
      refine ma hJh104 4 ?_
      refine mX 149 (.bool false) (bV (decide ((min (at_+600) (at_+Li))<=at_+(ml:Int)))) (by simp;omega) ?_
      refine ma hJh104 10 ?_
      refine mX 152 (zD ((tn:Int))) (zD (bits .and .i64 x.tn 7)) (congrArg (iV .i64) htn) ?_
      refine mX 153 (.bool false) (bV (((tn:Int)) == 1)) (by simp;omega) ?_
      refine mJ 2000033 (fun aJ wJ137=>∃ (gJ136_0:Nat) (gJ136_1:Nat) (xJ137:Nat->Value),aJ=patch xJ137 432 [(2,(pt g2 0)),(3,(pt g3 0)),(4,zV),(5,(pt d 0)),(7,(zD (at_+(ml:Int)))),(8,(zD (at_+(mt:Int)))),(9,(pt gJ25_0 0)),(10,(zD 17)),(11,(pt gJ103_0 0)),(12,(zD ((ec:Int)))),(13,(zD Li)),(15,(pt gJ136_0 0)),(16,(pt gJ136_1 0))]/\Hp (fun _=>False) w wJ137 [rQx A c (mkB 98 2) E ce xs,rSB ((lV B 16 c')) (mkB 98 5),rSB ((lV A 16 c)) (mkB 98 2)] [rBlk gJ136_1 31 (vb (kl kk)),rBlk gJ136_0 54 ([zO]++vb (List.replicate 16 0)++[(sV (⟨#[97,110,110]⟩)),(zD at_),zO,zO]),rBlk gJ103_0 43 ([zE,zE,zN,zN]),rTab FJ103_1 tb s3,rSB ((lV A31 16 c31)) (mkB 98 (6+1)),rBlk gJ25_0 40 ([(sV x.srv),(zD ((mn:Int)+1)),(zD (at_+(mi:Int))),(bV x.r),(bV x.m),(sV (⟨#[107,100,99]⟩)),(lV A 16 c),(lV A31 16 c31),(lV E ln ce)]),rBlk d 37 (dkC tb sv (rpC fl K1 1 bKDC at_ (min (at_+600) (at_+Li)) R) (rpC 4 K2 1 bKDC at_ (min (at_+600) (at_+Oi)) 0) (lV A 16 c) (lV B 16 c')),rBlk sv 73 ([(pt kb 0),(pt cb 0),(pt bk 0)]),rBlk kb 78 ([(Value.iface 28 (pt tb 0)),(pt bb 0)]++vb (kl kk)),rBs G bb [User.mk bANN ka Li Ri false,User.mk bBOB kb_ Oi 0 mesh],rCa GJ103_2 cb 64 [],rBlk bk 164 ([mv]),rBlk g3 63 ([(sV x.srv),(zD x.nn),(zD x.till),(bV x.r),(bV x.m),(zD x.ex),(zD x.la),(zD x.tm),(zD x.sq),(zD x.tn)]),rBlk g2 23 ([(zD La),(zD Rn_),(zD Ot_),(bV mesh),(zD At_),(zD Lt)])]) ?_ (fun hJ137 hhJ137=>?_)
      ·
       rintro _ wJ137 ⟨gJ136_0,gJ136_1,xJ137,rfl,hJh137⟩
       refine mAt ?_
       refine mX 323 (.bool false) (bV (((ec:Int)) != 17)) (by simp;omega) ?_
       refine mX 325 (.bool true) (bV (((ec:Int)) != 0)) (by simp;omega) ?_
       refine ma hJh137 2 ?_
       refine mX 328 (.bool true) (bV ((ByteArray.empty).toList == (⟨#[]⟩:ByteArray).toList)) (by kernel_rfl) ?_
       refine ma hJh137 2 ?_
       refine ma hJh137 2 ?_
       exact mQ hJh137
      refine dG hJh104 20 19 (fun W=>(rBlk d 37 (dkC tb sv (rpC fl K1 1 bKDC at_ (min (at_+600) (at_+Li)) R) (rpC 4 K2 1 bKDC at_ (min (at_+600) (at_+Oi)) 0) (lV A 16 c) (lV B 16 c'))).Φ W/\(rBlk sv 73 ([(pt kb 0),(pt cb 0),(pt bk 0)])).Φ W/\(rBlk kb 78 ([(Value.iface 28 (pt tb 0)),(pt bb 0)]++vb (kl kk))).Φ W/\True) (fun w145 h145=>⟨h145.at_ 4 rfl,h145.at_ 5 rfl,h145.at_ 6 rfl,trivial⟩) ?_
      intro w145 h145
      refine dP 13 [0,1,2,3,6,7,8] ?_
      refine dL 4 (fun W hW=>hW.1) ?_
      refine dP 11 [5] ?_
      refine dL 9 (fun W hW=>hW.1) ?_
      refine dP 8 [10,11] ?_
      refine dL 12 (fun W hW=>hW.2.1) ?_
      refine dP 5 [13,14] ?_
      refine dL 15 (fun W hW=>hW.2.2.1) ?_
      refine dO 16 17 ?_ ?_
      ·
       refine oT (xN h145 54 ([zO]++vb (List.replicate 16 0)++[zE,zO,zO,zO])) ?_
       rintro _ w146 ⟨g146,rfl,h146⟩
       refine ⟨⟨h146.at_ 5 rfl,h146.at_ 6 rfl,h146.at_ 7 rfl,trivial⟩,?_⟩
       refine dT 17 (xN h146 31 (vb (List.replicate 16 0))) ?_
       rintro _ w147 ⟨g147,rfl,h147⟩
       refine ⟨⟨h147.at_ 6 rfl,h147.at_ 7 rfl,h147.at_ 8 rfl,trivial⟩,?_⟩
       refine dT 18 (xR h147 1 ([zO]++vb (List.replicate 16 0)++[(sV (⟨#[97,110,110]⟩)),(zD at_),zO,zO])) ?_
       rintro _ w148 h148
       refine ⟨⟨h148.at_ 6 rfl,h148.at_ 7 rfl,h148.at_ 8 rfl,trivial⟩,?_⟩
       refine dE 19 (xR h148 0 (vb (kl kk))) ?_
       rintro _ w149 h149
       refine dX ?_
       exact mK hJ137 (hhJ137 _ _ ⟨g146,g147,_,pM,h149.sel [0,1,2,3,4,5,6,7,8,9,10,11,12,13] [0,1,2] (by kernel_rfl) rfl rfl⟩)
      refine oT (xN h145 31 (vb (List.replicate 16 0))) ?_
      rintro _ w150 ⟨g150,rfl,h150⟩
      refine ⟨⟨h150.at_ 5 rfl,h150.at_ 6 rfl,h150.at_ 7 rfl,trivial⟩,?_⟩
      refine dT 16 (xN h150 54 ([zO]++vb (List.replicate 16 0)++[zE,zO,zO,zO])) ?_
      rintro _ w151 ⟨g151,rfl,h151⟩
      refine ⟨⟨h151.at_ 6 rfl,h151.at_ 7 rfl,h151.at_ 8 rfl,trivial⟩,?_⟩
      refine dT 18 (xR h151 0 ([zO]++vb (List.replicate 16 0)++[(sV (⟨#[97,110,110]⟩)),(zD at_),zO,zO])) ?_
      rintro _ w152 h152
      refine ⟨⟨h152.at_ 6 rfl,h152.at_ 7 rfl,h152.at_ 8 rfl,trivial⟩,?_⟩
      refine dE 19 (xR h152 1 (vb (kl kk))) ?_
      rintro _ w153 h153
      refine dX ?_
      exact mK hJ137 (hhJ137 _ _ ⟨g151,g150,_,pM,h153.sel [1,0,2,3,4,5,6,7,8,9,10,11,12,13] [0,1,2] (by kernel_rfl) rfl rfl⟩)
     refine dG h100 13 12 (fun W=>(rBlk d 37 (dkC tb sv (rpC fl K1 1 bKDC at_ (min (at_+600) (at_+Li)) R) (rpC 4 K2 1 bKDC at_ (min (at_+600) (at_+Oi)) 0) (lV A 16 c) (lV B 16 c'))).Φ W/\(rBlk gJ25_0 40 ([(sV x.srv),(zD ((mn:Int)+1)),(zD (at_+(mi:Int))),(bV x.r),(bV x.m),(sV (⟨#[107,100,99]⟩)),(lV A 16 c),(lV A31 16 c31),(lV E ln ce)])).Φ W/\True) (fun w154 h154=>⟨h154.at_ 3 rfl,h154.at_ 2 rfl,trivial⟩) ?_
     intro w154 h154
     refine dP 9 [0,1,2,4] ?_
     refine dL 3 (fun W hW=>hW.1) ?_
     refine dL 5 (fun W hW=>hW.2.1) ?_
     refine dO 6 10 ?_ ?_
     ·
      refine oT (x_tgsN (ec:=ec) (s3:=s3) (sl2:=[]) h154 0 7 rfl rfl [(pt sv 0),(zD (at_+(ml:Int))),(aV ([(sV x.srv),(zD ((mn:Int)+1)),(zD (at_+(mi:Int))),(bV x.r),(bV x.m),(sV (⟨#[107,100,99]⟩)),(lV A 16 c),(lV A31 16 c31),(lV E ln ce)]).toArray)] rfl (by kernel_rfl) (hcl (mkB_len _ _).symm (mkB_len _ _).symm (h154.carve2 0 7 rfl rfl [(true,4),(true,5),(false,2),(true,1),(false,0),(true,6)] rfl rfl))) ?_
      rintro _ w155 ⟨F155,G155,rfl,h155⟩
      refine ⟨⟨h155.at_ 3 rfl,h155.at_ 2 rfl,trivial⟩,?_⟩
      refine dP 3 [7,8,9] ?_
      refine dT 10 (xN h155 43 ([zE,zE,zN,zN])) ?_
      rintro _ w156 ⟨g156,rfl,h156⟩
      refine ⟨⟨h156.at_ 4 rfl,h156.at_ 3 rfl,trivial⟩,?_⟩
      refine dT 11 (xR h156 0 ([zE,zE,zN,zN])) ?_
      rintro _ w157 h157
      refine ⟨⟨h157.at_ 4 rfl,h157.at_ 3 rfl,trivial⟩,?_⟩
      refine dN 12 ?_
      refine dX ?_
      exact mK hJ104 (hhJ104 _ _ ⟨g156,F155,G155,_,pM,h157.sel [0,1,2,3,4,5,6,7,8,9,10,11] [0,1,2] (by kernel_rfl) rfl rfl⟩)
     refine oT (xN h154 43 ([zE,zE,zN,zN])) ?_
     rintro _ w158 ⟨g158,rfl,h158⟩
     refine ⟨⟨h158.at_ 4 rfl,h158.at_ 3 rfl,trivial⟩,?_⟩
     refine dT 6 (x_tgsN (ec:=ec) (s3:=s3) (sl2:=[]) h158 1 8 rfl rfl [(pt sv 0),(zD (at_+(ml:Int))),(aV ([(sV x.srv),(zD ((mn:Int)+1)),(zD (at_+(mi:Int))),(bV x.r),(bV x.m),(sV (⟨#[107,100,99]⟩)),(lV A 16 c),(lV A31 16 c31),(lV E ln ce)]).toArray)] rfl (by kernel_rfl) (hcl (mkB_len _ _).symm (mkB_len _ _).symm (h158.carve2 1 8 rfl rfl [(true,5),(true,6),(false,2),(true,2),(false,0),(true,7)] rfl rfl))) ?_
     rintro _ w159 ⟨F159,G159,rfl,h159⟩
     refine ⟨⟨h159.at_ 4 rfl,h159.at_ 3 rfl,trivial⟩,?_⟩
     refine dP 2 [7,8,9] ?_
     refine dT 11 (xR h159 0 ([zE,zE,zN,zN])) ?_
     rintro _ w160 h160
     refine ⟨⟨h160.at_ 4 rfl,h160.at_ 3 rfl,trivial⟩,?_⟩
     refine dN 12 ?_
     refine dX ?_
     exact mK hJ104 (hhJ104 _ _ ⟨g158,F159,G159,_,pM,h160.sel [0,1,2,3,4,5,6,7,8,9,10,11] [0,1,2] (by kernel_rfl) rfl rfl⟩)
    ·
     refine mX 106 (.bool false) (bV (((tn:Int)) == 1)) (by simp;omega) ?_
     refine mX 113 (.bool false) (bV (((tn:Int)) == 2)) (by simp;omega) ?_
     refine mX 119 (.bool true) (bV (((tn:Int)) == 3)) (by simp;omega) ?_
     refine mT (xS h34 2 ([(sV x.srv),(zD ((mn:Int))),(zD (at_+(mi:Int))),(bV x.r),(bV x.m),(sV (⟨#[107,100,99]⟩)),(lV A 16 c),zN,(lV E ln ce)])) fun _ w163 h163=>?_
     obtain ⟨ec,hec,hwhy,hcl⟩:=an_who2 (now:=at_+(ml:Int)) (srv:=x.srv) (nn:=(mn:Int)) (till:=at_+(mi:Int)) (r:=x.r) (m:=x.m) (au:=[]) hA.rm.ok hA.b2 (open_nil _ _ _)
     have h166:=h163.addNil
     refine mJ 2000026 (fun aJ wJ168=>∃ (gJ167_0:Nat) (FJ167_1:Nat->Prop) (GJ167_2:Nat->Prop) (xJ168:Nat->Value),aJ=patch xJ168 432 [(2,(pt g2 0)),(3,(pt g3 0)),(4,zV),(5,(pt d 0)),(7,(zD (at_+(ml:Int)))),(8,(zD (at_+(mt:Int)))),(9,(pt gJ25_0 0)),(10,(zD 22)),(11,(pt gJ167_0 0)),(12,(zD ((ec:Int))))]/\Hp (fun _=>False) w wJ168 [rSB (zN) ([]),rQx A c (mkB 98 2) E ce xs,rSB ((lV B 16 c')) (mkB 98 5),rSB ((lV A 16 c)) (mkB 98 2)] [rBlk gJ167_0 43 ([zE,zE,zN,zN]),rTab FJ167_1 tb t1,rSB ((lV A31 16 c31)) (mkB 98 (6+1)),rBlk gJ25_0 40 ([(sV x.srv),(zD ((mn:Int))),(zD (at_+(mi:Int))),(bV x.r),(bV x.m),(sV (⟨#[107,100,99]⟩)),(lV A 16 c),zN,(lV E ln ce)]),rBlk d 37 (dkC tb sv (rpC fl K1 1 bKDC at_ (min (at_+600) (at_+Li)) R) (rpC 4 K2 1 bKDC at_ (min (at_+600) (at_+Oi)) 0) (lV A 16 c) (lV B 16 c')),rBlk sv 73 ([(pt kb 0),(pt cb 0),(pt bk 0)]),rBlk kb 78 ([(Value.iface 28 (pt tb 0)),(pt bb 0)]++vb (kl kk)),rBs G bb [User.mk bANN ka Li Ri false,User.mk bBOB kb_ Oi 0 mesh],rCa GJ167_2 cb 64 [],rBlk bk 164 ([mv]),rBlk g3 63 ([(sV x.srv),(zD x.nn),(zD x.till),(bV x.r),(bV x.m),(zD x.ex),(zD x.la),(zD x.tm),(zD x.sq),(zD x.tn)]),rBlk g2 23 ([(zD La),(zD Rn_),(zD Ot_),(bV mesh),(zD At_),(zD Lt)])]) ?_ (fun hJ168 hhJ168=>?_)
     ·
      rintro _ wJ168 ⟨gJ167_0,FJ167_1,GJ167_2,xJ168,rfl,hJh168⟩
      refine mAt ?_
      refine ma hJh168 11 ?_
      refine mX 141 (zD ((bits .and .i64 La 511))) (zD (bits .and .i64 La 511)) rfl ?_
      refine mW 142 (exec_add _ _ _ _ bO 1 (bits .and .i64 La 511) (by kernel_rfl) (by kernel_rfl) Li hLi.symm (by omega) (by omega) _) ?_
      rcases hwhy with ⟨hu,he⟩|⟨hu,hwhy⟩
      ·
       refine ma hJh168 4 ?_
       refine mX 149 (.bool true) (bV (decide ((min (at_+600) (at_+Li))<=at_+(ml:Int)))) (by simp;omega) ?_
       refine ma hJh168 10 ?_
       refine mX 152 (zD ((tn:Int))) (zD (bits .and .i64 x.tn 7)) (congrArg (iV .i64) htn) ?_
       refine mX 153 (.bool false) (bV (((tn:Int)) == 1)) (by simp;omega) ?_
       refine ma hJh168 10 ?_
       refine mX 165 (zD ((tn:Int))) (zD (bits .and .i64 x.tn 7)) (congrArg (iV .i64) htn) ?_
       refine mX 166 (.bool true) (bV (((tn:Int)) != 4)) (by simp;omega) ?_
       refine ma hJh168 10 ?_
       refine mX 171 (zD ((tn:Int))) (zD (bits .and .i64 x.tn 7)) (congrArg (iV .i64) htn) ?_
       refine mX 172 (.bool true) (bV (((tn:Int)) != 5)) (by simp;omega) ?_
       refine mJ 2000033 (fun aJ wJ178=>∃ (gJ177_0:Nat) (gJ177_1:Nat) (xJ178:Nat->Value),aJ=patch xJ178 432 [(2,(pt g2 0)),(3,(pt g3 0)),(4,zV),(5,(pt d 0)),(7,(zD (at_+(ml:Int)))),(8,(zD (at_+(mt:Int)))),(9,(pt gJ25_0 0)),(10,(zD 12)),(11,(pt gJ167_0 0)),(12,(zD ((ec:Int)))),(13,(zD Li)),(15,(pt gJ177_0 0)),(16,(pt gJ177_1 0))]/\Hp (fun _=>False) w wJ178 [rSB (zN) ([]),rQx A c (mkB 98 2) E ce xs,rSB ((lV B 16 c')) (mkB 98 5),rSB ((lV A 16 c)) (mkB 98 2)] [rBlk gJ177_1 31 (vb (kl kk)),rBlk gJ177_0 54 ([zO]++vb (List.replicate 16 0)++[(sV (⟨#[97,110,110]⟩)),(zD at_),zO,zO]),rBlk gJ167_0 43 ([zE,zE,zN,zN]),rTab FJ167_1 tb t1,rSB ((lV A31 16 c31)) (mkB 98 (6+1)),rBlk gJ25_0 40 ([(sV x.srv),(zD ((mn:Int))),(zD (at_+(mi:Int))),(bV x.r),(bV x.m),(sV (⟨#[107,100,99]⟩)),(lV A 16 c),zN,(lV E ln ce)]),rBlk d 37 (dkC tb sv (rpC fl K1 1 bKDC at_ (min (at_+600) (at_+Li)) R) (rpC 4 K2 1 bKDC at_ (min (at_+600) (at_+Oi)) 0) (lV A 16 c) (lV B 16 c')),rBlk sv 73 ([(pt kb 0),(pt cb 0),(pt bk 0)]),rBlk kb 78 ([(Value.iface 28 (pt tb 0)),(pt bb 0)]++vb (kl kk)),rBs G bb [User.mk bANN ka Li Ri false,User.mk bBOB kb_ Oi 0 mesh],rCa GJ167_2 cb 64 [],rBlk bk 164 ([mv]),rBlk g3 63 ([(sV x.srv),(zD x.nn),(zD x.till),(bV x.r),(bV x.m),(zD x.ex),(zD x.la),(zD x.tm),(zD x.sq),(zD x.tn)]),rBlk g2 23 ([(zD La),(zD Rn_),(zD Ot_),(bV mesh),(zD At_),(zD Lt)])]) ?_ (fun hJ178 hhJ178=>?_)
       ·
        rintro _ wJ178 ⟨gJ177_0,gJ177_1,xJ178,rfl,hJh178⟩
        refine mAt ?_
        refine mX 323 (.bool false) (bV (((ec:Int)) != 12)) (by simp;omega) ?_
        refine mX 325 (.bool true) (bV (((ec:Int)) != 0)) (by simp;omega) ?_
        refine ma hJh178 2 ?_
        refine mX 328 (.bool true) (bV ((ByteArray.empty).toList == (⟨#[]⟩:ByteArray).toList)) (by kernel_rfl) ?_
        refine ma hJh178 2 ?_
        refine ma hJh178 2 ?_
        exact mQ hJh178
       refine dG hJh168 20 19 (fun W=>(rBlk d 37 (dkC tb sv (rpC fl K1 1 bKDC at_ (min (at_+600) (at_+Li)) R) (rpC 4 K2 1 bKDC at_ (min (at_+600) (at_+Oi)) 0) (lV A 16 c) (lV B 16 c'))).Φ W/\(rBlk sv 73 ([(pt kb 0),(pt cb 0),(pt bk 0)])).Φ W/\(rBlk kb 78 ([(Value.iface 28 (pt tb 0)),(pt bb 0)]++vb (kl kk))).Φ W/\True) (fun w186 h186=>⟨h186.at_ 4 rfl,h186.at_ 5 rfl,h186.at_ 6 rfl,trivial⟩) ?_
       intro w186 h186
       refine dP 13 [0,1,2,3,6,7,8] ?_
       refine dL 4 (fun W hW=>hW.1) ?_
       refine dP 11 [5] ?_
       refine dL 9 (fun W hW=>hW.1) ?_
       refine dP 8 [10,11] ?_
       refine dL 12 (fun W hW=>hW.2.1) ?_
       refine dP 5 [13,14] ?_
       refine dL 15 (fun W hW=>hW.2.2.1) ?_
       refine dO 16 17 ?_ ?_
       ·
        refine oT (xN h186 54 ([zO]++vb (List.replicate 16 0)++[zE,zO,zO,zO])) ?_
        rintro _ w187 ⟨g187,rfl,h187⟩
        refine ⟨⟨h187.at_ 5 rfl,h187.at_ 6 rfl,h187.at_ 7 rfl,trivial⟩,?_⟩
        refine dT 17 (xN h187 31 (vb (List.replicate 16 0))) ?_
        rintro _ w188 ⟨g188,rfl,h188⟩
        refine ⟨⟨h188.at_ 6 rfl,h188.at_ 7 rfl,h188.at_ 8 rfl,trivial⟩,?_⟩
        refine dT 18 (xR h188 1 ([zO]++vb (List.replicate 16 0)++[(sV (⟨#[97,110,110]⟩)),(zD at_),zO,zO])) ?_
        rintro _ w189 h189
        refine ⟨⟨h189.at_ 6 rfl,h189.at_ 7 rfl,h189.at_ 8 rfl,trivial⟩,?_⟩
        refine dE 19 (xR h189 0 (vb (kl kk))) ?_
        rintro _ w190 h190
        refine dX ?_
        exact mK hJ178 (hhJ178 _ _ ⟨g187,g188,_,pM,h190.sel [0,1,2,3,4,5,6,7,8,9,10,11,12,13] [0,1,2,3] (by kernel_rfl) rfl rfl⟩)
       refine oT (xN h186 31 (vb (List.replicate 16 0))) ?_
       rintro _ w191 ⟨g191,rfl,h191⟩
       refine ⟨⟨h191.at_ 5 rfl,h191.at_ 6 rfl,h191.at_ 7 rfl,trivial⟩,?_⟩
       refine dT 16 (xN h191 54 ([zO]++vb (List.replicate 16 0)++[zE,zO,zO,zO])) ?_
       rintro _ w192 ⟨g192,rfl,h192⟩
       refine ⟨⟨h192.at_ 6 rfl,h192.at_ 7 rfl,h192.at_ 8 rfl,trivial⟩,?_⟩
       refine dT 18 (xR h192 0 ([zO]++vb (List.replicate 16 0)++[(sV (⟨#[97,110,110]⟩)),(zD at_),zO,zO])) ?_
       rintro _ w193 h193
       refine ⟨⟨h193.at_ 6 rfl,h193.at_ 7 rfl,h193.at_ 8 rfl,trivial⟩,?_⟩
       refine dE 19 (xR h193 1 (vb (kl kk))) ?_
       rintro _ w194 h194
       refine dX ?_
       exact mK hJ178 (hhJ178 _ _ ⟨g192,g191,_,pM,h194.sel [1,0,2,3,4,5,6,7,8,9,10,11,12,13] [0,1,2,3] (by kernel_rfl) rfl rfl⟩)
      refine ma hJh168 4 ?_
      refine mX 149 (.bool false) (bV (decide ((min (at_+600) (at_+Li))<=at_+(ml:Int)))) (by simp;omega) ?_
      refine ma hJh168 10 ?_
      refine mX 152 (zD ((tn:Int))) (zD (bits .and .i64 x.tn 7)) (congrArg (iV .i64) htn) ?_
      refine mX 153 (.bool false) (bV (((tn:Int)) == 1)) (by simp;omega) ?_
      refine mJ 2000033 (fun aJ wJ201=>∃ (gJ200_0:Nat) (gJ200_1:Nat) (xJ201:Nat->Value),aJ=patch xJ201 432 [(2,(pt g2 0)),(3,(pt g3 0)),(4,zV),(5,(pt d 0)),(7,(zD (at_+(ml:Int)))),(8,(zD (at_+(mt:Int)))),(9,(pt gJ25_0 0)),(10,(zD 22)),(11,(pt gJ167_0 0)),(12,(zD ((ec:Int)))),(13,(zD Li)),(15,(pt gJ200_0 0)),(16,(pt gJ200_1 0))]/\Hp (fun _=>False) w wJ201 [rSB (zN) ([]),rQx A c (mkB 98 2) E ce xs,rSB ((lV B 16 c')) (mkB 98 5),rSB ((lV A 16 c)) (mkB 98 2)] [rBlk gJ200_1 31 (vb (kl kk)),rBlk gJ200_0 54 ([zO]++vb (List.replicate 16 0)++[(sV (⟨#[97,110,110]⟩)),(zD at_),zO,zO]),rBlk gJ167_0 43 ([zE,zE,zN,zN]),rTab FJ167_1 tb t1,rSB ((lV A31 16 c31)) (mkB 98 (6+1)),rBlk gJ25_0 40 ([(sV x.srv),(zD ((mn:Int))),(zD (at_+(mi:Int))),(bV x.r),(bV x.m),(sV (⟨#[107,100,99]⟩)),(lV A 16 c),zN,(lV E ln ce)]),rBlk d 37 (dkC tb sv (rpC fl K1 1 bKDC at_ (min (at_+600) (at_+Li)) R) (rpC 4 K2 1 bKDC at_ (min (at_+600) (at_+Oi)) 0) (lV A 16 c) (lV B 16 c')),rBlk sv 73 ([(pt kb 0),(pt cb 0),(pt bk 0)]),rBlk kb 78 ([(Value.iface 28 (pt tb 0)),(pt bb 0)]++vb (kl kk)),rBs G bb [User.mk bANN ka Li Ri false,User.mk bBOB kb_ Oi 0 mesh],rCa GJ167_2 cb 64 [],rBlk bk 164 ([mv]),rBlk g3 63 ([(sV x.srv),(zD x.nn),(zD x.till),(bV x.r),(bV x.m),(zD x.ex),(zD x.la),(zD x.tm),(zD x.sq),(zD x.tn)]),rBlk g2 23 ([(zD La),(zD Rn_),(zD Ot_),(bV mesh),(zD At_),(zD Lt)])]) ?_ (fun hJ201 hhJ201=>?_)
      ·
       rintro _ wJ201 ⟨gJ200_0,gJ200_1,xJ201,rfl,hJh201⟩
       refine mAt ?_
       refine mX 323 (.bool false) (bV (((ec:Int)) != 22)) (by simp;omega) ?_
       refine mX 325 (.bool true) (bV (((ec:Int)) != 0)) (by simp;omega) ?_
       refine ma hJh201 2 ?_
       refine mX 328 (.bool true) (bV ((ByteArray.empty).toList == (⟨#[]⟩:ByteArray).toList)) (by kernel_rfl) ?_
       refine ma hJh201 2 ?_
       refine ma hJh201 2 ?_
       exact mQ hJh201
      refine dG hJh168 20 19 (fun W=>(rBlk d 37 (dkC tb sv (rpC fl K1 1 bKDC at_ (min (at_+600) (at_+Li)) R) (rpC 4 K2 1 bKDC at_ (min (at_+600) (at_+Oi)) 0) (lV A 16 c) (lV B 16 c'))).Φ W/\(rBlk sv 73 ([(pt kb 0),(pt cb 0),(pt bk 0)])).Φ W/\(rBlk kb 78 ([(Value.iface 28 (pt tb 0)),(pt bb 0)]++vb (kl kk))).Φ W/\True) (fun w209 h209=>⟨h209.at_ 4 rfl,h209.at_ 5 rfl,h209.at_ 6 rfl,trivial⟩) ?_
      intro w209 h209
      refine dP 13 [0,1,2,3,6,7,8] ?_
      refine dL 4 (fun W hW=>hW.1) ?_
      refine dP 11 [5] ?_
      refine dL 9 (fun W hW=>hW.1) ?_
      refine dP 8 [10,11] ?_
      refine dL 12 (fun W hW=>hW.2.1) ?_
      refine dP 5 [13,14] ?_
      refine dL 15 (fun W hW=>hW.2.2.1) ?_
      refine dO 16 17 ?_ ?_
      ·
       refine oT (xN h209 54 ([zO]++vb (List.replicate 16 0)++[zE,zO,zO,zO])) ?_
       rintro _ w210 ⟨g210,rfl,h210⟩
       refine ⟨⟨h210.at_ 5 rfl,h210.at_ 6 rfl,h210.at_ 7 rfl,trivial⟩,?_⟩
       refine dT 17 (xN h210 31 (vb (List.replicate 16 0))) ?_
       rintro _ w211 ⟨g211,rfl,h211⟩
       refine ⟨⟨h211.at_ 6 rfl,h211.at_ 7 rfl,h211.at_ 8 rfl,trivial⟩,?_⟩
       refine dT 18 (xR h211 1 ([zO]++vb (List.replicate 16 0)++[(sV (⟨#[97,110,110]⟩)),(zD at_),zO,zO])) ?_
       rintro _ w212 h212
       refine ⟨⟨h212.at_ 6 rfl,h212.at_ 7 rfl,h212.at_ 8 rfl,trivial⟩,?_⟩
       refine dE 19 (xR h212 0 (vb (kl kk))) ?_
       rintro _ w213 h213
       refine dX ?_
       exact mK hJ201 (hhJ201 _ _ ⟨g210,g211,_,pM,h213.sel [0,1,2,3,4,5,6,7,8,9,10,11,12,13] [0,1,2,3] (by kernel_rfl) rfl rfl⟩)
      refine oT (xN h209 31 (vb (List.replicate 16 0))) ?_
      rintro _ w214 ⟨g214,rfl,h214⟩
      refine ⟨⟨h214.at_ 5 rfl,h214.at_ 6 rfl,h214.at_ 7 rfl,trivial⟩,?_⟩
      refine dT 16 (xN h214 54 ([zO]++vb (List.replicate 16 0)++[zE,zO,zO,zO])) ?_
      rintro _ w215 ⟨g215,rfl,h215⟩
      refine ⟨⟨h215.at_ 6 rfl,h215.at_ 7 rfl,h215.at_ 8 rfl,trivial⟩,?_⟩
      refine dT 18 (xR h215 0 ([zO]++vb (List.replicate 16 0)++[(sV (⟨#[97,110,110]⟩)),(zD at_),zO,zO])) ?_
      rintro _ w216 h216
      refine ⟨⟨h216.at_ 6 rfl,h216.at_ 7 rfl,h216.at_ 8 rfl,trivial⟩,?_⟩
      refine dE 19 (xR h216 1 (vb (kl kk))) ?_
      rintro _ w217 h217
      refine dX ?_
      exact mK hJ201 (hhJ201 _ _ ⟨g215,g214,_,pM,h217.sel [1,0,2,3,4,5,6,7,8,9,10,11,12,13] [0,1,2,3] (by kernel_rfl) rfl rfl⟩)
     refine dG h166 13 12 (fun W=>(rBlk d 37 (dkC tb sv (rpC fl K1 1 bKDC at_ (min (at_+600) (at_+Li)) R) (rpC 4 K2 1 bKDC at_ (min (at_+600) (at_+Oi)) 0) (lV A 16 c) (lV B 16 c'))).Φ W/\(rBlk gJ25_0 40 ([(sV x.srv),(zD ((mn:Int))),(zD (at_+(mi:Int))),(bV x.r),(bV x.m),(sV (⟨#[107,100,99]⟩)),(lV A 16 c),zN,(lV E ln ce)])).Φ W/\True) (fun w218 h218=>⟨h218.at_ 3 rfl,h218.at_ 2 rfl,trivial⟩) ?_
     intro w218 h218
     refine dP 9 [0,1,2,4] ?_
     refine dL 3 (fun W hW=>hW.1) ?_
     refine dL 5 (fun W hW=>hW.2.1) ?_
     refine dO 6 10 ?_ ?_
     ·
      refine oT (x_tgsN (ec:=ec) (s3:=t1) (sl2:=[]) h218 0 7 rfl rfl [(pt sv 0),(zD (at_+(ml:Int))),(aV ([(sV x.srv),(zD ((mn:Int))),(zD (at_+(mi:Int))),(bV x.r),(bV x.m),(sV (⟨#[107,100,99]⟩)),(lV A 16 c),zN,(lV E ln ce)]).toArray)] rfl (by kernel_rfl) (hcl (mkB_len _ _).symm rfl (h218.carve2 0 7 rfl rfl [(true,4),(true,5),(false,3),(false,0),(false,1),(true,6)] rfl rfl))) ?_
      rintro _ w219 ⟨F219,G219,rfl,h219⟩
      refine ⟨⟨h219.at_ 3 rfl,h219.at_ 2 rfl,trivial⟩,?_⟩
      refine dP 3 [7,8,9] ?_
      refine dT 10 (xN h219 43 ([zE,zE,zN,zN])) ?_
      rintro _ w220 ⟨g220,rfl,h220⟩
      refine ⟨⟨h220.at_ 4 rfl,h220.at_ 3 rfl,trivial⟩,?_⟩
      refine dT 11 (xR h220 0 ([zE,zE,zN,zN])) ?_
      rintro _ w221 h221
      refine ⟨⟨h221.at_ 4 rfl,h221.at_ 3 rfl,trivial⟩,?_⟩
      refine dN 12 ?_
      refine dX ?_
      exact mK hJ168 (hhJ168 _ _ ⟨g220,F219,G219,_,pM,h221.sel [0,1,2,3,4,5,6,7,8,9,10,11] [0,1,2,3] (by kernel_rfl) rfl rfl⟩)
     refine oT (xN h218 43 ([zE,zE,zN,zN])) ?_
     rintro _ w222 ⟨g222,rfl,h222⟩
     refine ⟨⟨h222.at_ 4 rfl,h222.at_ 3 rfl,trivial⟩,?_⟩
     refine dT 6 (x_tgsN (ec:=ec) (s3:=t1) (sl2:=[]) h222 1 8 rfl rfl [(pt sv 0),(zD (at_+(ml:Int))),(aV ([(sV x.srv),(zD ((mn:Int))),(zD (at_+(mi:Int))),(bV x.r),(bV x.m),(sV (⟨#[107,100,99]⟩)),(lV A 16 c),zN,(lV E ln ce)]).toArray)] rfl (by kernel_rfl) (hcl (mkB_len _ _).symm rfl (h222.carve2 1 8 rfl rfl [(true,5),(true,6),(false,3),(false,0),(false,1),(true,7)] rfl rfl))) ?_
     rintro _ w223 ⟨F223,G223,rfl,h223⟩
     refine ⟨⟨h223.at_ 4 rfl,h223.at_ 3 rfl,trivial⟩,?_⟩
     refine dP 2 [7,8,9] ?_
     refine dT 11 (xR h223 0 ([zE,zE,zN,zN])) ?_
     rintro _ w224 h224
     refine ⟨⟨h224.at_ 4 rfl,h224.at_ 3 rfl,trivial⟩,?_⟩
     refine dN 12 ?_
     refine dX ?_
     exact mK hJ168 (hhJ168 _ _ ⟨g222,F223,G223,_,pM,h224.sel [0,1,2,3,4,5,6,7,8,9,10,11] [0,1,2,3] (by kernel_rfl) rfl rfl⟩)
    ·
     refine mX 106 (.bool false) (bV (((tn:Int)) == 1)) (by simp;omega) ?_
     refine mX 113 (.bool false) (bV (((tn:Int)) == 2)) (by simp;omega) ?_
     refine mX 119 (.bool false) (bV (((tn:Int)) == 3)) (by simp;omega) ?_
     refine mX 122 (.bool true) (bV (((tn:Int)) == 4)) (by simp;omega) ?_
     refine mT (xS h34 2 ([(sV x.srv),(zD ((mn:Int))),(zD (at_+(mi:Int))),(bV x.r),(bV x.m),(sV (⟨#[107,100,99]⟩)),zN,(lV A31 16 c31),(lV E ln ce)])) fun _ w228 h228=>?_
     rcases (by omega:(min (at_+600) (at_+Li))<=at_+(ml:Int)∨at_+(ml:Int)<(min (at_+600) (at_+Li))) with hu|hu
     ·
      have h231:=h228.addNil
      refine mJ 2000026 (fun aJ wJ233=>∃ (gJ232_0:Nat) (FJ232_1:Nat->Prop) (GJ232_2:Nat->Prop) (xJ233:Nat->Value),aJ=patch xJ233 432 [(2,(pt g2 0)),(3,(pt g3 0)),(4,zV),(5,(pt d 0)),(7,(zD (at_+(ml:Int)))),(8,(zD (at_+(mt:Int)))),(9,(pt gJ25_0 0)),(10,(zD 13)),(11,(pt gJ232_0 0)),(12,(zD 13))]/\Hp (fun _=>False) w wJ233 [rSB (zN) ([]),rQx A c (mkB 98 2) E ce xs,rSB ((lV B 16 c')) (mkB 98 5),rSB ((lV A 16 c)) (mkB 98 2)] [rBlk gJ232_0 43 ([zE,zE,zN,zN]),rTab FJ232_1 tb t1,rSB ((lV A31 16 c31)) (mkB 98 (6+1)),rBlk gJ25_0 40 ([(sV x.srv),(zD ((mn:Int))),(zD (at_+(mi:Int))),(bV x.r),(bV x.m),(sV (⟨#[107,100,99]⟩)),zN,(lV A31 16 c31),(lV E ln ce)]),rBlk d 37 (dkC tb sv (rpC fl K1 1 bKDC at_ (min (at_+600) (at_+Li)) R) (rpC 4 K2 1 bKDC at_ (min (at_+600) (at_+Oi)) 0) (lV A 16 c) (lV B 16 c')),rBlk sv 73 ([(pt kb 0),(pt cb 0),(pt bk 0)]),rBlk kb 78 ([(Value.iface 28 (pt tb 0)),(pt bb 0)]++vb (kl kk)),rBs G bb [User.mk bANN ka Li Ri false,User.mk bBOB kb_ Oi 0 mesh],rCa GJ232_2 cb 64 [],rBlk bk 164 ([mv]),rBlk g3 63 ([(sV x.srv),(zD x.nn),(zD x.till),(bV x.r),(bV x.m),(zD x.ex),(zD x.la),(zD x.tm),(zD x.sq),(zD x.tn)]),rBlk g2 23 ([(zD La),(zD Rn_),(zD Ot_),(bV mesh),(zD At_),(zD Lt)])]) ?_ (fun hJ233 hhJ233=>?_)
      ·
       rintro _ wJ233 ⟨gJ232_0,FJ232_1,GJ232_2,xJ233,rfl,hJh233⟩
       refine mAt ?_
       refine ma hJh233 11 ?_
       refine mX 141 (zD ((bits .and .i64 La 511))) (zD (bits .and .i64 La 511)) rfl ?_
       refine mW 142 (exec_add _ _ _ _ bO 1 (bits .and .i64 La 511) (by kernel_rfl) (by kernel_rfl) Li hLi.symm (by omega) (by omega) _) ?_
       skip
       refine ma hJh233 4 ?_
       refine mX 149 (.bool true) (bV (decide ((min (at_+600) (at_+Li))<=at_+(ml:Int)))) (by simp;omega) ?_
       refine ma hJh233 10 ?_
       refine mX 152 (zD ((tn:Int))) (zD (bits .and .i64 x.tn 7)) (congrArg (iV .i64) htn) ?_
       refine mX 153 (.bool false) (bV (((tn:Int)) == 1)) (by simp;omega) ?_
       refine ma hJh233 10 ?_
       refine mX 165 (zD ((tn:Int))) (zD (bits .and .i64 x.tn 7)) (congrArg (iV .i64) htn) ?_
       refine mX 166 (.bool false) (bV (((tn:Int)) != 4)) (by simp;omega) ?_
       refine mJ 2000033 (fun aJ wJ243=>∃ (gJ242_0:Nat) (gJ242_1:Nat) (xJ243:Nat->Value),aJ=patch xJ243 432 [(2,(pt g2 0)),(3,(pt g3 0)),(4,zV),(5,(pt d 0)),(7,(zD (at_+(ml:Int)))),(8,(zD (at_+(mt:Int)))),(9,(pt gJ25_0 0)),(10,(zD 13)),(11,(pt gJ232_0 0)),(12,(zD 13)),(13,(zD Li)),(15,(pt gJ242_0 0)),(16,(pt gJ242_1 0))]/\Hp (fun _=>False) w wJ243 [rSB (zN) ([]),rQx A c (mkB 98 2) E ce xs,rSB ((lV B 16 c')) (mkB 98 5),rSB ((lV A 16 c)) (mkB 98 2)] [rBlk gJ242_1 31 (vb (kl kk)),rBlk gJ242_0 54 ([zO]++vb (List.replicate 16 0)++[(sV (⟨#[97,110,110]⟩)),(zD at_),zO,zO]),rBlk gJ232_0 43 ([zE,zE,zN,zN]),rTab FJ232_1 tb t1,rSB ((lV A31 16 c31)) (mkB 98 (6+1)),rBlk gJ25_0 40 ([(sV x.srv),(zD ((mn:Int))),(zD (at_+(mi:Int))),(bV x.r),(bV x.m),(sV (⟨#[107,100,99]⟩)),zN,(lV A31 16 c31),(lV E ln ce)]),rBlk d 37 (dkC tb sv (rpC fl K1 1 bKDC at_ (min (at_+600) (at_+Li)) R) (rpC 4 K2 1 bKDC at_ (min (at_+600) (at_+Oi)) 0) (lV A 16 c) (lV B 16 c')),rBlk sv 73 ([(pt kb 0),(pt cb 0),(pt bk 0)]),rBlk kb 78 ([(Value.iface 28 (pt tb 0)),(pt bb 0)]++vb (kl kk)),rBs G bb [User.mk bANN ka Li Ri false,User.mk bBOB kb_ Oi 0 mesh],rCa GJ232_2 cb 64 [],rBlk bk 164 ([mv]),rBlk g3 63 ([(sV x.srv),(zD x.nn),(zD x.till),(bV x.r),(bV x.m),(zD x.ex),(zD x.la),(zD x.tm),(zD x.sq),(zD x.tn)]),rBlk g2 23 ([(zD La),(zD Rn_),(zD Ot_),(bV mesh),(zD At_),(zD Lt)])]) ?_ (fun hJ243 hhJ243=>?_)
       ·
        rintro _ wJ243 ⟨gJ242_0,gJ242_1,xJ243,rfl,hJh243⟩
        refine mAt ?_
        refine ma hJh243 2 ?_
        refine mX 328 (.bool true) (bV ((ByteArray.empty).toList == (⟨#[]⟩:ByteArray).toList)) (by kernel_rfl) ?_
        refine ma hJh243 2 ?_
        refine ma hJh243 2 ?_
        exact mQ hJh243
       refine dG hJh233 20 19 (fun W=>(rBlk d 37 (dkC tb sv (rpC fl K1 1 bKDC at_ (min (at_+600) (at_+Li)) R) (rpC 4 K2 1 bKDC at_ (min (at_+600) (at_+Oi)) 0) (lV A 16 c) (lV B 16 c'))).Φ W/\(rBlk sv 73 ([(pt kb 0),(pt cb 0),(pt bk 0)])).Φ W/\(rBlk kb 78 ([(Value.iface 28 (pt tb 0)),(pt bb 0)]++vb (kl kk))).Φ W/\True) (fun w251 h251=>⟨h251.at_ 4 rfl,h251.at_ 5 rfl,h251.at_ 6 rfl,trivial⟩) ?_
       intro w251 h251
       refine dP 13 [0,1,2,3,6,7,8] ?_
       refine dL 4 (fun W hW=>hW.1) ?_
       refine dP 11 [5] ?_
       refine dL 9 (fun W hW=>hW.1) ?_
       refine dP 8 [10,11] ?_
       refine dL 12 (fun W hW=>hW.2.1) ?_
       refine dP 5 [13,14] ?_
       refine dL 15 (fun W hW=>hW.2.2.1) ?_
       refine dO 16 17 ?_ ?_
       ·
        refine oT (xN h251 54 ([zO]++vb (List.replicate 16 0)++[zE,zO,zO,zO])) ?_
        rintro _ w252 ⟨g252,rfl,h252⟩
        refine ⟨⟨h252.at_ 5 rfl,h252.at_ 6 rfl,h252.at_ 7 rfl,trivial⟩,?_⟩
        refine dT 17 (xN h252 31 (vb (List.replicate 16 0))) ?_
        rintro _ w253 ⟨g253,rfl,h253⟩
        refine ⟨⟨h253.at_ 6 rfl,h253.at_ 7 rfl,h253.at_ 8 rfl,trivial⟩,?_⟩
        refine dT 18 (xR h253 1 ([zO]++vb (List.replicate 16 0)++[(sV (⟨#[97,110,110]⟩)),(zD at_),zO,zO])) ?_
        rintro _ w254 h254
        refine ⟨⟨h254.at_ 6 rfl,h254.at_ 7 rfl,h254.at_ 8 rfl,trivial⟩,?_⟩
        refine dE 19 (xR h254 0 (vb (kl kk))) ?_
        rintro _ w255 h255
        refine dX ?_
        exact mK hJ243 (hhJ243 _ _ ⟨g252,g253,_,pM,h255.sel [0,1,2,3,4,5,6,7,8,9,10,11,12,13] [0,1,2,3] (by kernel_rfl) rfl rfl⟩)
       refine oT (xN h251 31 (vb (List.replicate 16 0))) ?_
       rintro _ w256 ⟨g256,rfl,h256⟩
       refine ⟨⟨h256.at_ 5 rfl,h256.at_ 6 rfl,h256.at_ 7 rfl,trivial⟩,?_⟩
       refine dT 16 (xN h256 54 ([zO]++vb (List.replicate 16 0)++[zE,zO,zO,zO])) ?_
       rintro _ w257 ⟨g257,rfl,h257⟩
       refine ⟨⟨h257.at_ 6 rfl,h257.at_ 7 rfl,h257.at_ 8 rfl,trivial⟩,?_⟩
       refine dT 18 (xR h257 0 ([zO]++vb (List.replicate 16 0)++[(sV (⟨#[97,110,110]⟩)),(zD at_),zO,zO])) ?_
       rintro _ w258 h258
       refine ⟨⟨h258.at_ 6 rfl,h258.at_ 7 rfl,h258.at_ 8 rfl,trivial⟩,?_⟩
       refine dE 19 (xR h258 1 (vb (kl kk))) ?_
       rintro _ w259 h259
       refine dX ?_
       exact mK hJ243 (hhJ243 _ _ ⟨g257,g256,_,pM,h259.sel [1,0,2,3,4,5,6,7,8,9,10,11,12,13] [0,1,2,3] (by kernel_rfl) rfl rfl⟩)
      refine dG h231 13 12 (fun W=>(rBlk d 37 (dkC tb sv (rpC fl K1 1 bKDC at_ (min (at_+600) (at_+Li)) R) (rpC 4 K2 1 bKDC at_ (min (at_+600) (at_+Oi)) 0) (lV A 16 c) (lV B 16 c'))).Φ W/\(rBlk gJ25_0 40 ([(sV x.srv),(zD ((mn:Int))),(zD (at_+(mi:Int))),(bV x.r),(bV x.m),(sV (⟨#[107,100,99]⟩)),zN,(lV A31 16 c31),(lV E ln ce)])).Φ W/\True) (fun w260 h260=>⟨h260.at_ 3 rfl,h260.at_ 2 rfl,trivial⟩) ?_
      intro w260 h260
      refine dP 9 [0,1,2,4] ?_
      refine dL 3 (fun W hW=>hW.1) ?_
      refine dL 5 (fun W hW=>hW.2.1) ?_
      refine dO 6 10 ?_ ?_
      ·
       refine oT (x_tgsN (ec:=13) (s3:=t1) (sl2:=[]) h260 0 7 rfl rfl [(pt sv 0),(zD (at_+(ml:Int))),(aV ([(sV x.srv),(zD ((mn:Int))),(zD (at_+(mi:Int))),(bV x.r),(bV x.m),(sV (⟨#[107,100,99]⟩)),zN,(lV A31 16 c31),(lV E ln ce)]).toArray)] rfl (by kernel_rfl) (an_box (au:=mkB 98 7) (h260.carve2 0 7 rfl rfl [(true,4),(true,5),(false,0),(true,1),(false,1),(true,6)] rfl rfl) hA.rm.ok)) ?_
       rintro _ w261 ⟨F261,G261,rfl,h261⟩
       refine ⟨⟨h261.at_ 3 rfl,h261.at_ 2 rfl,trivial⟩,?_⟩
       refine dP 3 [7,8,9] ?_
       refine dT 10 (xN h261 43 ([zE,zE,zN,zN])) ?_
       rintro _ w262 ⟨g262,rfl,h262⟩
       refine ⟨⟨h262.at_ 4 rfl,h262.at_ 3 rfl,trivial⟩,?_⟩
       refine dT 11 (xR h262 0 ([zE,zE,zN,zN])) ?_
       rintro _ w263 h263
       refine ⟨⟨h263.at_ 4 rfl,h263.at_ 3 rfl,trivial⟩,?_⟩
       refine dN 12 ?_
       refine dX ?_
       exact mK hJ233 (hhJ233 _ _ ⟨g262,F261,G261,_,pM,h263.sel [0,1,2,3,4,5,6,7,8,9,10,11] [0,1,2,3] (by kernel_rfl) rfl rfl⟩)
      refine oT (xN h260 43 ([zE,zE,zN,zN])) ?_
      rintro _ w264 ⟨g264,rfl,h264⟩
      refine ⟨⟨h264.at_ 4 rfl,h264.at_ 3 rfl,trivial⟩,?_⟩
      refine dT 6 (x_tgsN (ec:=13) (s3:=t1) (sl2:=[]) h264 1 8 rfl rfl [(pt sv 0),(zD (at_+(ml:Int))),(aV ([(sV x.srv),(zD ((mn:Int))),(zD (at_+(mi:Int))),(bV x.r),(bV x.m),(sV (⟨#[107,100,99]⟩)),zN,(lV A31 16 c31),(lV E ln ce)]).toArray)] rfl (by kernel_rfl) (an_box (au:=mkB 98 7) (h264.carve2 1 8 rfl rfl [(true,5),(true,6),(false,0),(true,2),(false,1),(true,7)] rfl rfl) hA.rm.ok)) ?_
      rintro _ w265 ⟨F265,G265,rfl,h265⟩
      refine ⟨⟨h265.at_ 4 rfl,h265.at_ 3 rfl,trivial⟩,?_⟩
      refine dP 2 [7,8,9] ?_
      refine dT 11 (xR h265 0 ([zE,zE,zN,zN])) ?_
      rintro _ w266 h266
      refine ⟨⟨h266.at_ 4 rfl,h266.at_ 3 rfl,trivial⟩,?_⟩
      refine dN 12 ?_
      refine dX ?_
      exact mK hJ233 (hhJ233 _ _ ⟨g264,F265,G265,_,pM,h266.sel [0,1,2,3,4,5,6,7,8,9,10,11] [0,1,2,3] (by kernel_rfl) rfl rfl⟩)
     have h267:=h228.addNil
     refine mJ 2000026 (fun aJ wJ269=>∃ (gJ268_0:Nat) (FJ268_1:Nat->Prop) (GJ268_2:Nat->Prop) (xJ269:Nat->Value),aJ=patch xJ269 432 [(2,(pt g2 0)),(3,(pt g3 0)),(4,zV),(5,(pt d 0)),(7,(zD (at_+(ml:Int)))),(8,(zD (at_+(mt:Int)))),(9,(pt gJ25_0 0)),(10,(zD 13)),(11,(pt gJ268_0 0)),(12,(zD 13))]/\Hp (fun _=>False) w wJ269 [rSB (zN) ([]),rQx A c (mkB 98 2) E ce xs,rSB ((lV B 16 c')) (mkB 98 5),rSB ((lV A 16 c)) (mkB 98 2)] [rBlk gJ268_0 43 ([zE,zE,zN,zN]),rTab FJ268_1 tb t1,rSB ((lV A31 16 c31)) (mkB 98 (6+1)),rBlk gJ25_0 40 ([(sV x.srv),(zD ((mn:Int))),(zD (at_+(mi:Int))),(bV x.r),(bV x.m),(sV (⟨#[107,100,99]⟩)),zN,(lV A31 16 c31),(lV E ln ce)]),rBlk d 37 (dkC tb sv (rpC fl K1 1 bKDC at_ (min (at_+600) (at_+Li)) R) (rpC 4 K2 1 bKDC at_ (min (at_+600) (at_+Oi)) 0) (lV A 16 c) (lV B 16 c')),rBlk sv 73 ([(pt kb 0),(pt cb 0),(pt bk 0)]),rBlk kb 78 ([(Value.iface 28 (pt tb 0)),(pt bb 0)]++vb (kl kk)),rBs G bb [User.mk bANN ka Li Ri false,User.mk bBOB kb_ Oi 0 mesh],rCa GJ268_2 cb 64 [],rBlk bk 164 ([mv]),rBlk g3 63 ([(sV x.srv),(zD x.nn),(zD x.till),(bV x.r),(bV x.m),(zD x.ex),(zD x.la),(zD x.tm),(zD x.sq),(zD x.tn)]),rBlk g2 23 ([(zD La),(zD Rn_),(zD Ot_),(bV mesh),(zD At_),(zD Lt)])]) ?_ (fun hJ269 hhJ269=>?_)
     ·
      rintro _ wJ269 ⟨gJ268_0,FJ268_1,GJ268_2,xJ269,rfl,hJh269⟩
      refine mAt ?_
      refine ma hJh269 11 ?_
      refine mX 141 (zD ((bits .and .i64 La 511))) (zD (bits .and .i64 La 511)) rfl ?_
      refine mW 142 (exec_add _ _ _ _ bO 1 (bits .and .i64 La 511) (by kernel_rfl) (by kernel_rfl) Li hLi.symm (by omega) (by omega) _) ?_
      skip
      refine ma hJh269 4 ?_
      refine mX 149 (.bool false) (bV (decide ((min (at_+600) (at_+Li))<=at_+(ml:Int)))) (by simp;omega) ?_
      refine ma hJh269 10 ?_
      refine mX 152 (zD ((tn:Int))) (zD (bits .and .i64 x.tn 7)) (congrArg (iV .i64) htn) ?_
      refine mX 153 (.bool false) (bV (((tn:Int)) == 1)) (by simp;omega) ?_
      refine mJ 2000033 (fun aJ wJ279=>∃ (gJ278_0:Nat) (gJ278_1:Nat) (xJ279:Nat->Value),aJ=patch xJ279 432 [(2,(pt g2 0)),(3,(pt g3 0)),(4,zV),(5,(pt d 0)),(7,(zD (at_+(ml:Int)))),(8,(zD (at_+(mt:Int)))),(9,(pt gJ25_0 0)),(10,(zD 13)),(11,(pt gJ268_0 0)),(12,(zD 13)),(13,(zD Li)),(15,(pt gJ278_0 0)),(16,(pt gJ278_1 0))]/\Hp (fun _=>False) w wJ279 [rSB (zN) ([]),rQx A c (mkB 98 2) E ce xs,rSB ((lV B 16 c')) (mkB 98 5),rSB ((lV A 16 c)) (mkB 98 2)] [rBlk gJ278_1 31 (vb (kl kk)),rBlk gJ278_0 54 ([zO]++vb (List.replicate 16 0)++[(sV (⟨#[97,110,110]⟩)),(zD at_),zO,zO]),rBlk gJ268_0 43 ([zE,zE,zN,zN]),rTab FJ268_1 tb t1,rSB ((lV A31 16 c31)) (mkB 98 (6+1)),rBlk gJ25_0 40 ([(sV x.srv),(zD ((mn:Int))),(zD (at_+(mi:Int))),(bV x.r),(bV x.m),(sV (⟨#[107,100,99]⟩)),zN,(lV A31 16 c31),(lV E ln ce)]),rBlk d 37 (dkC tb sv (rpC fl K1 1 bKDC at_ (min (at_+600) (at_+Li)) R) (rpC 4 K2 1 bKDC at_ (min (at_+600) (at_+Oi)) 0) (lV A 16 c) (lV B 16 c')),rBlk sv 73 ([(pt kb 0),(pt cb 0),(pt bk 0)]),rBlk kb 78 ([(Value.iface 28 (pt tb 0)),(pt bb 0)]++vb (kl kk)),rBs G bb [User.mk bANN ka Li Ri false,User.mk bBOB kb_ Oi 0 mesh],rCa GJ268_2 cb 64 [],rBlk bk 164 ([mv]),rBlk g3 63 ([(sV x.srv),(zD x.nn),(zD x.till),(bV x.r),(bV x.m),(zD x.ex),(zD x.la),(zD x.tm),(zD x.sq),(zD x.tn)]),rBlk g2 23 ([(zD La),(zD Rn_),(zD Ot_),(bV mesh),(zD At_),(zD Lt)])]) ?_ (fun hJ279 hhJ279=>?_)
      ·
       rintro _ wJ279 ⟨gJ278_0,gJ278_1,xJ279,rfl,hJh279⟩
       refine mAt ?_
       refine ma hJh279 2 ?_
       refine mX 328 (.bool true) (bV ((ByteArray.empty).toList == (⟨#[]⟩:ByteArray).toList)) (by kernel_rfl) ?_
       refine ma hJh279 2 ?_
       refine ma hJh279 2 ?_
       exact mQ hJh279
      refine dG hJh269 20 19 (fun W=>(rBlk d 37 (dkC tb sv (rpC fl K1 1 bKDC at_ (min (at_+600) (at_+Li)) R) (rpC 4 K2 1 bKDC at_ (min (at_+600) (at_+Oi)) 0) (lV A 16 c) (lV B 16 c'))).Φ W/\(rBlk sv 73 ([(pt kb 0),(pt cb 0),(pt bk 0)])).Φ W/\(rBlk kb 78 ([(Value.iface 28 (pt tb 0)),(pt bb 0)]++vb (kl kk))).Φ W/\True) (fun w287 h287=>⟨h287.at_ 4 rfl,h287.at_ 5 rfl,h287.at_ 6 rfl,trivial⟩) ?_
      intro w287 h287
      refine dP 13 [0,1,2,3,6,7,8] ?_
      refine dL 4 (fun W hW=>hW.1) ?_
      refine dP 11 [5] ?_
      refine dL 9 (fun W hW=>hW.1) ?_
      refine dP 8 [10,11] ?_
      refine dL 12 (fun W hW=>hW.2.1) ?_
      refine dP 5 [13,14] ?_
      refine dL 15 (fun W hW=>hW.2.2.1) ?_
      refine dO 16 17 ?_ ?_
      ·
       refine oT (xN h287 54 ([zO]++vb (List.replicate 16 0)++[zE,zO,zO,zO])) ?_
       rintro _ w288 ⟨g288,rfl,h288⟩
       refine ⟨⟨h288.at_ 5 rfl,h288.at_ 6 rfl,h288.at_ 7 rfl,trivial⟩,?_⟩
       refine dT 17 (xN h288 31 (vb (List.replicate 16 0))) ?_
       rintro _ w289 ⟨g289,rfl,h289⟩
       refine ⟨⟨h289.at_ 6 rfl,h289.at_ 7 rfl,h289.at_ 8 rfl,trivial⟩,?_⟩
       refine dT 18 (xR h289 1 ([zO]++vb (List.replicate 16 0)++[(sV (⟨#[97,110,110]⟩)),(zD at_),zO,zO])) ?_
       rintro _ w290 h290
       refine ⟨⟨h290.at_ 6 rfl,h290.at_ 7 rfl,h290.at_ 8 rfl,trivial⟩,?_⟩
       refine dE 19 (xR h290 0 (vb (kl kk))) ?_
       rintro _ w291 h291
       refine dX ?_
       exact mK hJ279 (hhJ279 _ _ ⟨g288,g289,_,pM,h291.sel [0,1,2,3,4,5,6,7,8,9,10,11,12,13] [0,1,2,3] (by kernel_rfl) rfl rfl⟩)
      refine oT (xN h287 31 (vb (List.replicate 16 0))) ?_
      rintro _ w292 ⟨g292,rfl,h292⟩
      refine ⟨⟨h292.at_ 5 rfl,h292.at_ 6 rfl,h292.at_ 7 rfl,trivial⟩,?_⟩
      refine dT 16 (xN h292 54 ([zO]++vb (List.replicate 16 0)++[zE,zO,zO,zO])) ?_
      rintro _ w293 ⟨g293,rfl,h293⟩
      refine ⟨⟨h293.at_ 6 rfl,h293.at_ 7 rfl,h293.at_ 8 rfl,trivial⟩,?_⟩
      refine dT 18 (xR h293 0 ([zO]++vb (List.replicate 16 0)++[(sV (⟨#[97,110,110]⟩)),(zD at_),zO,zO])) ?_
      rintro _ w294 h294
      refine ⟨⟨h294.at_ 6 rfl,h294.at_ 7 rfl,h294.at_ 8 rfl,trivial⟩,?_⟩
      refine dE 19 (xR h294 1 (vb (kl kk))) ?_
      rintro _ w295 h295
      refine dX ?_
      exact mK hJ279 (hhJ279 _ _ ⟨g293,g292,_,pM,h295.sel [1,0,2,3,4,5,6,7,8,9,10,11,12,13] [0,1,2,3] (by kernel_rfl) rfl rfl⟩)
     refine dG h267 13 12 (fun W=>(rBlk d 37 (dkC tb sv (rpC fl K1 1 bKDC at_ (min (at_+600) (at_+Li)) R) (rpC 4 K2 1 bKDC at_ (min (at_+600) (at_+Oi)) 0) (lV A 16 c) (lV B 16 c'))).Φ W/\(rBlk gJ25_0 40 ([(sV x.srv),(zD ((mn:Int))),(zD (at_+(mi:Int))),(bV x.r),(bV x.m),(sV (⟨#[107,100,99]⟩)),zN,(lV A31 16 c31),(lV E ln ce)])).Φ W/\True) (fun w296 h296=>⟨h296.at_ 3 rfl,h296.at_ 2 rfl,trivial⟩) ?_
     intro w296 h296
     refine dP 9 [0,1,2,4] ?_
     refine dL 3 (fun W hW=>hW.1) ?_
     refine dL 5 (fun W hW=>hW.2.1) ?_
     refine dO 6 10 ?_ ?_
     ·
      refine oT (x_tgsN (ec:=13) (s3:=t1) (sl2:=[]) h296 0 7 rfl rfl [(pt sv 0),(zD (at_+(ml:Int))),(aV ([(sV x.srv),(zD ((mn:Int))),(zD (at_+(mi:Int))),(bV x.r),(bV x.m),(sV (⟨#[107,100,99]⟩)),zN,(lV A31 16 c31),(lV E ln ce)]).toArray)] rfl (by kernel_rfl) (an_box (au:=mkB 98 7) (h296.carve2 0 7 rfl rfl [(true,4),(true,5),(false,0),(true,1),(false,1),(true,6)] rfl rfl) hA.rm.ok)) ?_
      rintro _ w297 ⟨F297,G297,rfl,h297⟩
      refine ⟨⟨h297.at_ 3 rfl,h297.at_ 2 rfl,trivial⟩,?_⟩
      refine dP 3 [7,8,9] ?_
      refine dT 10 (xN h297 43 ([zE,zE,zN,zN])) ?_
      rintro _ w298 ⟨g298,rfl,h298⟩
      refine ⟨⟨h298.at_ 4 rfl,h298.at_ 3 rfl,trivial⟩,?_⟩
      refine dT 11 (xR h298 0 ([zE,zE,zN,zN])) ?_
      rintro _ w299 h299
      refine ⟨⟨h299.at_ 4 rfl,h299.at_ 3 rfl,trivial⟩,?_⟩
      refine dN 12 ?_
      refine dX ?_
      exact mK hJ269 (hhJ269 _ _ ⟨g298,F297,G297,_,pM,h299.sel [0,1,2,3,4,5,6,7,8,9,10,11] [0,1,2,3] (by kernel_rfl) rfl rfl⟩)
     refine oT (xN h296 43 ([zE,zE,zN,zN])) ?_
     rintro _ w300 ⟨g300,rfl,h300⟩
     refine ⟨⟨h300.at_ 4 rfl,h300.at_ 3 rfl,trivial⟩,?_⟩
     refine dT 6 (x_tgsN (ec:=13) (s3:=t1) (sl2:=[]) h300 1 8 rfl rfl [(pt sv 0),(zD (at_+(ml:Int))),(aV ([(sV x.srv),(zD ((mn:Int))),(zD (at_+(mi:Int))),(bV x.r),(bV x.m),(sV (⟨#[107,100,99]⟩)),zN,(lV A31 16 c31),(lV E ln ce)]).toArray)] rfl (by kernel_rfl) (an_box (au:=mkB 98 7) (h300.carve2 1 8 rfl rfl [(true,5),(true,6),(false,0),(true,2),(false,1),(true,7)] rfl rfl) hA.rm.ok)) ?_
     rintro _ w301 ⟨F301,G301,rfl,h301⟩
     refine ⟨⟨h301.at_ 4 rfl,h301.at_ 3 rfl,trivial⟩,?_⟩
     refine dP 2 [7,8,9] ?_
     refine dT 11 (xR h301 0 ([zE,zE,zN,zN])) ?_
     rintro _ w302 h302
     refine ⟨⟨h302.at_ 4 rfl,h302.at_ 3 rfl,trivial⟩,?_⟩
     refine dN 12 ?_
     refine dX ?_
     exact mK hJ269 (hhJ269 _ _ ⟨g300,F301,G301,_,pM,h302.sel [0,1,2,3,4,5,6,7,8,9,10,11] [0,1,2,3] (by kernel_rfl) rfl rfl⟩)
    ·
     refine mX 106 (.bool false) (bV (((tn:Int)) == 1)) (by simp;omega) ?_
     refine mX 113 (.bool false) (bV (((tn:Int)) == 2)) (by simp;omega) ?_
     refine mX 119 (.bool false) (bV (((tn:Int)) == 3)) (by simp;omega) ?_
     refine mX 122 (.bool false) (bV (((tn:Int)) == 4)) (by simp;omega) ?_
     refine mX 126 (.bool true) (bV (((tn:Int)) == 5)) (by simp;omega) ?_
     refine mT (xS h34 2 ([(sV x.srv),(zD ((mn:Int))),(zD (at_+(mi:Int))),(bV x.r),(bV x.m),(sV (⟨#[98,111,98]⟩)),(lV A 16 c),(lV A31 16 c31),(lV E ln ce)])) fun _ w307 h307=>?_
     rcases (by omega:(min (at_+600) (at_+Li))<=at_+(ml:Int)∨at_+(ml:Int)<(min (at_+600) (at_+Li))) with hu|hu
     ·
      refine mJ 2000026 (fun aJ wJ311=>∃ (gJ310_0:Nat) (FJ310_1:Nat->Prop) (GJ310_2:Nat->Prop) (xJ311:Nat->Value),aJ=patch xJ311 432 [(2,(pt g2 0)),(3,(pt g3 0)),(4,zV),(5,(pt d 0)),(7,(zD (at_+(ml:Int)))),(8,(zD (at_+(mt:Int)))),(9,(pt gJ25_0 0)),(10,(zD 17)),(11,(pt gJ310_0 0)),(12,(zD 17))]/\Hp (fun _=>False) w wJ311 [rQx A c (mkB 98 2) E ce xs,rSB ((lV B 16 c')) (mkB 98 5),rSB ((lV A 16 c)) (mkB 98 2)] [rBlk gJ310_0 43 ([zE,zE,zN,zN]),rTab FJ310_1 tb t1,rSB ((lV A31 16 c31)) (mkB 98 (6+1)),rBlk gJ25_0 40 ([(sV x.srv),(zD ((mn:Int))),(zD (at_+(mi:Int))),(bV x.r),(bV x.m),(sV (⟨#[98,111,98]⟩)),(lV A 16 c),(lV A31 16 c31),(lV E ln ce)]),rBlk d 37 (dkC tb sv (rpC fl K1 1 bKDC at_ (min (at_+600) (at_+Li)) R) (rpC 4 K2 1 bKDC at_ (min (at_+600) (at_+Oi)) 0) (lV A 16 c) (lV B 16 c')),rBlk sv 73 ([(pt kb 0),(pt cb 0),(pt bk 0)]),rBlk kb 78 ([(Value.iface 28 (pt tb 0)),(pt bb 0)]++vb (kl kk)),rBs G bb [User.mk bANN ka Li Ri false,User.mk bBOB kb_ Oi 0 mesh],rCa GJ310_2 cb 64 [],rBlk bk 164 ([mv]),rBlk g3 63 ([(sV x.srv),(zD x.nn),(zD x.till),(bV x.r),(bV x.m),(zD x.ex),(zD x.la),(zD x.tm),(zD x.sq),(zD x.tn)]),rBlk g2 23 ([(zD La),(zD Rn_),(zD Ot_),(bV mesh),(zD At_),(zD Lt)])]) ?_ (fun hJ311 hhJ311=>?_)
      ·
       rintro _ wJ311 ⟨gJ310_0,FJ310_1,GJ310_2,xJ311,rfl,hJh311⟩
       refine mAt ?_
       refine ma hJh311 11 ?_
       refine mX 141 (zD ((bits .and .i64 La 511))) (zD (bits .and .i64 La 511)) rfl ?_
       refine mW 142 (exec_add _ _ _ _ bO 1 (bits .and .i64 La 511) (by kernel_rfl) (by kernel_rfl) Li hLi.symm (by omega) (by omega) _) ?_
       skip
       refine ma hJh311 4 ?_
       refine mX 149 (.bool true) (bV (decide ((min (at_+600) (at_+Li))<=at_+(ml:Int)))) (by simp;omega) ?_
       refine ma hJh311 10 ?_
       refine mX 152 (zD ((tn:Int))) (zD (bits .and .i64 x.tn 7)) (congrArg (iV .i64) htn) ?_
       refine mX 153 (.bool false) (bV (((tn:Int)) == 1)) (by simp;omega) ?_
       refine ma hJh311 10 ?_
       refine mX 165 (zD ((tn:Int))) (zD (bits .and .i64 x.tn 7)) (congrArg (iV .i64) htn) ?_
       refine mX 166 (.bool true) (bV (((tn:Int)) != 4)) (by simp;omega) ?_
       refine ma hJh311 10 ?_
       refine mX 171 (zD ((tn:Int))) (zD (bits .and .i64 x.tn 7)) (congrArg (iV .i64) htn) ?_
       refine mX 172 (.bool false) (bV (((tn:Int)) != 5)) (by simp;omega) ?_
       refine mJ 2000033 (fun aJ wJ321=>∃ (gJ320_0:Nat) (gJ320_1:Nat) (xJ321:Nat->Value),aJ=patch xJ321 432 [(2,(pt g2 0)),(3,(pt g3 0)),(4,zV),(5,(pt d 0)),(7,(zD (at_+(ml:Int)))),(8,(zD (at_+(mt:Int)))),(9,(pt gJ25_0 0)),(10,(zD 17)),(11,(pt gJ310_0 0)),(12,(zD 17)),(13,(zD Li)),(15,(pt gJ320_0 0)),(16,(pt gJ320_1 0))]/\Hp (fun _=>False) w wJ321 [rQx A c (mkB 98 2) E ce xs,rSB ((lV B 16 c')) (mkB 98 5),rSB ((lV A 16 c)) (mkB 98 2)] [rBlk gJ320_1 31 (vb (kl kk)),rBlk gJ320_0 54 ([zO]++vb (List.replicate 16 0)++[(sV (⟨#[97,110,110]⟩)),(zD at_),zO,zO]),rBlk gJ310_0 43 ([zE,zE,zN,zN]),rTab FJ310_1 tb t1,rSB ((lV A31 16 c31)) (mkB 98 (6+1)),rBlk gJ25_0 40 ([(sV x.srv),(zD ((mn:Int))),(zD (at_+(mi:Int))),(bV x.r),(bV x.m),(sV (⟨#[98,111,98]⟩)),(lV A 16 c),(lV A31 16 c31),(lV E ln ce)]),rBlk d 37 (dkC tb sv (rpC fl K1 1 bKDC at_ (min (at_+600) (at_+Li)) R) (rpC 4 K2 1 bKDC at_ (min (at_+600) (at_+Oi)) 0) (lV A 16 c) (lV B 16 c')),rBlk sv 73 ([(pt kb 0),(pt cb 0),(pt bk 0)]),rBlk kb 78 ([(Value.iface 28 (pt tb 0)),(pt bb 0)]++vb (kl kk)),rBs G bb [User.mk bANN ka Li Ri false,User.mk bBOB kb_ Oi 0 mesh],rCa GJ310_2 cb 64 [],rBlk bk 164 ([mv]),rBlk g3 63 ([(sV x.srv),(zD x.nn),(zD x.till),(bV x.r),(bV x.m),(zD x.ex),(zD x.la),(zD x.tm),(zD x.sq),(zD x.tn)]),rBlk g2 23 ([(zD La),(zD Rn_),(zD Ot_),(bV mesh),(zD At_),(zD Lt)])]) ?_ (fun hJ321 hhJ321=>?_)
       ·
        rintro _ wJ321 ⟨gJ320_0,gJ320_1,xJ321,rfl,hJh321⟩
        refine mAt ?_
        refine ma hJh321 2 ?_
        refine mX 328 (.bool true) (bV ((ByteArray.empty).toList == (⟨#[]⟩:ByteArray).toList)) (by kernel_rfl) ?_
        refine ma hJh321 2 ?_
        refine ma hJh321 2 ?_
        exact mQ hJh321
       refine dG hJh311 20 19 (fun W=>(rBlk d 37 (dkC tb sv (rpC fl K1 1 bKDC at_ (min (at_+600) (at_+Li)) R) (rpC 4 K2 1 bKDC at_ (min (at_+600) (at_+Oi)) 0) (lV A 16 c) (lV B 16 c'))).Φ W/\(rBlk sv 73 ([(pt kb 0),(pt cb 0),(pt bk 0)])).Φ W/\(rBlk kb 78 ([(Value.iface 28 (pt tb 0)),(pt bb 0)]++vb (kl kk))).Φ W/\True) (fun w329 h329=>⟨h329.at_ 4 rfl,h329.at_ 5 rfl,h329.at_ 6 rfl,trivial⟩) ?_
       intro w329 h329
       refine dP 13 [0,1,2,3,6,7,8] ?_
       refine dL 4 (fun W hW=>hW.1) ?_
       refine dP 11 [5] ?_
       refine dL 9 (fun W hW=>hW.1) ?_
       refine dP 8 [10,11] ?_
       refine dL 12 (fun W hW=>hW.2.1) ?_
       refine dP 5 [13,14] ?_
       refine dL 15 (fun W hW=>hW.2.2.1) ?_
       refine dO 16 17 ?_ ?_
       ·
        refine oT (xN h329 54 ([zO]++vb (List.replicate 16 0)++[zE,zO,zO,zO])) ?_
        rintro _ w330 ⟨g330,rfl,h330⟩
        refine ⟨⟨h330.at_ 5 rfl,h330.at_ 6 rfl,h330.at_ 7 rfl,trivial⟩,?_⟩
        refine dT 17 (xN h330 31 (vb (List.replicate 16 0))) ?_
        rintro _ w331 ⟨g331,rfl,h331⟩
        refine ⟨⟨h331.at_ 6 rfl,h331.at_ 7 rfl,h331.at_ 8 rfl,trivial⟩,?_⟩
        refine dT 18 (xR h331 1 ([zO]++vb (List.replicate 16 0)++[(sV (⟨#[97,110,110]⟩)),(zD at_),zO,zO])) ?_
        rintro _ w332 h332
        refine ⟨⟨h332.at_ 6 rfl,h332.at_ 7 rfl,h332.at_ 8 rfl,trivial⟩,?_⟩
        refine dE 19 (xR h332 0 (vb (kl kk))) ?_
        rintro _ w333 h333
        refine dX ?_
        exact mK hJ321 (hhJ321 _ _ ⟨g330,g331,_,pM,h333.sel [0,1,2,3,4,5,6,7,8,9,10,11,12,13] [0,1,2] (by kernel_rfl) rfl rfl⟩)
       refine oT (xN h329 31 (vb (List.replicate 16 0))) ?_
       rintro _ w334 ⟨g334,rfl,h334⟩
       refine ⟨⟨h334.at_ 5 rfl,h334.at_ 6 rfl,h334.at_ 7 rfl,trivial⟩,?_⟩
       refine dT 16 (xN h334 54 ([zO]++vb (List.replicate 16 0)++[zE,zO,zO,zO])) ?_
       rintro _ w335 ⟨g335,rfl,h335⟩
       refine ⟨⟨h335.at_ 6 rfl,h335.at_ 7 rfl,h335.at_ 8 rfl,trivial⟩,?_⟩
       refine dT 18 (xR h335 0 ([zO]++vb (List.replicate 16 0)++[(sV (⟨#[97,110,110]⟩)),(zD at_),zO,zO])) ?_
       rintro _ w336 h336
       refine ⟨⟨h336.at_ 6 rfl,h336.at_ 7 rfl,h336.at_ 8 rfl,trivial⟩,?_⟩
       refine dE 19 (xR h336 1 (vb (kl kk))) ?_
       rintro _ w337 h337
       refine dX ?_
       exact mK hJ321 (hhJ321 _ _ ⟨g335,g334,_,pM,h337.sel [1,0,2,3,4,5,6,7,8,9,10,11,12,13] [0,1,2] (by kernel_rfl) rfl rfl⟩)
      refine dG h307 13 12 (fun W=>(rBlk d 37 (dkC tb sv (rpC fl K1 1 bKDC at_ (min (at_+600) (at_+Li)) R) (rpC 4 K2 1 bKDC at_ (min (at_+600) (at_+Oi)) 0) (lV A 16 c) (lV B 16 c'))).Φ W/\(rBlk gJ25_0 40 ([(sV x.srv),(zD ((mn:Int))),(zD (at_+(mi:Int))),(bV x.r),(bV x.m),(sV (⟨#[98,111,98]⟩)),(lV A 16 c),(lV A31 16 c31),(lV E ln ce)])).Φ W/\True) (fun w338 h338=>⟨h338.at_ 3 rfl,h338.at_ 2 rfl,trivial⟩) ?_
      intro w338 h338
      refine dP 9 [0,1,2,4] ?_
      refine dL 3 (fun W hW=>hW.1) ?_
      refine dL 5 (fun W hW=>hW.2.1) ?_
      refine dO 6 10 ?_ ?_
      ·
       refine oT (x_tgsN (ec:=17) (s3:=t1) (sl2:=[]) h338 0 7 rfl rfl [(pt sv 0),(zD (at_+(ml:Int))),(aV ([(sV x.srv),(zD ((mn:Int))),(zD (at_+(mi:Int))),(bV x.r),(bV x.m),(sV (⟨#[98,111,98]⟩)),(lV A 16 c),(lV A31 16 c31),(lV E ln ce)]).toArray)] rfl (by kernel_rfl) (an_srv (l:=mkB 98 2) (au:=mkB 98 7) (h338.carve2 0 7 rfl rfl [(true,4),(true,5),(false,2),(true,1),(false,0),(true,6)] rfl rfl) hA.rm.ok (by decide +kernel))) ?_
       rintro _ w339 ⟨F339,G339,rfl,h339⟩
       refine ⟨⟨h339.at_ 3 rfl,h339.at_ 2 rfl,trivial⟩,?_⟩
       refine dP 3 [7,8,9] ?_
       refine dT 10 (xN h339 43 ([zE,zE,zN,zN])) ?_
       rintro _ w340 ⟨g340,rfl,h340⟩
       refine ⟨⟨h340.at_ 4 rfl,h340.at_ 3 rfl,trivial⟩,?_⟩
       refine dT 11 (xR h340 0 ([zE,zE,zN,zN])) ?_
       rintro _ w341 h341
       refine ⟨⟨h341.at_ 4 rfl,h341.at_ 3 rfl,trivial⟩,?_⟩
       refine dN 12 ?_
       refine dX ?_
       exact mK hJ311 (hhJ311 _ _ ⟨g340,F339,G339,_,pM,h341.sel [0,1,2,3,4,5,6,7,8,9,10,11] [0,1,2] (by kernel_rfl) rfl rfl⟩)
      refine oT (xN h338 43 ([zE,zE,zN,zN])) ?_
      rintro _ w342 ⟨g342,rfl,h342⟩
      refine ⟨⟨h342.at_ 4 rfl,h342.at_ 3 rfl,trivial⟩,?_⟩
      refine dT 6 (x_tgsN (ec:=17) (s3:=t1) (sl2:=[]) h342 1 8 rfl rfl [(pt sv 0),(zD (at_+(ml:Int))),(aV ([(sV x.srv),(zD ((mn:Int))),(zD (at_+(mi:Int))),(bV x.r),(bV x.m),(sV (⟨#[98,111,98]⟩)),(lV A 16 c),(lV A31 16 c31),(lV E ln ce)]).toArray)] rfl (by kernel_rfl) (an_srv (l:=mkB 98 2) (au:=mkB 98 7) (h342.carve2 1 8 rfl rfl [(true,5),(true,6),(false,2),(true,2),(false,0),(true,7)] rfl rfl) hA.rm.ok (by decide +kernel))) ?_
      rintro _ w343 ⟨F343,G343,rfl,h343⟩
      refine ⟨⟨h343.at_ 4 rfl,h343.at_ 3 rfl,trivial⟩,?_⟩
      refine dP 2 [7,8,9] ?_
      refine dT 11 (xR h343 0 ([zE,zE,zN,zN])) ?_
      rintro _ w344 h344
      refine ⟨⟨h344.at_ 4 rfl,h344.at_ 3 rfl,trivial⟩,?_⟩
      refine dN 12 ?_
      refine dX ?_
      exact mK hJ311 (hhJ311 _ _ ⟨g342,F343,G343,_,pM,h344.sel [0,1,2,3,4,5,6,7,8,9,10,11] [0,1,2] (by kernel_rfl) rfl rfl⟩)
     refine mJ 2000026 (fun aJ wJ346=>∃ (gJ345_0:Nat) (FJ345_1:Nat->Prop) (GJ345_2:Nat->Prop) (xJ346:Nat->Value),aJ=patch xJ346 432 [(2,(pt g2 0)),(3,(pt g3 0)),(4,zV),(5,(pt d 0)),(7,(zD (at_+(ml:Int)))),(8,(zD (at_+(mt:Int)))),(9,(pt gJ25_0 0)),(10,(zD 17)),(11,(pt gJ345_0 0)),(12,(zD 17))]/\Hp (fun _=>False) w wJ346 [rQx A c (mkB 98 2) E ce xs,rSB ((lV B 16 c')) (mkB 98 5),rSB ((lV A 16 c)) (mkB 98 2)] [rBlk gJ345_0 43 ([zE,zE,zN,zN]),rTab FJ345_1 tb t1,rSB ((lV A31 16 c31)) (mkB 98 (6+1)),rBlk gJ25_0 40 ([(sV x.srv),(zD ((mn:Int))),(zD (at_+(mi:Int))),(bV x.r),(bV x.m),(sV (⟨#[98,111,98]⟩)),(lV A 16 c),(lV A31 16 c31),(lV E ln ce)]),rBlk d 37 (dkC tb sv (rpC fl K1 1 bKDC at_ (min (at_+600) (at_+Li)) R) (rpC 4 K2 1 bKDC at_ (min (at_+600) (at_+Oi)) 0) (lV A 16 c) (lV B 16 c')),rBlk sv 73 ([(pt kb 0),(pt cb 0),(pt bk 0)]),rBlk kb 78 ([(Value.iface 28 (pt tb 0)),(pt bb 0)]++vb (kl kk)),rBs G bb [User.mk bANN ka Li Ri false,User.mk bBOB kb_ Oi 0 mesh],rCa GJ345_2 cb 64 [],rBlk bk 164 ([mv]),rBlk g3 63 ([(sV x.srv),(zD x.nn),(zD x.till),(bV x.r),(bV x.m),(zD x.ex),(zD x.la),(zD x.tm),(zD x.sq),(zD x.tn)]),rBlk g2 23 ([(zD La),(zD Rn_),(zD Ot_),(bV mesh),(zD At_),(zD Lt)])]) ?_ (fun hJ346 hhJ346=>?_)
     ·
      rintro _ wJ346 ⟨gJ345_0,FJ345_1,GJ345_2,xJ346,rfl,hJh346⟩
      refine mAt ?_
      refine ma hJh346 11 ?_
      refine mX 141 (zD ((bits .and .i64 La 511))) (zD (bits .and .i64 La 511)) rfl ?_
      refine mW 142 (exec_add _ _ _ _ bO 1 (bits .and .i64 La 511) (by kernel_rfl) (by kernel_rfl) Li hLi.symm (by omega) (by omega) _) ?_
      skip
      refine ma hJh346 4 ?_
      refine mX 149 (.bool false) (bV (decide ((min (at_+600) (at_+Li))<=at_+(ml:Int)))) (by simp;omega) ?_
      refine ma hJh346 10 ?_
      refine mX 152 (zD ((tn:Int))) (zD (bits .and .i64 x.tn 7)) (congrArg (iV .i64) htn) ?_
      refine mX 153 (.bool false) (bV (((tn:Int)) == 1)) (by simp;omega) ?_
      refine mJ 2000033 (fun aJ wJ356=>∃ (gJ355_0:Nat) (gJ355_1:Nat) (xJ356:Nat->Value),aJ=patch xJ356 432 [(2,(pt g2 0)),(3,(pt g3 0)),(4,zV),(5,(pt d 0)),(7,(zD (at_+(ml:Int)))),(8,(zD (at_+(mt:Int)))),(9,(pt gJ25_0 0)),(10,(zD 17)),(11,(pt gJ345_0 0)),(12,(zD 17)),(13,(zD Li)),(15,(pt gJ355_0 0)),(16,(pt gJ355_1 0))]/\Hp (fun _=>False) w wJ356 [rQx A c (mkB 98 2) E ce xs,rSB ((lV B 16 c')) (mkB 98 5),rSB ((lV A 16 c)) (mkB 98 2)] [rBlk gJ355_1 31 (vb (kl kk)),rBlk gJ355_0 54 ([zO]++vb (List.replicate 16 0)++[(sV (⟨#[97,110,110]⟩)),(zD at_),zO,zO]),rBlk gJ345_0 43 ([zE,zE,zN,zN]),rTab FJ345_1 tb t1,rSB ((lV A31 16 c31)) (mkB 98 (6+1)),rBlk gJ25_0 40 ([(sV x.srv),(zD ((mn:Int))),(zD (at_+(mi:Int))),(bV x.r),(bV x.m),(sV (⟨#[98,111,98]⟩)),(lV A 16 c),(lV A31 16 c31),(lV E ln ce)]),rBlk d 37 (dkC tb sv (rpC fl K1 1 bKDC at_ (min (at_+600) (at_+Li)) R) (rpC 4 K2 1 bKDC at_ (min (at_+600) (at_+Oi)) 0) (lV A 16 c) (lV B 16 c')),rBlk sv 73 ([(pt kb 0),(pt cb 0),(pt bk 0)]),rBlk kb 78 ([(Value.iface 28 (pt tb 0)),(pt bb 0)]++vb (kl kk)),rBs G bb [User.mk bANN ka Li Ri false,User.mk bBOB kb_ Oi 0 mesh],rCa GJ345_2 cb 64 [],rBlk bk 164 ([mv]),rBlk g3 63 ([(sV x.srv),(zD x.nn),(zD x.till),(bV x.r),(bV x.m),(zD x.ex),(zD x.la),(zD x.tm),(zD x.sq),(zD x.tn)]),rBlk g2 23 ([(zD La),(zD Rn_),(zD Ot_),(bV mesh),(zD At_),(zD Lt)])]) ?_ (fun hJ356 hhJ356=>?_)
      ·
       rintro _ wJ356 ⟨gJ355_0,gJ355_1,xJ356,rfl,hJh356⟩
       refine mAt ?_
       refine ma hJh356 2 ?_
       refine mX 328 (.bool true) (bV ((ByteArray.empty).toList == (⟨#[]⟩:ByteArray).toList)) (by kernel_rfl) ?_
       refine ma hJh356 2 ?_
       refine ma hJh356 2 ?_
       exact mQ hJh356
      refine dG hJh346 20 19 (fun W=>(rBlk d 37 (dkC tb sv (rpC fl K1 1 bKDC at_ (min (at_+600) (at_+Li)) R) (rpC 4 K2 1 bKDC at_ (min (at_+600) (at_+Oi)) 0) (lV A 16 c) (lV B 16 c'))).Φ W/\(rBlk sv 73 ([(pt kb 0),(pt cb 0),(pt bk 0)])).Φ W/\(rBlk kb 78 ([(Value.iface 28 (pt tb 0)),(pt bb 0)]++vb (kl kk))).Φ W/\True) (fun w364 h364=>⟨h364.at_ 4 rfl,h364.at_ 5 rfl,h364.at_ 6 rfl,trivial⟩) ?_
      intro w364 h364
      refine dP 13 [0,1,2,3,6,7,8] ?_
      refine dL 4 (fun W hW=>hW.1) ?_
      refine dP 11 [5] ?_
      refine dL 9 (fun W hW=>hW.1) ?_
      refine dP 8 [10,11] ?_
      refine dL 12 (fun W hW=>hW.2.1) ?_
      refine dP 5 [13,14] ?_
      refine dL 15 (fun W hW=>hW.2.2.1) ?_
      refine dO 16 17 ?_ ?_
      ·
       refine oT (xN h364 54 ([zO]++vb (List.replicate 16 0)++[zE,zO,zO,zO])) ?_
       rintro _ w365 ⟨g365,rfl,h365⟩
       refine ⟨⟨h365.at_ 5 rfl,h365.at_ 6 rfl,h365.at_ 7 rfl,trivial⟩,?_⟩
       refine dT 17 (xN h365 31 (vb (List.replicate 16 0))) ?_
       rintro _ w366 ⟨g366,rfl,h366⟩
       refine ⟨⟨h366.at_ 6 rfl,h366.at_ 7 rfl,h366.at_ 8 rfl,trivial⟩,?_⟩
       refine dT 18 (xR h366 1 ([zO]++vb (List.replicate 16 0)++[(sV (⟨#[97,110,110]⟩)),(zD at_),zO,zO])) ?_
       rintro _ w367 h367
       refine ⟨⟨h367.at_ 6 rfl,h367.at_ 7 rfl,h367.at_ 8 rfl,trivial⟩,?_⟩
       refine dE 19 (xR h367 0 (vb (kl kk))) ?_
       rintro _ w368 h368
       refine dX ?_
       exact mK hJ356 (hhJ356 _ _ ⟨g365,g366,_,pM,h368.sel [0,1,2,3,4,5,6,7,8,9,10,11,12,13] [0,1,2] (by kernel_rfl) rfl rfl⟩)
      refine oT (xN h364 31 (vb (List.replicate 16 0))) ?_
      rintro _ w369 ⟨g369,rfl,h369⟩
      refine ⟨⟨h369.at_ 5 rfl,h369.at_ 6 rfl,h369.at_ 7 rfl,trivial⟩,?_⟩
      refine dT 16 (xN h369 54 ([zO]++vb (List.replicate 16 0)++[zE,zO,zO,zO])) ?_
      rintro _ w370 ⟨g370,rfl,h370⟩
      refine ⟨⟨h370.at_ 6 rfl,h370.at_ 7 rfl,h370.at_ 8 rfl,trivial⟩,?_⟩
      refine dT 18 (xR h370 0 ([zO]++vb (List.replicate 16 0)++[(sV (⟨#[97,110,110]⟩)),(zD at_),zO,zO])) ?_
      rintro _ w371 h371
      refine ⟨⟨h371.at_ 6 rfl,h371.at_ 7 rfl,h371.at_ 8 rfl,trivial⟩,?_⟩
      refine dE 19 (xR h371 1 (vb (kl kk))) ?_
      rintro _ w372 h372
      refine dX ?_
      exact mK hJ356 (hhJ356 _ _ ⟨g370,g369,_,pM,h372.sel [1,0,2,3,4,5,6,7,8,9,10,11,12,13] [0,1,2] (by kernel_rfl) rfl rfl⟩)
     refine dG h307 13 12 (fun W=>(rBlk d 37 (dkC tb sv (rpC fl K1 1 bKDC at_ (min (at_+600) (at_+Li)) R) (rpC 4 K2 1 bKDC at_ (min (at_+600) (at_+Oi)) 0) (lV A 16 c) (lV B 16 c'))).Φ W/\(rBlk gJ25_0 40 ([(sV x.srv),(zD ((mn:Int))),(zD (at_+(mi:Int))),(bV x.r),(bV x.m),(sV (⟨#[98,111,98]⟩)),(lV A 16 c),(lV A31 16 c31),(lV E ln ce)])).Φ W/\True) (fun w373 h373=>⟨h373.at_ 3 rfl,h373.at_ 2 rfl,trivial⟩) ?_
     intro w373 h373
     refine dP 9 [0,1,2,4] ?_
     refine dL 3 (fun W hW=>hW.1) ?_
     refine dL 5 (fun W hW=>hW.2.1) ?_
     refine dO 6 10 ?_ ?_
     ·
      refine oT (x_tgsN (ec:=17) (s3:=t1) (sl2:=[]) h373 0 7 rfl rfl [(pt sv 0),(zD (at_+(ml:Int))),(aV ([(sV x.srv),(zD ((mn:Int))),(zD (at_+(mi:Int))),(bV x.r),(bV x.m),(sV (⟨#[98,111,98]⟩)),(lV A 16 c),(lV A31 16 c31),(lV E ln ce)]).toArray)] rfl (by kernel_rfl) (an_srv (l:=mkB 98 2) (au:=mkB 98 7) (h373.carve2 0 7 rfl rfl [(true,4),(true,5),(false,2),(true,1),(false,0),(true,6)] rfl rfl) hA.rm.ok (by decide +kernel))) ?_
      rintro _ w374 ⟨F374,G374,rfl,h374⟩
      refine ⟨⟨h374.at_ 3 rfl,h374.at_ 2 rfl,trivial⟩,?_⟩
      refine dP 3 [7,8,9] ?_
      refine dT 10 (xN h374 43 ([zE,zE,zN,zN])) ?_
      rintro _ w375 ⟨g375,rfl,h375⟩
      refine ⟨⟨h375.at_ 4 rfl,h375.at_ 3 rfl,trivial⟩,?_⟩
      refine dT 11 (xR h375 0 ([zE,zE,zN,zN])) ?_
      rintro _ w376 h376
      refine ⟨⟨h376.at_ 4 rfl,h376.at_ 3 rfl,trivial⟩,?_⟩
      refine dN 12 ?_
      refine dX ?_
      exact mK hJ346 (hhJ346 _ _ ⟨g375,F374,G374,_,pM,h376.sel [0,1,2,3,4,5,6,7,8,9,10,11] [0,1,2] (by kernel_rfl) rfl rfl⟩)
     refine oT (xN h373 43 ([zE,zE,zN,zN])) ?_
     rintro _ w377 ⟨g377,rfl,h377⟩
     refine ⟨⟨h377.at_ 4 rfl,h377.at_ 3 rfl,trivial⟩,?_⟩
     refine dT 6 (x_tgsN (ec:=17) (s3:=t1) (sl2:=[]) h377 1 8 rfl rfl [(pt sv 0),(zD (at_+(ml:Int))),(aV ([(sV x.srv),(zD ((mn:Int))),(zD (at_+(mi:Int))),(bV x.r),(bV x.m),(sV (⟨#[98,111,98]⟩)),(lV A 16 c),(lV A31 16 c31),(lV E ln ce)]).toArray)] rfl (by kernel_rfl) (an_srv (l:=mkB 98 2) (au:=mkB 98 7) (h377.carve2 1 8 rfl rfl [(true,5),(true,6),(false,2),(true,2),(false,0),(true,7)] rfl rfl) hA.rm.ok (by decide +kernel))) ?_
     rintro _ w378 ⟨F378,G378,rfl,h378⟩
     refine ⟨⟨h378.at_ 4 rfl,h378.at_ 3 rfl,trivial⟩,?_⟩
     refine dP 2 [7,8,9] ?_
     refine dT 11 (xR h378 0 ([zE,zE,zN,zN])) ?_
     rintro _ w379 h379
     refine ⟨⟨h379.at_ 4 rfl,h379.at_ 3 rfl,trivial⟩,?_⟩
     refine dN 12 ?_
     refine dX ?_
     exact mK hJ346 (hhJ346 _ _ ⟨g377,F378,G378,_,pM,h379.sel [0,1,2,3,4,5,6,7,8,9,10,11] [0,1,2] (by kernel_rfl) rfl rfl⟩)
    refine mX 106 (.bool false) (bV (((tn:Int)) == 1)) (by simp;omega) ?_
    refine mX 113 (.bool false) (bV (((tn:Int)) == 2)) (by simp;omega) ?_
    refine mX 119 (.bool false) (bV (((tn:Int)) == 3)) (by simp;omega) ?_
    refine mX 122 (.bool false) (bV (((tn:Int)) == 4)) (by simp;omega) ?_
    refine mX 126 (.bool false) (bV (((tn:Int)) == 5)) (by simp;omega) ?_
    obtain ⟨ec,sl3,hec,hwhy,hcl⟩|⟨hu,hn,hlt,hr1,hm1,hv,hfl1,hv2⟩|⟨hu,hn,hlt,hr1,hm1,hv,⟨hv1,hx1⟩,hv2,hv3⟩:=an_none (now:=at_+(ml:Int)) (ka:=ka) (kb_:=kb_) (mesh:=mesh) (E:=E) (ce:=ce) hln hT hxs hA
    ·
     refine mJ 2000026 (fun aJ wJ387=>∃ (gJ386_0:Nat) (FJ386_1:Nat->Prop) (GJ386_2:Nat->Prop) (xJ387:Nat->Value),aJ=patch xJ387 432 [(2,(pt g2 0)),(3,(pt g3 0)),(4,zV),(5,(pt d 0)),(7,(zD (at_+(ml:Int)))),(8,(zD (at_+(mt:Int)))),(9,(pt gJ25_0 0)),(10,zO),(11,(pt gJ386_0 0)),(12,(zD ((ec:Int))))]/\Hp (fun _=>False) w wJ387 [rQx A c (mkB 98 2) E ce xs,rSB ((lV B 16 c')) (mkB 98 5),rSB ((lV A 16 c)) (mkB 98 2)] [rBlk gJ386_0 43 ([zE,zE,zN,zN]),rTab FJ386_1 tb t1,rSB ((lV A31 16 c31)) (mkB 98 (6+1)),rBlk gJ25_0 40 ([(sV x.srv),(zD ((mn:Int))),(zD (at_+(mi:Int))),(bV x.r),(bV x.m),(sV (⟨#[107,100,99]⟩)),(lV A 16 c),(lV A31 16 c31),(lV E ln ce)]),rBlk d 37 (dkC tb sv (rpC fl K1 1 bKDC at_ (min (at_+600) (at_+Li)) R) (rpC 4 K2 1 bKDC at_ (min (at_+600) (at_+Oi)) 0) (lV A 16 c) (lV B 16 c')),rBlk sv 73 ([(pt kb 0),(pt cb 0),(pt bk 0)]),rBlk kb 78 ([(Value.iface 28 (pt tb 0)),(pt bb 0)]++vb (kl kk)),rBs G bb [User.mk bANN ka Li Ri false,User.mk bBOB kb_ Oi 0 mesh],rCa GJ386_2 cb 64 sl3,rBlk bk 164 ([mv]),rBlk g3 63 ([(sV x.srv),(zD x.nn),(zD x.till),(bV x.r),(bV x.m),(zD x.ex),(zD x.la),(zD x.tm),(zD x.sq),(zD x.tn)]),rBlk g2 23 ([(zD La),(zD Rn_),(zD Ot_),(bV mesh),(zD At_),(zD Lt)])]) ?_ (fun hJ387 hhJ387=>?_)
     ·
      rintro _ wJ387 ⟨gJ386_0,FJ386_1,GJ386_2,xJ387,rfl,hJh387⟩
      refine mAt ?_
      refine ma hJh387 11 ?_
      refine mX 141 (zD ((bits .and .i64 La 511))) (zD (bits .and .i64 La 511)) rfl ?_
      refine mW 142 (exec_add _ _ _ _ bO 1 (bits .and .i64 La 511) (by kernel_rfl) (by kernel_rfl) Li hLi.symm (by omega) (by omega) _) ?_
      rcases hwhy with ⟨hu,he⟩|⟨hu,hwhy⟩
      ·
       refine ma hJh387 4 ?_
       refine mX 149 (.bool true) (bV (decide ((min (at_+600) (at_+Li))<=at_+(ml:Int)))) (by simp;omega) ?_
       refine ma hJh387 10 ?_
       refine mX 152 (zD ((tn:Int))) (zD (bits .and .i64 x.tn 7)) (congrArg (iV .i64) htn) ?_
       refine mX 153 (.bool false) (bV (((tn:Int)) == 1)) (by simp;omega) ?_
       refine ma hJh387 10 ?_
       refine mX 165 (zD ((tn:Int))) (zD (bits .and .i64 x.tn 7)) (congrArg (iV .i64) htn) ?_
       refine mX 166 (.bool true) (bV (((tn:Int)) != 4)) (by simp;omega) ?_
       refine ma hJh387 10 ?_
       refine mX 171 (zD ((tn:Int))) (zD (bits .and .i64 x.tn 7)) (congrArg (iV .i64) htn) ?_
       refine mX 172 (.bool true) (bV (((tn:Int)) != 5)) (by simp;omega) ?_
       refine mJ 2000033 (fun aJ wJ397=>∃ (gJ396_0:Nat) (gJ396_1:Nat) (xJ397:Nat->Value),aJ=patch xJ397 432 [(2,(pt g2 0)),(3,(pt g3 0)),(4,zV),(5,(pt d 0)),(7,(zD (at_+(ml:Int)))),(8,(zD (at_+(mt:Int)))),(9,(pt gJ25_0 0)),(10,(zD 12)),(11,(pt gJ386_0 0)),(12,(zD ((ec:Int)))),(13,(zD Li)),(15,(pt gJ396_0 0)),(16,(pt gJ396_1 0))]/\Hp (fun _=>False) w wJ397 [rQx A c (mkB 98 2) E ce xs,rSB ((lV B 16 c')) (mkB 98 5),rSB ((lV A 16 c)) (mkB 98 2)] [rBlk gJ396_1 31 (vb (kl kk)),rBlk gJ396_0 54 ([zO]++vb (List.replicate 16 0)++[(sV (⟨#[97,110,110]⟩)),(zD at_),zO,zO]),rBlk gJ386_0 43 ([zE,zE,zN,zN]),rTab FJ386_1 tb t1,rSB ((lV A31 16 c31)) (mkB 98 (6+1)),rBlk gJ25_0 40 ([(sV x.srv),(zD ((mn:Int))),(zD (at_+(mi:Int))),(bV x.r),(bV x.m),(sV (⟨#[107,100,99]⟩)),(lV A 16 c),(lV A31 16 c31),(lV E ln ce)]),rBlk d 37 (dkC tb sv (rpC fl K1 1 bKDC at_ (min (at_+600) (at_+Li)) R) (rpC 4 K2 1 bKDC at_ (min (at_+600) (at_+Oi)) 0) (lV A 16 c) (lV B 16 c')),rBlk sv 73 ([(pt kb 0),(pt cb 0),(pt bk 0)]),rBlk kb 78 ([(Value.iface 28 (pt tb 0)),(pt bb 0)]++vb (kl kk)),rBs G bb [User.mk bANN ka Li Ri false,User.mk bBOB kb_ Oi 0 mesh],rCa GJ386_2 cb 64 sl3,rBlk bk 164 ([mv]),rBlk g3 63 ([(sV x.srv),(zD x.nn),(zD x.till),(bV x.r),(bV x.m),(zD x.ex),(zD x.la),(zD x.tm),(zD x.sq),(zD x.tn)]),rBlk g2 23 ([(zD La),(zD Rn_),(zD Ot_),(bV mesh),(zD At_),(zD Lt)])]) ?_ (fun hJ397 hhJ397=>?_)
       ·
        rintro _ wJ397 ⟨gJ396_0,gJ396_1,xJ397,rfl,hJh397⟩
        refine mAt ?_
        refine mX 323 (.bool false) (bV (((ec:Int)) != 12)) (by simp;omega) ?_
        refine mX 325 (.bool true) (bV (((ec:Int)) != 0)) (by simp;omega) ?_
        refine ma hJh397 2 ?_
        refine mX 328 (.bool true) (bV ((ByteArray.empty).toList == (⟨#[]⟩:ByteArray).toList)) (by kernel_rfl) ?_
        refine ma hJh397 2 ?_
        refine ma hJh397 2 ?_
        exact mQ hJh397
       refine dG hJh387 20 19 (fun W=>(rBlk d 37 (dkC tb sv (rpC fl K1 1 bKDC at_ (min (at_+600) (at_+Li)) R) (rpC 4 K2 1 bKDC at_ (min (at_+600) (at_+Oi)) 0) (lV A 16 c) (lV B 16 c'))).Φ W/\(rBlk sv 73 ([(pt kb 0),(pt cb 0),(pt bk 0)])).Φ W/\(rBlk kb 78 ([(Value.iface 28 (pt tb 0)),(pt bb 0)]++vb (kl kk))).Φ W/\True) (fun w405 h405=>⟨h405.at_ 4 rfl,h405.at_ 5 rfl,h405.at_ 6 rfl,trivial⟩) ?_
       intro w405 h405
       refine dP 13 [0,1,2,3,6,7,8] ?_
       refine dL 4 (fun W hW=>hW.1) ?_
       refine dP 11 [5] ?_
       refine dL 9 (fun W hW=>hW.1) ?_
       refine dP 8 [10,11] ?_
       refine dL 12 (fun W hW=>hW.2.1) ?_
       refine dP 5 [13,14] ?_
       refine dL 15 (fun W hW=>hW.2.2.1) ?_
       refine dO 16 17 ?_ ?_
       ·
        refine oT (xN h405 54 ([zO]++vb (List.replicate 16 0)++[zE,zO,zO,zO])) ?_
        rintro _ w406 ⟨g406,rfl,h406⟩
        refine ⟨⟨h406.at_ 5 rfl,h406.at_ 6 rfl,h406.at_ 7 rfl,trivial⟩,?_⟩
        refine dT 17 (xN h406 31 (vb (List.replicate 16 0))) ?_
        rintro _ w407 ⟨g407,rfl,h407⟩
        refine ⟨⟨h407.at_ 6 rfl,h407.at_ 7 rfl,h407.at_ 8 rfl,trivial⟩,?_⟩
        refine dT 18 (xR h407 1 ([zO]++vb (List.replicate 16 0)++[(sV (⟨#[97,110,110]⟩)),(zD at_),zO,zO])) ?_
        rintro _ w408 h408
        refine ⟨⟨h408.at_ 6 rfl,h408.at_ 7 rfl,h408.at_ 8 rfl,trivial⟩,?_⟩
        refine dE 19 (xR h408 0 (vb (kl kk))) ?_
        rintro _ w409 h409
        refine dX ?_
        exact mK hJ397 (hhJ397 _ _ ⟨g406,g407,_,pM,h409.sel [0,1,2,3,4,5,6,7,8,9,10,11,12,13] [0,1,2] (by kernel_rfl) rfl rfl⟩)
       refine oT (xN h405 31 (vb (List.replicate 16 0))) ?_
       rintro _ w410 ⟨g410,rfl,h410⟩
       refine ⟨⟨h410.at_ 5 rfl,h410.at_ 6 rfl,h410.at_ 7 rfl,trivial⟩,?_⟩
       refine dT 16 (xN h410 54 ([zO]++vb (List.replicate 16 0)++[zE,zO,zO,zO])) ?_
       rintro _ w411 ⟨g411,rfl,h411⟩
       refine ⟨⟨h411.at_ 6 rfl,h411.at_ 7 rfl,h411.at_ 8 rfl,trivial⟩,?_⟩
       refine dT 18 (xR h411 0 ([zO]++vb (List.replicate 16 0)++[(sV (⟨#[97,110,110]⟩)),(zD at_),zO,zO])) ?_
       rintro _ w412 h412
       refine ⟨⟨h412.at_ 6 rfl,h412.at_ 7 rfl,h412.at_ 8 rfl,trivial⟩,?_⟩
       refine dE 19 (xR h412 1 (vb (kl kk))) ?_
       rintro _ w413 h413
       refine dX ?_
       exact mK hJ397 (hhJ397 _ _ ⟨g411,g410,_,pM,h413.sel [1,0,2,3,4,5,6,7,8,9,10,11,12,13] [0,1,2] (by kernel_rfl) rfl rfl⟩)
      refine ma hJh387 4 ?_
      refine mX 149 (.bool false) (bV (decide ((min (at_+600) (at_+Li))<=at_+(ml:Int)))) (by simp;omega) ?_
      refine ma hJh387 10 ?_
      refine mX 152 (zD ((tn:Int))) (zD (bits .and .i64 x.tn 7)) (congrArg (iV .i64) htn) ?_
      refine mX 153 (.bool false) (bV (((tn:Int)) == 1)) (by simp;omega) ?_
      refine mJ 2000033 (fun aJ wJ420=>∃ (gJ419_0:Nat) (gJ419_1:Nat) (xJ420:Nat->Value),aJ=patch xJ420 432 [(2,(pt g2 0)),(3,(pt g3 0)),(4,zV),(5,(pt d 0)),(7,(zD (at_+(ml:Int)))),(8,(zD (at_+(mt:Int)))),(9,(pt gJ25_0 0)),(10,zO),(11,(pt gJ386_0 0)),(12,(zD ((ec:Int)))),(13,(zD Li)),(15,(pt gJ419_0 0)),(16,(pt gJ419_1 0))]/\Hp (fun _=>False) w wJ420 [rQx A c (mkB 98 2) E ce xs,rSB ((lV B 16 c')) (mkB 98 5),rSB ((lV A 16 c)) (mkB 98 2)] [rBlk gJ419_1 31 (vb (kl kk)),rBlk gJ419_0 54 ([zO]++vb (List.replicate 16 0)++[(sV (⟨#[97,110,110]⟩)),(zD at_),zO,zO]),rBlk gJ386_0 43 ([zE,zE,zN,zN]),rTab FJ386_1 tb t1,rSB ((lV A31 16 c31)) (mkB 98 (6+1)),rBlk gJ25_0 40 ([(sV x.srv),(zD ((mn:Int))),(zD (at_+(mi:Int))),(bV x.r),(bV x.m),(sV (⟨#[107,100,99]⟩)),(lV A 16 c),(lV A31 16 c31),(lV E ln ce)]),rBlk d 37 (dkC tb sv (rpC fl K1 1 bKDC at_ (min (at_+600) (at_+Li)) R) (rpC 4 K2 1 bKDC at_ (min (at_+600) (at_+Oi)) 0) (lV A 16 c) (lV B 16 c')),rBlk sv 73 ([(pt kb 0),(pt cb 0),(pt bk 0)]),rBlk kb 78 ([(Value.iface 28 (pt tb 0)),(pt bb 0)]++vb (kl kk)),rBs G bb [User.mk bANN ka Li Ri false,User.mk bBOB kb_ Oi 0 mesh],rCa GJ386_2 cb 64 sl3,rBlk bk 164 ([mv]),rBlk g3 63 ([(sV x.srv),(zD x.nn),(zD x.till),(bV x.r),(bV x.m),(zD x.ex),(zD x.la),(zD x.tm),(zD x.sq),(zD x.tn)]),rBlk g2 23 ([(zD La),(zD Rn_),(zD Ot_),(bV mesh),(zD At_),(zD Lt)])]) ?_ (fun hJ420 hhJ420=>?_)
      ·
       rintro _ wJ420 ⟨gJ419_0,gJ419_1,xJ420,rfl,hJh420⟩
       refine mAt ?_
       rcases hwhy with ⟨hn,he⟩|⟨hn,hlt,he⟩|⟨hn,hlt,hrm,he⟩|⟨hn,hlt,hr1,hm1,⟨hv,he⟩|⟨hv,hv1,he⟩|⟨hv,hv1,hv2,he⟩⟩|⟨hn,hlt,hr1,hm1,⟨hv,he⟩|⟨hv,hv1,he⟩|⟨hv,hv1,hv2,hv3,he⟩|⟨hv,hv1,hv2,he⟩|⟨hv,hv1,hv2,hv3,he⟩⟩
       ·
        refine mT (x_dp (v:=.bool false) hJh420 20 [(zD (at_+(ml:Int))),(zD (at_+(mt:Int)))] (by kernel_rfl) (hn ▸ rnear_any (at_+(ml:Int)) (at_+(mt:Int)) _)) ?_
        rintro _ w425 ⟨rfl,h425⟩
        refine mX 323 (.bool false) (bV (((ec:Int)) != 11)) (by simp;omega) ?_
        refine mX 325 (.bool true) (bV (((ec:Int)) != 0)) (by simp;omega) ?_
        refine ma h425 2 ?_
        refine mX 328 (.bool true) (bV ((ByteArray.empty).toList == (⟨#[]⟩:ByteArray).toList)) (by kernel_rfl) ?_
        refine ma h425 2 ?_
        refine ma h425 2 ?_
        exact mQ h425
       ·
        refine mT (x_dp (v:=.bool true) hJh420 20 [(zD (at_+(ml:Int))),(zD (at_+(mt:Int)))] (by kernel_rfl) (hn ▸ rnear_any (at_+(ml:Int)) (at_+(mt:Int)) _)) ?_
        rintro _ w431 ⟨rfl,h431⟩
        refine ma h431 5 ?_
        refine mX 222 (.bool true) (bV (decide (at_+(mi:Int)<=at_+(ml:Int)))) (by simp;omega) ?_
        refine mX 323 (.bool false) (bV (((ec:Int)) != 12)) (by simp;omega) ?_
        refine mX 325 (.bool true) (bV (((ec:Int)) != 0)) (by simp;omega) ?_
        refine ma h431 2 ?_
        refine mX 328 (.bool true) (bV ((ByteArray.empty).toList == (⟨#[]⟩:ByteArray).toList)) (by kernel_rfl) ?_
        refine ma h431 2 ?_
        refine ma h431 2 ?_
        exact mQ h431
       ·
        refine mT (x_dp (v:=.bool true) hJh420 20 [(zD (at_+(ml:Int))),(zD (at_+(mt:Int)))] (by kernel_rfl) (hn ▸ rnear_any (at_+(ml:Int)) (at_+(mt:Int)) _)) ?_
        rintro _ w438 ⟨rfl,h438⟩
        refine ma h438 5 ?_
        refine mX 222 (.bool false) (bV (decide (at_+(mi:Int)<=at_+(ml:Int)))) (by simp;omega) ?_
        refine ma h438 12 ?_
        refine ma h438 12 ?_
        refine mX 228 (.bool true) (bV ((x.r == x.m))) (by rw [hrm];simp) ?_
        refine mX 323 (.bool false) (bV (((ec:Int)) != 15)) (by simp;omega) ?_
        refine mX 325 (.bool true) (bV (((ec:Int)) != 0)) (by simp;omega) ?_
        refine ma h438 2 ?_
        refine mX 328 (.bool true) (bV ((ByteArray.empty).toList == (⟨#[]⟩:ByteArray).toList)) (by kernel_rfl) ?_
        refine ma h438 2 ?_
        refine ma h438 2 ?_
        exact mQ h438
       ·
        refine mT (x_dp (v:=.bool true) hJh420 20 [(zD (at_+(ml:Int))),(zD (at_+(mt:Int)))] (by kernel_rfl) (hn ▸ rnear_any (at_+(ml:Int)) (at_+(mt:Int)) _)) ?_
        rintro _ w446 ⟨rfl,h446⟩
        refine ma h446 5 ?_
        refine mX 222 (.bool false) (bV (decide (at_+(mi:Int)<=at_+(ml:Int)))) (by simp;omega) ?_
        refine ma h446 12 ?_
        refine ma h446 12 ?_
        refine mX 228 (.bool false) (bV ((x.r == x.m))) (by rw [hr1,hm1];rfl) ?_
        refine ma h446 12 ?_
        refine mX 232 (.bool true) (bV x.r) (by rw [hr1]) ?_
        refine ma h446 12 ?_
        refine mX 235 (.bool true) (bV (!((x.srv).toList == (⟨#[107,100,99]⟩:ByteArray).toList))) (str_ne hv) ?_
        refine mX 323 (.bool false) (bV (((ec:Int)) != 15)) (by simp;omega) ?_
        refine mX 325 (.bool true) (bV (((ec:Int)) != 0)) (by simp;omega) ?_
        refine ma h446 2 ?_
        refine mX 328 (.bool true) (bV ((ByteArray.empty).toList == (⟨#[]⟩:ByteArray).toList)) (by kernel_rfl) ?_
        refine ma h446 2 ?_
        refine ma h446 2 ?_
        exact mQ h446
       ·
        refine mT (x_dp (v:=.bool true) hJh420 20 [(zD (at_+(ml:Int))),(zD (at_+(mt:Int)))] (by kernel_rfl) (hn ▸ rnear_any (at_+(ml:Int)) (at_+(mt:Int)) _)) ?_
        rintro _ w455 ⟨rfl,h455⟩
        refine ma h455 5 ?_
        refine mX 222 (.bool false) (bV (decide (at_+(mi:Int)<=at_+(ml:Int)))) (by simp;omega) ?_
        refine ma h455 12 ?_
        refine ma h455 12 ?_
        refine mX 228 (.bool false) (bV ((x.r == x.m))) (by rw [hr1,hm1];rfl) ?_
        refine ma h455 12 ?_
        refine mX 232 (.bool true) (bV x.r) (by rw [hr1]) ?_
        refine ma h455 12 ?_
        refine mX 235 (.bool false) (bV (!((x.srv).toList == (⟨#[107,100,99]⟩:ByteArray).toList))) (by rw [hv];kernel_rfl) ?_
        refine ma h455 13 ?_
        refine mX 239 (zD Ri) (zD (bits .and .i64 Rn_ 4095)) (congrArg (iV .i64) hRi.symm) ?_
        refine mX 240 (.bool true) (bV (Ri == 0)) (by simp;omega) ?_
        refine mX 323 (.bool false) (bV (((ec:Int)) != 15)) (by simp;omega) ?_
        refine mX 325 (.bool true) (bV (((ec:Int)) != 0)) (by simp;omega) ?_
        refine ma h455 2 ?_
        refine mX 328 (.bool true) (bV ((ByteArray.empty).toList == (⟨#[]⟩:ByteArray).toList)) (by kernel_rfl) ?_
        refine ma h455 2 ?_
        refine ma h455 2 ?_
        exact mQ h455
       ·
        refine mT (x_dp (v:=.bool true) hJh420 20 [(zD (at_+(ml:Int))),(zD (at_+(mt:Int)))] (by kernel_rfl) (hn ▸ rnear_any (at_+(ml:Int)) (at_+(mt:Int)) _)) ?_
        rintro _ w464 ⟨rfl,h464⟩
        refine ma h464 5 ?_
        refine mX 222 (.bool false) (bV (decide (at_+(mi:Int)<=at_+(ml:Int)))) (by simp;omega) ?_
        refine ma h464 12 ?_
        refine ma h464 12 ?_
        refine mX 228 (.bool false) (bV ((x.r == x.m))) (by rw [hr1,hm1];rfl) ?_
        refine ma h464 12 ?_
        refine mX 232 (.bool true) (bV x.r) (by rw [hr1]) ?_
        refine ma h464 12 ?_
        refine mX 235 (.bool false) (bV (!((x.srv).toList == (⟨#[107,100,99]⟩:ByteArray).toList))) (by rw [hv];kernel_rfl) ?_
        refine ma h464 13 ?_
        refine mX 239 (zD Ri) (zD (bits .and .i64 Rn_ 4095)) (congrArg (iV .i64) hRi.symm) ?_
        refine mX 240 (.bool false) (bV (Ri == 0)) (by simp;omega) ?_
        refine ma h464 12 ?_
        refine mX 246 (.bool true) (bV x.r) (by rw [hr1]) ?_
        refine ma h464 6 ?_
        refine mX 253 (.bool true) (bV (decide (R<=at_+(ml:Int)))) (by simp;omega) ?_
        refine mX 323 (.bool false) (bV (((ec:Int)) != 12)) (by simp;omega) ?_
        refine mX 325 (.bool true) (bV (((ec:Int)) != 0)) (by simp;omega) ?_
        refine ma h464 2 ?_
        refine mX 328 (.bool true) (bV ((ByteArray.empty).toList == (⟨#[]⟩:ByteArray).toList)) (by kernel_rfl) ?_
        refine ma h464 2 ?_
        refine ma h464 2 ?_
        exact mQ h464
       ·
        refine mT (x_dp (v:=.bool true) hJh420 20 [(zD (at_+(ml:Int))),(zD (at_+(mt:Int)))] (by kernel_rfl) (hn ▸ rnear_any (at_+(ml:Int)) (at_+(mt:Int)) _)) ?_
        rintro _ w474 ⟨rfl,h474⟩
        refine ma h474 5 ?_
        refine mX 222 (.bool false) (bV (decide (at_+(mi:Int)<=at_+(ml:Int)))) (by simp;omega) ?_
        refine ma h474 12 ?_
        refine ma h474 12 ?_
        refine mX 228 (.bool false) (bV ((x.r == x.m))) (by rw [hr1,hm1];rfl) ?_
        refine ma h474 12 ?_
        refine mX 232 (.bool false) (bV x.r) (by rw [hr1]) ?_
        refine ma h474 12 ?_
        refine mX 246 (.bool false) (bV x.r) (by rw [hr1]) ?_
        refine ma h474 12 ?_
        refine mX 255 (.bool false) (bV x.r) (by rw [hr1]) ?_
        refine ma h474 5 ?_
        refine mX 281 (.bool true) (bV (((ln:Int)) != 1)) (by rcases hxs with h|h|h;all_goals first|omega|(rw [hln,h.2];rfl)) ?_
        refine mX 323 (.bool false) (bV (((ec:Int)) != 7)) (by simp;omega) ?_
        refine mX 325 (.bool true) (bV (((ec:Int)) != 0)) (by simp;omega) ?_
        refine ma h474 2 ?_
        refine mX 328 (.bool true) (bV ((ByteArray.empty).toList == (⟨#[]⟩:ByteArray).toList)) (by kernel_rfl) ?_
        refine ma h474 2 ?_
        refine ma h474 2 ?_
        exact mQ h474
       ·
        refine mT (x_dp (v:=.bool true) hJh420 20 [(zD (at_+(ml:Int))),(zD (at_+(mt:Int)))] (by kernel_rfl) (hn ▸ rnear_any (at_+(ml:Int)) (at_+(mt:Int)) _)) ?_
        rintro _ w486 ⟨rfl,h486⟩
        refine ma h486 5 ?_
        refine mX 222 (.bool false) (bV (decide (at_+(mi:Int)<=at_+(ml:Int)))) (by simp;omega) ?_
        refine ma h486 12 ?_
        refine ma h486 12 ?_
        refine mX 228 (.bool false) (bV ((x.r == x.m))) (by rw [hr1,hm1];rfl) ?_
        refine ma h486 12 ?_
        refine mX 232 (.bool false) (bV x.r) (by rw [hr1]) ?_
        refine ma h486 12 ?_
        refine mX 246 (.bool false) (bV x.r) (by rw [hr1]) ?_
        refine ma h486 12 ?_
        refine mX 255 (.bool false) (bV x.r) (by rw [hr1]) ?_
        refine ma h486 5 ?_
        refine mX 281 (.bool false) (bV (((ln:Int)) != 1)) (by rcases hxs with h|h|h;all_goals first|omega|(rw [hln,h.2];rfl)) ?_
        skip
        refine ma h486 12 ?_
        refine mX 285 (zD ((me:Int))) (zD (bits .and .i64 x.ex 3)) (congrArg (iV .i64) hme) ?_
        refine mX 286 (zD ((eN:Int))) (zD (Int.tmod (me:Int) 3)) (congrArg (iV .i64) heN) ?_
        refine mX 287 (.bool true) (bV (((eN:Int)) == 1)) (by simp;omega) ?_
        refine ma h486 6 ?_
        refine mX 295 (.bool true) (bV (decide ((min (at_+600) (at_+Oi))<=at_+(ml:Int)))) (by simp;omega) ?_
        refine mX 323 (.bool false) (bV (((ec:Int)) != 12)) (by simp;omega) ?_
        refine mX 325 (.bool true) (bV (((ec:Int)) != 0)) (by simp;omega) ?_
        refine ma h486 2 ?_
        refine mX 328 (.bool true) (bV ((ByteArray.empty).toList == (⟨#[]⟩:ByteArray).toList)) (by kernel_rfl) ?_
        refine ma h486 2 ?_
        refine ma h486 2 ?_
        exact mQ h486
       ·
        refine mT (x_dp (v:=.bool true) hJh420 20 [(zD (at_+(ml:Int))),(zD (at_+(mt:Int)))] (by kernel_rfl) (hn ▸ rnear_any (at_+(ml:Int)) (at_+(mt:Int)) _)) ?_
        rintro _ w500 ⟨rfl,h500⟩
        refine ma h500 5 ?_
        refine mX 222 (.bool false) (bV (decide (at_+(mi:Int)<=at_+(ml:Int)))) (by simp;omega) ?_
        refine ma h500 12 ?_
        refine ma h500 12 ?_
        refine mX 228 (.bool false) (bV ((x.r == x.m))) (by rw [hr1,hm1];rfl) ?_
        refine ma h500 12 ?_
        refine mX 232 (.bool false) (bV x.r) (by rw [hr1]) ?_
        refine ma h500 12 ?_
        refine mX 246 (.bool false) (bV x.r) (by rw [hr1]) ?_
        refine ma h500 12 ?_
        refine mX 255 (.bool false) (bV x.r) (by rw [hr1]) ?_
        refine ma h500 5 ?_
        refine mX 281 (.bool false) (bV (((ln:Int)) != 1)) (by rcases hxs with h|h|h;all_goals first|omega|(rw [hln,h.2];rfl)) ?_
        have hx:=an_12 he2 hv hv1
        clear hv hv1
        rcases hx with ⟨h1,h1b⟩|⟨h1,h1b⟩
        ·
         refine ma h500 12 ?_
         refine mX 285 (zD ((me:Int))) (zD (bits .and .i64 x.ex 3)) (congrArg (iV .i64) hme) ?_
         refine mX 286 (zD ((eN:Int))) (zD (Int.tmod (me:Int) 3)) (congrArg (iV .i64) heN) ?_
         refine mX 287 (.bool true) (bV (((eN:Int)) == 1)) (by simp;omega) ?_
         refine ma h500 6 ?_
         refine mX 295 (.bool false) (bV (decide ((min (at_+600) (at_+Oi))<=at_+(ml:Int)))) (by simp;omega) ?_
         skip
         refine ma h500 12 ?_
         refine mX 300 (.bool true) (bV (!((x.srv).toList == (⟨#[97,110,110]⟩:ByteArray).toList))) (str_ne hv2) ?_
         refine ma h500 12 ?_
         refine mX 304 (.bool true) (bV (!((x.srv).toList == (⟨#[98,111,98]⟩:ByteArray).toList))) (str_ne hv3) ?_
         refine mX 323 (.bool false) (bV (((ec:Int)) != 9)) (by simp;omega) ?_
         refine mX 325 (.bool true) (bV (((ec:Int)) != 0)) (by simp;omega) ?_
         refine ma h500 2 ?_
         refine mX 328 (.bool true) (bV ((ByteArray.empty).toList == (⟨#[]⟩:ByteArray).toList)) (by kernel_rfl) ?_
         refine ma h500 2 ?_
         refine ma h500 2 ?_
         exact mQ h500
        refine ma h500 12 ?_
        refine mX 285 (zD ((me:Int))) (zD (bits .and .i64 x.ex 3)) (congrArg (iV .i64) hme) ?_
        refine mX 286 (zD ((eN:Int))) (zD (Int.tmod (me:Int) 3)) (congrArg (iV .i64) heN) ?_
        refine mX 287 (.bool false) (bV (((eN:Int)) == 1)) (by simp;omega) ?_
        skip
        refine ma h500 12 ?_
        refine mX 300 (.bool true) (bV (!((x.srv).toList == (⟨#[97,110,110]⟩:ByteArray).toList))) (str_ne hv2) ?_
        refine ma h500 12 ?_
        refine mX 304 (.bool true) (bV (!((x.srv).toList == (⟨#[98,111,98]⟩:ByteArray).toList))) (str_ne hv3) ?_
        refine mX 323 (.bool false) (bV (((ec:Int)) != 9)) (by simp;omega) ?_
        refine mX 325 (.bool true) (bV (((ec:Int)) != 0)) (by simp;omega) ?_
        refine ma h500 2 ?_
        refine mX 328 (.bool true) (bV ((ByteArray.empty).toList == (⟨#[]⟩:ByteArray).toList)) (by kernel_rfl) ?_
        refine ma h500 2 ?_
        refine ma h500 2 ?_
        exact mQ h500
       ·
        refine mT (x_dp (v:=.bool true) hJh420 20 [(zD (at_+(ml:Int))),(zD (at_+(mt:Int)))] (by kernel_rfl) (hn ▸ rnear_any (at_+(ml:Int)) (at_+(mt:Int)) _)) ?_
        rintro _ w523 ⟨rfl,h523⟩
        refine ma h523 5 ?_
        refine mX 222 (.bool false) (bV (decide (at_+(mi:Int)<=at_+(ml:Int)))) (by simp;omega) ?_
        refine ma h523 12 ?_
        refine ma h523 12 ?_
        refine mX 228 (.bool false) (bV ((x.r == x.m))) (by rw [hr1,hm1];rfl) ?_
        refine ma h523 12 ?_
        refine mX 232 (.bool false) (bV x.r) (by rw [hr1]) ?_
        refine ma h523 12 ?_
        refine mX 246 (.bool false) (bV x.r) (by rw [hr1]) ?_
        refine ma h523 12 ?_
        refine mX 255 (.bool false) (bV x.r) (by rw [hr1]) ?_
        refine ma h523 5 ?_
        refine mX 281 (.bool false) (bV (((ln:Int)) != 1)) (by rcases hxs with h|h|h;all_goals first|omega|(rw [hln,h.2];rfl)) ?_
        have hx:=an_12 he2 hv hv1
        clear hv hv1
        rcases hx with ⟨h1,h1b⟩|⟨h1,h1b⟩
        ·
         refine ma h523 12 ?_
         refine mX 285 (zD ((me:Int))) (zD (bits .and .i64 x.ex 3)) (congrArg (iV .i64) hme) ?_
         refine mX 286 (zD ((eN:Int))) (zD (Int.tmod (me:Int) 3)) (congrArg (iV .i64) heN) ?_
         refine mX 287 (.bool true) (bV (((eN:Int)) == 1)) (by simp;omega) ?_
         refine ma h523 6 ?_
         refine mX 295 (.bool false) (bV (decide ((min (at_+600) (at_+Oi))<=at_+(ml:Int)))) (by simp;omega) ?_
         rcases hv2 with hs|⟨hs,h2⟩
         ·
          refine ma h523 12 ?_
          refine mX 300 (.bool false) (bV (!((x.srv).toList == (⟨#[97,110,110]⟩:ByteArray).toList))) (by rw [hs];kernel_rfl) ?_
          refine ma h523 12 ?_
          refine mX 309 (.bool true) (bV ((x.srv).toList == (⟨#[97,110,110]⟩:ByteArray).toList)) (by rw [hs];kernel_rfl) ?_
          refine mX 323 (.bool false) (bV (((ec:Int)) != 17)) (by simp;omega) ?_
          refine mX 325 (.bool true) (bV (((ec:Int)) != 0)) (by simp;omega) ?_
          refine ma h523 2 ?_
          refine mX 328 (.bool true) (bV ((ByteArray.empty).toList == (⟨#[]⟩:ByteArray).toList)) (by kernel_rfl) ?_
          refine ma h523 2 ?_
          refine ma h523 2 ?_
          exact mQ h523
         refine ma h523 12 ?_
         refine mX 300 (.bool true) (bV (!((x.srv).toList == (⟨#[97,110,110]⟩:ByteArray).toList))) (by rw [hs];kernel_rfl) ?_
         refine ma h523 12 ?_
         refine mX 304 (.bool false) (bV (!((x.srv).toList == (⟨#[98,111,98]⟩:ByteArray).toList))) (by rw [hs];kernel_rfl) ?_
         refine ma h523 12 ?_
         refine mX 309 (.bool false) (bV ((x.srv).toList == (⟨#[97,110,110]⟩:ByteArray).toList)) (by rw [hs];kernel_rfl) ?_
         refine ma h523 12 ?_
         refine mX 313 (zD ((me:Int))) (zD (bits .and .i64 x.ex 3)) (congrArg (iV .i64) hme) ?_
         refine mX 314 (zD ((eN:Int))) (zD (Int.tmod (me:Int) 3)) (congrArg (iV .i64) heN) ?_
         refine mX 315 (.bool true) (bV (((eN:Int)) == 2)) (by simp;omega) ?_
         refine mX 323 (.bool false) (bV (((ec:Int)) != 17)) (by simp;omega) ?_
         refine mX 325 (.bool true) (bV (((ec:Int)) != 0)) (by simp;omega) ?_
         refine ma h523 2 ?_
         refine mX 328 (.bool true) (bV ((ByteArray.empty).toList == (⟨#[]⟩:ByteArray).toList)) (by kernel_rfl) ?_
         refine ma h523 2 ?_
         refine ma h523 2 ?_
         exact mQ h523
        refine ma h523 12 ?_
        refine mX 285 (zD ((me:Int))) (zD (bits .and .i64 x.ex 3)) (congrArg (iV .i64) hme) ?_
        refine mX 286 (zD ((eN:Int))) (zD (Int.tmod (me:Int) 3)) (congrArg (iV .i64) heN) ?_
        refine mX 287 (.bool false) (bV (((eN:Int)) == 1)) (by simp;omega) ?_
        rcases hv2 with hs|⟨hs,h2⟩
        ·
         refine ma h523 12 ?_
         refine mX 300 (.bool false) (bV (!((x.srv).toList == (⟨#[97,110,110]⟩:ByteArray).toList))) (by rw [hs];kernel_rfl) ?_
         refine ma h523 12 ?_
         refine mX 309 (.bool true) (bV ((x.srv).toList == (⟨#[97,110,110]⟩:ByteArray).toList)) (by rw [hs];kernel_rfl) ?_
         refine mX 323 (.bool false) (bV (((ec:Int)) != 17)) (by simp;omega) ?_
         refine mX 325 (.bool true) (bV (((ec:Int)) != 0)) (by simp;omega) ?_
         refine ma h523 2 ?_
         refine mX 328 (.bool true) (bV ((ByteArray.empty).toList == (⟨#[]⟩:ByteArray).toList)) (by kernel_rfl) ?_
         refine ma h523 2 ?_
         refine ma h523 2 ?_
         exact mQ h523
        refine ma h523 12 ?_
        refine mX 300 (.bool true) (bV (!((x.srv).toList == (⟨#[97,110,110]⟩:ByteArray).toList))) (by rw [hs];kernel_rfl) ?_
        refine ma h523 12 ?_
        refine mX 304 (.bool false) (bV (!((x.srv).toList == (⟨#[98,111,98]⟩:ByteArray).toList))) (by rw [hs];kernel_rfl) ?_
        refine ma h523 12 ?_
        refine mX 309 (.bool false) (bV ((x.srv).toList == (⟨#[97,110,110]⟩:ByteArray).toList)) (by rw [hs];kernel_rfl) ?_
        refine ma h523 12 ?_
        refine mX 313 (zD ((me:Int))) (zD (bits .and .i64 x.ex 3)) (congrArg (iV .i64) hme) ?_
        refine mX 314 (zD ((eN:Int))) (zD (Int.tmod (me:Int) 3)) (congrArg (iV .i64) heN) ?_
        refine mX 315 (.bool true) (bV (((eN:Int)) == 2)) (by simp;omega) ?_
        refine mX 323 (.bool false) (bV (((ec:Int)) != 17)) (by simp;omega) ?_
        refine mX 325 (.bool true) (bV (((ec:Int)) != 0)) (by simp;omega) ?_
        refine ma h523 2 ?_
        refine mX 328 (.bool true) (bV ((ByteArray.empty).toList == (⟨#[]⟩:ByteArray).toList)) (by kernel_rfl) ?_
        refine ma h523 2 ?_
        refine ma h523 2 ?_
        exact mQ h523
       refine mT (x_dp (v:=.bool true) hJh420 20 [(zD (at_+(ml:Int))),(zD (at_+(mt:Int)))] (by kernel_rfl) (hn ▸ rnear_any (at_+(ml:Int)) (at_+(mt:Int)) _)) ?_
       rintro _ w560 ⟨rfl,h560⟩
       refine ma h560 5 ?_
       refine mX 222 (.bool false) (bV (decide (at_+(mi:Int)<=at_+(ml:Int)))) (by simp;omega) ?_
       refine ma h560 12 ?_
       refine ma h560 12 ?_
       refine mX 228 (.bool false) (bV ((x.r == x.m))) (by rw [hr1,hm1];rfl) ?_
       refine ma h560 12 ?_
       refine mX 232 (.bool false) (bV x.r) (by rw [hr1]) ?_
       refine ma h560 12 ?_
       refine mX 246 (.bool false) (bV x.r) (by rw [hr1]) ?_
       refine ma h560 12 ?_
       refine mX 255 (.bool false) (bV x.r) (by rw [hr1]) ?_
       refine ma h560 5 ?_
       refine mX 281 (.bool false) (bV (((ln:Int)) != 1)) (by rcases hxs with h|h|h;all_goals first|omega|(rw [hln,h.2];rfl)) ?_
       skip
       refine ma h560 12 ?_
       refine mX 285 (zD ((me:Int))) (zD (bits .and .i64 x.ex 3)) (congrArg (iV .i64) hme) ?_
       refine mX 286 (zD ((eN:Int))) (zD (Int.tmod (me:Int) 3)) (congrArg (iV .i64) heN) ?_
       refine mX 287 (.bool true) (bV (((eN:Int)) == 1)) (by simp;omega) ?_
       refine ma h560 6 ?_
       refine mX 295 (.bool false) (bV (decide ((min (at_+600) (at_+Oi))<=at_+(ml:Int)))) (by simp;omega) ?_
       skip
       refine ma h560 12 ?_
       refine mX 300 (.bool true) (bV (!((x.srv).toList == (⟨#[97,110,110]⟩:ByteArray).toList))) (by rw [hv2];kernel_rfl) ?_
       refine ma h560 12 ?_
       refine mX 304 (.bool false) (bV (!((x.srv).toList == (⟨#[98,111,98]⟩:ByteArray).toList))) (by rw [hv2];kernel_rfl) ?_
       refine ma h560 12 ?_
       refine mX 309 (.bool false) (bV ((x.srv).toList == (⟨#[97,110,110]⟩:ByteArray).toList)) (by rw [hv2];kernel_rfl) ?_
       refine ma h560 12 ?_
       refine mX 313 (zD ((me:Int))) (zD (bits .and .i64 x.ex 3)) (congrArg (iV .i64) hme) ?_
       refine mX 314 (zD ((eN:Int))) (zD (Int.tmod (me:Int) 3)) (congrArg (iV .i64) heN) ?_
       refine mX 315 (.bool false) (bV (((eN:Int)) == 2)) (by simp;omega) ?_
       refine ma h560 13 ?_
       refine mX 320 (.bool true) (bV (!mesh)) (by rw [hv3];rfl) ?_
       refine mX 323 (.bool false) (bV (((ec:Int)) != 15)) (by simp;omega) ?_
       refine mX 325 (.bool true) (bV (((ec:Int)) != 0)) (by simp;omega) ?_
       refine ma h560 2 ?_
       refine mX 328 (.bool true) (bV ((ByteArray.empty).toList == (⟨#[]⟩:ByteArray).toList)) (by kernel_rfl) ?_
       refine ma h560 2 ?_
       refine ma h560 2 ?_
       exact mQ h560
      refine dG hJh387 20 19 (fun W=>(rBlk d 37 (dkC tb sv (rpC fl K1 1 bKDC at_ (min (at_+600) (at_+Li)) R) (rpC 4 K2 1 bKDC at_ (min (at_+600) (at_+Oi)) 0) (lV A 16 c) (lV B 16 c'))).Φ W/\(rBlk sv 73 ([(pt kb 0),(pt cb 0),(pt bk 0)])).Φ W/\(rBlk kb 78 ([(Value.iface 28 (pt tb 0)),(pt bb 0)]++vb (kl kk))).Φ W/\True) (fun w578 h578=>⟨h578.at_ 4 rfl,h578.at_ 5 rfl,h578.at_ 6 rfl,trivial⟩) ?_
      intro w578 h578
      refine dP 13 [0,1,2,3,6,7,8] ?_
      refine dL 4 (fun W hW=>hW.1) ?_
      refine dP 11 [5] ?_
      refine dL 9 (fun W hW=>hW.1) ?_
      refine dP 8 [10,11] ?_
      refine dL 12 (fun W hW=>hW.2.1) ?_
      refine dP 5 [13,14] ?_
      refine dL 15 (fun W hW=>hW.2.2.1) ?_
      refine dO 16 17 ?_ ?_
      ·
       refine oT (xN h578 54 ([zO]++vb (List.replicate 16 0)++[zE,zO,zO,zO])) ?_
       rintro _ w579 ⟨g579,rfl,h579⟩
       refine ⟨⟨h579.at_ 5 rfl,h579.at_ 6 rfl,h579.at_ 7 rfl,trivial⟩,?_⟩
       refine dT 17 (xN h579 31 (vb (List.replicate 16 0))) ?_
       rintro _ w580 ⟨g580,rfl,h580⟩
       refine ⟨⟨h580.at_ 6 rfl,h580.at_ 7 rfl,h580.at_ 8 rfl,trivial⟩,?_⟩
       refine dT 18 (xR h580 1 ([zO]++vb (List.replicate 16 0)++[(sV (⟨#[97,110,110]⟩)),(zD at_),zO,zO])) ?_
       rintro _ w581 h581
       refine ⟨⟨h581.at_ 6 rfl,h581.at_ 7 rfl,h581.at_ 8 rfl,trivial⟩,?_⟩
       refine dE 19 (xR h581 0 (vb (kl kk))) ?_
       rintro _ w582 h582
       refine dX ?_
       exact mK hJ420 (hhJ420 _ _ ⟨g579,g580,_,pM,h582.sel [0,1,2,3,4,5,6,7,8,9,10,11,12,13] [0,1,2] (by kernel_rfl) rfl rfl⟩)
      refine oT (xN h578 31 (vb (List.replicate 16 0))) ?_
      rintro _ w583 ⟨g583,rfl,h583⟩
      refine ⟨⟨h583.at_ 5 rfl,h583.at_ 6 rfl,h583.at_ 7 rfl,trivial⟩,?_⟩
      refine dT 16 (xN h583 54 ([zO]++vb (List.replicate 16 0)++[zE,zO,zO,zO])) ?_
      rintro _ w584 ⟨g584,rfl,h584⟩
      refine ⟨⟨h584.at_ 6 rfl,h584.at_ 7 rfl,h584.at_ 8 rfl,trivial⟩,?_⟩
      refine dT 18 (xR h584 0 ([zO]++vb (List.replicate 16 0)++[(sV (⟨#[97,110,110]⟩)),(zD at_),zO,zO])) ?_
      rintro _ w585 h585
      refine ⟨⟨h585.at_ 6 rfl,h585.at_ 7 rfl,h585.at_ 8 rfl,trivial⟩,?_⟩
      refine dE 19 (xR h585 1 (vb (kl kk))) ?_
      rintro _ w586 h586
      refine dX ?_
      exact mK hJ420 (hhJ420 _ _ ⟨g584,g583,_,pM,h586.sel [1,0,2,3,4,5,6,7,8,9,10,11,12,13] [0,1,2] (by kernel_rfl) rfl rfl⟩)
     refine dG h34 13 12 (fun W=>(rBlk d 37 (dkC tb sv (rpC fl K1 1 bKDC at_ (min (at_+600) (at_+Li)) R) (rpC 4 K2 1 bKDC at_ (min (at_+600) (at_+Oi)) 0) (lV A 16 c) (lV B 16 c'))).Φ W/\(rBlk gJ25_0 40 ([(sV x.srv),(zD ((mn:Int))),(zD (at_+(mi:Int))),(bV x.r),(bV x.m),(sV (⟨#[107,100,99]⟩)),(lV A 16 c),(lV A31 16 c31),(lV E ln ce)])).Φ W/\True) (fun w587 h587=>⟨h587.at_ 3 rfl,h587.at_ 2 rfl,trivial⟩) ?_
     intro w587 h587
     refine dP 9 [0,1,2,4] ?_
     refine dL 3 (fun W hW=>hW.1) ?_
     refine dL 5 (fun W hW=>hW.2.1) ?_
     refine dO 6 10 ?_ ?_
     ·
      refine oT (x_tgsN (ec:=ec) (s3:=t1) (sl2:=sl3) h587 0 7 rfl rfl [(pt sv 0),(zD (at_+(ml:Int))),(aV ([(sV x.srv),(zD ((mn:Int))),(zD (at_+(mi:Int))),(bV x.r),(bV x.m),(sV (⟨#[107,100,99]⟩)),(lV A 16 c),(lV A31 16 c31),(lV E ln ce)]).toArray)] rfl (by kernel_rfl) (hcl (mkB_len _ _).symm (mkB_len _ _).symm (h587.carve2 0 7 rfl rfl [(true,4),(true,5),(false,2),(true,1),(false,0),(true,6)] rfl rfl))) ?_
      rintro _ w588 ⟨F588,G588,rfl,h588⟩
      refine ⟨⟨h588.at_ 3 rfl,h588.at_ 2 rfl,trivial⟩,?_⟩
      refine dP 3 [7,8,9] ?_
      refine dT 10 (xN h588 43 ([zE,zE,zN,zN])) ?_
      rintro _ w589 ⟨g589,rfl,h589⟩
      refine ⟨⟨h589.at_ 4 rfl,h589.at_ 3 rfl,trivial⟩,?_⟩
      refine dT 11 (xR h589 0 ([zE,zE,zN,zN])) ?_
      rintro _ w590 h590
      refine ⟨⟨h590.at_ 4 rfl,h590.at_ 3 rfl,trivial⟩,?_⟩
      refine dN 12 ?_
      refine dX ?_
      exact mK hJ387 (hhJ387 _ _ ⟨g589,F588,G588,_,pM,h590.sel [0,1,2,3,4,5,6,7,8,9,10,11] [0,1,2] (by kernel_rfl) rfl rfl⟩)
     refine oT (xN h587 43 ([zE,zE,zN,zN])) ?_
     rintro _ w591 ⟨g591,rfl,h591⟩
     refine ⟨⟨h591.at_ 4 rfl,h591.at_ 3 rfl,trivial⟩,?_⟩
     refine dT 6 (x_tgsN (ec:=ec) (s3:=t1) (sl2:=sl3) h591 1 8 rfl rfl [(pt sv 0),(zD (at_+(ml:Int))),(aV ([(sV x.srv),(zD ((mn:Int))),(zD (at_+(mi:Int))),(bV x.r),(bV x.m),(sV (⟨#[107,100,99]⟩)),(lV A 16 c),(lV A31 16 c31),(lV E ln ce)]).toArray)] rfl (by kernel_rfl) (hcl (mkB_len _ _).symm (mkB_len _ _).symm (h591.carve2 1 8 rfl rfl [(true,5),(true,6),(false,2),(true,2),(false,0),(true,7)] rfl rfl))) ?_
     rintro _ w592 ⟨F592,G592,rfl,h592⟩
     refine ⟨⟨h592.at_ 4 rfl,h592.at_ 3 rfl,trivial⟩,?_⟩
     refine dP 2 [7,8,9] ?_
     refine dT 11 (xR h592 0 ([zE,zE,zN,zN])) ?_
     rintro _ w593 h593
     refine ⟨⟨h593.at_ 4 rfl,h593.at_ 3 rfl,trivial⟩,?_⟩
     refine dN 12 ?_
     refine dX ?_
     exact mK hJ387 (hhJ387 _ _ ⟨g591,F592,G592,_,pM,h593.sel [0,1,2,3,4,5,6,7,8,9,10,11] [0,1,2] (by kernel_rfl) rfl rfl⟩)
    ·
     have hfr:=hT.fr
     obtain ⟨Kf,hKf⟩:=ex_key 6
     obtain ⟨c1,hc1⟩:=pack_inside (f:=1) (K:=Kf) (s:=bANN) (a:=at_) (u:=(min (min (at_+(mi:Int)) (at_+(ml:Int)+Li)) R)) (r:=R) (rightM_is right_ann (by intro x hx;simp only [List.mem_cons,List.not_mem_nil,or_false] at hx;rcases hx with rfl|rfl|rfl|rfl <;> exact inN_is (by omega) (by omega))) (by decide)
     obtain ⟨c2,hc2⟩:=pack_reply (f:=1) (K:=Kf) (n:=(mn:Int)) (s:=x.srv) (a:=at_) (u:=(min (min (at_+(mi:Int)) (at_+(ml:Int)+Li)) R)) (r:=R) (rightM_is hr (by intro x hx;simp only [List.mem_cons,List.not_mem_nil,or_false] at hx;rcases hx with rfl|rfl|rfl|rfl|rfl <;> exact inN_is (by omega) (by omega))) (by omega)
     obtain ⟨t2,ht2⟩:∃ t,t=(((t1.add SFrom.fresh).seal (kl kk) 2 c1).seal (kl K1) 8 c2):=⟨_,rfl⟩
     have hok2:TabOk t2:=by rw [ht2];exact (an_after hb1 hA.rm hc1 hc2).1
     have hi2:openTh t2 (kl kk) 2 (mkB 98 (7+1))=.inr (.inside 1 Kf bANN at_ (min (min (at_+(mi:Int)) (at_+(ml:Int)+Li)) R) R):=by rw [ht2];exact (an_after hb1 hA.rm hc1 hc2).2.1
     have ho2:openTh t2 (kl K1) 8 (mkB 98 (7+2))=.inr (.reply 1 Kf (mn:Int) x.srv at_ (min (min (at_+(mi:Int)) (at_+(ml:Int)+Li)) R) R):=by rw [ht2];exact (an_after hb1 hA.rm hc1 hc2).2.2
     have hn2:t2.keys.length=6:=by rw [ht2];exact ((List.length_append).trans (congrArg (· + 1) hn1))
     refine mJ 2000026 (fun aJ wJ595=>∃ (gJ594_0:Nat) (AJ594_1:Option Addr) (cJ594_2:Nat) (BJ594_3:Option Addr) (dJ594_4:Nat) (FJ594_5:Nat->Prop) (GJ594_6:Nat->Prop) (xJ595:Nat->Value),aJ=patch xJ595 432 [(2,(pt g2 0)),(3,(pt g3 0)),(4,zV),(5,(pt d 0)),(7,(zD (at_+(ml:Int)))),(8,(zD (at_+(mt:Int)))),(9,(pt gJ25_0 0)),(10,zO),(11,(pt gJ594_0 0)),(12,zO)]/\Hp (fun _=>False) w wJ595 [rQx A c (mkB 98 2) E ce xs,rSB ((lV B 16 c')) (mkB 98 5),rSB ((lV A 16 c)) (mkB 98 2)] [rBlk gJ594_0 43 ([(sV (⟨#[97,110,110]⟩)),(sV x.srv),(lV AJ594_1 16 cJ594_2),(lV BJ594_3 16 dJ594_4)]),rTab FJ594_5 tb t2,rCa GJ594_6 cb 64 [Sh.mk bANN (at_+(mt:Int)) (mq:Int)],rSB ((lV AJ594_1 16 cJ594_2)) (mkB 98 (7+1)),rSB ((lV BJ594_3 16 dJ594_4)) (mkB 98 (7+2)),rSB ((lV A31 16 c31)) (mkB 98 (6+1)),rBlk gJ25_0 40 ([(sV x.srv),(zD ((mn:Int))),(zD (at_+(mi:Int))),(bV x.r),(bV x.m),(sV (⟨#[107,100,99]⟩)),(lV A 16 c),(lV A31 16 c31),(lV E ln ce)]),rBlk d 37 (dkC tb sv (rpC fl K1 1 bKDC at_ (min (at_+600) (at_+Li)) R) (rpC 4 K2 1 bKDC at_ (min (at_+600) (at_+Oi)) 0) (lV A 16 c) (lV B 16 c')),rBlk sv 73 ([(pt kb 0),(pt cb 0),(pt bk 0)]),rBlk kb 78 ([(Value.iface 28 (pt tb 0)),(pt bb 0)]++vb (kl kk)),rBs G bb [User.mk bANN ka Li Ri false,User.mk bBOB kb_ Oi 0 mesh],rBlk bk 164 ([mv]),rBlk g3 63 ([(sV x.srv),(zD x.nn),(zD x.till),(bV x.r),(bV x.m),(zD x.ex),(zD x.la),(zD x.tm),(zD x.sq),(zD x.tn)]),rBlk g2 23 ([(zD La),(zD Rn_),(zD Ot_),(bV mesh),(zD At_),(zD Lt)])]) ?_ (fun hJ595 hhJ595=>?_)
     ·
      rintro _ wJ595 ⟨gJ594_0,AJ594_1,cJ594_2,BJ594_3,dJ594_4,FJ594_5,GJ594_6,xJ595,rfl,hJh595⟩
      refine mAt ?_
      refine ma hJh595 13 ?_
      refine mX 141 (zD ((bits .and .i64 La 511))) (zD (bits .and .i64 La 511)) rfl ?_
      refine mW 142 (exec_add _ _ _ _ bO 1 (bits .and .i64 La 511) (by kernel_rfl) (by kernel_rfl) Li hLi.symm (by omega) (by omega) _) ?_
      skip
      refine ma hJh595 7 ?_
      refine mX 149 (.bool false) (bV (decide ((min (at_+600) (at_+Li))<=at_+(ml:Int)))) (by simp;omega) ?_
      refine ma hJh595 12 ?_
      refine mX 152 (zD ((tn:Int))) (zD (bits .and .i64 x.tn 7)) (congrArg (iV .i64) htn) ?_
      refine mX 153 (.bool false) (bV (((tn:Int)) == 1)) (by simp;omega) ?_
      refine mJ 2000033 (fun aJ wJ605=>∃ (gJ604_0:Nat) (gJ604_1:Nat) (xJ605:Nat->Value),aJ=patch xJ605 432 [(2,(pt g2 0)),(3,(pt g3 0)),(4,zV),(5,(pt d 0)),(7,(zD (at_+(ml:Int)))),(8,(zD (at_+(mt:Int)))),(9,(pt gJ25_0 0)),(10,zO),(11,(pt gJ594_0 0)),(12,zO),(13,(zD Li)),(15,(pt gJ604_0 0)),(16,(pt gJ604_1 0))]/\Hp (fun _=>False) w wJ605 [rQx A c (mkB 98 2) E ce xs,rSB ((lV B 16 c')) (mkB 98 5),rSB ((lV A 16 c)) (mkB 98 2)] [rBlk gJ604_1 31 (vb (kl kk)),rBlk gJ604_0 54 ([zO]++vb (List.replicate 16 0)++[(sV (⟨#[97,110,110]⟩)),(zD at_),zO,zO]),rBlk gJ594_0 43 ([(sV (⟨#[97,110,110]⟩)),(sV x.srv),(lV AJ594_1 16 cJ594_2),(lV BJ594_3 16 dJ594_4)]),rTab FJ594_5 tb t2,rCa GJ594_6 cb 64 [Sh.mk bANN (at_+(mt:Int)) (mq:Int)],rSB ((lV AJ594_1 16 cJ594_2)) (mkB 98 (7+1)),rSB ((lV BJ594_3 16 dJ594_4)) (mkB 98 (7+2)),rSB ((lV A31 16 c31)) (mkB 98 (6+1)),rBlk gJ25_0 40 ([(sV x.srv),(zD ((mn:Int))),(zD (at_+(mi:Int))),(bV x.r),(bV x.m),(sV (⟨#[107,100,99]⟩)),(lV A 16 c),(lV A31 16 c31),(lV E ln ce)]),rBlk d 37 (dkC tb sv (rpC fl K1 1 bKDC at_ (min (at_+600) (at_+Li)) R) (rpC 4 K2 1 bKDC at_ (min (at_+600) (at_+Oi)) 0) (lV A 16 c) (lV B 16 c')),rBlk sv 73 ([(pt kb 0),(pt cb 0),(pt bk 0)]),rBlk kb 78 ([(Value.iface 28 (pt tb 0)),(pt bb 0)]++vb (kl kk)),rBs G bb [User.mk bANN ka Li Ri false,User.mk bBOB kb_ Oi 0 mesh],rBlk bk 164 ([mv]),rBlk g3 63 ([(sV x.srv),(zD x.nn),(zD x.till),(bV x.r),(bV x.m),(zD x.ex),(zD x.la),(zD x.tm),(zD x.sq),(zD x.tn)]),rBlk g2 23 ([(zD La),(zD Rn_),(zD Ot_),(bV mesh),(zD At_),(zD Lt)])]) ?_ (fun hJ605 hhJ605=>?_)
      ·
       rintro _ wJ605 ⟨gJ604_0,gJ604_1,xJ605,rfl,hJh605⟩
       refine mAt ?_
       skip
       refine mT (x_dp (v:=.bool true) hJh605 20 [(zD (at_+(ml:Int))),(zD (at_+(mt:Int)))] (by kernel_rfl) (hn ▸ rnear_any (at_+(ml:Int)) (at_+(mt:Int)) _)) ?_
       rintro _ w610 ⟨rfl,h610⟩
       refine ma h610 8 ?_
       refine mX 222 (.bool false) (bV (decide (at_+(mi:Int)<=at_+(ml:Int)))) (by simp;omega) ?_
       refine ma h610 14 ?_
       refine ma h610 14 ?_
       refine mX 228 (.bool false) (bV ((x.r == x.m))) (by rw [hr1,hm1];rfl) ?_
       refine ma h610 14 ?_
       refine mX 232 (.bool true) (bV x.r) (by rw [hr1]) ?_
       refine ma h610 14 ?_
       refine mX 235 (.bool false) (bV (!((x.srv).toList == (⟨#[107,100,99]⟩:ByteArray).toList))) (by rw [hv];kernel_rfl) ?_
       refine ma h610 15 ?_
       refine mX 239 (zD Ri) (zD (bits .and .i64 Rn_ 4095)) (congrArg (iV .i64) hRi.symm) ?_
       refine mX 240 (.bool false) (bV (Ri == 0)) (by simp;exact hfl1.1) ?_
       refine ma h610 14 ?_
       refine mX 246 (.bool true) (bV x.r) (by rw [hr1]) ?_
       refine ma h610 9 ?_
       refine mX 253 (.bool false) (bV (decide (R<=at_+(ml:Int)))) (by simp;omega) ?_
       refine ma h610 14 ?_
       refine mX 255 (.bool true) (bV x.r) (by rw [hr1]) ?_
       refine mJ 2000047 (fun aJ wJ617=>∃ (xJ617:Nat->Value),aJ=patch xJ617 432 [(2,(pt g2 0)),(3,(pt g3 0)),(4,zV),(5,(pt d 0)),(7,(zD (at_+(ml:Int)))),(9,(pt gJ25_0 0)),(10,zO),(11,(pt gJ594_0 0)),(12,zO),(13,(zD Li)),(15,(pt gJ604_0 0)),(16,(pt gJ604_1 0))]/\Hp (fun _=>False) w wJ617 [rQx A c (mkB 98 2) E ce xs,rSB ((lV B 16 c')) (mkB 98 5),rSB ((lV A 16 c)) (mkB 98 2)] [rBlk gJ604_1 31 (vb (kl kk)),rBlk gJ604_0 54 ([(zD 1)]++vb (List.replicate 16 0)++[(sV (⟨#[97,110,110]⟩)),(zD at_),(zD (min (min (at_+(mi:Int)) (at_+(ml:Int)+Li)) R)),(zD R)]),rBlk gJ594_0 43 ([(sV (⟨#[97,110,110]⟩)),(sV x.srv),(lV AJ594_1 16 cJ594_2),(lV BJ594_3 16 dJ594_4)]),rTab FJ594_5 tb t2,rCa GJ594_6 cb 64 [Sh.mk bANN (at_+(mt:Int)) (mq:Int)],rSB ((lV AJ594_1 16 cJ594_2)) (mkB 98 (7+1)),rSB ((lV BJ594_3 16 dJ594_4)) (mkB 98 (7+2)),rSB ((lV A31 16 c31)) (mkB 98 (6+1)),rBlk gJ25_0 40 ([(sV x.srv),(zD ((mn:Int))),(zD (at_+(mi:Int))),(bV x.r),(bV x.m),(sV (⟨#[107,100,99]⟩)),(lV A 16 c),(lV A31 16 c31),(lV E ln ce)]),rBlk d 37 (dkC tb sv (rpC fl K1 1 bKDC at_ (min (at_+600) (at_+Li)) R) (rpC 4 K2 1 bKDC at_ (min (at_+600) (at_+Oi)) 0) (lV A 16 c) (lV B 16 c')),rBlk sv 73 ([(pt kb 0),(pt cb 0),(pt bk 0)]),rBlk kb 78 ([(Value.iface 28 (pt tb 0)),(pt bb 0)]++vb (kl kk)),rBs G bb [User.mk bANN ka Li Ri false,User.mk bBOB kb_ Oi 0 mesh],rBlk bk 164 ([mv]),rBlk g3 63 ([(sV x.srv),(zD x.nn),(zD x.till),(bV x.r),(bV x.m),(zD x.ex),(zD x.la),(zD x.tm),(zD x.sq),(zD x.tn)]),rBlk g2 23 ([(zD La),(zD Rn_),(zD Ot_),(bV mesh),(zD At_),(zD Lt)])]) ?_ (fun hJ617 hhJ617=>?_)
       ·
        rintro _ wJ617 ⟨xJ617,rfl,hJh617⟩
        refine mAt ?_
        refine mJ 2000062 (fun aJ wJ624=>∃ (gJ623_0:Nat) (xJ624:Nat->Value),aJ=patch xJ624 432 [(3,(pt g3 0)),(4,zV),(5,(pt d 0)),(9,(pt gJ25_0 0)),(11,(pt gJ594_0 0)),(15,(pt gJ604_0 0)),(16,(pt gJ604_1 0)),(17,(pt gJ623_0 0)),(18,zO)]/\Hp (fun _=>False) w wJ624 [rQx A c (mkB 98 2) E ce xs,rSB ((lV B 16 c')) (mkB 98 5),rSB ((lV A 16 c)) (mkB 98 2)] [rBlk gJ623_0 54 ([(zD 1)]++vb (kl Kf)++[(sV (⟨#[97,110,110]⟩)),(zD at_),(zD (min (min (at_+(mi:Int)) (at_+(ml:Int)+Li)) R)),(zD R)]),rBlk gJ604_1 31 (vb (kl kk)),rBlk gJ604_0 54 ([(zD 1)]++vb (List.replicate 16 0)++[(sV (⟨#[97,110,110]⟩)),(zD at_),(zD (min (min (at_+(mi:Int)) (at_+(ml:Int)+Li)) R)),(zD R)]),rBlk gJ594_0 43 ([(sV (⟨#[97,110,110]⟩)),(sV x.srv),(lV AJ594_1 16 cJ594_2),(lV BJ594_3 16 dJ594_4)]),rTab FJ594_5 tb t2,rCa GJ594_6 cb 64 [Sh.mk bANN (at_+(mt:Int)) (mq:Int)],rSB ((lV AJ594_1 16 cJ594_2)) (mkB 98 (7+1)),rSB ((lV BJ594_3 16 dJ594_4)) (mkB 98 (7+2)),rSB ((lV A31 16 c31)) (mkB 98 (6+1)),rBlk gJ25_0 40 ([(sV x.srv),(zD ((mn:Int))),(zD (at_+(mi:Int))),(bV x.r),(bV x.m),(sV (⟨#[107,100,99]⟩)),(lV A 16 c),(lV A31 16 c31),(lV E ln ce)]),rBlk d 37 (dkC tb sv (rpC fl K1 1 bKDC at_ (min (at_+600) (at_+Li)) R) (rpC 4 K2 1 bKDC at_ (min (at_+600) (at_+Oi)) 0) (lV A 16 c) (lV B 16 c')),rBlk sv 73 ([(pt kb 0),(pt cb 0),(pt bk 0)]),rBlk kb 78 ([(Value.iface 28 (pt tb 0)),(pt bb 0)]++vb (kl kk)),rBs G bb [User.mk bANN ka Li Ri false,User.mk bBOB kb_ Oi 0 mesh],rBlk bk 164 ([mv]),rBlk g3 63 ([(sV x.srv),(zD x.nn),(zD x.till),(bV x.r),(bV x.m),(zD x.ex),(zD x.la),(zD x.tm),(zD x.sq),(zD x.tn)]),rBlk g2 23 ([(zD La),(zD Rn_),(zD Ot_),(bV mesh),(zD At_),(zD Lt)])]) ?_ (fun hJ624 hhJ624=>?_)
        ·
         rintro _ wJ624 ⟨gJ623_0,xJ624,rfl,hJh624⟩
         refine mAt ?_
         refine mJ 2000063 (fun aJ wJ627=>∃ (gJ626_0:Nat) (xJ627:Nat->Value),aJ=patch xJ627 432 [(3,(pt g3 0)),(4,zV),(5,(pt d 0)),(9,(pt gJ25_0 0)),(11,(pt gJ594_0 0)),(15,(pt gJ604_0 0)),(17,(pt gJ623_0 0)),(18,zO),(19,(pt gJ626_0 0)),(20,zO)]/\Hp (fun _=>False) w wJ627 [rQx A c (mkB 98 2) E ce xs,rSB ((lV B 16 c')) (mkB 98 5),rSB ((lV A 16 c)) (mkB 98 2)] [rBlk gJ626_0 33 ([(zD 1)]++vb (kl Kf)++[(zD ((mn:Int))),(sV x.srv),(zD at_),(zD (min (min (at_+(mi:Int)) (at_+(ml:Int)+Li)) R)),(zD R)]),rBlk gJ623_0 54 ([(zD 1)]++vb (kl Kf)++[(sV (⟨#[97,110,110]⟩)),(zD at_),(zD (min (min (at_+(mi:Int)) (at_+(ml:Int)+Li)) R)),(zD R)]),rBlk gJ604_1 31 (vb (kl kk)),rBlk gJ604_0 54 ([(zD 1)]++vb (List.replicate 16 0)++[(sV (⟨#[97,110,110]⟩)),(zD at_),(zD (min (min (at_+(mi:Int)) (at_+(ml:Int)+Li)) R)),(zD R)]),rBlk gJ594_0 43 ([(sV (⟨#[97,110,110]⟩)),(sV x.srv),(lV AJ594_1 16 cJ594_2),(lV BJ594_3 16 dJ594_4)]),rTab FJ594_5 tb t2,rCa GJ594_6 cb 64 [Sh.mk bANN (at_+(mt:Int)) (mq:Int)],rSB ((lV AJ594_1 16 cJ594_2)) (mkB 98 (7+1)),rSB ((lV BJ594_3 16 dJ594_4)) (mkB 98 (7+2)),rSB ((lV A31 16 c31)) (mkB 98 (6+1)),rBlk gJ25_0 40 ([(sV x.srv),(zD ((mn:Int))),(zD (at_+(mi:Int))),(bV x.r),(bV x.m),(sV (⟨#[107,100,99]⟩)),(lV A 16 c),(lV A31 16 c31),(lV E ln ce)]),rBlk d 37 (dkC tb sv (rpC fl K1 1 bKDC at_ (min (at_+600) (at_+Li)) R) (rpC 4 K2 1 bKDC at_ (min (at_+600) (at_+Oi)) 0) (lV A 16 c) (lV B 16 c')),rBlk sv 73 ([(pt kb 0),(pt cb 0),(pt bk 0)]),rBlk kb 78 ([(Value.iface 28 (pt tb 0)),(pt bb 0)]++vb (kl kk)),rBs G bb [User.mk bANN ka Li Ri false,User.mk bBOB kb_ Oi 0 mesh],rBlk bk 164 ([mv]),rBlk g3 63 ([(sV x.srv),(zD x.nn),(zD x.till),(bV x.r),(bV x.m),(zD x.ex),(zD x.la),(zD x.tm),(zD x.sq),(zD x.tn)]),rBlk g2 23 ([(zD La),(zD Rn_),(zD Ot_),(bV mesh),(zD At_),(zD Lt)])]) ?_ (fun hJ627 hhJ627=>?_)
         ·
          rintro _ wJ627 ⟨gJ626_0,xJ627,rfl,hJh627⟩
          refine mAt ?_
          refine ma hJh627 1 ?_
          refine mT (xR hJh627 3 ([(zD 1)]++vb (kl Kf)++[(sV (⟨#[97,110,110]⟩)),(zD at_),(zD (min (min (at_+(mi:Int)) (at_+(ml:Int)+Li)) R)),(zD R)])) fun _ w629 h629=>?_
          refine mJ 2000065 (fun aJ wJ632=>∃ (xJ632:Nat->Value),aJ=patch xJ632 432 [(3,(pt g3 0)),(4,zI),(5,(pt d 0)),(9,(pt gJ25_0 0)),(11,(pt gJ594_0 0)),(15,(pt gJ604_0 0)),(17,(pt gJ623_0 0)),(18,zO),(19,(pt gJ626_0 0)),(20,zO)]/\Hp (fun _=>False) w wJ632 [rQx A c (mkB 98 2) E ce xs,rSB ((lV B 16 c')) (mkB 98 5),rSB ((lV A 16 c)) (mkB 98 2)] [rBlk gJ626_0 33 ([(zD 1)]++vb (kl Kf)++[(zD ((mn:Int))),(sV x.srv),(zD at_),(zD (min (min (at_+(mi:Int)) (at_+(ml:Int)+Li)) R)),(zD R)]),rBlk gJ623_0 54 ([(zD 1)]++vb (kl Kf)++[(sV (⟨#[97,110,110]⟩)),(zD at_),(zD (min (min (at_+(mi:Int)) (at_+(ml:Int)+Li)) R)),(zD R)]),rBlk gJ604_1 31 (vb (kl kk)),rBlk gJ604_0 54 ([(zD 1)]++vb (kl Kf)++[(sV (⟨#[97,110,110]⟩)),(zD at_),(zD (min (min (at_+(mi:Int)) (at_+(ml:Int)+Li)) R)),(zD R)]),rBlk gJ594_0 43 ([(sV (⟨#[97,110,110]⟩)),(sV x.srv),(lV AJ594_1 16 cJ594_2),(lV BJ594_3 16 dJ594_4)]),rTab FJ594_5 tb t2,rCa GJ594_6 cb 64 [Sh.mk bANN (at_+(mt:Int)) (mq:Int)],rSB ((lV AJ594_1 16 cJ594_2)) (mkB 98 (7+1)),rSB ((lV BJ594_3 16 dJ594_4)) (mkB 98 (7+2)),rSB ((lV A31 16 c31)) (mkB 98 (6+1)),rBlk gJ25_0 40 ([(sV x.srv),(zD ((mn:Int))),(zD (at_+(mi:Int))),(bV x.r),(bV x.m),(sV (⟨#[107,100,99]⟩)),(lV A 16 c),(lV A31 16 c31),(lV E ln ce)]),rBlk d 37 (dkC tb sv (rpC fl K1 1 bKDC at_ (min (at_+600) (at_+Li)) R) (rpC 4 K2 1 bKDC at_ (min (at_+600) (at_+Oi)) 0) (lV A 16 c) (lV B 16 c')),rBlk sv 73 ([(pt kb 0),(pt cb 0),(pt bk 0)]),rBlk kb 78 ([(Value.iface 28 (pt tb 0)),(pt bb 0)]++vb (kl kk)),rBs G bb [User.mk bANN ka Li Ri false,User.mk bBOB kb_ Oi 0 mesh],rBlk bk 164 ([mv]),rBlk g3 63 ([(sV x.srv),(zD x.nn),(zD x.till),(bV x.r),(bV x.m),(zD x.ex),(zD x.la),(zD x.tm),(zD x.sq),(zD x.tn)]),rBlk g2 23 ([(zD La),(zD Rn_),(zD Ot_),(bV mesh),(zD At_),(zD Lt)])]) ?_ (fun hJ632 hhJ632=>?_)
          ·
           rintro _ wJ632 ⟨xJ632,rfl,hJh632⟩
           refine mAt ?_
           exact mQ hJh632
          refine dG h629 59 58 (fun W=>(rBlk gJ623_0 54 ([(zD 1)]++vb (kl Kf)++[(sV (⟨#[97,110,110]⟩)),(zD at_),(zD (min (min (at_+(mi:Int)) (at_+(ml:Int)+Li)) R)),(zD R)])).Φ W/\(rBlk gJ604_0 54 ([(zD 1)]++vb (kl Kf)++[(sV (⟨#[97,110,110]⟩)),(zD at_),(zD (min (min (at_+(mi:Int)) (at_+(ml:Int)+Li)) R)),(zD R)])).Φ W/\(rBlk d 37 (dkC tb sv (rpC fl K1 1 bKDC at_ (min (at_+600) (at_+Li)) R) (rpC 4 K2 1 bKDC at_ (min (at_+600) (at_+Oi)) 0) (lV A 16 c) (lV B 16 c'))).Φ W/\(rBlk gJ594_0 43 ([(sV (⟨#[97,110,110]⟩)),(sV x.srv),(lV AJ594_1 16 cJ594_2),(lV BJ594_3 16 dJ594_4)])).Φ W/\(rBlk g3 63 ([(sV x.srv),(zD x.nn),(zD x.till),(bV x.r),(bV x.m),(zD x.ex),(zD x.la),(zD x.tm),(zD x.sq),(zD x.tn)])).Φ W/\(rBlk gJ626_0 33 ([(zD 1)]++vb (kl Kf)++[(zD ((mn:Int))),(sV x.srv),(zD at_),(zD (min (min (at_+(mi:Int)) (at_+(ml:Int)+Li)) R)),(zD R)])).Φ W/\(rBlk gJ25_0 40 ([(sV x.srv),(zD ((mn:Int))),(zD (at_+(mi:Int))),(bV x.r),(bV x.m),(sV (⟨#[107,100,99]⟩)),(lV A 16 c),(lV A31 16 c31),(lV E ln ce)])).Φ W/\True) (fun w633 h633=>⟨h633.at_ 1 rfl,h633.at_ 3 rfl,h633.at_ 11 rfl,h633.at_ 4 rfl,h633.at_ 16 rfl,h633.at_ 0 rfl,h633.at_ 10 rfl,trivial⟩) ?_
          intro w633 h633
          refine dP 52 [0,1,2,3,4,5,6] ?_
          refine dL 7 (fun W hW=>hW.1) ?_
          refine dL 8 (fun W hW=>hW.2.1) ?_
          refine dV 9 (v:=zI) (fun W hW=>e_selfB 54 _ (.tmp 381) (.tmp 382) 54 (by kernel_rfl) (by kernel_rfl) (by kernel_rfl) (by kernel_rfl) (self_inside 1 Kf ⟨#[97,110,110]⟩ at_ (min (min (at_+(mi:Int)) (at_+(ml:Int)+Li)) R) R) _) ?_
          refine dP 40 [10,11,12,14,15,16,18,19,20] ?_
          refine dL 13 (fun W hW=>hW.1) ?_
          refine dLs 37 [17,21] (fun W hW=>hW.2.2.1) ?_
          refine dT 22 (x_nkeys h633 5 rfl (by kernel_rfl)) ?_
          rintro _ w634 ⟨rfl,h634⟩
          refine ⟨⟨h634.at_ 1 rfl,h634.at_ 3 rfl,h634.at_ 11 rfl,h634.at_ 4 rfl,h634.at_ 16 rfl,h634.at_ 0 rfl,h634.at_ 10 rfl,trivial⟩,?_⟩
          refine dT 23 (x_nth (tb:=tb) h634 t2.keys.length (by kernel_rfl) (by omega)) ?_
          rintro _ w635 ⟨K635,rfl,hK635,h635⟩
          refine ⟨⟨h635.at_ 1 rfl,h635.at_ 3 rfl,h635.at_ 11 rfl,h635.at_ 4 rfl,h635.at_ 16 rfl,h635.at_ 0 rfl,h635.at_ 10 rfl,trivial⟩,?_⟩
          refine dV 24 (v:=zI) (fun W hW=>e_keq Kf K635 31 31 (.tmp 387) (.tmp 397) (by kernel_rfl) (by kernel_rfl) (by kernel_rfl) (by kernel_rfl) (by kernel_rfl) true (decide_eq_true (hKf.trans (hK635.trans (by rw [hn2])).symm)) _) ?_
          refine dP 31 [25,26,27] ?_
          refine dL 28 (fun W hW=>hW.2.2.2.1) ?_
          refine dV 29 (v:=zI) (fun W hW=>eqI (bV ((⟨#[97,110,110]⟩:ByteArray).toList == (⟨#[97,110,110]⟩:ByteArray).toList)) (by simp)) ?_
          refine dP 24 [30,31,32,33,35] ?_
          refine dL 34 (fun W hW=>hW.2.2.2.1) ?_
          refine dL 36 (fun W hW=>hW.2.2.2.2.1) ?_
          refine dV 37 (v:=zI) (fun W hW=>eqI (bV ((x.srv).toList == (x.srv).toList)) (by simp)) ?_
          refine dP 12 [38,39,41,43,45,47,49,51,53] ?_
          refine dL 40 (fun W hW=>hW.2.2.2.2.2.1) ?_
          refine dLs 9 [42,44] (fun W hW=>hW.2.1) ?_
          refine dL 46 (fun W hW=>hW.2.2.2.2.2.2.1) ?_
          refine dL 48 (fun W hW=>hW.2.2.2.2.1) ?_
          refine dLs 4 [50,52,54] (fun W hW=>hW.2.1) ?_
          refine dP 3 [55] ?_
          refine dV 56 (v:=zI) (fun W hW=>e_selfB 33 _ (.tmp 414) (.tmp 429) 33 (by kernel_rfl) (by kernel_rfl) (by kernel_rfl) (by kernel_rfl) (self_reply 1 Kf (mn:Int) x.srv at_ (min (min (at_+(mi:Int)) (at_+(ml:Int)+Li)) R) R) _) ?_
          refine dP 1 [57] ?_
          refine dN 58 ?_
          refine dX ?_
          exact mK hJ632 (hhJ632 _ _ ⟨_,pM,h635.sel [0,1,2,3,4,5,6,7,8,9,10,11,12,13,14,15,16,17] [0,1,2] (by kernel_rfl) rfl rfl⟩)
         refine dG hJh624 19 18 (fun W=>(rBlk d 37 (dkC tb sv (rpC fl K1 1 bKDC at_ (min (at_+600) (at_+Li)) R) (rpC 4 K2 1 bKDC at_ (min (at_+600) (at_+Oi)) 0) (lV A 16 c) (lV B 16 c'))).Φ W/\(rBlk gJ594_0 43 ([(sV (⟨#[97,110,110]⟩)),(sV x.srv),(lV AJ594_1 16 cJ594_2),(lV BJ594_3 16 dJ594_4)])).Φ W/\True) (fun w636 h636=>⟨h636.at_ 10 rfl,h636.at_ 3 rfl,trivial⟩) ?_
         intro w636 h636
         refine dP 11 [0,1,2,5,6,7,8,10] ?_
         refine dL 3 (fun W hW=>hW.1) ?_
         refine dP 9 [4] ?_
         refine dL 9 (fun W hW=>hW.1) ?_
         refine dL 11 (fun W hW=>hW.2.1) ?_
         refine dO 12 16 ?_ ?_
         ·
          refine oT (x_oReply h636 4 rfl K1 8 (by kernel_rfl) hok2 (h636.at_ 7 rfl) (r:=(.inr (.reply 1 Kf (mn:Int) x.srv at_ (min (min (at_+(mi:Int)) (at_+(ml:Int)+Li)) R) R))) ho2) ?_
          rintro _ w637 ⟨rfl,h637⟩
          refine ⟨⟨h637.at_ 10 rfl,h637.at_ 3 rfl,trivial⟩,?_⟩
          refine dP 3 [13,14,15] ?_
          refine dT 16 (xN h637 33 ([zO]++vb (List.replicate 16 0)++[zO,zE,zO,zO,zO])) ?_
          rintro _ w638 ⟨g638,rfl,h638⟩
          refine ⟨⟨h638.at_ 11 rfl,h638.at_ 4 rfl,trivial⟩,?_⟩
          refine dT 17 (xR h638 0 ([(zD 1)]++vb (kl Kf)++[(zD ((mn:Int))),(sV x.srv),(zD at_),(zD (min (min (at_+(mi:Int)) (at_+(ml:Int)+Li)) R)),(zD R)])) ?_
          rintro _ w639 h639
          refine ⟨⟨h639.at_ 11 rfl,h639.at_ 4 rfl,trivial⟩,?_⟩
          refine dN 18 ?_
          refine dX ?_
          exact mK hJ627 (hhJ627 _ _ ⟨g638,_,pM,h639.sel [0,1,2,3,4,5,6,7,8,9,10,11,12,13,14,15,16,17] [0,1,2] (by kernel_rfl) rfl rfl⟩)
         refine oT (xN h636 33 ([zO]++vb (List.replicate 16 0)++[zO,zE,zO,zO,zO])) ?_
         rintro _ w640 ⟨g640,rfl,h640⟩
         refine ⟨⟨h640.at_ 11 rfl,h640.at_ 4 rfl,trivial⟩,?_⟩
         refine dT 12 (x_oReply h640 5 rfl K1 8 (by kernel_rfl) hok2 (h640.at_ 8 rfl) (r:=(.inr (.reply 1 Kf (mn:Int) x.srv at_ (min (min (at_+(mi:Int)) (at_+(ml:Int)+Li)) R) R))) ho2) ?_
         rintro _ w641 ⟨rfl,h641⟩
         refine ⟨⟨h641.at_ 11 rfl,h641.at_ 4 rfl,trivial⟩,?_⟩
         refine dP 2 [13,14,15] ?_
         refine dT 17 (xR h641 0 ([(zD 1)]++vb (kl Kf)++[(zD ((mn:Int))),(sV x.srv),(zD at_),(zD (min (min (at_+(mi:Int)) (at_+(ml:Int)+Li)) R)),(zD R)])) ?_
         rintro _ w642 h642
         refine ⟨⟨h642.at_ 11 rfl,h642.at_ 4 rfl,trivial⟩,?_⟩
         refine dN 18 ?_
         refine dX ?_
         exact mK hJ627 (hhJ627 _ _ ⟨g640,_,pM,h642.sel [0,1,2,3,4,5,6,7,8,9,10,11,12,13,14,15,16,17] [0,1,2] (by kernel_rfl) rfl rfl⟩)
        refine dG hJh617 16 15 (fun W=>(rBlk d 37 (dkC tb sv (rpC fl K1 1 bKDC at_ (min (at_+600) (at_+Li)) R) (rpC 4 K2 1 bKDC at_ (min (at_+600) (at_+Oi)) 0) (lV A 16 c) (lV B 16 c'))).Φ W/\(rBlk gJ604_1 31 (vb (kl kk))).Φ W/\(rBlk gJ594_0 43 ([(sV (⟨#[97,110,110]⟩)),(sV x.srv),(lV AJ594_1 16 cJ594_2),(lV BJ594_3 16 dJ594_4)])).Φ W/\True) (fun w643 h643=>⟨h643.at_ 9 rfl,h643.at_ 0 rfl,h643.at_ 2 rfl,trivial⟩) ?_
        intro w643 h643
        refine dP 11 [0,1,2,6,7] ?_
        refine dL 3 (fun W hW=>hW.1) ?_
        refine dP 9 [4] ?_
        refine dL 5 (fun W hW=>hW.2.1) ?_
        refine dL 8 (fun W hW=>hW.2.2.1) ?_
        refine dO 9 13 ?_ ?_
        ·
         refine oT (x_oInside h643 3 rfl kk 2 (by kernel_rfl) hok2 (h643.at_ 5 rfl) (r:=(.inr (.inside 1 Kf bANN at_ (min (min (at_+(mi:Int)) (at_+(ml:Int)+Li)) R) R))) hi2) ?_
         rintro _ w644 ⟨rfl,h644⟩
         refine ⟨⟨h644.at_ 9 rfl,h644.at_ 0 rfl,h644.at_ 2 rfl,trivial⟩,?_⟩
         refine dP 3 [10,11,12] ?_
         refine dT 13 (xN h644 54 ([zO]++vb (List.replicate 16 0)++[zE,zO,zO,zO])) ?_
         rintro _ w645 ⟨g645,rfl,h645⟩
         refine ⟨⟨h645.at_ 10 rfl,h645.at_ 1 rfl,h645.at_ 3 rfl,trivial⟩,?_⟩
         refine dT 14 (xR h645 0 ([(zD 1)]++vb (kl Kf)++[(sV (⟨#[97,110,110]⟩)),(zD at_),(zD (min (min (at_+(mi:Int)) (at_+(ml:Int)+Li)) R)),(zD R)])) ?_
         rintro _ w646 h646
         refine ⟨⟨h646.at_ 10 rfl,h646.at_ 1 rfl,h646.at_ 3 rfl,trivial⟩,?_⟩
         refine dN 15 ?_
         refine dX ?_
         exact mK hJ624 (hhJ624 _ _ ⟨g645,_,pM,h646.sel [0,1,2,3,4,5,6,7,8,9,10,11,12,13,14,15,16] [0,1,2] (by kernel_rfl) rfl rfl⟩)
        refine oT (xN h643 54 ([zO]++vb (List.replicate 16 0)++[zE,zO,zO,zO])) ?_
        rintro _ w647 ⟨g647,rfl,h647⟩
        refine ⟨⟨h647.at_ 10 rfl,h647.at_ 1 rfl,h647.at_ 3 rfl,trivial⟩,?_⟩
        refine dT 9 (x_oInside h647 4 rfl kk 2 (by kernel_rfl) hok2 (h647.at_ 6 rfl) (r:=(.inr (.inside 1 Kf bANN at_ (min (min (at_+(mi:Int)) (at_+(ml:Int)+Li)) R) R))) hi2) ?_
        rintro _ w648 ⟨rfl,h648⟩
        refine ⟨⟨h648.at_ 10 rfl,h648.at_ 1 rfl,h648.at_ 3 rfl,trivial⟩,?_⟩
        refine dP 2 [10,11,12] ?_
        refine dT 14 (xR h648 0 ([(zD 1)]++vb (kl Kf)++[(sV (⟨#[97,110,110]⟩)),(zD at_),(zD (min (min (at_+(mi:Int)) (at_+(ml:Int)+Li)) R)),(zD R)])) ?_
        rintro _ w649 h649
        refine ⟨⟨h649.at_ 10 rfl,h649.at_ 1 rfl,h649.at_ 3 rfl,trivial⟩,?_⟩
        refine dN 15 ?_
        refine dX ?_
        exact mK hJ624 (hhJ624 _ _ ⟨g647,_,pM,h649.sel [0,1,2,3,4,5,6,7,8,9,10,11,12,13,14,15,16] [0,1,2] (by kernel_rfl) rfl rfl⟩)
       refine dG h610 22 20 (fun W=>(rBlk d 37 (dkC tb sv (rpC fl K1 1 bKDC at_ (min (at_+600) (at_+Li)) R) (rpC 4 K2 1 bKDC at_ (min (at_+600) (at_+Oi)) 0) (lV A 16 c) (lV B 16 c'))).Φ W/\(rBlk gJ25_0 40 ([(sV x.srv),(zD ((mn:Int))),(zD (at_+(mi:Int))),(bV x.r),(bV x.m),(sV (⟨#[107,100,99]⟩)),(lV A 16 c),(lV A31 16 c31),(lV E ln ce)])).Φ W/\True) (fun w650 h650=>⟨h650.at_ 9 rfl,h650.at_ 8 rfl,trivial⟩) ?_
       intro w650 h650
       refine dP 10 [0,1,2,3,5,7,8,10,11,12,13,16] ?_
       refine dV 9 (fun W hW=>exec_add _ _ _ _ bO (at_+(ml:Int)) Li (by kernel_rfl) (by kernel_rfl) (at_+(ml:Int)+Li) rfl (by omega) (by omega) _) ?_
       refine dL 4 (fun W hW=>hW.1) ?_
       refine dL 6 (fun W hW=>hW.2.1) ?_
       refine dL 14 (fun W hW=>hW.1) ?_
       refine dV 15 (v:=(zD (min (min (at_+(mi:Int)) (at_+(ml:Int)+Li)) R))) (fun W hW=>e_min3 (.tmp 264) (.tmp 267) (.tmp 272) #[2,2,2] (by kernel_rfl) .i64 .i64 .i64 (at_+(mi:Int)) (at_+(ml:Int)+Li) R (by kernel_rfl) (by kernel_rfl) (by kernel_rfl) _) ?_
       refine dT 17 (xS h650 1 ([(zD 1)]++vb (List.replicate 16 0)++[(sV (⟨#[97,110,110]⟩)),(zD at_),zO,zO])) ?_
       rintro _ w651 h651
       refine ⟨⟨h651.at_ 9 rfl,h651.at_ 8 rfl,trivial⟩,?_⟩
       refine dP 3 [18] ?_
       refine dT 19 (xS h651 1 ([(zD 1)]++vb (List.replicate 16 0)++[(sV (⟨#[97,110,110]⟩)),(zD at_),zO,(zD R)])) ?_
       rintro _ w652 h652
       refine ⟨⟨h652.at_ 9 rfl,h652.at_ 8 rfl,trivial⟩,?_⟩
       refine dN 20 ?_
       refine dE 21 (xS h652 1 ([(zD 1)]++vb (List.replicate 16 0)++[(sV (⟨#[97,110,110]⟩)),(zD at_),(zD (min (min (at_+(mi:Int)) (at_+(ml:Int)+Li)) R)),(zD R)])) ?_
       rintro _ w653 h653
       refine dX ?_
       exact mK hJ617 (hhJ617 _ _ ⟨_,pM,h653.sel [0,1,2,3,4,5,6,7,8,9,10,11,12,13,14,15] [0,1,2] (by kernel_rfl) rfl rfl⟩)
      refine dG hJh595 20 19 (fun W=>(rBlk d 37 (dkC tb sv (rpC fl K1 1 bKDC at_ (min (at_+600) (at_+Li)) R) (rpC 4 K2 1 bKDC at_ (min (at_+600) (at_+Oi)) 0) (lV A 16 c) (lV B 16 c'))).Φ W/\(rBlk sv 73 ([(pt kb 0),(pt cb 0),(pt bk 0)])).Φ W/\(rBlk kb 78 ([(Value.iface 28 (pt tb 0)),(pt bb 0)]++vb (kl kk))).Φ W/\True) (fun w654 h654=>⟨h654.at_ 7 rfl,h654.at_ 8 rfl,h654.at_ 9 rfl,trivial⟩) ?_
      intro w654 h654
      refine dP 13 [0,1,2,3,6,7,8] ?_
      refine dL 4 (fun W hW=>hW.1) ?_
      refine dP 11 [5] ?_
      refine dL 9 (fun W hW=>hW.1) ?_
      refine dP 8 [10,11] ?_
      refine dL 12 (fun W hW=>hW.2.1) ?_
      refine dP 5 [13,14] ?_
      refine dL 15 (fun W hW=>hW.2.2.1) ?_
      refine dO 16 17 ?_ ?_
      ·
       refine oT (xN h654 54 ([zO]++vb (List.replicate 16 0)++[zE,zO,zO,zO])) ?_
       rintro _ w655 ⟨g655,rfl,h655⟩
       refine ⟨⟨h655.at_ 8 rfl,h655.at_ 9 rfl,h655.at_ 10 rfl,trivial⟩,?_⟩
       refine dT 17 (xN h655 31 (vb (List.replicate 16 0))) ?_
       rintro _ w656 ⟨g656,rfl,h656⟩
       refine ⟨⟨h656.at_ 9 rfl,h656.at_ 10 rfl,h656.at_ 11 rfl,trivial⟩,?_⟩
       refine dT 18 (xR h656 1 ([zO]++vb (List.replicate 16 0)++[(sV (⟨#[97,110,110]⟩)),(zD at_),zO,zO])) ?_
       rintro _ w657 h657
       refine ⟨⟨h657.at_ 9 rfl,h657.at_ 10 rfl,h657.at_ 11 rfl,trivial⟩,?_⟩
       refine dE 19 (xR h657 0 (vb (kl kk))) ?_
       rintro _ w658 h658
       refine dX ?_
       exact mK hJ605 (hhJ605 _ _ ⟨g655,g656,_,pM,h658.sel [0,1,2,3,4,5,6,7,8,9,10,11,12,13,14,15] [0,1,2] (by kernel_rfl) rfl rfl⟩)
      refine oT (xN h654 31 (vb (List.replicate 16 0))) ?_
      rintro _ w659 ⟨g659,rfl,h659⟩
      refine ⟨⟨h659.at_ 8 rfl,h659.at_ 9 rfl,h659.at_ 10 rfl,trivial⟩,?_⟩
      refine dT 16 (xN h659 54 ([zO]++vb (List.replicate 16 0)++[zE,zO,zO,zO])) ?_
      rintro _ w660 ⟨g660,rfl,h660⟩
      refine ⟨⟨h660.at_ 9 rfl,h660.at_ 10 rfl,h660.at_ 11 rfl,trivial⟩,?_⟩
      refine dT 18 (xR h660 0 ([zO]++vb (List.replicate 16 0)++[(sV (⟨#[97,110,110]⟩)),(zD at_),zO,zO])) ?_
      rintro _ w661 h661
      refine ⟨⟨h661.at_ 9 rfl,h661.at_ 10 rfl,h661.at_ 11 rfl,trivial⟩,?_⟩
      refine dE 19 (xR h661 1 (vb (kl kk))) ?_
      rintro _ w662 h662
      refine dX ?_
      exact mK hJ605 (hhJ605 _ _ ⟨g660,g659,_,pM,h662.sel [1,0,2,3,4,5,6,7,8,9,10,11,12,13,14,15] [0,1,2] (by kernel_rfl) rfl rfl⟩)
     refine dG h34 13 12 (fun W=>(rBlk d 37 (dkC tb sv (rpC fl K1 1 bKDC at_ (min (at_+600) (at_+Li)) R) (rpC 4 K2 1 bKDC at_ (min (at_+600) (at_+Oi)) 0) (lV A 16 c) (lV B 16 c'))).Φ W/\(rBlk gJ25_0 40 ([(sV x.srv),(zD ((mn:Int))),(zD (at_+(mi:Int))),(bV x.r),(bV x.m),(sV (⟨#[107,100,99]⟩)),(lV A 16 c),(lV A31 16 c31),(lV E ln ce)])).Φ W/\True) (fun w663 h663=>⟨h663.at_ 3 rfl,h663.at_ 2 rfl,trivial⟩) ?_
     intro w663 h663
     refine dP 9 [0,1,2,4] ?_
     refine dL 3 (fun W hW=>hW.1) ?_
     refine dL 5 (fun W hW=>hW.2.1) ?_
     refine dO 6 10 ?_ ?_
     ·
      refine oT (x_tgs (nb:=7) (s3:=t2) (sl2:=[Sh.mk bANN (at_+(mt:Int)) (mq:Int)]) (c1:=bANN) (srv:=x.srv) h663 0 7 rfl rfl [(pt sv 0),(zD (at_+(ml:Int))),(aV ([(sV x.srv),(zD ((mn:Int))),(zD (at_+(mi:Int))),(bV x.r),(bV x.m),(sV (⟨#[107,100,99]⟩)),(lV A 16 c),(lV A31 16 c31),(lV E ln ce)]).toArray)] rfl (by kernel_rfl) (by rw [ht2];exact (hb1 ▸ an_ln hln (an_okR (mkB_len _ _).symm (mkB_len _ _).symm hA (h663.carve2 0 7 rfl rfl [(true,4),(true,5),(false,2),(true,1),(false,0),(true,6)] rfl rfl) hu hn hlt hr1 hm1 hv hfl1.2.1 hfl1.2.2 hv2 (by omega) (hKf.trans (by rw [hn1])) hc1 hc2)))) ?_
      rintro _ w664 ⟨A664,c664,B664,d664,F664,G664,_,rfl,rfl,h664⟩
      refine ⟨⟨h664.at_ 6 rfl,h664.at_ 5 rfl,trivial⟩,?_⟩
      refine dP 3 [7,8,9] ?_
      refine dT 10 (xN h664 43 ([zE,zE,zN,zN])) ?_
      rintro _ w665 ⟨g665,rfl,h665⟩
      refine ⟨⟨h665.at_ 7 rfl,h665.at_ 6 rfl,trivial⟩,?_⟩
      refine dT 11 (xR h665 0 ([(sV (⟨#[97,110,110]⟩)),(sV x.srv),(lV A664 16 c664),(lV B664 16 d664)])) ?_
      rintro _ w666 h666
      refine ⟨⟨h666.at_ 7 rfl,h666.at_ 6 rfl,trivial⟩,?_⟩
      refine dN 12 ?_
      refine dX ?_
      exact mK hJ595 (hhJ595 _ _ ⟨g665,A664,c664,B664,d664,F664,G664,_,pM,h666.sel [0,1,2,3,4,5,6,7,8,9,10,11,12,13] [0,1,2] (by kernel_rfl) rfl rfl⟩)
     refine oT (xN h663 43 ([zE,zE,zN,zN])) ?_
     rintro _ w667 ⟨g667,rfl,h667⟩
     refine ⟨⟨h667.at_ 4 rfl,h667.at_ 3 rfl,trivial⟩,?_⟩
     refine dT 6 (x_tgs (nb:=7) (s3:=t2) (sl2:=[Sh.mk bANN (at_+(mt:Int)) (mq:Int)]) (c1:=bANN) (srv:=x.srv) h667 1 8 rfl rfl [(pt sv 0),(zD (at_+(ml:Int))),(aV ([(sV x.srv),(zD ((mn:Int))),(zD (at_+(mi:Int))),(bV x.r),(bV x.m),(sV (⟨#[107,100,99]⟩)),(lV A 16 c),(lV A31 16 c31),(lV E ln ce)]).toArray)] rfl (by kernel_rfl) (by rw [ht2];exact (hb1 ▸ an_ln hln (an_okR (mkB_len _ _).symm (mkB_len _ _).symm hA (h667.carve2 1 8 rfl rfl [(true,5),(true,6),(false,2),(true,2),(false,0),(true,7)] rfl rfl) hu hn hlt hr1 hm1 hv hfl1.2.1 hfl1.2.2 hv2 (by omega) (hKf.trans (by rw [hn1])) hc1 hc2)))) ?_
     rintro _ w668 ⟨A668,c668,B668,d668,F668,G668,_,rfl,rfl,h668⟩
     refine ⟨⟨h668.at_ 7 rfl,h668.at_ 6 rfl,trivial⟩,?_⟩
     refine dP 2 [7,8,9] ?_
     refine dT 11 (xR h668 4 ([(sV (⟨#[97,110,110]⟩)),(sV x.srv),(lV A668 16 c668),(lV B668 16 d668)])) ?_
     rintro _ w669 h669
     refine ⟨⟨h669.at_ 7 rfl,h669.at_ 6 rfl,trivial⟩,?_⟩
     refine dN 12 ?_
     refine dX ?_
     exact mK hJ595 (hhJ595 _ _ ⟨g667,A668,c668,B668,d668,F668,G668,_,pM,h669.sel [4,0,1,2,3,5,6,7,8,9,10,11,12,13] [0,1,2] (by kernel_rfl) rfl rfl⟩)
    have hfr:=hT.fr
    obtain ⟨Kf,hKf⟩:=ex_key 6
    obtain ⟨c1,hc1⟩:=pack_inside (f:=2) (K:=Kf) (s:=bANN) (a:=at_) (u:=(min (min (at_+(mi:Int)) (min (at_+600) (at_+Li))) (min (at_+600) (at_+Oi)))) (r:=0) (rightM_is right_ann (by intro x hx;simp only [List.mem_cons,List.not_mem_nil,or_false] at hx;rcases hx with rfl|rfl|rfl|rfl <;> exact inN_is (by omega) (by omega))) (by decide)
    obtain ⟨c2,hc2⟩:=pack_reply (f:=2) (K:=Kf) (n:=(mn:Int)) (s:=x.srv) (a:=at_) (u:=(min (min (at_+(mi:Int)) (min (at_+600) (at_+Li))) (min (at_+600) (at_+Oi)))) (r:=0) (rightM_is hr (by intro x hx;simp only [List.mem_cons,List.not_mem_nil,or_false] at hx;rcases hx with rfl|rfl|rfl|rfl|rfl <;> exact inN_is (by omega) (by omega))) (by omega)
    obtain ⟨t2,ht2⟩:∃ t,t=(((t1.add SFrom.fresh).seal (kl K2) 2 c1).seal (kl K1) 8 c2):=⟨_,rfl⟩
    have hok2:TabOk t2:=by rw [ht2];exact (an_after hb1 hA.rm hc1 hc2).1
    have hi2:openTh t2 (kl K2) 2 (mkB 98 (7+1))=.inr (.inside 2 Kf bANN at_ (min (min (at_+(mi:Int)) (min (at_+600) (at_+Li))) (min (at_+600) (at_+Oi))) 0):=by rw [ht2];exact (an_after hb1 hA.rm hc1 hc2).2.1
    have ho2:openTh t2 (kl K1) 8 (mkB 98 (7+2))=.inr (.reply 2 Kf (mn:Int) x.srv at_ (min (min (at_+(mi:Int)) (min (at_+600) (at_+Li))) (min (at_+600) (at_+Oi))) 0):=by rw [ht2];exact (an_after hb1 hA.rm hc1 hc2).2.2
    have hn2:t2.keys.length=6:=by rw [ht2];exact ((List.length_append).trans (congrArg (· + 1) hn1))
    refine mJ 2000026 (fun aJ wJ671=>∃ (gJ670_0:Nat) (AJ670_1:Option Addr) (cJ670_2:Nat) (BJ670_3:Option Addr) (dJ670_4:Nat) (FJ670_5:Nat->Prop) (GJ670_6:Nat->Prop) (xJ671:Nat->Value),aJ=patch xJ671 432 [(2,(pt g2 0)),(3,(pt g3 0)),(4,zV),(5,(pt d 0)),(7,(zD (at_+(ml:Int)))),(8,(zD (at_+(mt:Int)))),(9,(pt gJ25_0 0)),(10,zO),(11,(pt gJ670_0 0)),(12,zO)]/\Hp (fun _=>False) w wJ671 [rQx A c (mkB 98 2) E ce xs,rSB ((lV B 16 c')) (mkB 98 5),rSB ((lV A 16 c)) (mkB 98 2)] [rBlk gJ670_0 43 ([(sV (⟨#[97,110,110]⟩)),(sV x.srv),(lV AJ670_1 16 cJ670_2),(lV BJ670_3 16 dJ670_4)]),rTab FJ670_5 tb t2,rCa GJ670_6 cb 64 [Sh.mk bANN (at_+(mt:Int)) (mq:Int)],rSB ((lV AJ670_1 16 cJ670_2)) (mkB 98 (7+1)),rSB ((lV BJ670_3 16 dJ670_4)) (mkB 98 (7+2)),rSB ((lV A31 16 c31)) (mkB 98 (6+1)),rBlk gJ25_0 40 ([(sV x.srv),(zD ((mn:Int))),(zD (at_+(mi:Int))),(bV x.r),(bV x.m),(sV (⟨#[107,100,99]⟩)),(lV A 16 c),(lV A31 16 c31),(lV E ln ce)]),rBlk d 37 (dkC tb sv (rpC fl K1 1 bKDC at_ (min (at_+600) (at_+Li)) R) (rpC 4 K2 1 bKDC at_ (min (at_+600) (at_+Oi)) 0) (lV A 16 c) (lV B 16 c')),rBlk sv 73 ([(pt kb 0),(pt cb 0),(pt bk 0)]),rBlk kb 78 ([(Value.iface 28 (pt tb 0)),(pt bb 0)]++vb (kl kk)),rBs G bb [User.mk bANN ka Li Ri false,User.mk bBOB kb_ Oi 0 mesh],rBlk bk 164 ([mv]),rBlk g3 63 ([(sV x.srv),(zD x.nn),(zD x.till),(bV x.r),(bV x.m),(zD x.ex),(zD x.la),(zD x.tm),(zD x.sq),(zD x.tn)]),rBlk g2 23 ([(zD La),(zD Rn_),(zD Ot_),(bV mesh),(zD At_),(zD Lt)])]) ?_ (fun hJ671 hhJ671=>?_)
    ·
     rintro _ wJ671 ⟨gJ670_0,AJ670_1,cJ670_2,BJ670_3,dJ670_4,FJ670_5,GJ670_6,xJ671,rfl,hJh671⟩
     refine mAt ?_
     refine ma hJh671 13 ?_
     refine mX 141 (zD ((bits .and .i64 La 511))) (zD (bits .and .i64 La 511)) rfl ?_
     refine mW 142 (exec_add _ _ _ _ bO 1 (bits .and .i64 La 511) (by kernel_rfl) (by kernel_rfl) Li hLi.symm (by omega) (by omega) _) ?_
     skip
     refine ma hJh671 7 ?_
     refine mX 149 (.bool false) (bV (decide ((min (at_+600) (at_+Li))<=at_+(ml:Int)))) (by simp;omega) ?_
     refine ma hJh671 12 ?_
     refine mX 152 (zD ((tn:Int))) (zD (bits .and .i64 x.tn 7)) (congrArg (iV .i64) htn) ?_
     refine mX 153 (.bool false) (bV (((tn:Int)) == 1)) (by simp;omega) ?_
     refine mJ 2000033 (fun aJ wJ681=>∃ (gJ680_0:Nat) (gJ680_1:Nat) (xJ681:Nat->Value),aJ=patch xJ681 432 [(2,(pt g2 0)),(3,(pt g3 0)),(4,zV),(5,(pt d 0)),(7,(zD (at_+(ml:Int)))),(8,(zD (at_+(mt:Int)))),(9,(pt gJ25_0 0)),(10,zO),(11,(pt gJ670_0 0)),(12,zO),(13,(zD Li)),(15,(pt gJ680_0 0)),(16,(pt gJ680_1 0))]/\Hp (fun _=>False) w wJ681 [rQx A c (mkB 98 2) E ce xs,rSB ((lV B 16 c')) (mkB 98 5),rSB ((lV A 16 c)) (mkB 98 2)] [rBlk gJ680_1 31 (vb (kl kk)),rBlk gJ680_0 54 ([zO]++vb (List.replicate 16 0)++[(sV (⟨#[97,110,110]⟩)),(zD at_),zO,zO]),rBlk gJ670_0 43 ([(sV (⟨#[97,110,110]⟩)),(sV x.srv),(lV AJ670_1 16 cJ670_2),(lV BJ670_3 16 dJ670_4)]),rTab FJ670_5 tb t2,rCa GJ670_6 cb 64 [Sh.mk bANN (at_+(mt:Int)) (mq:Int)],rSB ((lV AJ670_1 16 cJ670_2)) (mkB 98 (7+1)),rSB ((lV BJ670_3 16 dJ670_4)) (mkB 98 (7+2)),rSB ((lV A31 16 c31)) (mkB 98 (6+1)),rBlk gJ25_0 40 ([(sV x.srv),(zD ((mn:Int))),(zD (at_+(mi:Int))),(bV x.r),(bV x.m),(sV (⟨#[107,100,99]⟩)),(lV A 16 c),(lV A31 16 c31),(lV E ln ce)]),rBlk d 37 (dkC tb sv (rpC fl K1 1 bKDC at_ (min (at_+600) (at_+Li)) R) (rpC 4 K2 1 bKDC at_ (min (at_+600) (at_+Oi)) 0) (lV A 16 c) (lV B 16 c')),rBlk sv 73 ([(pt kb 0),(pt cb 0),(pt bk 0)]),rBlk kb 78 ([(Value.iface 28 (pt tb 0)),(pt bb 0)]++vb (kl kk)),rBs G bb [User.mk bANN ka Li Ri false,User.mk bBOB kb_ Oi 0 mesh],rBlk bk 164 ([mv]),rBlk g3 63 ([(sV x.srv),(zD x.nn),(zD x.till),(bV x.r),(bV x.m),(zD x.ex),(zD x.la),(zD x.tm),(zD x.sq),(zD x.tn)]),rBlk g2 23 ([(zD La),(zD Rn_),(zD Ot_),(bV mesh),(zD At_),(zD Lt)])]) ?_ (fun hJ681 hhJ681=>?_)
     ·
      rintro _ wJ681 ⟨gJ680_0,gJ680_1,xJ681,rfl,hJh681⟩
      refine mAt ?_
      skip
      refine mT (x_dp (v:=.bool true) hJh681 20 [(zD (at_+(ml:Int))),(zD (at_+(mt:Int)))] (by kernel_rfl) (hn ▸ rnear_any (at_+(ml:Int)) (at_+(mt:Int)) _)) ?_
      rintro _ w686 ⟨rfl,h686⟩
      refine ma h686 8 ?_
      refine mX 222 (.bool false) (bV (decide (at_+(mi:Int)<=at_+(ml:Int)))) (by simp;omega) ?_
      refine ma h686 14 ?_
      refine ma h686 14 ?_
      refine mX 228 (.bool false) (bV ((x.r == x.m))) (by rw [hr1,hm1];rfl) ?_
      refine ma h686 14 ?_
      refine mX 232 (.bool false) (bV x.r) (by rw [hr1]) ?_
      refine ma h686 14 ?_
      refine mX 246 (.bool false) (bV x.r) (by rw [hr1]) ?_
      refine ma h686 14 ?_
      refine mX 255 (.bool false) (bV x.r) (by rw [hr1]) ?_
      refine ma h686 8 ?_
      refine mX 281 (.bool false) (bV (((ln:Int)) != 1)) (by rcases hxs with h|h|h;all_goals first|omega|(rw [hln,h.2];rfl)) ?_
      skip
      refine ma h686 14 ?_
      refine mX 285 (zD ((me:Int))) (zD (bits .and .i64 x.ex 3)) (congrArg (iV .i64) hme) ?_
      refine mX 286 (zD ((eN:Int))) (zD (Int.tmod (me:Int) 3)) (congrArg (iV .i64) heN) ?_
      refine mX 287 (.bool true) (bV (((eN:Int)) == 1)) (by simp;omega) ?_
      refine ma h686 9 ?_
      refine mX 295 (.bool false) (bV (decide ((min (at_+600) (at_+Oi))<=at_+(ml:Int)))) (by simp;omega) ?_
      skip
      refine ma h686 14 ?_
      refine mX 300 (.bool true) (bV (!((x.srv).toList == (⟨#[97,110,110]⟩:ByteArray).toList))) (by rw [hv];kernel_rfl) ?_
      refine ma h686 14 ?_
      refine mX 304 (.bool false) (bV (!((x.srv).toList == (⟨#[98,111,98]⟩:ByteArray).toList))) (by rw [hv];kernel_rfl) ?_
      refine ma h686 14 ?_
      refine mX 309 (.bool false) (bV ((x.srv).toList == (⟨#[97,110,110]⟩:ByteArray).toList)) (by rw [hv];kernel_rfl) ?_
      refine ma h686 14 ?_
      refine mX 313 (zD ((me:Int))) (zD (bits .and .i64 x.ex 3)) (congrArg (iV .i64) hme) ?_
      refine mX 314 (zD ((eN:Int))) (zD (Int.tmod (me:Int) 3)) (congrArg (iV .i64) heN) ?_
      refine mX 315 (.bool false) (bV (((eN:Int)) == 2)) (by simp;omega) ?_
      refine ma h686 15 ?_
      refine mX 320 (.bool false) (bV (!mesh)) (by rw [hv3];rfl) ?_
      refine mJ 2000034 (fun aJ wJ700=>∃ (xJ700:Nat->Value),aJ=patch xJ700 432 [(3,(pt g3 0)),(4,zV),(5,(pt d 0)),(9,(pt gJ25_0 0)),(10,zO),(11,(pt gJ670_0 0)),(12,zO),(15,(pt gJ680_0 0)),(16,(pt gJ680_1 0))]/\Hp (fun _=>False) w wJ700 [rQx A c (mkB 98 2) E ce xs,rSB ((lV B 16 c')) (mkB 98 5),rSB ((lV A 16 c)) (mkB 98 2)] [rBlk gJ680_1 31 (vb (kl K2)),rBlk gJ680_0 54 ([(zD 2)]++vb (List.replicate 16 0)++[(sV (⟨#[97,110,110]⟩)),(zD at_),(zD (min (min (at_+(mi:Int)) ((min (at_+600) (at_+Li)))) ((min (at_+600) (at_+Oi))))),zO]),rBlk gJ670_0 43 ([(sV (⟨#[97,110,110]⟩)),(sV x.srv),(lV AJ670_1 16 cJ670_2),(lV BJ670_3 16 dJ670_4)]),rTab FJ670_5 tb t2,rCa GJ670_6 cb 64 [Sh.mk bANN (at_+(mt:Int)) (mq:Int)],rSB ((lV AJ670_1 16 cJ670_2)) (mkB 98 (7+1)),rSB ((lV BJ670_3 16 dJ670_4)) (mkB 98 (7+2)),rSB ((lV A31 16 c31)) (mkB 98 (6+1)),rBlk gJ25_0 40 ([(sV x.srv),(zD ((mn:Int))),(zD (at_+(mi:Int))),(bV x.r),(bV x.m),(sV (⟨#[107,100,99]⟩)),(lV A 16 c),(lV A31 16 c31),(lV E ln ce)]),rBlk d 37 (dkC tb sv (rpC fl K1 1 bKDC at_ (min (at_+600) (at_+Li)) R) (rpC 4 K2 1 bKDC at_ (min (at_+600) (at_+Oi)) 0) (lV A 16 c) (lV B 16 c')),rBlk sv 73 ([(pt kb 0),(pt cb 0),(pt bk 0)]),rBlk kb 78 ([(Value.iface 28 (pt tb 0)),(pt bb 0)]++vb (kl kk)),rBs G bb [User.mk bANN ka Li Ri false,User.mk bBOB kb_ Oi 0 mesh],rBlk bk 164 ([mv]),rBlk g3 63 ([(sV x.srv),(zD x.nn),(zD x.till),(bV x.r),(bV x.m),(zD x.ex),(zD x.la),(zD x.tm),(zD x.sq),(zD x.tn)]),rBlk g2 23 ([(zD La),(zD Rn_),(zD Ot_),(bV mesh),(zD At_),(zD Lt)])]) ?_ (fun hJ700 hhJ700=>?_)
      ·
       rintro _ wJ700 ⟨xJ700,rfl,hJh700⟩
       refine mAt ?_
       refine mJ 2000062 (fun aJ wJ707=>∃ (gJ706_0:Nat) (xJ707:Nat->Value),aJ=patch xJ707 432 [(3,(pt g3 0)),(4,zV),(5,(pt d 0)),(9,(pt gJ25_0 0)),(11,(pt gJ670_0 0)),(15,(pt gJ680_0 0)),(16,(pt gJ680_1 0)),(17,(pt gJ706_0 0)),(18,zO)]/\Hp (fun _=>False) w wJ707 [rQx A c (mkB 98 2) E ce xs,rSB ((lV B 16 c')) (mkB 98 5),rSB ((lV A 16 c)) (mkB 98 2)] [rBlk gJ706_0 54 ([(zD 2)]++vb (kl Kf)++[(sV (⟨#[97,110,110]⟩)),(zD at_),(zD (min (min (at_+(mi:Int)) (min (at_+600) (at_+Li))) (min (at_+600) (at_+Oi)))),zO]),rBlk gJ680_1 31 (vb (kl K2)),rBlk gJ680_0 54 ([(zD 2)]++vb (List.replicate 16 0)++[(sV (⟨#[97,110,110]⟩)),(zD at_),(zD (min (min (at_+(mi:Int)) ((min (at_+600) (at_+Li)))) ((min (at_+600) (at_+Oi))))),zO]),rBlk gJ670_0 43 ([(sV (⟨#[97,110,110]⟩)),(sV x.srv),(lV AJ670_1 16 cJ670_2),(lV BJ670_3 16 dJ670_4)]),rTab FJ670_5 tb t2,rCa GJ670_6 cb 64 [Sh.mk bANN (at_+(mt:Int)) (mq:Int)],rSB ((lV AJ670_1 16 cJ670_2)) (mkB 98 (7+1)),rSB ((lV BJ670_3 16 dJ670_4)) (mkB 98 (7+2)),rSB ((lV A31 16 c31)) (mkB 98 (6+1)),rBlk gJ25_0 40 ([(sV x.srv),(zD ((mn:Int))),(zD (at_+(mi:Int))),(bV x.r),(bV x.m),(sV (⟨#[107,100,99]⟩)),(lV A 16 c),(lV A31 16 c31),(lV E ln ce)]),rBlk d 37 (dkC tb sv (rpC fl K1 1 bKDC at_ (min (at_+600) (at_+Li)) R) (rpC 4 K2 1 bKDC at_ (min (at_+600) (at_+Oi)) 0) (lV A 16 c) (lV B 16 c')),rBlk sv 73 ([(pt kb 0),(pt cb 0),(pt bk 0)]),rBlk kb 78 ([(Value.iface 28 (pt tb 0)),(pt bb 0)]++vb (kl kk)),rBs G bb [User.mk bANN ka Li Ri false,User.mk bBOB kb_ Oi 0 mesh],rBlk bk 164 ([mv]),rBlk g3 63 ([(sV x.srv),(zD x.nn),(zD x.till),(bV x.r),(bV x.m),(zD x.ex),(zD x.la),(zD x.tm),(zD x.sq),(zD x.tn)]),rBlk g2 23 ([(zD La),(zD Rn_),(zD Ot_),(bV mesh),(zD At_),(zD Lt)])]) ?_ (fun hJ707 hhJ707=>?_)
       ·
        rintro _ wJ707 ⟨gJ706_0,xJ707,rfl,hJh707⟩
        refine mAt ?_
        refine mJ 2000063 (fun aJ wJ710=>∃ (gJ709_0:Nat) (xJ710:Nat->Value),aJ=patch xJ710 432 [(3,(pt g3 0)),(4,zV),(5,(pt d 0)),(9,(pt gJ25_0 0)),(11,(pt gJ670_0 0)),(15,(pt gJ680_0 0)),(17,(pt gJ706_0 0)),(18,zO),(19,(pt gJ709_0 0)),(20,zO)]/\Hp (fun _=>False) w wJ710 [rQx A c (mkB 98 2) E ce xs,rSB ((lV B 16 c')) (mkB 98 5),rSB ((lV A 16 c)) (mkB 98 2)] [rBlk gJ709_0 33 ([(zD 2)]++vb (kl Kf)++[(zD ((mn:Int))),(sV x.srv),(zD at_),(zD (min (min (at_+(mi:Int)) (min (at_+600) (at_+Li))) (min (at_+600) (at_+Oi)))),zO]),rBlk gJ706_0 54 ([(zD 2)]++vb (kl Kf)++[(sV (⟨#[97,110,110]⟩)),(zD at_),(zD (min (min (at_+(mi:Int)) (min (at_+600) (at_+Li))) (min (at_+600) (at_+Oi)))),zO]),rBlk gJ680_1 31 (vb (kl K2)),rBlk gJ680_0 54 ([(zD 2)]++vb (List.replicate 16 0)++[(sV (⟨#[97,110,110]⟩)),(zD at_),(zD (min (min (at_+(mi:Int)) ((min (at_+600) (at_+Li)))) ((min (at_+600) (at_+Oi))))),zO]),rBlk gJ670_0 43 ([(sV (⟨#[97,110,110]⟩)),(sV x.srv),(lV AJ670_1 16 cJ670_2),(lV BJ670_3 16 dJ670_4)]),rTab FJ670_5 tb t2,rCa GJ670_6 cb 64 [Sh.mk bANN (at_+(mt:Int)) (mq:Int)],rSB ((lV AJ670_1 16 cJ670_2)) (mkB 98 (7+1)),rSB ((lV BJ670_3 16 dJ670_4)) (mkB 98 (7+2)),rSB ((lV A31 16 c31)) (mkB 98 (6+1)),rBlk gJ25_0 40 ([(sV x.srv),(zD ((mn:Int))),(zD (at_+(mi:Int))),(bV x.r),(bV x.m),(sV (⟨#[107,100,99]⟩)),(lV A 16 c),(lV A31 16 c31),(lV E ln ce)]),rBlk d 37 (dkC tb sv (rpC fl K1 1 bKDC at_ (min (at_+600) (at_+Li)) R) (rpC 4 K2 1 bKDC at_ (min (at_+600) (at_+Oi)) 0) (lV A 16 c) (lV B 16 c')),rBlk sv 73 ([(pt kb 0),(pt cb 0),(pt bk 0)]),rBlk kb 78 ([(Value.iface 28 (pt tb 0)),(pt bb 0)]++vb (kl kk)),rBs G bb [User.mk bANN ka Li Ri false,User.mk bBOB kb_ Oi 0 mesh],rBlk bk 164 ([mv]),rBlk g3 63 ([(sV x.srv),(zD x.nn),(zD x.till),(bV x.r),(bV x.m),(zD x.ex),(zD x.la),(zD x.tm),(zD x.sq),(zD x.tn)]),rBlk g2 23 ([(zD La),(zD Rn_),(zD Ot_),(bV mesh),(zD At_),(zD Lt)])]) ?_ (fun hJ710 hhJ710=>?_)
        ·
         rintro _ wJ710 ⟨gJ709_0,xJ710,rfl,hJh710⟩
         refine mAt ?_
         refine ma hJh710 1 ?_
         refine mT (xR hJh710 3 ([(zD 2)]++vb (kl Kf)++[(sV (⟨#[97,110,110]⟩)),(zD at_),(zD (min (min (at_+(mi:Int)) ((min (at_+600) (at_+Li)))) ((min (at_+600) (at_+Oi))))),zO])) fun _ w712 h712=>?_
         refine mJ 2000065 (fun aJ wJ715=>∃ (xJ715:Nat->Value),aJ=patch xJ715 432 [(3,(pt g3 0)),(4,zI),(5,(pt d 0)),(9,(pt gJ25_0 0)),(11,(pt gJ670_0 0)),(15,(pt gJ680_0 0)),(17,(pt gJ706_0 0)),(18,zO),(19,(pt gJ709_0 0)),(20,zO)]/\Hp (fun _=>False) w wJ715 [rQx A c (mkB 98 2) E ce xs,rSB ((lV B 16 c')) (mkB 98 5),rSB ((lV A 16 c)) (mkB 98 2)] [rBlk gJ709_0 33 ([(zD 2)]++vb (kl Kf)++[(zD ((mn:Int))),(sV x.srv),(zD at_),(zD (min (min (at_+(mi:Int)) (min (at_+600) (at_+Li))) (min (at_+600) (at_+Oi)))),zO]),rBlk gJ706_0 54 ([(zD 2)]++vb (kl Kf)++[(sV (⟨#[97,110,110]⟩)),(zD at_),(zD (min (min (at_+(mi:Int)) (min (at_+600) (at_+Li))) (min (at_+600) (at_+Oi)))),zO]),rBlk gJ680_1 31 (vb (kl K2)),rBlk gJ680_0 54 ([(zD 2)]++vb (kl Kf)++[(sV (⟨#[97,110,110]⟩)),(zD at_),(zD (min (min (at_+(mi:Int)) ((min (at_+600) (at_+Li)))) ((min (at_+600) (at_+Oi))))),zO]),rBlk gJ670_0 43 ([(sV (⟨#[97,110,110]⟩)),(sV x.srv),(lV AJ670_1 16 cJ670_2),(lV BJ670_3 16 dJ670_4)]),rTab FJ670_5 tb t2,rCa GJ670_6 cb 64 [Sh.mk bANN (at_+(mt:Int)) (mq:Int)],rSB ((lV AJ670_1 16 cJ670_2)) (mkB 98 (7+1)),rSB ((lV BJ670_3 16 dJ670_4)) (mkB 98 (7+2)),rSB ((lV A31 16 c31)) (mkB 98 (6+1)),rBlk gJ25_0 40 ([(sV x.srv),(zD ((mn:Int))),(zD (at_+(mi:Int))),(bV x.r),(bV x.m),(sV (⟨#[107,100,99]⟩)),(lV A 16 c),(lV A31 16 c31),(lV E ln ce)]),rBlk d 37 (dkC tb sv (rpC fl K1 1 bKDC at_ (min (at_+600) (at_+Li)) R) (rpC 4 K2 1 bKDC at_ (min (at_+600) (at_+Oi)) 0) (lV A 16 c) (lV B 16 c')),rBlk sv 73 ([(pt kb 0),(pt cb 0),(pt bk 0)]),rBlk kb 78 ([(Value.iface 28 (pt tb 0)),(pt bb 0)]++vb (kl kk)),rBs G bb [User.mk bANN ka Li Ri false,User.mk bBOB kb_ Oi 0 mesh],rBlk bk 164 ([mv]),rBlk g3 63 ([(sV x.srv),(zD x.nn),(zD x.till),(bV x.r),(bV x.m),(zD x.ex),(zD x.la),(zD x.tm),(zD x.sq),(zD x.tn)]),rBlk g2 23 ([(zD La),(zD Rn_),(zD Ot_),(bV mesh),(zD At_),(zD Lt)])]) ?_ (fun hJ715 hhJ715=>?_)
         ·
          rintro _ wJ715 ⟨xJ715,rfl,hJh715⟩
          refine mAt ?_
          exact mQ hJh715
         refine dG h712 59 58 (fun W=>(rBlk gJ706_0 54 ([(zD 2)]++vb (kl Kf)++[(sV (⟨#[97,110,110]⟩)),(zD at_),(zD (min (min (at_+(mi:Int)) (min (at_+600) (at_+Li))) (min (at_+600) (at_+Oi)))),zO])).Φ W/\(rBlk gJ680_0 54 ([(zD 2)]++vb (kl Kf)++[(sV (⟨#[97,110,110]⟩)),(zD at_),(zD (min (min (at_+(mi:Int)) ((min (at_+600) (at_+Li)))) ((min (at_+600) (at_+Oi))))),zO])).Φ W/\(rBlk d 37 (dkC tb sv (rpC fl K1 1 bKDC at_ (min (at_+600) (at_+Li)) R) (rpC 4 K2 1 bKDC at_ (min (at_+600) (at_+Oi)) 0) (lV A 16 c) (lV B 16 c'))).Φ W/\(rBlk gJ670_0 43 ([(sV (⟨#[97,110,110]⟩)),(sV x.srv),(lV AJ670_1 16 cJ670_2),(lV BJ670_3 16 dJ670_4)])).Φ W/\(rBlk g3 63 ([(sV x.srv),(zD x.nn),(zD x.till),(bV x.r),(bV x.m),(zD x.ex),(zD x.la),(zD x.tm),(zD x.sq),(zD x.tn)])).Φ W/\(rBlk gJ709_0 33 ([(zD 2)]++vb (kl Kf)++[(zD ((mn:Int))),(sV x.srv),(zD at_),(zD (min (min (at_+(mi:Int)) (min (at_+600) (at_+Li))) (min (at_+600) (at_+Oi)))),zO])).Φ W/\(rBlk gJ25_0 40 ([(sV x.srv),(zD ((mn:Int))),(zD (at_+(mi:Int))),(bV x.r),(bV x.m),(sV (⟨#[107,100,99]⟩)),(lV A 16 c),(lV A31 16 c31),(lV E ln ce)])).Φ W/\True) (fun w716 h716=>⟨h716.at_ 1 rfl,h716.at_ 3 rfl,h716.at_ 11 rfl,h716.at_ 4 rfl,h716.at_ 16 rfl,h716.at_ 0 rfl,h716.at_ 10 rfl,trivial⟩) ?_
         intro w716 h716
         refine dP 52 [0,1,2,3,4,5,6] ?_
         refine dL 7 (fun W hW=>hW.1) ?_
         refine dL 8 (fun W hW=>hW.2.1) ?_
         refine dV 9 (v:=zI) (fun W hW=>e_selfB 54 _ (.tmp 381) (.tmp 382) 54 (by kernel_rfl) (by kernel_rfl) (by kernel_rfl) (by kernel_rfl) (self_inside 2 Kf ⟨#[97,110,110]⟩ at_ (min (min (at_+(mi:Int)) (min (at_+600) (at_+Li))) (min (at_+600) (at_+Oi))) 0) _) ?_
         refine dP 40 [10,11,12,14,15,16,18,19,20] ?_
         refine dL 13 (fun W hW=>hW.1) ?_
         refine dLs 37 [17,21] (fun W hW=>hW.2.2.1) ?_
         refine dT 22 (x_nkeys h716 5 rfl (by kernel_rfl)) ?_
         rintro _ w717 ⟨rfl,h717⟩
         refine ⟨⟨h717.at_ 1 rfl,h717.at_ 3 rfl,h717.at_ 11 rfl,h717.at_ 4 rfl,h717.at_ 16 rfl,h717.at_ 0 rfl,h717.at_ 10 rfl,trivial⟩,?_⟩
         refine dT 23 (x_nth (tb:=tb) h717 t2.keys.length (by kernel_rfl) (by omega)) ?_
         rintro _ w718 ⟨K718,rfl,hK718,h718⟩
         refine ⟨⟨h718.at_ 1 rfl,h718.at_ 3 rfl,h718.at_ 11 rfl,h718.at_ 4 rfl,h718.at_ 16 rfl,h718.at_ 0 rfl,h718.at_ 10 rfl,trivial⟩,?_⟩
         refine dV 24 (v:=zI) (fun W hW=>e_keq Kf K718 31 31 (.tmp 387) (.tmp 397) (by kernel_rfl) (by kernel_rfl) (by kernel_rfl) (by kernel_rfl) (by kernel_rfl) true (decide_eq_true (hKf.trans (hK718.trans (by rw [hn2])).symm)) _) ?_
         refine dP 31 [25,26,27] ?_
         refine dL 28 (fun W hW=>hW.2.2.2.1) ?_
         refine dV 29 (v:=zI) (fun W hW=>eqI (bV ((⟨#[97,110,110]⟩:ByteArray).toList == (⟨#[97,110,110]⟩:ByteArray).toList)) (by simp)) ?_
         refine dP 24 [30,31,32,33,35] ?_
         refine dL 34 (fun W hW=>hW.2.2.2.1) ?_
         refine dL 36 (fun W hW=>hW.2.2.2.2.1) ?_
         refine dV 37 (v:=zI) (fun W hW=>eqI (bV ((x.srv).toList == (x.srv).toList)) (by simp)) ?_
         refine dP 12 [38,39,41,43,45,47,49,51,53] ?_
         refine dL 40 (fun W hW=>hW.2.2.2.2.2.1) ?_
         refine dLs 9 [42,44] (fun W hW=>hW.2.1) ?_
         refine dL 46 (fun W hW=>hW.2.2.2.2.2.2.1) ?_
         refine dL 48 (fun W hW=>hW.2.2.2.2.1) ?_
         refine dLs 4 [50,52,54] (fun W hW=>hW.2.1) ?_
         refine dP 3 [55] ?_
         refine dV 56 (v:=zI) (fun W hW=>e_selfB 33 _ (.tmp 414) (.tmp 429) 33 (by kernel_rfl) (by kernel_rfl) (by kernel_rfl) (by kernel_rfl) (self_reply 2 Kf (mn:Int) x.srv at_ (min (min (at_+(mi:Int)) (min (at_+600) (at_+Li))) (min (at_+600) (at_+Oi))) 0) _) ?_
         refine dP 1 [57] ?_
         refine dN 58 ?_
         refine dX ?_
         exact mK hJ715 (hhJ715 _ _ ⟨_,pM,h718.sel [0,1,2,3,4,5,6,7,8,9,10,11,12,13,14,15,16,17] [0,1,2] (by kernel_rfl) rfl rfl⟩)
        refine dG hJh707 19 18 (fun W=>(rBlk d 37 (dkC tb sv (rpC fl K1 1 bKDC at_ (min (at_+600) (at_+Li)) R) (rpC 4 K2 1 bKDC at_ (min (at_+600) (at_+Oi)) 0) (lV A 16 c) (lV B 16 c'))).Φ W/\(rBlk gJ670_0 43 ([(sV (⟨#[97,110,110]⟩)),(sV x.srv),(lV AJ670_1 16 cJ670_2),(lV BJ670_3 16 dJ670_4)])).Φ W/\True) (fun w719 h719=>⟨h719.at_ 10 rfl,h719.at_ 3 rfl,trivial⟩) ?_
        intro w719 h719
        refine dP 11 [0,1,2,5,6,7,8,10] ?_
        refine dL 3 (fun W hW=>hW.1) ?_
        refine dP 9 [4] ?_
        refine dL 9 (fun W hW=>hW.1) ?_
        refine dL 11 (fun W hW=>hW.2.1) ?_
        refine dO 12 16 ?_ ?_
        ·
         refine oT (x_oReply h719 4 rfl K1 8 (by kernel_rfl) hok2 (h719.at_ 7 rfl) (r:=(.inr (.reply 2 Kf (mn:Int) x.srv at_ (min (min (at_+(mi:Int)) (min (at_+600) (at_+Li))) (min (at_+600) (at_+Oi))) 0))) ho2) ?_
         rintro _ w720 ⟨rfl,h720⟩
         refine ⟨⟨h720.at_ 10 rfl,h720.at_ 3 rfl,trivial⟩,?_⟩
         refine dP 3 [13,14,15] ?_
         refine dT 16 (xN h720 33 ([zO]++vb (List.replicate 16 0)++[zO,zE,zO,zO,zO])) ?_
         rintro _ w721 ⟨g721,rfl,h721⟩
         refine ⟨⟨h721.at_ 11 rfl,h721.at_ 4 rfl,trivial⟩,?_⟩
         refine dT 17 (xR h721 0 ([(zD 2)]++vb (kl Kf)++[(zD ((mn:Int))),(sV x.srv),(zD at_),(zD (min (min (at_+(mi:Int)) (min (at_+600) (at_+Li))) (min (at_+600) (at_+Oi)))),zO])) ?_
         rintro _ w722 h722
         refine ⟨⟨h722.at_ 11 rfl,h722.at_ 4 rfl,trivial⟩,?_⟩
         refine dN 18 ?_
         refine dX ?_
         exact mK hJ710 (hhJ710 _ _ ⟨g721,_,pM,h722.sel [0,1,2,3,4,5,6,7,8,9,10,11,12,13,14,15,16,17] [0,1,2] (by kernel_rfl) rfl rfl⟩)
        refine oT (xN h719 33 ([zO]++vb (List.replicate 16 0)++[zO,zE,zO,zO,zO])) ?_
        rintro _ w723 ⟨g723,rfl,h723⟩
        refine ⟨⟨h723.at_ 11 rfl,h723.at_ 4 rfl,trivial⟩,?_⟩
        refine dT 12 (x_oReply h723 5 rfl K1 8 (by kernel_rfl) hok2 (h723.at_ 8 rfl) (r:=(.inr (.reply 2 Kf (mn:Int) x.srv at_ (min (min (at_+(mi:Int)) (min (at_+600) (at_+Li))) (min (at_+600) (at_+Oi))) 0))) ho2) ?_
        rintro _ w724 ⟨rfl,h724⟩
        refine ⟨⟨h724.at_ 11 rfl,h724.at_ 4 rfl,trivial⟩,?_⟩
        refine dP 2 [13,14,15] ?_
        refine dT 17 (xR h724 0 ([(zD 2)]++vb (kl Kf)++[(zD ((mn:Int))),(sV x.srv),(zD at_),(zD (min (min (at_+(mi:Int)) (min (at_+600) (at_+Li))) (min (at_+600) (at_+Oi)))),zO])) ?_
        rintro _ w725 h725
        refine ⟨⟨h725.at_ 11 rfl,h725.at_ 4 rfl,trivial⟩,?_⟩
        refine dN 18 ?_
        refine dX ?_
        exact mK hJ710 (hhJ710 _ _ ⟨g723,_,pM,h725.sel [0,1,2,3,4,5,6,7,8,9,10,11,12,13,14,15,16,17] [0,1,2] (by kernel_rfl) rfl rfl⟩)
       refine dG hJh700 16 15 (fun W=>(rBlk d 37 (dkC tb sv (rpC fl K1 1 bKDC at_ (min (at_+600) (at_+Li)) R) (rpC 4 K2 1 bKDC at_ (min (at_+600) (at_+Oi)) 0) (lV A 16 c) (lV B 16 c'))).Φ W/\(rBlk gJ680_1 31 (vb (kl K2))).Φ W/\(rBlk gJ670_0 43 ([(sV (⟨#[97,110,110]⟩)),(sV x.srv),(lV AJ670_1 16 cJ670_2),(lV BJ670_3 16 dJ670_4)])).Φ W/\True) (fun w726 h726=>⟨h726.at_ 9 rfl,h726.at_ 0 rfl,h726.at_ 2 rfl,trivial⟩) ?_
       intro w726 h726
       refine dP 11 [0,1,2,6,7] ?_
       refine dL 3 (fun W hW=>hW.1) ?_
       refine dP 9 [4] ?_
       refine dL 5 (fun W hW=>hW.2.1) ?_
       refine dL 8 (fun W hW=>hW.2.2.1) ?_
       refine dO 9 13 ?_ ?_
       ·
        refine oT (x_oInside h726 3 rfl K2 2 (by kernel_rfl) hok2 (h726.at_ 5 rfl) (r:=(.inr (.inside 2 Kf bANN at_ (min (min (at_+(mi:Int)) (min (at_+600) (at_+Li))) (min (at_+600) (at_+Oi))) 0))) hi2) ?_
        rintro _ w727 ⟨rfl,h727⟩
        refine ⟨⟨h727.at_ 9 rfl,h727.at_ 0 rfl,h727.at_ 2 rfl,trivial⟩,?_⟩
        refine dP 3 [10,11,12] ?_
        refine dT 13 (xN h727 54 ([zO]++vb (List.replicate 16 0)++[zE,zO,zO,zO])) ?_
        rintro _ w728 ⟨g728,rfl,h728⟩
        refine ⟨⟨h728.at_ 10 rfl,h728.at_ 1 rfl,h728.at_ 3 rfl,trivial⟩,?_⟩
        refine dT 14 (xR h728 0 ([(zD 2)]++vb (kl Kf)++[(sV (⟨#[97,110,110]⟩)),(zD at_),(zD (min (min (at_+(mi:Int)) (min (at_+600) (at_+Li))) (min (at_+600) (at_+Oi)))),zO])) ?_
        rintro _ w729 h729
        refine ⟨⟨h729.at_ 10 rfl,h729.at_ 1 rfl,h729.at_ 3 rfl,trivial⟩,?_⟩
        refine dN 15 ?_
        refine dX ?_
        exact mK hJ707 (hhJ707 _ _ ⟨g728,_,pM,h729.sel [0,1,2,3,4,5,6,7,8,9,10,11,12,13,14,15,16] [0,1,2] (by kernel_rfl) rfl rfl⟩)
       refine oT (xN h726 54 ([zO]++vb (List.replicate 16 0)++[zE,zO,zO,zO])) ?_
       rintro _ w730 ⟨g730,rfl,h730⟩
       refine ⟨⟨h730.at_ 10 rfl,h730.at_ 1 rfl,h730.at_ 3 rfl,trivial⟩,?_⟩
       refine dT 9 (x_oInside h730 4 rfl K2 2 (by kernel_rfl) hok2 (h730.at_ 6 rfl) (r:=(.inr (.inside 2 Kf bANN at_ (min (min (at_+(mi:Int)) (min (at_+600) (at_+Li))) (min (at_+600) (at_+Oi))) 0))) hi2) ?_
       rintro _ w731 ⟨rfl,h731⟩
       refine ⟨⟨h731.at_ 10 rfl,h731.at_ 1 rfl,h731.at_ 3 rfl,trivial⟩,?_⟩
       refine dP 2 [10,11,12] ?_
       refine dT 14 (xR h731 0 ([(zD 2)]++vb (kl Kf)++[(sV (⟨#[97,110,110]⟩)),(zD at_),(zD (min (min (at_+(mi:Int)) (min (at_+600) (at_+Li))) (min (at_+600) (at_+Oi)))),zO])) ?_
       rintro _ w732 h732
       refine ⟨⟨h732.at_ 10 rfl,h732.at_ 1 rfl,h732.at_ 3 rfl,trivial⟩,?_⟩
       refine dN 15 ?_
       refine dX ?_
       exact mK hJ707 (hhJ707 _ _ ⟨g730,_,pM,h732.sel [0,1,2,3,4,5,6,7,8,9,10,11,12,13,14,15,16] [0,1,2] (by kernel_rfl) rfl rfl⟩)
      refine dG h686 23 22 (fun W=>(rBlk gJ25_0 40 ([(sV x.srv),(zD ((mn:Int))),(zD (at_+(mi:Int))),(bV x.r),(bV x.m),(sV (⟨#[107,100,99]⟩)),(lV A 16 c),(lV A31 16 c31),(lV E ln ce)])).Φ W/\(rBlk d 37 (dkC tb sv (rpC fl K1 1 bKDC at_ (min (at_+600) (at_+Li)) R) (rpC 4 K2 1 bKDC at_ (min (at_+600) (at_+Oi)) 0) (lV A 16 c) (lV B 16 c'))).Φ W/\True) (fun w733 h733=>⟨h733.at_ 8 rfl,h733.at_ 9 rfl,trivial⟩) ?_
      intro w733 h733
      refine dP 9 [0,2,3,4,5,7,8,9,10,13,14,15,16,18] ?_
      refine dL 1 (fun W hW=>hW.1) ?_
      refine dLs 6 [6,11] (fun W hW=>hW.2.1) ?_
      refine dV 12 (v:=(zD (min (min (at_+(mi:Int)) ((min (at_+600) (at_+Li)))) ((min (at_+600) (at_+Oi)))))) (fun W hW=>e_min3 (.tmp 191) (.tmp 196) (.tmp 201) #[2,2,2] (by kernel_rfl) .i64 .i64 .i64 (at_+(mi:Int)) ((min (at_+600) (at_+Li))) ((min (at_+600) (at_+Oi))) (by kernel_rfl) (by kernel_rfl) (by kernel_rfl) _) ?_
      refine dL 17 (fun W hW=>hW.2.1) ?_
      refine dT 19 (xS h733 1 ([(zD 2)]++vb (List.replicate 16 0)++[(sV (⟨#[97,110,110]⟩)),(zD at_),zO,zO])) ?_
      rintro _ w734 h734
      refine ⟨⟨h734.at_ 8 rfl,h734.at_ 9 rfl,trivial⟩,?_⟩
      refine dP 2 [20] ?_
      refine dT 21 (xS h734 1 ([(zD 2)]++vb (List.replicate 16 0)++[(sV (⟨#[97,110,110]⟩)),(zD at_),(zD (min (min (at_+(mi:Int)) ((min (at_+600) (at_+Li)))) ((min (at_+600) (at_+Oi))))),zO])) ?_
      rintro _ w735 h735
      refine ⟨⟨h735.at_ 8 rfl,h735.at_ 9 rfl,trivial⟩,?_⟩
      refine dE 22 (xR h735 0 (vb (kl K2))) ?_
      rintro _ w736 h736
      refine dX ?_
      exact mK hJ700 (hhJ700 _ _ ⟨_,pM,h736.sel [0,1,2,3,4,5,6,7,8,9,10,11,12,13,14,15] [0,1,2] (by kernel_rfl) rfl rfl⟩)
     refine dG hJh671 20 19 (fun W=>(rBlk d 37 (dkC tb sv (rpC fl K1 1 bKDC at_ (min (at_+600) (at_+Li)) R) (rpC 4 K2 1 bKDC at_ (min (at_+600) (at_+Oi)) 0) (lV A 16 c) (lV B 16 c'))).Φ W/\(rBlk sv 73 ([(pt kb 0),(pt cb 0),(pt bk 0)])).Φ W/\(rBlk kb 78 ([(Value.iface 28 (pt tb 0)),(pt bb 0)]++vb (kl kk))).Φ W/\True) (fun w737 h737=>⟨h737.at_ 7 rfl,h737.at_ 8 rfl,h737.at_ 9 rfl,trivial⟩) ?_
     intro w737 h737
     refine dP 13 [0,1,2,3,6,7,8] ?_
     refine dL 4 (fun W hW=>hW.1) ?_
     refine dP 11 [5] ?_
     refine dL 9 (fun W hW=>hW.1) ?_
     refine dP 8 [10,11] ?_
     refine dL 12 (fun W hW=>hW.2.1) ?_
     refine dP 5 [13,14] ?_
     refine dL 15 (fun W hW=>hW.2.2.1) ?_
     refine dO 16 17 ?_ ?_
     ·
      refine oT (xN h737 54 ([zO]++vb (List.replicate 16 0)++[zE,zO,zO,zO])) ?_
      rintro _ w738 ⟨g738,rfl,h738⟩
      refine ⟨⟨h738.at_ 8 rfl,h738.at_ 9 rfl,h738.at_ 10 rfl,trivial⟩,?_⟩
      refine dT 17 (xN h738 31 (vb (List.replicate 16 0))) ?_
      rintro _ w739 ⟨g739,rfl,h739⟩
      refine ⟨⟨h739.at_ 9 rfl,h739.at_ 10 rfl,h739.at_ 11 rfl,trivial⟩,?_⟩
      refine dT 18 (xR h739 1 ([zO]++vb (List.replicate 16 0)++[(sV (⟨#[97,110,110]⟩)),(zD at_),zO,zO])) ?_
      rintro _ w740 h740
      refine ⟨⟨h740.at_ 9 rfl,h740.at_ 10 rfl,h740.at_ 11 rfl,trivial⟩,?_⟩
      refine dE 19 (xR h740 0 (vb (kl kk))) ?_
      rintro _ w741 h741
      refine dX ?_
      exact mK hJ681 (hhJ681 _ _ ⟨g738,g739,_,pM,h741.sel [0,1,2,3,4,5,6,7,8,9,10,11,12,13,14,15] [0,1,2] (by kernel_rfl) rfl rfl⟩)
     refine oT (xN h737 31 (vb (List.replicate 16 0))) ?_
     rintro _ w742 ⟨g742,rfl,h742⟩
     refine ⟨⟨h742.at_ 8 rfl,h742.at_ 9 rfl,h742.at_ 10 rfl,trivial⟩,?_⟩
     refine dT 16 (xN h742 54 ([zO]++vb (List.replicate 16 0)++[zE,zO,zO,zO])) ?_
     rintro _ w743 ⟨g743,rfl,h743⟩
     refine ⟨⟨h743.at_ 9 rfl,h743.at_ 10 rfl,h743.at_ 11 rfl,trivial⟩,?_⟩
     refine dT 18 (xR h743 0 ([zO]++vb (List.replicate 16 0)++[(sV (⟨#[97,110,110]⟩)),(zD at_),zO,zO])) ?_
     rintro _ w744 h744
     refine ⟨⟨h744.at_ 9 rfl,h744.at_ 10 rfl,h744.at_ 11 rfl,trivial⟩,?_⟩
     refine dE 19 (xR h744 1 (vb (kl kk))) ?_
     rintro _ w745 h745
     refine dX ?_
     exact mK hJ681 (hhJ681 _ _ ⟨g743,g742,_,pM,h745.sel [1,0,2,3,4,5,6,7,8,9,10,11,12,13,14,15] [0,1,2] (by kernel_rfl) rfl rfl⟩)
    refine dG h34 13 12 (fun W=>(rBlk d 37 (dkC tb sv (rpC fl K1 1 bKDC at_ (min (at_+600) (at_+Li)) R) (rpC 4 K2 1 bKDC at_ (min (at_+600) (at_+Oi)) 0) (lV A 16 c) (lV B 16 c'))).Φ W/\(rBlk gJ25_0 40 ([(sV x.srv),(zD ((mn:Int))),(zD (at_+(mi:Int))),(bV x.r),(bV x.m),(sV (⟨#[107,100,99]⟩)),(lV A 16 c),(lV A31 16 c31),(lV E ln ce)])).Φ W/\True) (fun w746 h746=>⟨h746.at_ 3 rfl,h746.at_ 2 rfl,trivial⟩) ?_
    intro w746 h746
    refine dP 9 [0,1,2,4] ?_
    refine dL 3 (fun W hW=>hW.1) ?_
    refine dL 5 (fun W hW=>hW.2.1) ?_
    refine dO 6 10 ?_ ?_
    ·
     refine oT (x_tgs (nb:=7) (s3:=t2) (sl2:=[Sh.mk bANN (at_+(mt:Int)) (mq:Int)]) (c1:=bANN) (srv:=x.srv) h746 0 7 rfl rfl [(pt sv 0),(zD (at_+(ml:Int))),(aV ([(sV x.srv),(zD ((mn:Int))),(zD (at_+(mi:Int))),(bV x.r),(bV x.m),(sV (⟨#[107,100,99]⟩)),(lV A 16 c),(lV A31 16 c31),(lV E ln ce)]).toArray)] rfl (by kernel_rfl) (by rw [ht2];exact (hb1 ▸ an_ln hln (an_okM (mkB_len _ _).symm (mkB_len _ _).symm hA (h746.carve2 0 7 rfl rfl [(true,4),(true,5),(false,2),(true,1),(false,0),(true,6)] rfl rfl) hu hn hlt hr1 hm1 hv hx1 hv2 hv3 (hKf.trans (by rw [hn1])) hc1 hc2)))) ?_
     rintro _ w747 ⟨A747,c747,B747,d747,F747,G747,_,rfl,rfl,h747⟩
     refine ⟨⟨h747.at_ 6 rfl,h747.at_ 5 rfl,trivial⟩,?_⟩
     refine dP 3 [7,8,9] ?_
     refine dT 10 (xN h747 43 ([zE,zE,zN,zN])) ?_
     rintro _ w748 ⟨g748,rfl,h748⟩
     refine ⟨⟨h748.at_ 7 rfl,h748.at_ 6 rfl,trivial⟩,?_⟩
     refine dT 11 (xR h748 0 ([(sV (⟨#[97,110,110]⟩)),(sV x.srv),(lV A747 16 c747),(lV B747 16 d747)])) ?_
     rintro _ w749 h749
     refine ⟨⟨h749.at_ 7 rfl,h749.at_ 6 rfl,trivial⟩,?_⟩
     refine dN 12 ?_
     refine dX ?_
     exact mK hJ671 (hhJ671 _ _ ⟨g748,A747,c747,B747,d747,F747,G747,_,pM,h749.sel [0,1,2,3,4,5,6,7,8,9,10,11,12,13] [0,1,2] (by kernel_rfl) rfl rfl⟩)
    refine oT (xN h746 43 ([zE,zE,zN,zN])) ?_
    rintro _ w750 ⟨g750,rfl,h750⟩
    refine ⟨⟨h750.at_ 4 rfl,h750.at_ 3 rfl,trivial⟩,?_⟩
    refine dT 6 (x_tgs (nb:=7) (s3:=t2) (sl2:=[Sh.mk bANN (at_+(mt:Int)) (mq:Int)]) (c1:=bANN) (srv:=x.srv) h750 1 8 rfl rfl [(pt sv 0),(zD (at_+(ml:Int))),(aV ([(sV x.srv),(zD ((mn:Int))),(zD (at_+(mi:Int))),(bV x.r),(bV x.m),(sV (⟨#[107,100,99]⟩)),(lV A 16 c),(lV A31 16 c31),(lV E ln ce)]).toArray)] rfl (by kernel_rfl) (by rw [ht2];exact (hb1 ▸ an_ln hln (an_okM (mkB_len _ _).symm (mkB_len _ _).symm hA (h750.carve2 1 8 rfl rfl [(true,5),(true,6),(false,2),(true,2),(false,0),(true,7)] rfl rfl) hu hn hlt hr1 hm1 hv hx1 hv2 hv3 (hKf.trans (by rw [hn1])) hc1 hc2)))) ?_
    rintro _ w751 ⟨A751,c751,B751,d751,F751,G751,_,rfl,rfl,h751⟩
    refine ⟨⟨h751.at_ 7 rfl,h751.at_ 6 rfl,trivial⟩,?_⟩
    refine dP 2 [7,8,9] ?_
    refine dT 11 (xR h751 4 ([(sV (⟨#[97,110,110]⟩)),(sV x.srv),(lV A751 16 c751),(lV B751 16 d751)])) ?_
    rintro _ w752 h752
    refine ⟨⟨h752.at_ 7 rfl,h752.at_ 6 rfl,trivial⟩,?_⟩
    refine dN 12 ?_
    refine dX ?_
    exact mK hJ671 (hhJ671 _ _ ⟨g750,A751,c751,B751,d751,F751,G751,_,pM,h752.sel [4,0,1,2,3,5,6,7,8,9,10,11,12,13] [0,1,2] (by kernel_rfl) rfl rfl⟩)
   refine m_ifeq 86 ((eN:Int)) 2 (by kernel_rfl) (fun b753=>?_) (fun b753=>?_)
   ·
    refine ma hJh26 2 ?_
    refine mT (x_bs hJh26 35 ([(sV (⟨#[107,100,99]⟩)),(lV A 16 c)]) 1 (by kernel_rfl)) ?_
    rintro _ w754 ⟨g754,rfl,h754⟩
    refine mT (xS h754 1 ([(sV x.srv),(zD ((mn:Int))),(zD (at_+(mi:Int))),(bV x.r),(bV x.m),(sV (⟨#[107,100,99]⟩)),(lV A 16 c),zN,(lV (some ⟨g754,0,none⟩) 1 1)])) fun _ w755 h755=>?_
    have h756:=h755.share 0 rfl
    have h757:=h756.addQ1 2 2 0 (l:=mkB 98 2) (m:=mkB 98 2) (s:=bKDC) rfl rfl rfl
    exact mK hJ29 (hhJ29 _ _ ⟨(some ⟨g754,0,none⟩),1,1,[⟨bKDC,mkB 98 2,A,c⟩],_,rfl,(.inr (.inr ⟨by omega,rfl⟩)),pM,h757.sel [0,2,3,4,5,6,7,8,9,10] [0,2,3] (by kernel_rfl) rfl rfl⟩)
   have h758:=hJh26.share 1 rfl
   have h759:=h758.addQt 2 1 0 (e:=eN) (by omega) (l:=mkB 98 2) (m:=mkB 98 5) (s:=bKDC) (mkB_len _ _).symm (mkB_len _ _).symm rfl rfl rfl
   exact mK hJ29 (hhJ29 _ _ ⟨(some ⟨gJ25_1,0,none⟩),eN,2,(([⟨bKDC,mkB 98 5,B,c'⟩]:List Xt).take eN),_,(by rw [List.length_take];exact (Nat.min_eq_left (show eN<=1 by omega)).symm),(an_xs (by omega)),pM,h759.sel [0,1,2,3,4,5,6,7,8,9] [0,2,3] (by kernel_rfl) rfl rfl⟩)
  refine dG hJh23 35 34 (fun W=>(rBlk g3 63 ([(sV x.srv),(zD x.nn),(zD x.till),(bV x.r),(bV x.m),(zD x.ex),(zD x.la),(zD x.tm),(zD x.sq),(zD x.tn)])).Φ W/\(rBlk d 37 (dkC tb sv (rpC fl K1 1 bKDC at_ (min (at_+600) (at_+Li)) R) (rpC 4 K2 1 bKDC at_ (min (at_+600) (at_+Oi)) 0) (lV A 16 c) (lV B 16 c'))).Φ W/\True) (fun w760 h760=>⟨h760.at_ 7 rfl,h760.at_ 0 rfl,trivial⟩) ?_
  intro w760 h760
  refine dP 19 [0,2,5,6,10,12,14,15,16,18,19,20,22,23,24,27] ?_
  refine dLs 17 [1,3] (fun W hW=>hW.1) ?_
  refine dV 4 (v:=(zD ((mn:Int)))) (fun W hW=>eqI (zD (bits .and .i64 x.nn 1023)) (congrArg (iV .i64) hmn)) ?_
  refine dL 7 (fun W hW=>hW.1) ?_
  refine dV 8 (v:=(zD ((mi:Int)))) (fun W hW=>eqI (zD (bits .and .i64 x.till 2047)) (congrArg (iV .i64) hmi)) ?_
  refine dV 9 (fun W hW=>exec_add _ _ _ _ bO at_ ((mi:Int)) (by kernel_rfl) (by kernel_rfl) (at_+(mi:Int)) rfl (by omega) (by omega) _) ?_
  refine dLs 11 [11,13] (fun W hW=>hW.1) ?_
  refine dLs 8 [17,21,25] (fun W hW=>hW.2.1) ?_
  refine dL 28 (fun W hW=>hW.1) ?_
  refine dV 29 (v:=(zD ((me:Int)))) (fun W hW=>eqI (zD (bits .and .i64 x.ex 3)) (congrArg (iV .i64) hme)) ?_
  refine dV 30 (v:=(zD ((eN:Int)))) (fun W hW=>eqI (zD (Int.tmod (me:Int) 3)) (congrArg (iV .i64) heN)) ?_
  refine dO 26 33 ?_ ?_
  ·
   refine oT (x_bs h760 35 ([(sV (⟨#[107,100,99]⟩)),(lV B 16 c'),(sV (⟨#[107,100,99]⟩)),(lV A 16 c)]) 2 (by kernel_rfl)) ?_
   rintro _ w761 ⟨g761,rfl,h761⟩
   refine ⟨⟨h761.at_ 8 rfl,h761.at_ 1 rfl,trivial⟩,?_⟩
   refine dV 31 (v:=(lV (some ⟨g761,0,none⟩) eN 2)) (fun W hW=>e_cutH (sz:=2) (g:=g761) (n:=2) (c:=2) (i:=eN) 38 (.tmp 76) (.tmp 80) (by kernel_rfl) (by kernel_rfl) .i64 (by kernel_rfl) he2 (by kernel_rfl) (by kernel_rfl) _) ?_
   refine dP 2 [32] ?_
   refine dT 33 (xN h761 40 ([zE,zO,zO,zV,zV,zE,zN,zN,zN])) ?_
   rintro _ w762 ⟨g762,rfl,h762⟩
   refine ⟨⟨h762.at_ 9 rfl,h762.at_ 2 rfl,trivial⟩,?_⟩
   refine dE 34 (xR h762 0 ([(sV x.srv),(zD ((mn:Int))),(zD (at_+(mi:Int))),(bV x.r),(bV x.m),(sV (⟨#[107,100,99]⟩)),(lV A 16 c),zN,(lV (some ⟨g761,0,none⟩) eN 2)])) ?_
   rintro _ w763 h763
   refine dX ?_
   exact mK hJ26 (hhJ26 _ _ ⟨g762,g761,_,pM,h763.sel [0,1,2,3,4,5,6,7,8,9,10] [0,1] (by kernel_rfl) rfl rfl⟩)
  refine oT (xN h760 40 ([zE,zO,zO,zV,zV,zE,zN,zN,zN])) ?_
  rintro _ w764 ⟨g764,rfl,h764⟩
  refine ⟨⟨h764.at_ 8 rfl,h764.at_ 1 rfl,trivial⟩,?_⟩
  refine dT 26 (x_bs h764 35 ([(sV (⟨#[107,100,99]⟩)),(lV B 16 c'),(sV (⟨#[107,100,99]⟩)),(lV A 16 c)]) 2 (by kernel_rfl)) ?_
  rintro _ w765 ⟨g765,rfl,h765⟩
  refine ⟨⟨h765.at_ 9 rfl,h765.at_ 2 rfl,trivial⟩,?_⟩
  refine dV 31 (v:=(lV (some ⟨g765,0,none⟩) eN 2)) (fun W hW=>e_cutH (sz:=2) (g:=g765) (n:=2) (c:=2) (i:=eN) 38 (.tmp 76) (.tmp 80) (by kernel_rfl) (by kernel_rfl) .i64 (by kernel_rfl) he2 (by kernel_rfl) (by kernel_rfl) _) ?_
  refine dP 1 [32] ?_
  refine dE 34 (xR h765 1 ([(sV x.srv),(zD ((mn:Int))),(zD (at_+(mi:Int))),(bV x.r),(bV x.m),(sV (⟨#[107,100,99]⟩)),(lV A 16 c),zN,(lV (some ⟨g765,0,none⟩) eN 2)])) ?_
  rintro _ w766 h766
  refine dX ?_
  exact mK hJ26 (hhJ26 _ _ ⟨g764,g765,_,pM,h766.sel [1,0,2,3,4,5,6,7,8,9,10] [0,1] (by kernel_rfl) rfl rfl⟩)
 refine dG h17 12 11 (fun W=>(rBlk g3 63 ([(sV x.srv),(zD x.nn),(zD x.till),(bV x.r),(bV x.m),(zD x.ex),(zD x.la),(zD x.tm),(zD x.sq),(zD x.tn)])).Φ W/\True) (fun w767 h767=>⟨h767.at_ 7 rfl,trivial⟩) ?_
 intro w767 h767
 refine dP 8 [0,1,5,6] ?_
 refine dL 2 (fun W hW=>hW.1) ?_
 refine dV 3 (v:=(zD ((ml:Int)))) (fun W hW=>eqI (zD (bits .and .i64 x.la 1023)) (congrArg (iV .i64) hml)) ?_
 refine dV 4 (fun W hW=>exec_add _ _ _ _ bO at_ ((ml:Int)) (by kernel_rfl) (by kernel_rfl) (at_+(ml:Int)) rfl (by omega) (by omega) _) ?_
 refine dP 4 [10] ?_
 refine dL 7 (fun W hW=>hW.1) ?_
 refine dV 8 (v:=(zD ((mt:Int)))) (fun W hW=>eqI (zD (bits .and .i64 x.tm 1023)) (congrArg (iV .i64) hmt)) ?_
 refine dV 9 (fun W hW=>exec_add _ _ _ _ bO at_ ((mt:Int)) (by kernel_rfl) (by kernel_rfl) (at_+(mt:Int)) rfl (by omega) (by omega) _) ?_
 refine dN 11 ?_
 refine dX ?_
 exact mK hJ23 (hhJ23 _ _ ⟨_,pM,h767.sel [0,1,2,3,4,5,6,7,8] [0,1] (by kernel_rfl) rfl rfl⟩)
end
section
open Go.ChangeShapes Go.WideShapes Go.ChangeAt Go.RowKit
theorem ktgsAnswers_lifted(os:Os)(started:os.Started)(H:Type)(enc:TypeId × Value->H) :
   ReturnsInHanded {} Tryz.checked os 7 .any (Rows.ktgsAnswersSpec.pre6 enc Tryz.prog Tryz.f7 Rows.ktgsAnswersRow.domain false) (Rows.ktgsAnswersSpec.post enc Tryz.prog Tryz.f7 false true false false):=by
 refine returnsInHanded_of_change (C:=Tryz.checked) Tryz.own started (by kernel_rfl) Tryz.func7
   (ChangeSpec.witness6 (enc:=enc) (C:=Tryz.checked) false ⟨#[],#[.agg #[.int .i64 0,.int .i64 0,.int .i64 0,.bool false,.int .i64 0,.int .i64 0],.agg #[.string ⟨#[]⟩,.int .i64 0,.int .i64 0,.bool false,.bool false,.int .i64 0,.int .i64 0,.int .i64 0,.int .i64 0,.int .i64 0]],[]⟩ 8 (by kernel_rfl) (by kernel_rfl) (by kernel_rfl) (by kernel_rfl)) ?_
 intro W base args ds gs before hval0 hW hcnd _
 have hval:∀ (j:Nat) t v,Tryz.f7.params[j]?=some t->args[j]?=some v->Value.okWide Tryz.prog W .any base t v:=hval0
 have hpost:∀ W',Below W.heap.size W W'->Rows.ktgsAnswersSpec.post enc Tryz.prog Tryz.f7 false true false false W args (.bool true) W':=fun W' hb =>
   law_post Tryz.laidOut (by kernel_rfl) Tryz.underlying4 rfl rfl (fun ds hds=>by
     have hn:ds.length=2:=hds
     match ds,hn with
     | [_,_],_=>rfl) hW hb
 obtain ⟨p,q,hA0,hV,rfl,hfz,hnd⟩:=hW
 have hA:DataW.TrodAll enc Tryz.prog W 0 (fun _=>true) true Tryz.f7.params.toList args.toList ds p:=hA0
 rw [Tryz.params7] at hA hval
 clear hA0 hval0
 obtain ⟨v0,v1,d0,d1,p0,p1,rfl,rfl,rfl,h0,h1⟩:=trodAll_two hA
 obtain ⟨n00,n01,n02,m03,n04,n05,rfl⟩:=open_rules (hval 0 23 v0 rfl rfl) h0
 obtain ⟨a1,rfl⟩:=open_ask (hval 1 63 v1 rfl rfl) h1
 refine (ktgsAnswers_any a1 n00 n01 n02 n04 n05 m03).mono fun e W' ⟨he,hw⟩=>?_
 subst he
 exact ⟨_,rfl,hpost W' hw⟩
theorem ktgsAnswers_holds:Rows.KtgsAnswersSaid:=
 OpenClaim.holds_of_wide 7 Tryz.f7 rfl rfl rfl rfl rfl rfl rfl ⟨rfl,rfl,rfl,rfl,rfl⟩ rfl rfl rfl rfl rfl (by kernel_rfl) Tryz.func7 (by kernel_rfl)
   (of_decide_eq_true (by kernel_rfl)) (by unfold Func.isWrapper;first|(rw [if_pos (by decide +kernel)];kernel_rfl)|(rw [if_neg (by decide +kernel)];exact ⟨rfl,rfl⟩))
   (fun os started H enc _=>ktgsAnswers_lifted os started H enc)
end
end Go.Proofs.YtdefpmmdpfpipaaGreat
