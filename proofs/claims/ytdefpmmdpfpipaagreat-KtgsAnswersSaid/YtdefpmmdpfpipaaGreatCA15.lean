/- Rows of numbers and of structs that come in: opened (law15). -/
import Derived.ProofKit
import Derived.Carry
import Derived.ChangeShapes
import Derived.ChangeMaps5
import Derived.Deep.Slices
import Derived.Test.YtdefpmmdpfpipaaGreatCA14
set_option maxRecDepth 100000
set_option maxHeartbeats 4000000
namespace Go.Proofs.YtdefpmmdpfpipaaGreat
section
open Go.RowKit Go.QT
abbrev fAnn:SFrom:=textF ⟨#[112,97]⟩ bANN
abbrev fBob:SFrom:=textF ⟨#[112,98]⟩ bBOB
theorem place_ann{k k':Fin 16->UInt8}{l r l' r':Int}{m m':Bool}:placeB [User.mk bANN k l r m,User.mk bBOB k' l' r' m'] bANN=true/\[User.mk bANN k l r m,User.mk bBOB k' l' r' m'][placeI [User.mk bANN k l r m,User.mk bBOB k' l' r' m'] bANN]?=some (User.mk bANN k l r m):=⟨by kernel_rfl,by kernel_rfl⟩
theorem place_bob{k k':Fin 16->UInt8}{l r l' r':Int}{m m':Bool}:placeB [User.mk bANN k l r m,User.mk bBOB k' l' r' m'] bBOB=true/\[User.mk bANN k l r m,User.mk bBOB k' l' r' m'][placeI [User.mk bANN k l r m,User.mk bBOB k' l' r' m'] bBOB]?=some (User.mk bBOB k' l' r' m'):=⟨by kernel_rfl,by kernel_rfl⟩
theorem place_new{k:Fin 16->UInt8}{l r:Int}{m:Bool}:placeB [User.mk bANN k l r m] bBOB=false/\placeI [User.mk bANN k l r m] bBOB=1:=⟨by kernel_rfl,by kernel_rfl⟩
/-- The table of a desk. -/
def sO(kk ka kb:Fin 16->UInt8)(b0 b1 b2 b3 b4 b5:Bytes):STab:=
 ⟨[SFrom.fresh,fAnn,fBob,SFrom.fresh,SFrom.fresh],[⟨kl ka,1,b0⟩,⟨kl kk,2,b1⟩,⟨kl ka,3,b2⟩,⟨kl kb,1,b3⟩,⟨kl kk,2,b4⟩,⟨kl kb,3,b5⟩],[],[(fAnn,2),(fBob,3)]⟩
def s0_:STab:=⟨[SFrom.fresh,fAnn,fBob],[],[],[(fAnn,2),(fBob,3)]⟩
def s1_(kk ka:Fin 16->UInt8)(b0 b1 b2:Bytes):STab:=⟨[SFrom.fresh,fAnn,fBob,SFrom.fresh],[⟨kl ka,1,b0⟩,⟨kl kk,2,b1⟩,⟨kl ka,3,b2⟩],[],[(fAnn,2),(fBob,3)]⟩
theorem room_is{s:STab}{n:Nat}(r:Nat)(hb:∀ b ∈ s.boxes,b.body.length<=4096)(hx:s.boxes.length<=n)(hk:s.keys.length<=n)(hn:decide (n+r<1000000)=true):Room r s:=
 ⟨fun b h=>Nat.le_trans (hb b h) (by decide),by have:=of_decide_eq_true hn;omega,by have:=of_decide_eq_true hn;omega⟩
/-- When somebody asks for how long, and what they are given. -/
structure Tim(at_ L Rn Ot:Int)(fl R:Int):Prop where
 at0:0<=at_/\at_<=1023
 l:1<=L/\L<=512
 o:1<=Ot/\Ot<=512
 r:0<=Rn/\Rn<=4095
 fr:(0<Rn/\Rn<=6000/\fl=5/\R=at_+Rn)∨(Rn<=0/\fl=4/\R=0)
/-- What open leaves. -/
def OpnPost(at_ L Rn Ot:Int)(mesh:Bool)(w:World)(e:Ending)(w':World):Prop:=
 ∃ (d sv kb cb bk tb bb:Nat) (G Gc F:Nat->Prop) (kk ka kb_ K1 K2:Fin 16->UInt8) (b0 b1 b2 b3 b4 b5:Bytes) (fl R:Int) (A B:Option Addr) (c c':Nat) (mv:Value),
   e=.returned (pt d 0)/\Tim at_ L Rn Ot fl R/\(kl kk=mkB 107 1/\kl ka=mkB 107 2/\kl kb_=mkB 107 3/\kl K1=mkB 107 4/\kl K2=mkB 107 5) /\
   (packB (.stamp at_ 0)=.inr b0/\packB (.inside fl K1 bANN at_ (min (at_+600) (at_+L)) R)=.inr b1/\packB (.reply fl K1 1 bKDC at_ (min (at_+600) (at_+L)) R)=.inr b2/\packB (.stamp at_ 0)=.inr b3/\packB (.inside 4 K2 bBOB at_ (min (at_+600) (at_+Ot)) 0)=.inr b4/\packB (.reply 4 K2 1 bKDC at_ (min (at_+600) (at_+Ot)) 0)=.inr b5) /\
   Hp (fun _=>False) w w' [] [rBlk d 37 (dkC tb sv (rpC fl K1 1 bKDC at_ (min (at_+600) (at_+L)) R) (rpC 4 K2 1 bKDC at_ (min (at_+600) (at_+Ot)) 0) (.slice A 16 c) (.slice B 16 c')),rBlk sv 73 (svC kb cb bk),rBlk kb 78 (kdcC tb bb kk),rBs G bb [User.mk bANN ka L Rn false,User.mk bBOB kb_ Ot 0 mesh],rCa Gc cb 64 [],rBlk bk 164 [mv],rTab F tb (sO kk ka kb_ b0 b1 b2 b3 b4 b5),rSB (.slice A 16 c) (mkB 98 2),rSB (.slice B 16 c') (mkB 98 5)]
theorem x_kgnew{o:Oper}{a:Act}{F0 F:Nat->Prop}{w0 w:World}{ro rs:List Res}{tb:Nat}{s:STab}(h:Hp F0 w0 w ro rs)(i:Nat)(hi:rs[i]?=some (rTab F tb s))(hs:Room 5 s)(hp:pureVal Tryz.prog (execOp a.eval o)=some (.enter 25 #[.iface 28 (pt tb 0)])) :
   OpTo Tryz.prog o a w (fun u w'=>∃ sv kb cb bk G bb Gc K F' mv,u=pt sv 0/\kl K=mkB 107 (s.keys.length+1)/\Hp F0 w0 w' ro ([rBlk sv 73 (svC kb cb bk),rBlk kb 78 (kdcC tb bb K),rBs G bb [],rCa Gc cb 64 [],rBlk bk 164 [mv],rTab F' tb (s.add SFrom.fresh)]++rs.eraseIdx i)):=
 OpTo.enter 25 [.iface 28 (pt tb 0)] hp (kgnew_any (h.own i _ hi) hs) fun e w' hq=>by
   obtain ⟨sv,kb,cb,bk,G,bb,Gc,K,F',mv,he,hK,h2⟩:=hq
   exact ⟨_,he,sv,kb,cb,bk,G,bb,Gc,K,F',mv,rfl,hK,h.call1 i hi h2⟩
theorem open15_any(La Rn_ Ot_ At_ Lt:Int)(mesh:Bool)(w:World):Calls Tryz.prog 10 #[.agg #[.int .i64 La,.int .i64 Rn_,.int .i64 Ot_,.bool mesh,.int .i64 At_,.int .i64 Lt]] w (OpnPost (bits .and .i64 At_ 1023) (1+bits .and .i64 La 511) (bits .and .i64 Rn_ 4095) (1+bits .and .i64 Ot_ 511) mesh w):=by
 obtain ⟨At,hAt,hAt1⟩:=and_mask At_ 1023 (by decide)
 obtain ⟨L0,hL,hL1⟩:=and_mask La 511 (by decide)
 obtain ⟨Rn,hRn,hRn1⟩:=and_mask Rn_ 4095 (by decide)
 obtain ⟨O0,hO,hO1⟩:=and_mask Ot_ 511 (by decide)
 simp only [show ((1023:Nat):Int)=1023 from rfl,show ((511:Nat):Int)=511 from rfl,show ((4095:Nat):Int)=4095 from rfl] at hAt hL hRn hO
 rw [hAt,hL,hRn,hO]
 obtain ⟨fl,R,hT⟩:∃ fl R,Tim (At:Int) (1+L0) Rn (1+O0) fl R:=by
   by_cases h:0<Rn
   · exact ⟨5,At+Rn,⟨by omega,by omega,by omega,by omega,.inl ⟨by omega,by omega,rfl,rfl⟩⟩⟩
   exact ⟨4,0,⟨by omega,by omega,by omega,by omega,.inr ⟨by omega,rfl,rfl⟩⟩⟩
 obtain ⟨ka,hka⟩:=ex_key 2
 obtain ⟨kb_,hkb⟩:=ex_key 3
 obtain ⟨K1,hK1⟩:=ex_key 4
 obtain ⟨K2,hK2⟩:=ex_key 5
 have hR:0<=R/\R<=10000/\0<=fl/\fl<=5:=by have:=hT.fr;omega
 obtain ⟨b0,hp0⟩:=pack_stamp (t:=(At:Int)) (q:=0) (inN_is (by omega) (by omega)) rfl
 have hin:∀ f u r:Int,(0<=f/\f<=10000)->(0<=u/\u<=10000)->(0<=r/\r<=10000)->∀ x ∈ [f,(At:Int),u,r],inN x=true:=by
   intro f u r h1 h2 h3 x hx
   simp only [List.mem_cons,List.not_mem_nil,or_false] at hx
   rcases hx with rfl|rfl|rfl|rfl <;> exact inN_is (by omega) (by omega)
 have hin2:∀ f u r:Int,(0<=f/\f<=10000)->(0<=u/\u<=10000)->(0<=r/\r<=10000)->∀ x ∈ [f,1,(At:Int),u,r],inN x=true:=by
   intro f u r h1 h2 h3 x hx
   simp only [List.mem_cons,List.not_mem_nil,or_false] at hx
   rcases hx with rfl|rfl|rfl|rfl|rfl <;> exact inN_is (by omega) (by omega)
 obtain ⟨b1,hp1⟩:=pack_inside (K:=K1) (s:=bANN) (rightM_is right_ann (hin fl (min (At+600) (At+(1+L0))) R (by omega) (by omega) (by omega))) (by decide)
 obtain ⟨b2,hp2⟩:=pack_reply (K:=K1) (s:=bKDC) (rightM_is right_kdc (hin2 fl (min (At+600) (At+(1+L0))) R (by omega) (by omega) (by omega))) (by decide)
 obtain ⟨b4,hp4⟩:=pack_inside (K:=K2) (s:=bBOB) (rightM_is right_bob (hin 4 (min (At+600) (At+(1+O0))) 0 (by omega) (by omega) (by omega))) (by decide)
 obtain ⟨b5,hp5⟩:=pack_reply (K:=K2) (s:=bKDC) (rightM_is right_kdc (hin2 4 (min (At+600) (At+(1+O0))) 0 (by omega) (by omega) (by omega))) (by decide)
 have h0:=Hp.nil (fun _=>False) w
 refine mE 102 ?_
 refine mN h0 23 ([(Value.int .i64 La),(Value.int .i64 Rn_),(Value.int .i64 Ot_),(Value.bool mesh),(Value.int .i64 At_),(Value.int .i64 Lt)]) fun g2 w2 h2=>?_
 refine mT (x_snew h2 (by kernel_rfl)) ?_
 rintro _ w4 ⟨tb4,F4,rfl,h4⟩
 refine mT (x_kgnew h4 0 rfl (room_is (n:=0) 5 (fun b hb=>by cases hb) (by decide) (by decide) (by decide)) (by kernel_rfl)) ?_
 rintro _ w6 ⟨sv,kb,cb,bk,G6,bb,Gc,kk,F6,mv,rfl,hkk,h6⟩
 refine mN h6 37 ([(pt tb4 0),(pt sv 0),(Value.int .i64 0)]++vb (List.replicate 16 0)++[(Value.int .i64 0),(Value.string ByteArray.empty),(Value.int .i64 0),(Value.int .i64 0),(Value.int .i64 0),(Value.int .i64 0)]++vb (List.replicate 16 0)++[(Value.int .i64 0),(Value.string ByteArray.empty),(Value.int .i64 0),(Value.int .i64 0),(Value.int .i64 0),(Value.string ByteArray.empty),(Value.slice none 0 0),(Value.string ByteArray.empty),(Value.slice none 0 0)]) fun g7 w7 h7=>?_
 refine ma h7 0 ?_
 refine ma h7 0 ?_
 refine ma h7 1 ?_
 refine ma h7 7 ?_
 refine mX 34 (Value.int .i64 ((At:Int))) (Value.int .i64 (bits .and .i64 At_ 1023)) (congrArg (Value.int .i64) hAt) ?_
 refine dG h7 14 13 (fun W=>(rBlk g2 23 ([(Value.int .i64 La),(Value.int .i64 Rn_),(Value.int .i64 Ot_),(Value.bool mesh),(Value.int .i64 At_),(Value.int .i64 Lt)])).Φ W/\True) (fun w12 h12=>⟨h12.at_ 7 rfl,trivial⟩) ?_
 intro w12 h12
 refine dP 11 [0,4,7] ?_
 refine dL 1 (fun W hW=>hW.1) ?_
 refine dV 2 (v:=(Value.int .i64 ((L0:Int)))) (fun W hW=>eqI (Value.int .i64 (bits .and .i64 La 511)) (congrArg (Value.int .i64) hL)) ?_
 refine dV 3 (fun W hW=>exec_add _ _ _ _ bO 1 (L0:Int) (by kernel_rfl) (by kernel_rfl) (1+(L0:Int)) rfl (by omega) (by omega) _) ?_
 refine dP 7 [11] ?_
 refine dL 5 (fun W hW=>hW.1) ?_
 refine dV 6 (v:=(Value.int .i64 ((Rn:Int)))) (fun W hW=>eqI (Value.int .i64 (bits .and .i64 Rn_ 4095)) (congrArg (Value.int .i64) hRn)) ?_
 refine dP 4 [12] ?_
 refine dL 8 (fun W hW=>hW.1) ?_
 refine dV 9 (v:=(Value.int .i64 ((O0:Int)))) (fun W hW=>eqI (Value.int .i64 (bits .and .i64 Ot_ 511)) (congrArg (Value.int .i64) hO)) ?_
 refine dV 10 (fun W hW=>exec_add _ _ _ _ bO 1 (O0:Int) (by kernel_rfl) (by kernel_rfl) (1+(O0:Int)) rfl (by omega) (by omega) _) ?_
 refine dN 13 ?_
 refine dX ?_
 refine dG h12 25 25 (fun W=>(rBlk g7 37 ([(pt tb4 0),(pt sv 0),(Value.int .i64 0)]++vb (List.replicate 16 0)++[(Value.int .i64 0),(Value.string ByteArray.empty),(Value.int .i64 0),(Value.int .i64 0),(Value.int .i64 0),(Value.int .i64 0)]++vb (List.replicate 16 0)++[(Value.int .i64 0),(Value.string ByteArray.empty),(Value.int .i64 0),(Value.int .i64 0),(Value.int .i64 0),(Value.string ByteArray.empty),(Value.slice none 0 0),(Value.string ByteArray.empty),(Value.slice none 0 0)])).Φ W/\(rBlk sv 73 ([(pt kb 0),(pt cb 0),(pt bk 0)])).Φ W/\(rBlk g2 23 ([(Value.int .i64 La),(Value.int .i64 Rn_),(Value.int .i64 Ot_),(Value.bool mesh),(Value.int .i64 At_),(Value.int .i64 Lt)])).Φ W/\True) (fun w15 h15=>⟨h15.at_ 0 rfl,h15.at_ 1 rfl,h15.at_ 7 rfl,trivial⟩) ?_
 intro w15 h15
 refine dP 20 [0,1,2,7,8] ?_
 refine dL 3 (fun W hW=>hW.1) ?_
 refine dP 17 [4,5] ?_
 refine dL 6 (fun W hW=>hW.2.1) ?_
 refine dT 9 (x_enrol (us':=[User.mk bANN ka (1+(L0:Int)) Rn false]) (f:=fAnn) (er:=0) h15 6 3 rfl rfl rfl [(pt kb 0),(Value.string (⟨#[97,110,110]⟩)),(Value.string (⟨#[112,97]⟩)),(Value.int .i64 (1+(L0:Int))),(Value.int .i64 ((Rn:Int))),(Value.bool false)] (by kernel_rfl) (enrol_ok (name:=bANN) (pw:=⟨#[112,97]⟩) (h15.at_ 6 rfl) (h15.at_ 3 rfl) (h15.dis 6 3 _ _ rfl rfl (by decide)) (room_is (n:=9) 5 (fun b hb=>by cases hb) (by decide) (by decide) (by decide)) (h15.at_ 2 rfl) (fun hq=>h15.dis 6 2 _ _ rfl rfl (by decide) _ hq rfl) (fun hq=>h15.dis 3 2 _ _ rfl rfl (by decide) _ hq rfl) (by decide) (by decide) ka (hka.trans (congrArg (mkB 107) (by kernel_rfl))) (by simp) right_ann (by omega) rfl (by simp) rfl)) ?_
 rintro _ w16 ⟨F16,G16,s16,rfl,hs16,h16⟩
 rw [hs16,show STab.made ((STab.empty.add SFrom.fresh)) fAnn=(⟨[SFrom.fresh,fAnn],[],[],[(fAnn,2)]⟩:STab) from by kernel_rfl] at h16
 refine ⟨⟨h16.at_ 0 rfl,h16.at_ 1 rfl,h16.at_ 7 rfl,trivial⟩,?_⟩
 refine dP 8 [10,11,12,13,14,19,20] ?_
 refine dL 15 (fun W hW=>hW.1) ?_
 refine dP 5 [16,17] ?_
 refine dL 18 (fun W hW=>hW.2.1) ?_
 refine dL 21 (fun W hW=>hW.2.2.1) ?_
 refine dT 22 (x_enrol (us':=[User.mk bANN ka (1+(L0:Int)) Rn false,User.mk bBOB kb_ (1+(O0:Int)) 0 mesh]) (f:=fBob) (er:=0) h16 6 3 rfl rfl rfl [(pt kb 0),(Value.string (⟨#[98,111,98]⟩)),(Value.string (⟨#[112,98]⟩)),(Value.int .i64 (1+(O0:Int))),(Value.int .i64 0),(Value.bool mesh)] (by kernel_rfl) (enrol_ok (name:=bBOB) (pw:=⟨#[112,98]⟩) (h16.at_ 6 rfl) (h16.at_ 3 rfl) (h16.dis 6 3 _ _ rfl rfl (by decide)) (room_is (n:=9) 5 (fun b hb=>by cases hb) (by decide) (by decide) (by decide)) (h16.at_ 2 rfl) (fun hq=>h16.dis 6 2 _ _ rfl rfl (by decide) _ hq rfl) (fun hq=>h16.dis 3 2 _ _ rfl rfl (by decide) _ hq rfl) (by decide) (by decide) kb_ (hkb.trans (congrArg (mkB 107) (by kernel_rfl))) (by simp) right_bob (by omega) place_new.1 (by simp) place_new.2)) ?_
 rintro _ w17 ⟨F17,G17,s17,rfl,hs17,h17⟩
 rw [hs17,show STab.made ((⟨[SFrom.fresh,fAnn],[],[],[(fAnn,2)]⟩:STab)) fBob=s0_ from by kernel_rfl] at h17
 refine ⟨⟨h17.at_ 0 rfl,h17.at_ 1 rfl,h17.at_ 7 rfl,trivial⟩,?_⟩
 refine dP 0 [23,24] ?_
 refine dX ?_
 refine mT (x_login (nb:=0) (s3:=((((s0_.seal (kl ka) 1 b0).add SFrom.fresh).seal (kl kk) 2 b1).seal (kl ka) 3 b2)) (rc:=(rpC fl K1 1 bKDC At (min (At+600) (At+(1+L0))) R)) h17 6 rfl [(pt g7 0),(Value.string (⟨#[97,110,110]⟩)),(Value.string (⟨#[112,97]⟩)),(Value.int .i64 ((At:Int)))] (by kernel_rfl) (login15_any (u:=(User.mk bANN ka (1+(L0:Int)) Rn false)) (pw:=⟨#[112,97]⟩) (h17.carve1 6 rfl [(true,0),(true,1),(true,2),(true,3)] rfl rfl) (room_is (n:=9) 12 (fun b hb=>by cases hb) (by decide) (by decide) (by decide)) (by simp) place_ann.1 place_ann.2 (hka.trans (congrArg (mkB 107) (by kernel_rfl))) (by kernel_rfl) (by decide) (show (3:Nat)<=1000 by decide) (by omega) (by show 0<=1+(L0:Int)/\1+(L0:Int)<=600;omega) (hK1.trans (congrArg (mkB 107) (by kernel_rfl))) hT.fr hp0 hp1 hp2)) ?_
 rintro _ w21 ⟨A21,c21,F21,rfl,h21⟩
 refine mT (xR h21 2 ([(pt tb4 0),(pt sv 0),(Value.int .i64 fl)]++vb (kl K1)++[(Value.int .i64 1),(Value.string bKDC),(Value.int .i64 ((At:Int))),(Value.int .i64 ((min ((At:Int)+600) ((At:Int)+(1+(L0:Int)))))),(Value.int .i64 R),(Value.int .i64 0)]++vb (List.replicate 16 0)++[(Value.int .i64 0),(Value.string ByteArray.empty),(Value.int .i64 0),(Value.int .i64 0),(Value.int .i64 0),(Value.string ByteArray.empty),(Value.slice none 0 0),(Value.string ByteArray.empty),(Value.slice none 0 0)])) fun _ w22 h22=>?_
 refine mT (xR h22 2 ([(pt tb4 0),(pt sv 0),(Value.int .i64 fl)]++vb (kl K1)++[(Value.int .i64 1),(Value.string bKDC),(Value.int .i64 ((At:Int))),(Value.int .i64 ((min ((At:Int)+600) ((At:Int)+(1+(L0:Int)))))),(Value.int .i64 R),(Value.int .i64 0)]++vb (List.replicate 16 0)++[(Value.int .i64 0),(Value.string ByteArray.empty),(Value.int .i64 0),(Value.int .i64 0),(Value.int .i64 0),(Value.string bKDC),(Value.slice A21 16 c21),(Value.string ByteArray.empty),(Value.slice none 0 0)])) fun _ w23 h23=>?_
 have h27:=h23
 rw [show ((((s0_.seal (kl ka) 1 b0).add SFrom.fresh).seal (kl kk) 2 b1).seal (kl ka) 3 b2)=s1_ kk ka b0 b1 b2 from rfl] at h27
 have hrm1:Room 12 (s1_ kk ka b0 b1 b2):=by
   refine room_is (n:=9) 12 ?_ (by show 3<=9;decide) (by show 4<=9;decide) (by decide)
   intro b hb
   simp only [s1_,List.mem_cons,List.not_mem_nil,or_false] at hb
   rcases hb with rfl|rfl|rfl
   · exact pack_le hp0
   · exact pack_le hp1
   exact pack_le hp2
 refine mT (x_login (nb:=3) (s3:=(((((s1_ kk ka b0 b1 b2).seal (kl kb_) 1 b0).add SFrom.fresh).seal (kl kk) 2 b4).seal (kl kb_) 3 b5)) (rc:=(rpC 4 K2 1 bKDC At (min (At+600) (At+(1+O0))) 0)) h27 0 rfl [(pt g7 0),(Value.string (⟨#[98,111,98]⟩)),(Value.string (⟨#[112,98]⟩)),(Value.int .i64 ((At:Int)))] (by kernel_rfl) (login15_any (u:=(User.mk bBOB kb_ (1+(O0:Int)) 0 mesh)) (pw:=⟨#[112,98]⟩) (h27.carve1 0 rfl [(true,2),(true,3),(true,4),(true,5)] rfl rfl) hrm1 (by simp) place_bob.1 place_bob.2 (hkb.trans (congrArg (mkB 107) (by kernel_rfl))) (by kernel_rfl) (by decide) (show (3:Nat)<=1000 by decide) (by omega) (by show 0<=1+(O0:Int)/\1+(O0:Int)<=600;omega) (hK2.trans (congrArg (mkB 107) (by kernel_rfl))) (.inr ⟨show (0:Int)<=0 from by decide,rfl,rfl⟩) hp0 hp4 hp5)) ?_
 rintro _ w28 ⟨A28,c28,F28,rfl,h28⟩
 refine mT (xR h28 3 ([(pt tb4 0),(pt sv 0),(Value.int .i64 fl)]++vb (kl K1)++[(Value.int .i64 1),(Value.string bKDC),(Value.int .i64 ((At:Int))),(Value.int .i64 ((min ((At:Int)+600) ((At:Int)+(1+(L0:Int)))))),(Value.int .i64 R),(Value.int .i64 4)]++vb (kl K2)++[(Value.int .i64 1),(Value.string bKDC),(Value.int .i64 ((At:Int))),(Value.int .i64 ((min ((At:Int)+600) ((At:Int)+(1+(O0:Int)))))),(Value.int .i64 0),(Value.string bKDC),(Value.slice A21 16 c21),(Value.string ByteArray.empty),(Value.slice none 0 0)])) fun _ w29 h29=>?_
 refine mT (xR h29 3 ([(pt tb4 0),(pt sv 0),(Value.int .i64 fl)]++vb (kl K1)++[(Value.int .i64 1),(Value.string bKDC),(Value.int .i64 ((At:Int))),(Value.int .i64 ((min ((At:Int)+600) ((At:Int)+(1+(L0:Int)))))),(Value.int .i64 R),(Value.int .i64 4)]++vb (kl K2)++[(Value.int .i64 1),(Value.string bKDC),(Value.int .i64 ((At:Int))),(Value.int .i64 ((min ((At:Int)+600) ((At:Int)+(1+(O0:Int)))))),(Value.int .i64 0),(Value.string bKDC),(Value.slice A21 16 c21),(Value.string bKDC),(Value.slice A28 16 c28)])) fun _ w30 h30=>?_
 refine mP (pt g7 0) ?_
 exact ⟨_,_,_,_,_,_,_,_,_,_,kk,ka,kb_,K1,K2,b0,b1,b2,b0,b4,b5,fl,R,_,_,_,_,_,rfl,hT,⟨hkk,hka,hkb,hK1,hK2⟩,⟨hp0,hp1,hp2,hp0,hp4,hp5⟩,(show Hp _ _ _ _ [_,_,_,_,_,_,rTab _ _ (sO kk ka kb_ b0 b1 b2 b0 b4 b5),_,_] from h30.sel [3,4,5,6,7,8,0,2,1] [] rfl rfl rfl)⟩
end
section
open Go.RowKit Go.QT
theorem x_open15{o:Oper}{a:Act}{F0:Nat->Prop}{w0 w:World}{ro rs:List Res}{at_ L Rn Ot:Int}{mesh:Bool}(h:Hp F0 w0 w ro rs)(al:List Value)(hp:pureVal Tryz.prog (execOp a.eval o)=some (.enter 10 al.toArray))(hc:Calls Tryz.prog 10 al.toArray w (OpnPost at_ L Rn Ot mesh w)) :
   OpTo Tryz.prog o a w (fun u w'=>∃ (d sv kb cb bk tb bb:Nat) (G Gc F:Nat->Prop) (kk ka kb_ K1 K2:Fin 16->UInt8) (b0 b1 b2 b3 b4 b5:Bytes) (fl R:Int) (A B:Option Addr) (c c':Nat) (mv:Value),
   u=pt d 0/\Tim at_ L Rn Ot fl R/\(kl kk=mkB 107 1/\kl ka=mkB 107 2/\kl kb_=mkB 107 3/\kl K1=mkB 107 4/\kl K2=mkB 107 5) /\
   (packB (.stamp at_ 0)=.inr b0/\packB (.inside fl K1 bANN at_ (min (at_+600) (at_+L)) R)=.inr b1/\packB (.reply fl K1 1 bKDC at_ (min (at_+600) (at_+L)) R)=.inr b2/\packB (.stamp at_ 0)=.inr b3/\packB (.inside 4 K2 bBOB at_ (min (at_+600) (at_+Ot)) 0)=.inr b4/\packB (.reply 4 K2 1 bKDC at_ (min (at_+600) (at_+Ot)) 0)=.inr b5) /\
   Hp F0 w0 w' ro ([rBlk d 37 (dkC tb sv (rpC fl K1 1 bKDC at_ (min (at_+600) (at_+L)) R) (rpC 4 K2 1 bKDC at_ (min (at_+600) (at_+Ot)) 0) (.slice A 16 c) (.slice B 16 c')),rBlk sv 73 (svC kb cb bk),rBlk kb 78 (kdcC tb bb kk),rBs G bb [User.mk bANN ka L Rn false,User.mk bBOB kb_ Ot 0 mesh],rCa Gc cb 64 [],rBlk bk 164 [mv],rTab F tb (sO kk ka kb_ b0 b1 b2 b3 b4 b5),rSB (.slice A 16 c) (mkB 98 2),rSB (.slice B 16 c') (mkB 98 5)]++rs)):=
 OpTo.enter 10 al hp hc fun e w' hq=>by
   obtain ⟨d,sv,kb,cb,bk,tb,bb,G,Gc,F,kk,ka,kb_,K1,K2,b0,b1,b2,b3,b4,b5,fl,R,A,B,c,c',mv,he,h1,h2,h3,h4⟩:=hq
   exact ⟨_,he,d,sv,kb,cb,bk,tb,bb,G,Gc,F,kk,ka,kb_,K1,K2,b0,b1,b2,b3,b4,b5,fl,R,A,B,c,c',mv,rfl,h1,h2,h3,h.call0 h4⟩
/-- The bytes of a request, without what shows who asks. -/
def qB(srv:ByteArray)(nn till:Int)(r m:Bool)(l:Bytes)(xs:List Xt):Bytes:=wrV (tgsD srv nn till r m (.ticket bKDC l) [] (xs.map Xt.th))
section
variable{F0:Nat->Prop}{w0 w:World}{ro rs:List Res}
theorem rv_one{g:Nat}{T:TypeId}{s:ByteArray}{v:Value}(hb:Blk w g T [.string s,v]):RV w 2 (some ⟨g,0,none⟩) 1 [[.string s,v]]:=by
 refine ⟨Nat.le_refl _,by unfold maxLen;omega,by simp,fun _=>⟨g,0,rfl,hb.lt,fun i x hx j u hu=>?_⟩⟩
 cases i with
 | zero =>
   injection hx with hx
   subst hx
   rw [show 0+0*2+j=j by omega]
   exact (hb.cell _).trans hu
 | succ i=>simp at hx
/-- A request's ticket and the one beside it, as one thing. -/
def rQx(A:Option Addr)(c:Nat)(l:Bytes)(E:Option Addr)(ce:Nat)(xs:List Xt):Res:=rBoth (rSB (.slice A l.length c) l) (rXt E ce xs)
theorem Hp.addQ1(h:Hp F0 w0 w ro rs)(i j k:Nat){A B:Option Addr}{c c' g:Nat}{T:TypeId}{l m:Bytes}{s:ByteArray}(hi:ro[i]?=some (rSB (.slice A l.length c) l))(hj:ro[j]?=some (rSB (.slice B m.length c') m))(hk:ro[k]?=some (rBlk g T [.string s,.slice B m.length c'])) :
   Hp F0 w0 w (rQx A c l (some ⟨g,0,none⟩) 1 [⟨s,m,B,c'⟩]::ro) rs:=by
 refine h.addR _ ⟨h.rd i hi,rv_one (h.rd k hk),fun x hx=>?_⟩ fun n t ht q hq h2=>?_
 · have:x=⟨s,m,B,c'⟩:=by simpa using hx
   subst this;exact h.rd j hj
 rcases hq with hq|hq|⟨x,hx,hq⟩
 · exact h.rdis i n _ t hi ht q hq h2
 · have:g=q:=by simpa [ownA] using hq.2
   exact h.rdis k n _ t hk ht q this.symm h2
 have:x=⟨s,m,B,c'⟩:=by simpa using hx
 subst this;exact h.rdis j n _ t hj ht q hq h2
end
/-- Sum, of a request that is held so. -/
theorem sumQ_any{F:Nat->Prop}{tb:Nat}{st:STab}{srv:ByteArray}{nn till:Int}{r m:Bool}{l:Bytes}{xs:List Xt}{C D E:Option Addr}{cc an ca ce:Nat}(hsm:st.sums.length<=1000)(hx:okXt xs)(hs:rightN srv=true)(hsl:srv.size<=300)(hn:inN nn=true)(ht:inN till=true)(hll:l.length<=300)(hlen:(qB srv nn till r m l xs).length<=4096)
   (w':World) (hT:(rTab F tb st).Φ w') (hq:(rQx C cc l E ce xs).Φ w') (hd:(rQx C cc l E ce xs).dj (rTab F tb st)) :
   Calls Tryz.prog 23 #[.iface 28 (pt tb 0),.iface 40 (.agg #[.string srv,.int .i64 nn,.int .i64 till,.bool r,.bool m,.string bKDC,.slice C l.length cc,.slice D an ca,.slice E xs.length ce])] w' (SumPost F tb st (qB srv nn till r m l xs) w'):=
 sumTgs_any hT (by omega) hq.1 (fun q h1 h2=>hd q (.inl h1) h2) hq.2 (fun q h1 h2=>hd q (.inr h1) h2) hx hs (by omega) hn ht ⟨by decide,by omega⟩ right_kdc hlen
theorem tkD_len{s:ByteArray}{b:Bytes}(h1:s.size<=300)(h2:b.length<=300):(wrV (valD (.ticket s b))).length<=630:=by
 have h0:=wrV_leT (valD (.ticket s b))
 have e:bodyV (valD (.ticket s b))=wrL (valL (.ticket s b)):=rfl
 rw [e] at h0
 have h3:=wr_bD s.data.toList
 have h4:=wr_bD b
 rw [size_toList] at h3
 simp only [valL,wrL,List.length_append,List.length_nil] at h0
 omega
theorem xsD_len:∀ (xs:List Xt),(∀ x ∈ xs,x.s.size<=300/\x.b.length<=300)->xs.length<=1->(wrV (.mk 2 0 0 [] ((xs.map Xt.th).map valD))).length<=640
 | [],_,_=>by
   have h2:=wrV_leT (.mk 2 0 0 [] [])
   have e2:bodyV (.mk 2 0 0 [] [])=wrL []:=rfl
   rw [e2,wrL] at h2
   exact Nat.le_trans h2 (by decide)
 | [x],hx,_=>by
   have h2:=wrV_leT (.mk 2 0 0 [] [valD x.th])
   have e2:bodyV (.mk 2 0 0 [] [valD x.th])=wrL [valD x.th]:=rfl
   rw [e2] at h2
   simp only [wrL,List.length_append,List.length_nil] at h2
   have h3:(wrV (valD x.th)).length<=630:=tkD_len (hx x (by simp)).1 (hx x (by simp)).2
   exact Nat.le_trans h2 (by omega)
 | _::_::_,_,h=>absurd h (by simp)
theorem qB_len{srv:ByteArray}{nn till:Int}{r m:Bool}{l:Bytes}{xs:List Xt}(hs:srv.size<=300)(hl:l.length<=300)(hx:∀ x ∈ xs,x.s.size<=300/\x.b.length<=300)(h1:xs.length<=1):(qB srv nn till r m l xs).length<=4096:=by
 have a8:=xsD_len xs hx h1
 have a6:=tkD_len (s:=bKDC) (show (3:Nat)<=300 by decide) hl
 unfold qB
 generalize xs.map Xt.th=ys at *
 have h0:=wrV_leT (tgsD srv nn till r m (.ticket bKDC l) [] ys)
 have e:bodyV (tgsD srv nn till r m (.ticket bKDC l) [] ys)=wrL [bD srv.data.toList,nD nn,nD till,nD r.toNat,nD m.toNat,valD (.ticket bKDC l),bD [],.mk 2 0 0 [] (ys.map valD)]:=rfl
 rw [e] at h0
 have a1:=wr_bD srv.data.toList
 have a2:=wr_nD nn
 have a3:=wr_nD till
 have a4:=wr_nD (r.toNat:Int)
 have a5:=wr_nD (m.toNat:Int)
 have a7:=wr_bD []
 rw [size_toList] at a1
 simp only [wrL,List.length_append,List.length_nil] at h0 a7
 refine Nat.le_trans h0 ?_
 omega
section
variable{F G Gb:Nat->Prop}{sv kb cb bk tb bb most ce:Nat}{Kk Ki Kx K K2:Fin 16->UInt8}{s:STab}{sl:List Sh}{us:List User}{us_:User}{srv:ByteArray}{now nn till f fo a u r pf pa pu pr t q:Int}{C D E B:Option Addr}{c d e n:Nat}{l au pb b1 b2:Bytes}{w:World}
theorem tgsMet_any(h0:Hp (fun q=>F q∨G q) w w [rBlk sv 73 (svC kb cb bk),rBlk kb 78 (kdcC tb bb Kk),rSB (.slice C l.length c) l,rSB (.slice D au.length d) au,rQx C c l E ce [⟨bKDC,pb,B,e⟩],rBs Gb bb us] [rTab F tb s,rCa G cb most sl])
   (hrm:Room 8 s) (hsm:s.sums.length<=1000) (hx:openTh s (kl Kk) 2 l=.inr (.inside f Ki bANN a u r)) (hu:now<u) (hk:SK s (qB srv nn till false true l [⟨bKDC,pb,B,e⟩]) n) (hau:openTh s (kl Ki) 7 au=.inr (.authent bANN t q K2 (mkB 100 (n+1))))
   (hnear:nearF now t=true) (hsl:∀ y ∈ sl,0<=y.t/\y.t<=1099511627776) (hsn:(⟨bANN,t,q⟩:Sh) ∉ sl) (hmost:sl.length<most) (hmm:most<=1000)
   (hy:openTh s (kl Kk) 2 pb=.inr (.inside pf Kx srv pa pu pr)) (hpu:now<pu) (h32:us.length<=1000) (hb2:placeB us srv=true) (hu2:us[placeI us srv]?=some us_) (hmesh:us_.mesh=true) (hne:srv.toList≠bANN.toList)
   (hsr:rightN srv=true) (hss:srv.size<=300) (hn:inN nn=true) (ht:inN till=true) (hll:l.length<=300) (hpb:pb.length<=300) (hlen:(qB srv nn till false true l [⟨bKDC,pb,B,e⟩]).length<=4096) (hlt:now<till)
   (hK:kl K=mkB 107 (s.keys.length+1)) (hp1:packB (.inside 2 K bANN a (min (min till u) pu) 0)=.inr b1) (hp2:packB (.reply 2 K nn srv a (min (min till u) pu) 0)=.inr b2) :
   Calls Tryz.prog 12 #[pt sv 0,.int .i64 now,.agg ([Value.string srv,.int .i64 nn,.int .i64 till,.bool false,.bool true,.string bKDC,.slice C l.length c,.slice D au.length d,.slice E 1 ce]).toArray] w (TgPost F G tb cb most s.boxes.length bANN srv (((s.add SFrom.fresh).seal (kl Kx) 2 b1).seal (kl Ki) 8 b2) (keptF now sl++[⟨bANN,t,q⟩]) w):=by
 have hd:s.digest (qB srv nn till false true l [⟨bKDC,pb,B,e⟩])=s:=dig_old hk
 refine tgs_met (f:=f) (u:=u) (r:=r) (a:=a) (Ki:=Ki) (c1:=bANN) (s2:=s) (sl2:=keptF now sl++[⟨bANN,t,q⟩]) h0 (fun w' h=>?_) hrm hK hlt (by decide) (by omega) (fun F' w' h=>?_) hp1 hp2
 · have hw:=who_any (β:=qB srv nn till false true l [⟨bKDC,pb,B,e⟩]) (rr:=(0,keptF now sl++[⟨bANN,t,q⟩])) h hrm.ok (by omega) hx hu hau (by rw [hk.1])
     (sumQ_any (xs:=[⟨bKDC,pb,B,e⟩]) (D:=D) (an:=au.length) (ca:=d) hsm ⟨Nat.le_refl _,fun x hx=>by rw [List.mem_singleton.1 hx];exact ⟨right_kdc,show (3:Nat)<=100000 by decide,by show pb.length<=100000;omega⟩⟩ hsr hss hn ht hll hlen)
     (fun w' hC=>show_ok (x:=⟨bANN,t,q⟩) hC hnear hsl (by omega) hsn hmost (by omega))
   rw [hd] at hw
   exact hw
 have hq:=h.rd 4 rfl
 have h1:=((h.addR (rSB (.slice B pb.length e) pb) (hq.2.2 ⟨bKDC,pb,B,e⟩ (by simp)) (by simp)).addR (rRV 2 E ce [[.string bKDC,.slice B pb.length e]]) hq.2.1 (by simp))
 exact met_ok (h1.carve0 [(false,2),(false,3),(false,4),(false,5),(false,0),(false,1)] rfl) hrm.ok (by omega) hy hpu hb2 hu2 hmesh hne
/-- .. refused, as it was shown before. -/
theorem tgsTwice_any{m_ qr:Bool}{xs:List Xt}(h0:Hp (fun q=>F q∨G q) w w [rBlk sv 73 (svC kb cb bk),rBlk kb 78 (kdcC tb bb Kk),rSB (.slice C l.length c) l,rSB (.slice D au.length d) au,rQx C c l E ce xs,rBs Gb bb us] [rTab F tb s,rCa G cb most sl])
   (hrm:Room 8 s) (hsm:s.sums.length<=1000) (hx:openTh s (kl Kk) 2 l=.inr (.inside f Ki bANN a u r)) (hu:now<u) (hk:SK s (qB srv nn till qr m_ l xs) n) (hau:openTh s (kl Ki) 7 au=.inr (.authent bANN t q K2 (mkB 100 (n+1))))
   (hnear:nearF now t=true) (hsl:∀ y ∈ sl,0<=y.t/\y.t<=1099511627776) (hsn:(⟨bANN,t,q⟩:Sh) ∈ sl) (hsl2:sl.length<=1000) (hok:okXt xs)
   (hsr:rightN srv=true) (hss:srv.size<=300) (hn:inN nn=true) (ht:inN till=true) (hll:l.length<=300) (hlen:(qB srv nn till qr m_ l xs).length<=4096) :
   Calls Tryz.prog 12 #[pt sv 0,.int .i64 now,.agg ([Value.string srv,.int .i64 nn,.int .i64 till,.bool qr,.bool m_,.string bKDC,.slice C l.length c,.slice D au.length d,.slice E xs.length ce]).toArray] w (TgNo F G tb cb most 14 s sl w):=by
 have hd:s.digest (qB srv nn till qr m_ l xs)=s:=dig_old hk
 refine tgs_err (f:=f) (u:=u) (r:=r) (a:=a) (Ki:=Ki) (c1:=bANN) (s2:=s) (sl2:=sl) h0 (fun w' h=>?_) (by decide)
 have hw:=who_any (β:=qB srv nn till qr m_ l xs) (rr:=(14,sl)) h hrm.ok (by omega) hx hu hau (by rw [hk.1])
   (sumQ_any (xs:=xs) (D:=D) (an:=au.length) (ca:=d) hsm hok hsr hss hn ht hll hlen)
   (fun w' hC=>show_twice (x:=⟨bANN,t,q⟩) hC hnear hsl (by omega) hsn)
 rw [hd] at hw
 exact hw
end
section
variable{kk ka kb_:Fin 16->UInt8}{b0 b1 b2 b3 b4 b5:Bytes}
theorem bxOx:(sO kk ka kb_ b0 b1 b2 b3 b4 b5).box (mkB 98 2)=some ⟨kl kk,2,b1⟩:=box_at (s:=sO kk ka kb_ b0 b1 b2 b3 b4 b5) (n:=1) rfl (by decide)
theorem bxOy:(sO kk ka kb_ b0 b1 b2 b3 b4 b5).box (mkB 98 5)=some ⟨kl kk,2,b4⟩:=box_at (s:=sO kk ka kb_ b0 b1 b2 b3 b4 b5) (n:=4) rfl (by decide)
theorem roomO{t0 t1 t2 t3 t4 t5:Thing}(h0:packB t0=.inr b0)(h1:packB t1=.inr b1)(h2:packB t2=.inr b2)(h3:packB t3=.inr b3)(h4:packB t4=.inr b4)(h5:packB t5=.inr b5):Room 900000 (sO kk ka kb_ b0 b1 b2 b3 b4 b5):=by
 refine room_is (n:=9) 900000 ?_ (by show 6<=9;decide) (by show 5<=9;decide) (by decide)
 intro b hb
 simp only [sO,List.mem_cons,List.not_mem_nil,or_false] at hb
 rcases hb with rfl|rfl|rfl|rfl|rfl|rfl
 · exact pack_le h0
 · exact pack_le h1
 · exact pack_le h2
 · exact pack_le h3
 · exact pack_le h4
 exact pack_le h5
end
section
variable{s:STab}{β k b l:Bytes}{u:Int}{n:Nat}{x:SSealed}
/-- The table behind auth. -/
theorem au_box(hn:s.boxes.length=n)(hl:n<1000000):((s.digest β).seal k u b).box (mkB 98 (n+1))=some ⟨k,u,b⟩:=by
 subst hn
 have:=bx_new (s:=s.digest β) (k:=k) (u:=u) (b:=b) (by rw [dig_boxes];exact hl)
 rwa [dig_boxes] at this
theorem au_old(h:s.box l=some x):((s.digest β).seal k u b).box l=some x:=bx_seal (bx_dig.trans h)
theorem au_len(hn:s.boxes.length=n):((s.digest β).seal k u b).boxes.length=n+1:=by rw [seal_len,dig_boxes,hn]
theorem au_keys(hn:s.keys.length=n):((s.digest β).seal k u b).keys.length=n:=by show (s.digest β).keys.length=n;rw [dig_keys,hn]
theorem au_sk:SK ((s.digest β).seal k u b) β (s.sumAt β):=sk_new
theorem au_sums(hn:s.sums.length<=n):((s.digest β).seal k u b).sums.length<=n+1:=dig_len hn
end
end
section
open Go.Value renaming int->iV,slice->lV,string->sV,bool->bV,agg->aV
open Go.RowKit Go.QT
theorem bob_ne:(⟨#[98,111,98]⟩:ByteArray).toList≠bANN.toList:=by decide +kernel
theorem bx_newN{s:STab}{k b:Bytes}{u:Int}{n:Nat}(hn:s.boxes.length=n)(hl:n<1000000):(s.seal k u b).box (mkB 98 (n+1))=some ⟨k,u,b⟩:=by
 subst hn;exact bx_new hl
theorem alive15_any(w:World):Calls Tryz.prog 9 #[] w (DPost w (.bool true)):=by
 have hopn:∀ w,Calls Tryz.prog 10 #[.agg #[.int .i64 99,.int .i64 500,.int .i64 49,.bool true,.int .i64 100,.int .i64 0]] w (OpnPost 100 100 500 50 true w):=by
   intro w
   have h:=open15_any 99 500 49 100 0 true w
   rwa [show bits .and .i64 100 1023=100 from by kernel_rfl,show (1:Int)+bits .and .i64 99 511=100 from by kernel_rfl,show bits .and .i64 500 4095=500 from by kernel_rfl,show (1:Int)+bits .and .i64 49 511=50 from by kernel_rfl] at h
 have h0:=Hp.nil (fun _=>False) w
 refine mE 135 ?_
 refine mT (x_open15 (at_:=100) (L:=100) (Rn:=500) (Ot:=50) (mesh:=true) h0 [(aV ([(zD 99),(zD 500),(zD 49),zI,(zD 100),zO]).toArray)] (by kernel_rfl) (hopn _)) ?_
 rintro _ w3 ⟨d,sv,kb,cb,bk,tb,bb,G,Gc,F,kk,ka,kb_,K1,K2,b0,b1,b2,b3,b4,b5,fl,R,A,B,c,c',mv,rfl,hT,⟨hkk,hka,hkb,hK1,hK2⟩,⟨hp0,hp1,hp2,hp3,hp4,hp5⟩,h3⟩
 have h4:=h3.share 7 rfl
 have h5:=h4.share 7 rfl
 refine mJ 2000004 (fun aJ wJ10=>∃ (gJ9_0:Nat) (gJ9_1:Nat) (xJ10:Nat->Value),aJ=patch xJ10 135 [(0,zV),(1,(pt d 0)),(2,(pt gJ9_0 0))]/\Hp (fun _=>False) w wJ10 [rSB ((lV B 16 c')) (mkB 98 5),rSB ((lV A 16 c)) (mkB 98 2)] [rBlk gJ9_0 40 ([(sV (⟨#[98,111,98]⟩)),(zD 5),(zD 1000),zV,zI,(sV (⟨#[107,100,99]⟩)),(lV A 16 c),zN,(lV (some ⟨gJ9_1,0,none⟩) 1 1)]),rBlk gJ9_1 35 ([(sV (⟨#[107,100,99]⟩)),(lV B 16 c')]),rBlk d 37 (dkC tb sv (rpC fl K1 1 bKDC 100 (min (100+600) (100+100)) R) (rpC 4 K2 1 bKDC 100 (min (100+600) (100+50)) 0) (lV A 16 c) (lV B 16 c')),rBlk sv 73 ([(pt kb 0),(pt cb 0),(pt bk 0)]),rBlk kb 78 ([(Value.iface 28 (pt tb 0)),(pt bb 0)]++vb (kl kk)),rBs G bb [User.mk bANN ka 100 500 false,User.mk bBOB kb_ 50 0 true],rCa Gc cb 64 [],rBlk bk 164 ([mv]),rTab F tb ((sO kk ka kb_ b0 b1 b2 b3 b4 b5))]) ?_ (fun hJ10 hhJ10=>?_)
 ·
  rintro _ wJ10 ⟨gJ9_0,gJ9_1,xJ10,rfl,hJh10⟩
  refine mAt ?_
  have h12:=hJh10.share 1 rfl
  have h13:=h12.addQ1 2 1 0 (l:=mkB 98 2) (m:=mkB 98 5) (s:=bKDC) rfl rfl rfl
  have hql:(qB bBOB 5 1000 false true (mkB 98 2) [⟨bKDC,mkB 98 5,B,c'⟩]).length<=4096:=qB_len (by decide) (by rw [mkB_len];decide) (by simp [mkB_len];decide) (by simp)
  refine ma h13 0 ?_
  obtain ⟨ba,hpa⟩:=pack_authent (s:=bANN) (t:=110) (q:=1) (K:=zK) (c:=mkB 100 ((sO kk ka kb_ b0 b1 b2 b3 b4 b5).sumAt (qB bBOB 5 1000 false true (mkB 98 2) [⟨bKDC,mkB 98 5,B,c'⟩])+1)) (rightM_is right_ann (by decide)) (by decide) (by rw [mkB_len];decide)
  refine mT (x_auth (nb:=6) (s2:=(((sO kk ka kb_ b0 b1 b2 b3 b4 b5).digest (qB bBOB 5 1000 false true (mkB 98 2) [⟨bKDC,mkB 98 5,B,c'⟩])).seal (kl K1) 7 ba)) h13 7 rfl [(pt d 0),(Value.iface 40 (aV ([(sV (⟨#[98,111,98]⟩)),(zD 5),(zD 1000),zV,zI,(sV (⟨#[107,100,99]⟩)),(lV A 16 c),zN,(lV (some ⟨gJ9_1,0,none⟩) 1 1)]).toArray)),(zD 110),(zD 1)] (by kernel_rfl) (auth15_any (h13.carve1 7 rfl [(true,1),(false,0)] rfl rfl) ((roomO hp0 hp1 hp2 hp3 hp4 hp5).less (by decide)) (sumQ_any (xs:=[⟨bKDC,mkB 98 5,B,c'⟩]) (D:=none) (an:=0) (ca:=0) (Nat.zero_le _) ⟨Nat.le_refl _,fun x hx=>by rw [List.mem_singleton.1 hx];exact ⟨right_kdc,show (3:Nat)<=100000 by decide,by show (mkB 98 5).length<=100000;rw [mkB_len];decide⟩⟩ right_bob (show (3:Nat)<=300 by decide) rfl rfl (by rw [mkB_len];decide) hql) hpa)) ?_
  rintro _ w14 ⟨A14,c14,F14,rfl,h14⟩
  refine mT (xS h14 2 ([(sV (⟨#[98,111,98]⟩)),(zD 5),(zD 1000),zV,zI,(sV (⟨#[107,100,99]⟩)),(lV A 16 c),(lV A14 16 c14),(lV (some ⟨gJ9_1,0,none⟩) 1 1)])) fun _ w15 h15=>?_
  obtain ⟨t1,ht1⟩:∃ t,t=(((sO kk ka kb_ b0 b1 b2 b3 b4 b5).digest (qB bBOB 5 1000 false true (mkB 98 2) [⟨bKDC,mkB 98 5,B,c'⟩])).seal (kl K1) 7 ba):=⟨_,rfl⟩
  have hx1:t1.box (mkB 98 2)=some ⟨kl kk,2,b1⟩:=by rw [ht1];exact au_old bxOx
  have hy1:t1.box (mkB 98 5)=some ⟨kl kk,2,b4⟩:=by rw [ht1];exact au_old bxOy
  have ha1:t1.box (mkB 98 (6+1))=some ⟨kl K1,7,ba⟩:=by rw [ht1];exact au_box rfl (by decide)
  have hk1:SK t1 (qB bBOB 5 1000 false true (mkB 98 2) [⟨bKDC,mkB 98 5,B,c'⟩]) ((sO kk ka kb_ b0 b1 b2 b3 b4 b5).sumAt (qB bBOB 5 1000 false true (mkB 98 2) [⟨bKDC,mkB 98 5,B,c'⟩])):=by rw [ht1];exact au_sk
  have hn1:t1.keys.length=5:=by rw [ht1];exact au_keys rfl
  have hb1:t1.boxes.length=7:=by rw [ht1];exact au_len rfl
  have hm1:t1.sums.length<=1:=by rw [ht1];exact au_sums (Nat.le_refl 0)
  have hr1:Room 800000 t1:=by rw [ht1];exact (((roomO hp0 hp1 hp2 hp3 hp4 hp5).digest.seal _ _ (pack_le6 hpa)).less (by decide))
  have h17:=h15
  rw [← ht1] at h17
  clear ht1
  obtain ⟨Kf,hKf⟩:=ex_key 6
  obtain ⟨c1,hc1⟩:=pack_inside (f:=2) (K:=Kf) (s:=bANN) (a:=100) (u:=min (min 1000 (min (100+600) (100+100))) (min (100+600) (100+50))) (r:=0) (rightM_is right_ann (by decide)) (by decide)
  obtain ⟨c2,hc2⟩:=pack_reply (f:=2) (K:=Kf) (n:=5) (s:=bBOB) (a:=100) (u:=min (min 1000 (min (100+600) (100+100))) (min (100+600) (100+50))) (r:=0) (rightM_is right_bob (by decide)) (by decide)
  obtain ⟨t2,ht2⟩:∃ t,t=(((t1.add SFrom.fresh).seal (kl K2) 2 c1).seal (kl K1) 8 c2):=⟨_,rfl⟩
  have hx2:t2.box (mkB 98 2)=some ⟨kl kk,2,b1⟩:=by rw [ht2];exact bx_seal (bx_seal hx1)
  have ha2:t2.box (mkB 98 (6+1))=some ⟨kl K1,7,ba⟩:=by rw [ht2];exact bx_seal (bx_seal ha1)
  have hi2:t2.box (mkB 98 (7+1))=some ⟨kl K2,2,c1⟩:=by rw [ht2];exact bx_seal (bx_newN (s:=t1.add SFrom.fresh) hb1 (by decide))
  have ho2:t2.box (mkB 98 (7+2))=some ⟨kl K1,8,c2⟩:=by rw [ht2];exact bx_newN (s:=(t1.add SFrom.fresh).seal (kl K2) 2 c1) (n:=8) (by rw [seal_len];exact congrArg (· + 1) hb1) (by decide)
  have hk2:SK t2 (qB bBOB 5 1000 false true (mkB 98 2) [⟨bKDC,mkB 98 5,B,c'⟩]) ((sO kk ka kb_ b0 b1 b2 b3 b4 b5).sumAt (qB bBOB 5 1000 false true (mkB 98 2) [⟨bKDC,mkB 98 5,B,c'⟩])):=by rw [ht2];exact hk1
  have hm2:t2.sums.length<=1:=by rw [ht2];exact hm1
  have hr2:Room 700000 t2:=by rw [ht2];exact ((((hr1.add SFrom.fresh).seal _ _ (pack_le6 hc1)).seal _ _ (pack_le6 hc2)).less (by decide))
  refine mJ 2000006 (fun aJ wJ19=>∃ (gJ18_0:Nat) (AJ18_1:Option Addr) (cJ18_2:Nat) (BJ18_3:Option Addr) (dJ18_4:Nat) (FJ18_5:Nat->Prop) (GJ18_6:Nat->Prop) (xJ19:Nat->Value),aJ=patch xJ19 135 [(0,zV),(1,(pt d 0)),(2,(pt gJ9_0 0)),(3,(pt gJ18_0 0)),(4,zO)]/\Hp (fun _=>False) w wJ19 [rQx A c (mkB 98 2) (some ⟨gJ9_1,0,none⟩) 1 [⟨bKDC,mkB 98 5,B,c'⟩],rBlk gJ9_1 35 ([(sV (⟨#[107,100,99]⟩)),(lV B 16 c')]),rSB ((lV B 16 c')) (mkB 98 5),rSB ((lV A 16 c)) (mkB 98 2)] [rBlk gJ18_0 43 ([(sV (⟨#[97,110,110]⟩)),(sV (⟨#[98,111,98]⟩)),(lV AJ18_1 16 cJ18_2),(lV BJ18_3 16 dJ18_4)]),rTab FJ18_5 tb t2,rCa GJ18_6 cb 64 [⟨bANN,110,1⟩],rSB ((lV AJ18_1 16 cJ18_2)) (mkB 98 (7+1)),rSB ((lV BJ18_3 16 dJ18_4)) (mkB 98 (7+2)),rSB ((lV A14 16 c14)) (mkB 98 (6+1)),rBlk gJ9_0 40 ([(sV (⟨#[98,111,98]⟩)),(zD 5),(zD 1000),zV,zI,(sV (⟨#[107,100,99]⟩)),(lV A 16 c),(lV A14 16 c14),(lV (some ⟨gJ9_1,0,none⟩) 1 1)]),rBlk d 37 (dkC tb sv (rpC fl K1 1 bKDC 100 (min (100+600) (100+100)) R) (rpC 4 K2 1 bKDC 100 (min (100+600) (100+50)) 0) (lV A 16 c) (lV B 16 c')),rBlk sv 73 ([(pt kb 0),(pt cb 0),(pt bk 0)]),rBlk kb 78 ([(Value.iface 28 (pt tb 0)),(pt bb 0)]++vb (kl kk)),rBs G bb [User.mk bANN ka 100 500 false,User.mk bBOB kb_ 50 0 true],rBlk bk 164 ([mv])]) ?_ (fun hJ19 hhJ19=>?_)
  ·
   rintro _ wJ19 ⟨gJ18_0,AJ18_1,cJ18_2,BJ18_3,dJ18_4,FJ18_5,GJ18_6,xJ19,rfl,hJh19⟩
   refine mAt ?_
   refine mJ 2000007 (fun aJ wJ22=>∃ (gJ21_0:Nat) (FJ21_1:Nat->Prop) (GJ21_2:Nat->Prop) (xJ22:Nat->Value),aJ=patch xJ22 135 [(0,zV),(1,(pt d 0)),(2,(pt gJ9_0 0)),(3,(pt gJ18_0 0)),(4,zO),(6,(zD 14))]/\Hp (fun _=>False) w wJ22 [rQx A c (mkB 98 2) (some ⟨gJ9_1,0,none⟩) 1 [⟨bKDC,mkB 98 5,B,c'⟩],rBlk gJ9_1 35 ([(sV (⟨#[107,100,99]⟩)),(lV B 16 c')]),rSB ((lV B 16 c')) (mkB 98 5),rSB ((lV A 16 c)) (mkB 98 2)] [rBlk gJ21_0 43 ([zE,zE,zN,zN]),rBlk gJ18_0 43 ([(sV (⟨#[97,110,110]⟩)),(sV (⟨#[98,111,98]⟩)),(lV AJ18_1 16 cJ18_2),(lV BJ18_3 16 dJ18_4)]),rTab FJ21_1 tb t2,rCa GJ21_2 cb 64 [⟨bANN,110,1⟩],rSB ((lV AJ18_1 16 cJ18_2)) (mkB 98 (7+1)),rSB ((lV BJ18_3 16 dJ18_4)) (mkB 98 (7+2)),rSB ((lV A14 16 c14)) (mkB 98 (6+1)),rBlk gJ9_0 40 ([(sV (⟨#[98,111,98]⟩)),(zD 5),(zD 1000),zV,zI,(sV (⟨#[107,100,99]⟩)),(lV A 16 c),(lV A14 16 c14),(lV (some ⟨gJ9_1,0,none⟩) 1 1)]),rBlk d 37 (dkC tb sv (rpC fl K1 1 bKDC 100 (min (100+600) (100+100)) R) (rpC 4 K2 1 bKDC 100 (min (100+600) (100+50)) 0) (lV A 16 c) (lV B 16 c')),rBlk sv 73 ([(pt kb 0),(pt cb 0),(pt bk 0)]),rBlk kb 78 ([(Value.iface 28 (pt tb 0)),(pt bb 0)]++vb (kl kk)),rBs G bb [User.mk bANN ka 100 500 false,User.mk bBOB kb_ 50 0 true],rBlk bk 164 ([mv])]) ?_ (fun hJ22 hhJ22=>?_)
   ·
    rintro _ wJ22 ⟨gJ21_0,FJ21_1,GJ21_2,xJ22,rfl,hJh22⟩
    refine mAt ?_
    refine mJ 2000008 (fun aJ wJ25=>∃ (gJ24_0:Nat) (xJ25:Nat->Value),aJ=patch xJ25 135 [(0,zV),(1,(pt d 0)),(2,(pt gJ9_0 0)),(3,(pt gJ18_0 0)),(4,zO),(6,(zD 14)),(7,(pt gJ24_0 0)),(8,zO)]/\Hp (fun _=>False) w wJ25 [rQx A c (mkB 98 2) (some ⟨gJ9_1,0,none⟩) 1 [⟨bKDC,mkB 98 5,B,c'⟩],rBlk gJ9_1 35 ([(sV (⟨#[107,100,99]⟩)),(lV B 16 c')]),rSB ((lV B 16 c')) (mkB 98 5),rSB ((lV A 16 c)) (mkB 98 2)] [rBlk gJ24_0 33 ([(zD 2)]++vb (kl Kf)++[(zD 5),(sV (⟨#[98,111,98]⟩)),(zD 100),(zD 150),zO]),rBlk gJ21_0 43 ([zE,zE,zN,zN]),rBlk gJ18_0 43 ([(sV (⟨#[97,110,110]⟩)),(sV (⟨#[98,111,98]⟩)),(lV AJ18_1 16 cJ18_2),(lV BJ18_3 16 dJ18_4)]),rTab FJ21_1 tb t2,rCa GJ21_2 cb 64 [⟨bANN,110,1⟩],rSB ((lV AJ18_1 16 cJ18_2)) (mkB 98 (7+1)),rSB ((lV BJ18_3 16 dJ18_4)) (mkB 98 (7+2)),rSB ((lV A14 16 c14)) (mkB 98 (6+1)),rBlk gJ9_0 40 ([(sV (⟨#[98,111,98]⟩)),(zD 5),(zD 1000),zV,zI,(sV (⟨#[107,100,99]⟩)),(lV A 16 c),(lV A14 16 c14),(lV (some ⟨gJ9_1,0,none⟩) 1 1)]),rBlk d 37 (dkC tb sv (rpC fl K1 1 bKDC 100 (min (100+600) (100+100)) R) (rpC 4 K2 1 bKDC 100 (min (100+600) (100+50)) 0) (lV A 16 c) (lV B 16 c')),rBlk sv 73 ([(pt kb 0),(pt cb 0),(pt bk 0)]),rBlk kb 78 ([(Value.iface 28 (pt tb 0)),(pt bb 0)]++vb (kl kk)),rBs G bb [User.mk bANN ka 100 500 false,User.mk bBOB kb_ 50 0 true],rBlk bk 164 ([mv])]) ?_ (fun hJ25 hhJ25=>?_)
    ·
     rintro _ wJ25 ⟨gJ24_0,xJ25,rfl,hJh25⟩
     refine mAt ?_
     refine mJ 2000009 (fun aJ wJ28=>∃ (gJ27_0:Nat) (xJ28:Nat->Value),aJ=patch xJ28 135 [(0,zV),(1,(pt d 0)),(2,(pt gJ9_0 0)),(3,(pt gJ18_0 0)),(4,zO),(6,(zD 14)),(7,(pt gJ24_0 0)),(8,zO),(9,(pt gJ27_0 0)),(10,zO)]/\Hp (fun _=>False) w wJ28 [rQx A c (mkB 98 2) (some ⟨gJ9_1,0,none⟩) 1 [⟨bKDC,mkB 98 5,B,c'⟩],rBlk gJ9_1 35 ([(sV (⟨#[107,100,99]⟩)),(lV B 16 c')]),rSB ((lV B 16 c')) (mkB 98 5),rSB ((lV A 16 c)) (mkB 98 2)] [rBlk gJ27_0 54 ([(zD 2)]++vb (kl Kf)++[(sV (⟨#[97,110,110]⟩)),(zD 100),(zD 150),zO]),rBlk gJ24_0 33 ([(zD 2)]++vb (kl Kf)++[(zD 5),(sV (⟨#[98,111,98]⟩)),(zD 100),(zD 150),zO]),rBlk gJ21_0 43 ([zE,zE,zN,zN]),rBlk gJ18_0 43 ([(sV (⟨#[97,110,110]⟩)),(sV (⟨#[98,111,98]⟩)),(lV AJ18_1 16 cJ18_2),(lV BJ18_3 16 dJ18_4)]),rTab FJ21_1 tb t2,rCa GJ21_2 cb 64 [⟨bANN,110,1⟩],rSB ((lV AJ18_1 16 cJ18_2)) (mkB 98 (7+1)),rSB ((lV BJ18_3 16 dJ18_4)) (mkB 98 (7+2)),rSB ((lV A14 16 c14)) (mkB 98 (6+1)),rBlk gJ9_0 40 ([(sV (⟨#[98,111,98]⟩)),(zD 5),(zD 1000),zV,zI,(sV (⟨#[107,100,99]⟩)),(lV A 16 c),(lV A14 16 c14),(lV (some ⟨gJ9_1,0,none⟩) 1 1)]),rBlk d 37 (dkC tb sv (rpC fl K1 1 bKDC 100 (min (100+600) (100+100)) R) (rpC 4 K2 1 bKDC 100 (min (100+600) (100+50)) 0) (lV A 16 c) (lV B 16 c')),rBlk sv 73 ([(pt kb 0),(pt cb 0),(pt bk 0)]),rBlk kb 78 ([(Value.iface 28 (pt tb 0)),(pt bb 0)]++vb (kl kk)),rBs G bb [User.mk bANN ka 100 500 false,User.mk bBOB kb_ 50 0 true],rBlk bk 164 ([mv])]) ?_ (fun hJ28 hhJ28=>?_)
     ·
      rintro _ wJ28 ⟨gJ27_0,xJ28,rfl,hJh28⟩
      refine mAt ?_
      refine dG hJh28 55 54 (fun W=>(rBlk gJ27_0 54 ([(zD 2)]++vb (kl Kf)++[(sV (⟨#[97,110,110]⟩)),(zD 100),(zD 150),zO])).Φ W/\(rBlk gJ24_0 33 ([(zD 2)]++vb (kl Kf)++[(zD 5),(sV (⟨#[98,111,98]⟩)),(zD 100),(zD 150),zO])).Φ W/\(rBlk gJ18_0 43 ([(sV (⟨#[97,110,110]⟩)),(sV (⟨#[98,111,98]⟩)),(lV AJ18_1 16 cJ18_2),(lV BJ18_3 16 dJ18_4)])).Φ W/\(rBlk d 37 (dkC tb sv (rpC fl K1 1 bKDC 100 (min (100+600) (100+100)) R) (rpC 4 K2 1 bKDC 100 (min (100+600) (100+50)) 0) (lV A 16 c) (lV B 16 c'))).Φ W/\(rBlk gJ9_0 40 ([(sV (⟨#[98,111,98]⟩)),(zD 5),(zD 1000),zV,zI,(sV (⟨#[107,100,99]⟩)),(lV A 16 c),(lV A14 16 c14),(lV (some ⟨gJ9_1,0,none⟩) 1 1)])).Φ W/\True) (fun w30 h30=>⟨h30.at_ 0 rfl,h30.at_ 1 rfl,h30.at_ 3 rfl,h30.at_ 10 rfl,h30.at_ 9 rfl,trivial⟩) ?_
      intro w30 h30
      refine dP 39 [0,1,2,3,4,5,6,7,8,9,10,11,12,13,14,15] ?_
      refine dL 16 (fun W hW=>hW.1) ?_
      refine dV 17 (v:=zI) (fun W hW=>eqI (bV ((⟨#[97,110,110]⟩:ByteArray).toList == (⟨#[97,110,110]⟩:ByteArray).toList)) (by simp)) ?_
      refine dP 33 [18,19,20,22] ?_
      refine dL 21 (fun W hW=>hW.1) ?_
      refine dL 23 (fun W hW=>hW.2.1) ?_
      refine dV 24 (v:=zI) (fun W hW=>e_keq Kf Kf 31 31 (.tmp 102) (.tmp 104) (by kernel_rfl) (by kernel_rfl) (by kernel_rfl) (by kernel_rfl) (by kernel_rfl) true (by simp) _) ?_
      refine dP 27 [25,26,27] ?_
      refine dL 28 (fun W hW=>hW.1) ?_
      refine dP 22 [29,30,31,32] ?_
      refine dL 33 (fun W hW=>hW.1) ?_
      refine dP 16 [34,35,36,37,38] ?_
      refine dL 39 (fun W hW=>hW.2.2.1) ?_
      refine dV 40 (v:=zI) (fun W hW=>eqI (bV ((⟨#[98,111,98]⟩:ByteArray).toList == (⟨#[98,111,98]⟩:ByteArray).toList)) (by simp)) ?_
      refine dP 9 [41,42,43,44,45] ?_
      refine dL 46 (fun W hW=>hW.2.2.2.1) ?_
      refine dP 7 [47] ?_
      refine dL 48 (fun W hW=>hW.2.2.2.2.1) ?_
      refine dP 5 [49] ?_
      refine dT 50 (x_sumX h30 4 rfl (qB bBOB 5 1000 false true (mkB 98 2) [⟨bKDC,mkB 98 5,B,c'⟩]) [(Value.iface 28 (pt tb 0)),(Value.iface 40 (aV ([(sV (⟨#[98,111,98]⟩)),(zD 5),(zD 1000),zV,zI,(sV (⟨#[107,100,99]⟩)),(lV A 16 c),(lV A14 16 c14),(lV (some ⟨gJ9_1,0,none⟩) 1 1)]).toArray))] _ (by kernel_rfl) (fun hT=>sumQ_any (xs:=[⟨bKDC,mkB 98 5,B,c'⟩]) (D:=A14) (an:=16) (ca:=c14) (Nat.le_trans hm2 (by decide)) ⟨Nat.le_refl _,fun x hx=>by rw [List.mem_singleton.1 hx];exact ⟨right_kdc,show (3:Nat)<=100000 by decide,by show (mkB 98 5).length<=100000;rw [mkB_len];decide⟩⟩ right_bob (show (3:Nat)<=300 by decide) rfl rfl (by rw [mkB_len];decide) hql _ hT (h30.rd 0 rfl) (h30.rdis 0 4 _ _ rfl rfl))) ?_
      rintro _ w31 ⟨A31,c31,F31,rfl,h31⟩
      refine ⟨⟨h31.at_ 2 rfl,h31.at_ 3 rfl,h31.at_ 5 rfl,h31.at_ 11 rfl,h31.at_ 10 rfl,trivial⟩,?_⟩
      refine dP 1 [51,52,53] ?_
      refine dN 54 ?_
      refine dX ?_
      exact mQ h31
     refine dG hJh25 20 19 (fun W=>(rBlk d 37 (dkC tb sv (rpC fl K1 1 bKDC 100 (min (100+600) (100+100)) R) (rpC 4 K2 1 bKDC 100 (min (100+600) (100+50)) 0) (lV A 16 c) (lV B 16 c'))).Φ W/\(rBlk gJ18_0 43 ([(sV (⟨#[97,110,110]⟩)),(sV (⟨#[98,111,98]⟩)),(lV AJ18_1 16 cJ18_2),(lV BJ18_3 16 dJ18_4)])).Φ W/\True) (fun w32 h32=>⟨h32.at_ 9 rfl,h32.at_ 2 rfl,trivial⟩) ?_
     intro w32 h32
     refine dP 11 [0,1,2,5,6,7,8,10,11] ?_
     refine dL 3 (fun W hW=>hW.1) ?_
     refine dP 9 [4] ?_
     refine dL 9 (fun W hW=>hW.1) ?_
     refine dL 12 (fun W hW=>hW.2.1) ?_
     refine dO 13 17 ?_ ?_
     ·
      refine oT (x_oInside h32 3 rfl K2 2 (by kernel_rfl) (show TabOk _ from hr2.ok) (h32.at_ 5 rfl) (r:=(.inr (.inside 2 Kf bANN 100 (min (min 1000 (min (100+600) (100+100))) (min (100+600) (100+50))) 0))) (op_bx hi2 hc1)) ?_
      rintro _ w33 ⟨rfl,h33⟩
      refine ⟨⟨h33.at_ 9 rfl,h33.at_ 2 rfl,trivial⟩,?_⟩
      refine dP 3 [14,15,16] ?_
      refine dT 17 (xN h33 54 ([zO]++vb (List.replicate 16 0)++[zE,zO,zO,zO])) ?_
      rintro _ w34 ⟨g34,rfl,h34⟩
      refine ⟨⟨h34.at_ 10 rfl,h34.at_ 3 rfl,trivial⟩,?_⟩
      refine dT 18 (xR h34 0 ([(zD 2)]++vb (kl Kf)++[(sV (⟨#[97,110,110]⟩)),(zD 100),(zD 150),zO])) ?_
      rintro _ w35 h35
      refine ⟨⟨h35.at_ 10 rfl,h35.at_ 3 rfl,trivial⟩,?_⟩
      refine dN 19 ?_
      refine dX ?_
      exact mK hJ28 (hhJ28 _ _ ⟨g34,_,pM,h35.sel [0,1,2,3,4,5,6,7,8,9,10,11,12,13,14] [0,1,2,3] (by kernel_rfl) rfl rfl⟩)
     refine oT (xN h32 54 ([zO]++vb (List.replicate 16 0)++[zE,zO,zO,zO])) ?_
     rintro _ w36 ⟨g36,rfl,h36⟩
     refine ⟨⟨h36.at_ 10 rfl,h36.at_ 3 rfl,trivial⟩,?_⟩
     refine dT 13 (x_oInside h36 4 rfl K2 2 (by kernel_rfl) (show TabOk _ from hr2.ok) (h36.at_ 6 rfl) (r:=(.inr (.inside 2 Kf bANN 100 (min (min 1000 (min (100+600) (100+100))) (min (100+600) (100+50))) 0))) (op_bx hi2 hc1)) ?_
     rintro _ w37 ⟨rfl,h37⟩
     refine ⟨⟨h37.at_ 10 rfl,h37.at_ 3 rfl,trivial⟩,?_⟩
     refine dP 2 [14,15,16] ?_
     refine dT 18 (xR h37 0 ([(zD 2)]++vb (kl Kf)++[(sV (⟨#[97,110,110]⟩)),(zD 100),(zD 150),zO])) ?_
     rintro _ w38 h38
     refine ⟨⟨h38.at_ 10 rfl,h38.at_ 3 rfl,trivial⟩,?_⟩
     refine dN 19 ?_
     refine dX ?_
     exact mK hJ28 (hhJ28 _ _ ⟨g36,_,pM,h38.sel [0,1,2,3,4,5,6,7,8,9,10,11,12,13,14] [0,1,2,3] (by kernel_rfl) rfl rfl⟩)
    refine dG hJh22 19 18 (fun W=>(rBlk d 37 (dkC tb sv (rpC fl K1 1 bKDC 100 (min (100+600) (100+100)) R) (rpC 4 K2 1 bKDC 100 (min (100+600) (100+50)) 0) (lV A 16 c) (lV B 16 c'))).Φ W/\(rBlk gJ18_0 43 ([(sV (⟨#[97,110,110]⟩)),(sV (⟨#[98,111,98]⟩)),(lV AJ18_1 16 cJ18_2),(lV BJ18_3 16 dJ18_4)])).Φ W/\True) (fun w39 h39=>⟨h39.at_ 8 rfl,h39.at_ 1 rfl,trivial⟩) ?_
    intro w39 h39
    refine dP 11 [0,1,2,5,6,7,8,10] ?_
    refine dL 3 (fun W hW=>hW.1) ?_
    refine dP 9 [4] ?_
    refine dL 9 (fun W hW=>hW.1) ?_
    refine dL 11 (fun W hW=>hW.2.1) ?_
    refine dO 12 16 ?_ ?_
    ·
     refine oT (x_oReply h39 2 rfl K1 8 (by kernel_rfl) (show TabOk _ from hr2.ok) (h39.at_ 5 rfl) (r:=(.inr (.reply 2 Kf 5 ⟨#[98,111,98]⟩ 100 (min (min 1000 (min (100+600) (100+100))) (min (100+600) (100+50))) 0))) (op_bx ho2 hc2)) ?_
     rintro _ w40 ⟨rfl,h40⟩
     refine ⟨⟨h40.at_ 8 rfl,h40.at_ 1 rfl,trivial⟩,?_⟩
     refine dP 3 [13,14,15] ?_
     refine dT 16 (xN h40 33 ([zO]++vb (List.replicate 16 0)++[zO,zE,zO,zO,zO])) ?_
     rintro _ w41 ⟨g41,rfl,h41⟩
     refine ⟨⟨h41.at_ 9 rfl,h41.at_ 2 rfl,trivial⟩,?_⟩
     refine dT 17 (xR h41 0 ([(zD 2)]++vb (kl Kf)++[(zD 5),(sV (⟨#[98,111,98]⟩)),(zD 100),(zD 150),zO])) ?_
     rintro _ w42 h42
     refine ⟨⟨h42.at_ 9 rfl,h42.at_ 2 rfl,trivial⟩,?_⟩
     refine dN 18 ?_
     refine dX ?_
     exact mK hJ25 (hhJ25 _ _ ⟨g41,_,pM,h42.sel [0,1,2,3,4,5,6,7,8,9,10,11,12,13] [0,1,2,3] (by kernel_rfl) rfl rfl⟩)
    refine oT (xN h39 33 ([zO]++vb (List.replicate 16 0)++[zO,zE,zO,zO,zO])) ?_
    rintro _ w43 ⟨g43,rfl,h43⟩
    refine ⟨⟨h43.at_ 9 rfl,h43.at_ 2 rfl,trivial⟩,?_⟩
    refine dT 12 (x_oReply h43 3 rfl K1 8 (by kernel_rfl) (show TabOk _ from hr2.ok) (h43.at_ 6 rfl) (r:=(.inr (.reply 2 Kf 5 ⟨#[98,111,98]⟩ 100 (min (min 1000 (min (100+600) (100+100))) (min (100+600) (100+50))) 0))) (op_bx ho2 hc2)) ?_
    rintro _ w44 ⟨rfl,h44⟩
    refine ⟨⟨h44.at_ 9 rfl,h44.at_ 2 rfl,trivial⟩,?_⟩
    refine dP 2 [13,14,15] ?_
    refine dT 17 (xR h44 0 ([(zD 2)]++vb (kl Kf)++[(zD 5),(sV (⟨#[98,111,98]⟩)),(zD 100),(zD 150),zO])) ?_
    rintro _ w45 h45
    refine ⟨⟨h45.at_ 9 rfl,h45.at_ 2 rfl,trivial⟩,?_⟩
    refine dN 18 ?_
    refine dX ?_
    exact mK hJ25 (hhJ25 _ _ ⟨g43,_,pM,h45.sel [0,1,2,3,4,5,6,7,8,9,10,11,12,13] [0,1,2,3] (by kernel_rfl) rfl rfl⟩)
   refine dG hJh19 12 11 (fun W=>(rBlk d 37 (dkC tb sv (rpC fl K1 1 bKDC 100 (min (100+600) (100+100)) R) (rpC 4 K2 1 bKDC 100 (min (100+600) (100+50)) 0) (lV A 16 c) (lV B 16 c'))).Φ W/\(rBlk gJ9_0 40 ([(sV (⟨#[98,111,98]⟩)),(zD 5),(zD 1000),zV,zI,(sV (⟨#[107,100,99]⟩)),(lV A 16 c),(lV A14 16 c14),(lV (some ⟨gJ9_1,0,none⟩) 1 1)])).Φ W/\True) (fun w46 h46=>⟨h46.at_ 7 rfl,h46.at_ 6 rfl,trivial⟩) ?_
   intro w46 h46
   refine dP 9 [0,1,2] ?_
   refine dL 3 (fun W hW=>hW.1) ?_
   refine dL 4 (fun W hW=>hW.2.1) ?_
   refine dO 5 9 ?_ ?_
   ·
    refine oT (x_tgsN (ec:=14) (s3:=t2) (sl2:=[⟨bANN,110,1⟩]) h46 1 2 rfl rfl [(pt sv 0),(zD 111),(aV ([(sV (⟨#[98,111,98]⟩)),(zD 5),(zD 1000),zV,zI,(sV (⟨#[107,100,99]⟩)),(lV A 16 c),(lV A14 16 c14),(lV (some ⟨gJ9_1,0,none⟩) 1 1)]).toArray)] rfl (by kernel_rfl) (tgsTwice_any (xs:=[⟨bKDC,mkB 98 5,B,c'⟩]) (au:=mkB 98 (6+1)) (l:=mkB 98 2) (h46.carve2 1 2 rfl rfl [(true,8),(true,9),(false,3),(true,5),(false,0),(true,10)] rfl rfl) (hr2.less (by decide)) (Nat.le_trans hm2 (by decide)) (op_bx hx2 hp1) (by decide) hk2 (op_bx ha2 hpa) (by decide) (by simp) (by simp) (by decide) ⟨Nat.le_refl _,fun x hx=>by rw [List.mem_singleton.1 hx];exact ⟨right_kdc,show (3:Nat)<=100000 by decide,by show (mkB 98 5).length<=100000;rw [mkB_len];decide⟩⟩ right_bob (by decide) rfl rfl (by rw [mkB_len];decide) hql)) ?_
    rintro _ w47 ⟨F47,G47,rfl,h47⟩
    refine ⟨⟨h47.at_ 7 rfl,h47.at_ 6 rfl,trivial⟩,?_⟩
    refine dP 3 [6,7,8] ?_
    refine dT 9 (xN h47 43 ([zE,zE,zN,zN])) ?_
    rintro _ w48 ⟨g48,rfl,h48⟩
    refine ⟨⟨h48.at_ 8 rfl,h48.at_ 7 rfl,trivial⟩,?_⟩
    refine dT 10 (xR h48 0 ([zE,zE,zN,zN])) ?_
    rintro _ w49 h49
    refine ⟨⟨h49.at_ 8 rfl,h49.at_ 7 rfl,trivial⟩,?_⟩
    refine dN 11 ?_
    refine dX ?_
    exact mK hJ22 (hhJ22 _ _ ⟨g48,F47,G47,_,pM,h49.sel [0,1,2,3,4,5,6,7,8,9,10,11,12] [0,1,2,3] (by kernel_rfl) rfl rfl⟩)
   refine oT (xN h46 43 ([zE,zE,zN,zN])) ?_
   rintro _ w50 ⟨g50,rfl,h50⟩
   refine ⟨⟨h50.at_ 8 rfl,h50.at_ 7 rfl,trivial⟩,?_⟩
   refine dT 5 (x_tgsN (ec:=14) (s3:=t2) (sl2:=[⟨bANN,110,1⟩]) h50 2 3 rfl rfl [(pt sv 0),(zD 111),(aV ([(sV (⟨#[98,111,98]⟩)),(zD 5),(zD 1000),zV,zI,(sV (⟨#[107,100,99]⟩)),(lV A 16 c),(lV A14 16 c14),(lV (some ⟨gJ9_1,0,none⟩) 1 1)]).toArray)] rfl (by kernel_rfl) (tgsTwice_any (xs:=[⟨bKDC,mkB 98 5,B,c'⟩]) (au:=mkB 98 (6+1)) (l:=mkB 98 2) (h50.carve2 2 3 rfl rfl [(true,9),(true,10),(false,3),(true,6),(false,0),(true,11)] rfl rfl) (hr2.less (by decide)) (Nat.le_trans hm2 (by decide)) (op_bx hx2 hp1) (by decide) hk2 (op_bx ha2 hpa) (by decide) (by simp) (by simp) (by decide) ⟨Nat.le_refl _,fun x hx=>by rw [List.mem_singleton.1 hx];exact ⟨right_kdc,show (3:Nat)<=100000 by decide,by show (mkB 98 5).length<=100000;rw [mkB_len];decide⟩⟩ right_bob (by decide) rfl rfl (by rw [mkB_len];decide) hql)) ?_
   rintro _ w51 ⟨F51,G51,rfl,h51⟩
   refine ⟨⟨h51.at_ 8 rfl,h51.at_ 7 rfl,trivial⟩,?_⟩
   refine dP 2 [6,7,8] ?_
   refine dT 10 (xR h51 0 ([zE,zE,zN,zN])) ?_
   rintro _ w52 h52
   refine ⟨⟨h52.at_ 8 rfl,h52.at_ 7 rfl,trivial⟩,?_⟩
   refine dN 11 ?_
   refine dX ?_
   exact mK hJ22 (hhJ22 _ _ ⟨g50,F51,G51,_,pM,h52.sel [0,1,2,3,4,5,6,7,8,9,10,11,12] [0,1,2,3] (by kernel_rfl) rfl rfl⟩)
  refine dG h17 12 11 (fun W=>(rBlk d 37 (dkC tb sv (rpC fl K1 1 bKDC 100 (min (100+600) (100+100)) R) (rpC 4 K2 1 bKDC 100 (min (100+600) (100+50)) 0) (lV A 16 c) (lV B 16 c'))).Φ W/\(rBlk gJ9_0 40 ([(sV (⟨#[98,111,98]⟩)),(zD 5),(zD 1000),zV,zI,(sV (⟨#[107,100,99]⟩)),(lV A 16 c),(lV A14 16 c14),(lV (some ⟨gJ9_1,0,none⟩) 1 1)])).Φ W/\True) (fun w53 h53=>⟨h53.at_ 3 rfl,h53.at_ 2 rfl,trivial⟩) ?_
  intro w53 h53
  refine dP 9 [0,1,2] ?_
  refine dL 3 (fun W hW=>hW.1) ?_
  refine dL 4 (fun W hW=>hW.2.1) ?_
  refine dO 5 9 ?_ ?_
  ·
   refine oT (x_tgs (nb:=7) (s3:=t2) (sl2:=[⟨bANN,110,1⟩]) (c1:=bANN) (srv:=⟨#[98,111,98]⟩) h53 0 7 rfl rfl [(pt sv 0),(zD 110),(aV ([(sV (⟨#[98,111,98]⟩)),(zD 5),(zD 1000),zV,zI,(sV (⟨#[107,100,99]⟩)),(lV A 16 c),(lV A14 16 c14),(lV (some ⟨gJ9_1,0,none⟩) 1 1)]).toArray)] rfl (by kernel_rfl) ((by rw [← hb1,ht2];exact tgsMet_any (us_:=User.mk bBOB kb_ 50 0 true) (au:=mkB 98 (6+1)) (l:=mkB 98 2) (pb:=mkB 98 5) (h53.carve2 0 7 rfl rfl [(true,4),(true,5),(false,3),(true,1),(false,0),(true,6)] rfl rfl) (hr1.less (by decide)) (Nat.le_trans hm1 (by decide)) (op_bx hx1 hp1) (by decide) hk1 (op_bx ha1 hpa) (by decide) (by simp) (by simp) (by decide) (by decide) (op_bx hy1 hp4) (by decide) (show (2:Nat)<=1000 by decide) place_bob.1 place_bob.2 rfl bob_ne right_bob (by decide) rfl rfl (by rw [mkB_len];decide) (by rw [mkB_len];decide) hql (by decide) (hKf.trans (by rw [hn1])) hc1 hc2))) ?_
   rintro _ w54 ⟨A54,c54,B54,d54,F54,G54,_,rfl,rfl,h54⟩
   refine ⟨⟨h54.at_ 6 rfl,h54.at_ 5 rfl,trivial⟩,?_⟩
   refine dP 3 [6,7,8] ?_
   refine dT 9 (xN h54 43 ([zE,zE,zN,zN])) ?_
   rintro _ w55 ⟨g55,rfl,h55⟩
   refine ⟨⟨h55.at_ 7 rfl,h55.at_ 6 rfl,trivial⟩,?_⟩
   refine dT 10 (xR h55 0 ([(sV (⟨#[97,110,110]⟩)),(sV (⟨#[98,111,98]⟩)),(lV A54 16 c54),(lV B54 16 d54)])) ?_
   rintro _ w56 h56
   refine ⟨⟨h56.at_ 7 rfl,h56.at_ 6 rfl,trivial⟩,?_⟩
   refine dN 11 ?_
   refine dX ?_
   exact mK hJ19 (hhJ19 _ _ ⟨g55,A54,c54,B54,d54,F54,G54,_,pM,h56.sel [0,1,2,3,4,5,6,7,8,9,10,11] [0,1,2,3] (by kernel_rfl) rfl rfl⟩)
  refine oT (xN h53 43 ([zE,zE,zN,zN])) ?_
  rintro _ w57 ⟨g57,rfl,h57⟩
  refine ⟨⟨h57.at_ 4 rfl,h57.at_ 3 rfl,trivial⟩,?_⟩
  refine dT 5 (x_tgs (nb:=7) (s3:=t2) (sl2:=[⟨bANN,110,1⟩]) (c1:=bANN) (srv:=⟨#[98,111,98]⟩) h57 1 8 rfl rfl [(pt sv 0),(zD 110),(aV ([(sV (⟨#[98,111,98]⟩)),(zD 5),(zD 1000),zV,zI,(sV (⟨#[107,100,99]⟩)),(lV A 16 c),(lV A14 16 c14),(lV (some ⟨gJ9_1,0,none⟩) 1 1)]).toArray)] rfl (by kernel_rfl) ((by rw [← hb1,ht2];exact tgsMet_any (us_:=User.mk bBOB kb_ 50 0 true) (au:=mkB 98 (6+1)) (l:=mkB 98 2) (pb:=mkB 98 5) (h57.carve2 1 8 rfl rfl [(true,5),(true,6),(false,3),(true,2),(false,0),(true,7)] rfl rfl) (hr1.less (by decide)) (Nat.le_trans hm1 (by decide)) (op_bx hx1 hp1) (by decide) hk1 (op_bx ha1 hpa) (by decide) (by simp) (by simp) (by decide) (by decide) (op_bx hy1 hp4) (by decide) (show (2:Nat)<=1000 by decide) place_bob.1 place_bob.2 rfl bob_ne right_bob (by decide) rfl rfl (by rw [mkB_len];decide) (by rw [mkB_len];decide) hql (by decide) (hKf.trans (by rw [hn1])) hc1 hc2))) ?_
  rintro _ w58 ⟨A58,c58,B58,d58,F58,G58,_,rfl,rfl,h58⟩
  refine ⟨⟨h58.at_ 7 rfl,h58.at_ 6 rfl,trivial⟩,?_⟩
  refine dP 2 [6,7,8] ?_
  refine dT 10 (xR h58 4 ([(sV (⟨#[97,110,110]⟩)),(sV (⟨#[98,111,98]⟩)),(lV A58 16 c58),(lV B58 16 d58)])) ?_
  rintro _ w59 h59
  refine ⟨⟨h59.at_ 7 rfl,h59.at_ 6 rfl,trivial⟩,?_⟩
  refine dN 11 ?_
  refine dX ?_
  exact mK hJ19 (hhJ19 _ _ ⟨g57,A58,c58,B58,d58,F58,G58,_,pM,h59.sel [4,0,1,2,3,5,6,7,8,9,10,11] [0,1,2,3] (by kernel_rfl) rfl rfl⟩)
 refine dG h5 12 11 (fun W=>(rBlk d 37 (dkC tb sv (rpC fl K1 1 bKDC 100 (min (100+600) (100+100)) R) (rpC 4 K2 1 bKDC 100 (min (100+600) (100+50)) 0) (lV A 16 c) (lV B 16 c'))).Φ W/\True) (fun w60 h60=>⟨h60.at_ 0 rfl,trivial⟩) ?_
 intro w60 h60
 refine dP 6 [0,1,2,4,5,6] ?_
 refine dLs 4 [3,7] (fun W hW=>hW.1) ?_
 refine dO 8 10 ?_ ?_
 ·
  refine oT (x_bs h60 35 ([(sV (⟨#[107,100,99]⟩)),(lV B 16 c')]) 1 (by kernel_rfl)) ?_
  rintro _ w61 ⟨g61,rfl,h61⟩
  refine ⟨⟨h61.at_ 1 rfl,trivial⟩,?_⟩
  refine dP 2 [9] ?_
  refine dT 10 (xN h61 40 ([zE,zO,zO,zV,zV,zE,zN,zN,zN])) ?_
  rintro _ w62 ⟨g62,rfl,h62⟩
  refine ⟨⟨h62.at_ 2 rfl,trivial⟩,?_⟩
  refine dE 11 (xR h62 0 ([(sV (⟨#[98,111,98]⟩)),(zD 5),(zD 1000),zV,zI,(sV (⟨#[107,100,99]⟩)),(lV A 16 c),zN,(lV (some ⟨g61,0,none⟩) 1 1)])) ?_
  rintro _ w63 h63
  refine dX ?_
  exact mK hJ10 (hhJ10 _ _ ⟨g62,g61,_,pM,h63.sel [0,1,2,3,4,5,6,7,8] [0,1] (by kernel_rfl) rfl rfl⟩)
 refine oT (xN h60 40 ([zE,zO,zO,zV,zV,zE,zN,zN,zN])) ?_
 rintro _ w64 ⟨g64,rfl,h64⟩
 refine ⟨⟨h64.at_ 1 rfl,trivial⟩,?_⟩
 refine dT 8 (x_bs h64 35 ([(sV (⟨#[107,100,99]⟩)),(lV B 16 c')]) 1 (by kernel_rfl)) ?_
 rintro _ w65 ⟨g65,rfl,h65⟩
 refine ⟨⟨h65.at_ 2 rfl,trivial⟩,?_⟩
 refine dP 1 [9] ?_
 refine dE 11 (xR h65 1 ([(sV (⟨#[98,111,98]⟩)),(zD 5),(zD 1000),zV,zI,(sV (⟨#[107,100,99]⟩)),(lV A 16 c),zN,(lV (some ⟨g65,0,none⟩) 1 1)])) ?_
 rintro _ w66 h66
 refine dX ?_
 exact mK hJ10 (hhJ10 _ _ ⟨g64,g65,_,pM,h66.sel [1,0,2,3,4,5,6,7,8] [0,1] (by kernel_rfl) rfl rfl⟩)
end
section
open Go.ChangeShapes Go.WideShapes Go.ChangeAt Go.RowKit
set_option maxRecDepth 100000
variable{H:Type}{enc:TypeId × Value->H}{w:World}{base:Nat}{spare:Nat->Bool}{held:Bool}
theorem c22:Tryz.prog.cellsOf 30=16:=by kernel_rfl
theorem c5:Tryz.prog.cellsOf 5=1:=by kernel_rfl
end
section
open Go.ChangeShapes Go.WideShapes Go.ChangeAt Go.RowKit
theorem Tryz.own:ownKnob Tryz.prog.godebug=none:=by kernel_rfl
theorem Tryz.laidOut:laidOutB Tryz.prog=true:=by kernel_rfl
section
variable{H:Type}{enc:TypeId × Value->H}{P:Program}
theorem trodAll_stays{W W':World}{sp':Nat->Bool}(hl:laidOutB P=true):∀ (ts:List TypeId) (vs:List Value) (ds:List (DataW H)) (ps:List MemPlace),
   (ts.all fun t=>P.readableRec t && decide (t<P.types.size))=true->DataW.TrodAll enc P W 0 (fun _=>true) true ts vs ds ps ->
   (∀ p ∈ ps,W.sameAt W' p)->(∀ p ∈ ps,sp' p.block=true)->DataW.TrodAll enc P W' 0 sp' true ts vs ds ps
 | [],_,_,_,_,h,_,_=>by
   obtain ⟨rfl,rfl,rfl⟩:=trodAll_nil h
   exact rfl
 | t::ts,_,_,_,ht,h,hs,hsp=>by
   obtain ⟨v,vs,d,ds,a,b,rfl,rfl,rfl,h1,h2⟩:=trodAll_cons h
   rw [List.all_cons,Bool.and_eq_true,Bool.and_eq_true,decide_eq_true_eq] at ht
   exact ⟨a,b,WideElems.Trod_stays hl ht.1.1 ht.1.2 h1 (fun p hp=>hs p (by simp [hp])) (fun p hp=>hsp p (by simp [hp])),
     trodAll_stays hl ts vs ds b ht.2 h2 (fun p hp=>hs p (by simp [hp])) (fun p hp=>hsp p (by simp [hp])),rfl⟩
theorem post_of_below{f:Func}{s:ChangeSpec}{apart fresh handsOn again:Bool}{W W':World}{args:Array Value}{v:Value}{ds gs:List (DataW H)}{before pa pv:List MemPlace}
   (hW:DataW.Whole enc P f.params.toList s.vars apart W args.toList ds gs before)
   (hres:∀ (b:Nat) (sp:Nat->Bool) (hd:Bool),DataW.TrodAll enc P W' b sp hd f.resultTypes.toList (v.resultList f.resultTypes.size) (s.fn H (ds++gs)).results [])
   (hargs:∀ sp:Nat->Bool,(∀ p ∈ before,sp p.block=true)->DataW.TrodAll enc P W' 0 sp true f.params.toList args.toList (s.fn H (ds++gs)).args pa)
   (hvars:∀ sp:Nat->Bool,(∀ p ∈ before,sp p.block=true)->DataW.TrodVars enc P W' sp s.vars (s.fn H (ds++gs)).vars pv)
   (hps:before=pa++pv) (hb:Below W.heap.size W W')
   (hok:∀ (j:Nat) (t:TypeId) (r:Value),f.resultTypes[j]?=some t->(v.resultList f.resultTypes.size)[j]?=some r->Value.okWide P W' .any 0 t r) :
   s.post enc P f apart fresh handsOn again W args v W':=by
 have hlt:∀ p ∈ before,p.block<W.heap.size:=fun p hp=>hW.lt p hp
 have hold:∀ p ∈ before,(fun b=>decide (b<W.heap.size)) p.block=true:=fun p hp=>by simpa using hlt p hp
 refine ⟨ds,gs,before,[],pa,pv,hW,hres _ _ _,hargs _ hold,hvars _ hold,World.keptBut_mono (fun p hp=>⟨hp,?_⟩) (hb.frame (· ∈ before)),fun _=>?_⟩
 · rw [hps,List.mem_append] at hp
   exact Or.inr hp
 obtain ⟨_,_,_,_,_,hz,hn⟩:=hW
 refine ⟨hok,_,_,([]++pa)++pv,⟨[]++pa,pv,trodAll_append (hargs _ (fun _ _=>rfl)) (hres _ _ _),hvars _ (fun _ _=>rfl),rfl,?_,?_⟩,?_⟩
 · intro b off hp
   have hin:MemPlace.cell b off ∈ before:=by rw [hps];simpa using hp
   rw [hb.frozen (hlt _ hin)]
   exact hz b off hin
 · intro ha
   have:=hn ha
   rw [hps] at this
   simpa using this
 intro p hp _
 rw [hps]
 simpa using hp
/-- A law's post: it returned true, and what was there is as it was. -/
theorem law_post{f:Func}{s:ChangeSpec}{apart fresh handsOn again:Bool}{W W':World}{args:Array Value}{ds gs:List (DataW H)}{before:List MemPlace}{tb:TypeId}
   (hl:laidOutB P=true) (hts:(f.params.toList.all fun t=>P.readableRec t && decide (t<P.types.size))=true) (htb:P.underlying tb=some .bool) (hr:f.resultTypes=#[tb]) (hv:s.vars=[])
   (hfn:∀ ds:List (DataW H),ds.length=f.params.size->s.fn H ds=⟨[.lit (.bool true)],ds,[]⟩)
   (hW:DataW.Whole enc P f.params.toList s.vars apart W args.toList ds gs before) (hb:Below W.heap.size W W') :
   s.post enc P f apart fresh handsOn again W args (.bool true) W':=by
 have hW':=hW
 have hlt:∀ p ∈ before,p.block<W.heap.size:=fun p hp=>hW.lt p hp
 obtain ⟨p,q,hA,hV,rfl,hfz,hnd⟩:=hW
 rw [hv] at hV
 obtain ⟨rfl,rfl⟩:=trodVars_none hV
 have hlen:ds.length=f.params.size:=by
   have:∀ (ts:List TypeId) (vs:List Value) (ds:List (DataW H)) (p:List MemPlace),DataW.TrodAll enc P W 0 (fun _=>true) true ts vs ds p->ds.length=ts.length:=by
     intro ts
     induction ts with
     | nil=>intro vs ds p h;obtain ⟨rfl,rfl,rfl⟩:=trodAll_nil h;rfl
     | cons t ts ih =>
       intro vs ds p h
       obtain ⟨v,vs,d,ds,a,b,rfl,rfl,rfl,h1,h2⟩:=trodAll_cons h
       simp [ih _ _ _ h2]
   simpa using this _ _ _ _ hA
 simp only [List.append_nil] at hW' hlt
 have hds:s.fn H (ds++[])=⟨[.lit (.bool true)],ds,[]⟩:=by rw [List.append_nil];exact hfn ds hlen
 refine post_of_below (pa:=p) (pv:=[]) (gs:=[]) hW' ?_ ?_ ?_ (by simp) hb ?_
 · intro b sp hd
   rw [hds,hr]
   exact trodAll_mk1 (shut_bool htb true)
 · intro sp hsp
   rw [hds]
   exact trodAll_stays hl _ _ _ _ hts hA (fun x hx=>hb.same (hlt x hx)) hsp
 · intro sp _
   rw [hds,hv]
   exact rfl
 exact ok_one hr rfl (okWide_bool_mk htb true)
end
section
variable{H:Type}{enc:TypeId × Value->H}{w:World}{base:Nat}
end
end
section
open Go.ChangeShapes
variable{H:Type}{enc:TypeId × Value->H}{P:Program}{w:World}{base:Nat}{spare:Nat->Bool}{held:Bool}
end
section
open Go.ChangeShapes Go.WideShapes Go.ChangeAt Go.RowKit Go.QT
set_option maxRecDepth 100000
section
variable{H:Type}{enc:TypeId × Value->H}{w:World}{base:Nat}
theorem kInt:Tryz.prog.cellsOf 3=1:=by kernel_rfl
theorem kStr:Tryz.prog.cellsOf 9=1:=by kernel_rfl
theorem kBool:Tryz.prog.cellsOf 4=1:=by kernel_rfl
theorem uBoolK:Tryz.prog.underlying 4=some .bool:=by kernel_rfl
theorem uIntK:Tryz.prog.underlying 3=some (.int .i64):=by kernel_rfl
theorem uStrK:Tryz.prog.underlying 9=some .string:=by kernel_rfl
theorem fldK{S:TypeId}{k:Nat}{l:List (Nat × Nat)}{n:Nat}{cs:List Value}{xs:List (DataW H × List MemPlace)}{sp:Nat->Bool}(hF:(Tryz.prog.fieldsOf S).toList.map (fun f=>(f.type,f.offset))=l)(hk:l.length=k)(hxl:xs.length=(Tryz.prog.fieldsOf S).size)
   (hx:∀ (i:Nat) (f:Field),(Tryz.prog.fieldsOf S)[i]?=some f->xs[i]?=DataW.trod enc Tryz.prog w base sp true n f.type ((cs.drop f.offset).take (Tryz.prog.cellsOf f.type))):∀ (i:Nat) (t o:Nat),l[i]?=some (t,o)->∃ y,DataW.trod enc Tryz.prog w base sp true n t ((cs.drop o).take (Tryz.prog.cellsOf t))=some y:=by
 intro i t o h
 have hi:i<k:=by rw [← hk];exact (List.getElem?_eq_some_iff.1 h).1
 have hs:(Tryz.prog.fieldsOf S).size=k:=by
   have:=congrArg List.length hF
   rw [← hk,← this];simp
 rw [← hF,List.getElem?_map,Option.map_eq_some_iff] at h
 obtain ⟨f,hf1,hf2⟩:=h
 injection hf2 with h1 h2
 have:=hx i f (by rw [← Array.getElem?_toList];exact hf1)
 rw [h1,h2,List.getElem?_eq_getElem (by omega)] at this
 exact ⟨_,this.symm⟩
theorem rulUnd:Tryz.prog.underlying 23=some (.struct (Tryz.prog.fieldsOf 23)):=by kernel_rfl
theorem rulFields:(Tryz.prog.fieldsOf 23).toList.map (fun f=>(f.type,f.offset))=[(3,0),(3,1),(3,2),(4,3),(3,4),(3,5)]:=by kernel_rfl
theorem rulCellsOf:Tryz.prog.cellsOf 23=6:=by kernel_rfl
theorem open_rules{b0:Nat}{v:Value}{dd:DataW H}{p:List MemPlace}{sp:Nat->Bool}(hv:Value.okWide Tryz.prog w .any b0 23 v)(h:DataW.Trod enc Tryz.prog w base sp true 23 v dd p) :
   ∃ n0 n1 n2 m3 n4 n5,v=.agg #[.int .i64 n0,.int .i64 n1,.int .i64 n2,.bool m3,.int .i64 n4,.int .i64 n5]:=by
 obtain ⟨cs,rfl,hcl⟩:=okWide_struct rulUnd hv
 obtain ⟨fuel,hf⟩:=h
 have hc:(Value.agg cs).cells=cs:=rfl
 rw [hc] at hf
 obtain ⟨xs,n,rfl,_,hl,hxl,hx⟩:=DataW.trod_struct rulUnd hf
 rw [rulCellsOf] at hl
 have fld:=fldK rulFields rfl (by omega) (fun i f h=>(hx i f h).symm)
 obtain ⟨l⟩:=cs
 simp only at hl fld
 match l,hl with
 | [c0,c1,c2,c3,c4,c5],_ =>
   obtain ⟨y0,h0⟩:=fld 0 3 0 rfl
   obtain ⟨y1,h1⟩:=fld 1 3 1 rfl
   obtain ⟨y2,h2⟩:=fld 2 3 2 rfl
   obtain ⟨y3,h3⟩:=fld 3 4 3 rfl
   obtain ⟨y4,h4⟩:=fld 4 3 4 rfl
   obtain ⟨y5,h5⟩:=fld 5 3 5 rfl
   rw [kInt] at h0
   rw [kInt] at h1
   rw [kInt] at h2
   rw [kBool] at h3
   rw [kInt] at h4
   rw [kInt] at h5
   obtain ⟨n0,e0,_,w0⟩:=DataW.trod_int uIntK h0
   obtain ⟨n1,e1,_,w1⟩:=DataW.trod_int uIntK h1
   obtain ⟨n2,e2,_,w2⟩:=DataW.trod_int uIntK h2
   obtain ⟨n3,e3,_⟩:=DataW.trod_bool uBoolK h3
   obtain ⟨n4,e4,_,w4⟩:=DataW.trod_int uIntK h4
   obtain ⟨n5,e5,_,w5⟩:=DataW.trod_int uIntK h5
   obtain rfl:c0=_:=by simpa using e0
   obtain rfl:c1=_:=by simpa using e1
   obtain rfl:c2=_:=by simpa using e2
   obtain rfl:c3=_:=by simpa using e3
   obtain rfl:c4=_:=by simpa using e4
   obtain rfl:c5=_:=by simpa using e5
   exact ⟨_,_,_,_,_,_,rfl⟩
end
end
section
open Go.ChangeShapes Go.WideShapes Go.ChangeAt Go.RowKit Go.QT
set_option maxRecDepth 100000
section
variable{H:Type}{enc:TypeId × Value->H}{w:World}{base:Nat}
theorem askUnd:Tryz.prog.underlying 63=some (.struct (Tryz.prog.fieldsOf 63)):=by kernel_rfl
theorem askFields:(Tryz.prog.fieldsOf 63).toList.map (fun f=>(f.type,f.offset))=[(9,0),(3,1),(3,2),(4,3),(4,4),(3,5),(3,6),(3,7),(3,8),(3,9)]:=by kernel_rfl
theorem askCellsOf:Tryz.prog.cellsOf 63=10:=by kernel_rfl
/-- What is asked for. -/
structure Ask where
 srv:ByteArray
 nn:Int
 till:Int
 r:Bool
 m:Bool
 ex:Int
 la:Int
 tm:Int
 sq:Int
 tn:Int
def askC(a:Ask):List Value:=[.string a.srv,.int .i64 a.nn,.int .i64 a.till,.bool a.r,.bool a.m,.int .i64 a.ex,.int .i64 a.la,.int .i64 a.tm,.int .i64 a.sq,.int .i64 a.tn]
theorem ask_of{fuel:Nat}{cs:List Value}{x:DataW H × List MemPlace}{sp:Nat->Bool}(hf:DataW.trod enc Tryz.prog w base sp true fuel 63 cs=some x):∃ a:Ask,cs=askC a:=by
 obtain ⟨xs,n,rfl,_,hl,hxl,hx⟩:=DataW.trod_struct askUnd hf
 rw [askCellsOf] at hl
 have fld:=fldK askFields rfl (by omega) (fun i f h=>(hx i f h).symm)
 match cs,hl with
 | [c0,c1,c2,c3,c4,c5,c6,c7,c8,c9],_ =>
   obtain ⟨y0,h0⟩:=fld 0 9 0 rfl
   rw [kStr] at h0
   obtain ⟨y1,h1⟩:=fld 1 3 1 rfl
   rw [kInt] at h1
   obtain ⟨y2,h2⟩:=fld 2 3 2 rfl
   rw [kInt] at h2
   obtain ⟨y3,h3⟩:=fld 3 4 3 rfl
   rw [kBool] at h3
   obtain ⟨y4,h4⟩:=fld 4 4 4 rfl
   rw [kBool] at h4
   obtain ⟨y5,h5⟩:=fld 5 3 5 rfl
   rw [kInt] at h5
   obtain ⟨y6,h6⟩:=fld 6 3 6 rfl
   rw [kInt] at h6
   obtain ⟨y7,h7⟩:=fld 7 3 7 rfl
   rw [kInt] at h7
   obtain ⟨y8,h8⟩:=fld 8 3 8 rfl
   rw [kInt] at h8
   obtain ⟨y9,h9⟩:=fld 9 3 9 rfl
   rw [kInt] at h9
   obtain ⟨n0,e0,_,_⟩:=DataW.trod_string uStrK h0
   obtain ⟨n1,e1,_,w1⟩:=DataW.trod_int uIntK h1
   obtain ⟨n2,e2,_,w2⟩:=DataW.trod_int uIntK h2
   obtain ⟨n3,e3,_⟩:=DataW.trod_bool uBoolK h3
   obtain ⟨n4,e4,_⟩:=DataW.trod_bool uBoolK h4
   obtain ⟨n5,e5,_,w5⟩:=DataW.trod_int uIntK h5
   obtain ⟨n6,e6,_,w6⟩:=DataW.trod_int uIntK h6
   obtain ⟨n7,e7,_,w7⟩:=DataW.trod_int uIntK h7
   obtain ⟨n8,e8,_,w8⟩:=DataW.trod_int uIntK h8
   obtain ⟨n9,e9,_,w9⟩:=DataW.trod_int uIntK h9
   obtain rfl:c0=_:=by simpa using e0
   obtain rfl:c1=_:=by simpa using e1
   obtain rfl:c2=_:=by simpa using e2
   obtain rfl:c3=_:=by simpa using e3
   obtain rfl:c4=_:=by simpa using e4
   obtain rfl:c5=_:=by simpa using e5
   obtain rfl:c6=_:=by simpa using e6
   obtain rfl:c7=_:=by simpa using e7
   obtain rfl:c8=_:=by simpa using e8
   obtain rfl:c9=_:=by simpa using e9
   exact ⟨⟨n0,n1,n2,n3,n4,n5,n6,n7,n8,n9⟩,rfl⟩
theorem open_ask{b0:Nat}{v:Value}{dd:DataW H}{p:List MemPlace}{sp:Nat->Bool}(hv:Value.okWide Tryz.prog w .any b0 63 v)(h:DataW.Trod enc Tryz.prog w base sp true 63 v dd p):∃ a:Ask,v=.agg (askC a).toArray:=by
 obtain ⟨cs,rfl,hcl⟩:=okWide_struct askUnd hv
 obtain ⟨fuel,hf⟩:=h
 have hc:(Value.agg cs).cells=cs:=rfl
 rw [hc] at hf
 obtain ⟨a,e⟩:=ask_of hf
 exact ⟨a,by rw [← e]⟩
end
end
end Go.Proofs.YtdefpmmdpfpipaaGreat
